/- Texts of this work, merged in build order: Meta1, Str, Meta2, Meta3, Meta4, Ans, Plain, Line, FnT. -/
import Derived.Test.YtamndkiagenfnaaGreatDoorZ3
import Derived.Shelf.Strings.BuilderK
import Derived.Shelf.Strings.MapGrows
import Derived.LoopTactic
import Derived.Deep.RegionHeld3
import Derived.Deep.DeepCutAuto
import Derived.Deep.CutBlock
import Derived.Shelf.Strings.OnBuilder
import Derived.Test.YtamndkiagenfnaaGreatDoorProg
import Derived.Below
import Derived.Deep.Draws
import Derived.Deep.AppendLies
import Derived.Maps.AppendAt
import Derived.OwnWalk
import Derived.Laws.BytesArg
import Derived.Laws.MakeOwn
import Derived.Laws.OwnMore
import Derived.Deep.OwnRows
import Derived.Tactics
import Derived.Lib.ConvBytes
import Derived.Laws.Slices
import Derived.WalkKit
import Derived.KernelRfl
import Derived.RowKit3
import Derived.Deep.LoopGhost
import Derived.Deep.QuietTactic
import Derived.BigQuiet
import Derived.WideLaws
import Derived.Laws.Rows
import Derived.Lib.AppendStr
import Derived.ArgAppend
import Derived.Laws.IdiomCopy
import Derived.OrdersHeld
import Derived.Laws.BitsLemmas
import Derived.RowKit
namespace Go.Proofs.YtamndkiagenfnaaGreatDoor.X
open Go.RowKit Go.Proofs.YtamndkiagenfnaaGreatDoorW.PrintWords
set_option linter.unusedVariables false
set_option linter.unusedSimpArgs false

def mWord (s : Int) : ByteArray :=
  if s = 0 ∨ s = 2 ∨ s = 5 ∨ s = 6 ∨ s = 7 then (⟨#[72, 68]⟩ : ByteArray) else if s = 1 then (⟨#[78, 70]⟩ : ByteArray) else if s = 3 then (⟨#[78, 83]⟩ : ByteArray) else if s = 4 then (⟨#[69, 88]⟩ : ByteArray) else if s = 10 then (⟨#[77, 78]⟩ : ByteArray)
  else if s = 8 then (⟨#[67, 76, 73, 69, 78, 84, 95, 69, 82, 82, 79, 82, 32, 99, 97, 110, 110, 111, 116, 32, 105, 110, 99, 114, 101, 109, 101, 110, 116, 32, 111, 114, 32, 100, 101, 99, 114, 101, 109, 101, 110, 116, 32, 110, 111, 110, 45, 110, 117, 109, 101, 114, 105, 99, 32, 118, 97, 108, 117, 101]⟩ : ByteArray) else if s = 9 then (⟨#[83, 69, 82, 86, 69, 82, 95, 69, 82, 82, 79, 82, 32, 111, 117, 116, 32, 111, 102, 32, 109, 101, 109, 111, 114, 121, 32, 115, 116, 111, 114, 105, 110, 103, 32, 111, 98, 106, 101, 99, 116]⟩ : ByteArray) else (⟨#[]⟩ : ByteArray)
set_option maxRecDepth 100000 in
theorem mWord_calls (s : Int) (w : World) : Calls Tryz.prog 91 #[.int .i64 s] w fun e w' => e = .returned (.string (mWord s)) ∧ w = w' := by
  go_enter Tryz.func91, Tryz.ntmps91
  go_wp2
  all_goals go_ret
  all_goals exact ⟨by simp_all [mWord], rfl⟩
def mGood (s : Int) : Bool := decide (s = 0 ∨ s = 2 ∨ s = 5 ∨ s = 6 ∨ s = 7)
set_option maxRecDepth 100000 in
theorem mGood_calls (s : Int) (w : World) : Calls Tryz.prog 123 #[.int .i64 s] w fun e w' => e = .returned (.bool (mGood s)) ∧ w = w' := by
  go_enter Tryz.func123, Tryz.ntmps123
  go_wp2_with (go_at_call 91; (with_reducible refine (mWord_calls s _).mono ?_); rintro e w1 ⟨rfl, rfl⟩)
  go_ret
  refine ⟨?_, rfl⟩
  unfold mWord mGood
  repeat' split
  all_goals simp_all
def mSilent (op s : Int) : Bool := if op = 12 then s == 1 else if op = 8 ∨ op = 9 then mGood s || s == 1 else mGood s
set_option maxRecDepth 100000 in
theorem mSilent_calls (op s : Int) (w : World) : Calls Tryz.prog 89 #[.int .i64 op, .int .i64 s] w fun e w' => e = .returned (.bool (mSilent op s)) ∧ w = w' := by
  cases hg : mGood s
  all_goals
    have HG := Aside0.mk hg
    clear hg
    go_enter Tryz.func89, Tryz.ntmps89
    go_wp2_with (go_at_call 123; (with_reducible refine (mGood_calls s _).mono ?_); rintro e w1 ⟨rfl, rfl⟩; rw [HG.out])
    all_goals go_ret
    all_goals exact ⟨by have hg := HG.out; simp_all [mSilent], rfl⟩
def mValue (x : Result) : ByteArray := if x.status = 7 then showI x.number else strOfNums x.value
set_option maxRecDepth 100000 in
theorem mValue_calls (x : Result) (cx : List Value) (w : World) (hx : kResult.K w x cx) (hw : x.Wf) (hT : Tabs w) :
    Calls Tryz.prog 90 #[.agg cx.toArray] w fun e w' => e = .returned (.string (mValue x)) ∧ Below w.heap.size w w' := by
  obtain ⟨A, c, rfl, hl, hC⟩ := kResult_open hx
  have h5 := hw.number
  obtain ⟨f0, f1, f2, f3, f4, f5, f6, f7, f8⟩ := x
  have HT := Aside0.mk hT; have HC := Aside0.mk hC; have HB := Aside0.mk (Below.refl w.heap.size w)
  clear hT hC hx hw hl
  go_enter Tryz.func90, Tryz.ntmps90
  go_wp2_with (first | (go_at_call 43; (with_reducible refine (show_calls _ _ (h5.1) (h5.2) (Tabs.below HT.out (by repeat (first | (with_reducible first | exact HB.out | apply below_alloc | apply pw_below_drewN | apply below_drew1) | exact HB.out)))).mono ?_); rintro e w1 ⟨rfl, hb⟩; have HBn := Aside0.mk (below_step (by repeat (first | (with_reducible first | exact HB.out | apply below_alloc | apply pw_below_drewN | apply below_drew1) | exact HB.out)) hb); clear HB; have HB := HBn; clear HBn) | ((with_reducible refine gate_dst (N := 11) rfl ?_); refine wp_strof rfl _ _ _ _ rfl _ _ _ _ rfl Tryz.underlying22 Tryz.underlying5 Tryz.underlying9 (Kd.C_below HC.out (by repeat (first | (with_reducible first | exact HB.out | apply below_alloc | apply pw_below_drewN | apply below_drew1) | exact HB.out))) ?_))
  all_goals go_ret
  all_goals exact ⟨by simp_all [mValue], (by repeat (first | (with_reducible first | exact HB.out | apply below_alloc | apply pw_below_drewN | apply below_drew1) | exact HB.out))⟩
def atS (l : List ByteArray) (i : Int) : ByteArray := l.getD i.toNat (⟨#[]⟩ : ByteArray)
set_option maxRecDepth 100000 in
theorem atS_calls (l : List ByteArray) (A : Option Addr) (c : Nat) (i : Int) (w : World) (hl : l.length ≤ c) (hC : Kd.string.C w A l.length l) (h0 : 0 ≤ i) :
    Calls Tryz.prog 145 #[.slice A l.length c, .int .i64 i] w fun e w' => e = .returned (.string (atS l i)) ∧ w = w' := by
  have hm := hC.2.1
  by_cases hi : i < (l.length : Int)
  · obtain ⟨ad, cs, rfl, _, hK, hcell⟩ := Kd.C_get hC (⟨#[]⟩ : ByteArray) i h0 hi
    obtain rfl := hK
    have hc := hcell 0 _ rfl
    rw [show i.toNat * Kd.string.sz + 0 = i.toNat by show i.toNat * 1 + 0 = _; omega] at hc
    clear hcell hC
    go_enter Tryz.func145, Tryz.ntmps145
    go_wp2
    go_ret
    exact ⟨by simp [atS, List.getD_eq_getElem?_getD, List.getElem?_eq_getElem (show i.toNat < l.length by omega)], rfl⟩
  · clear hC
    go_enter Tryz.func145, Tryz.ntmps145
    go_wp2
    go_ret
    exact ⟨by unfold atS; rw [List.getD_eq_getElem?_getD, List.getElem?_eq_none (by omega)]; rfl, rfl⟩
end Go.Proofs.YtamndkiagenfnaaGreatDoor.X
namespace Go.Proofs.YtamndkiagenfnaaGreatDoor.X
open Go.RowKit
set_option linter.unusedVariables false

theorem sizeBuilder : (Tryz.prog.info? 122).map (·.size) = some 2 := by kernel_rfl
theorem liesBuilder : liesAt Tryz.prog Tryz.prog.depth 122 (2 / Tryz.prog.cellsOf 122) 0 122 1 = true := by kernel_rfl
theorem infoByte : (Tryz.prog.info? 5).map (fun i => (i.zero, i.size, i.bytes)) = some (some (.int .u8 0), 1, 1) := by kernel_rfl

set_option maxHeartbeats 1000000 in
set_option maxRecDepth 100000 in
theorem copyCheck_used (b : Nat) (w : World) (h0 : w.cell? ⟨b, 0, none⟩ = some (.pointer (some ⟨b, 0, none⟩))) :
    Calls Tryz.prog 131 #[.pointer (some ⟨b, 0, none⟩)] w fun e w' => e = .returned (.tuple #[]) ∧ w' = w := by
  obtain ⟨j, hj, _⟩ := Option.map_eq_some_iff.1 sizeBuilder
  go_enter Tryz.func131, Tryz.ntmps131
  go_wp2
  rw [Lib.run_neq_ptr_same w _ Tryz.underlying120 hj]
  go_wp2
  go_end0
  exact ⟨rfl, rfl⟩
set_option maxHeartbeats 1000000 in
set_option maxRecDepth 100000 in
theorem copyCheck_fresh (b : Nat) (w : World) (h0 : w.cell? ⟨b, 0, none⟩ = some (.pointer none)) (hsh : w.shape? b = some (122, 2)) (hfz : w.frozen? ⟨b, 0, none⟩ = false) :
    Calls Tryz.prog 131 #[.pointer (some ⟨b, 0, none⟩)] w fun e w' => e = .returned (.tuple #[]) ∧ w' = w.setCell ⟨b, 0, none⟩ (.pointer (some ⟨b, 0, none⟩)) := by
  obtain ⟨j, hj, hjs⟩ := Option.map_eq_some_iff.1 sizeBuilder
  go_enter Tryz.func131, Tryz.ntmps131
  go_wp2
  rw [Lib.run_to_unsafe w ⟨b, 0, none⟩ Tryz.underlying120 Tryz.underlying172 hj (by rw [hjs]; decide) hsh (Nat.zero_lt_succ 1)]
  simp only [Result.andThen]
  rw [Oper.upon_value]
  go_wp2
  rw [run_callFunc_extern Tryz.func151 (by kernel_rfl) (by kernel_rfl) (by kernel_rfl) (e := Extern.AbiNoEscape.same) (by kernel_rfl)]
  rw [Lib.run_noEscape]
  simp only [Result.andThen]
  rw [Oper.upon_value]
  go_wp2
  rw [Lib.run_from_unsafe w ⟨b, 0, none⟩ Tryz.underlying172 Tryz.underlying120 hj hsh liesBuilder]
  simp only [Result.andThen]
  rw [Oper.upon_value]
  go_wp2
  go_end0
  exact ⟨rfl, rfl⟩
theorem copyCheck_k (B b : Nat) (bs : List Value) (w : World) (h : Lib.IsBuilderF 122 5 B b bs w) :
    Calls Tryz.prog 131 #[.pointer (some ⟨b, 0, none⟩)] w fun e w' => e = .returned (.tuple #[]) ∧ (Lib.BuilderAtF 122 5 B b (.pointer (some ⟨b, 0, none⟩)) bs w' ∧ Below B w w' ∧ Lib.OthersKept 5 (some b) w w') := by
  rcases h with h | h
  · refine (copyCheck_fresh b w h.cell0 h.shape h.frozen0).mono ?_
    rintro e w' ⟨rfl, rfl⟩
    exact ⟨rfl, h.used _, (Below.refl B w).setCell (p := ⟨b, 0, none⟩) h.1 _, (Lib.OthersKept.refl _ _ w).setCell ⟨b, 0, none⟩ rfl _⟩
  · refine (copyCheck_used b w h.cell0).mono ?_
    rintro e w' ⟨rfl, rfl⟩
    exact ⟨rfl, h, Below.refl B _, Lib.OthersKept.refl _ _ _⟩
set_option maxHeartbeats 2000000 in
set_option maxRecDepth 100000 in
theorem writeString_k (B b : Nat) (bs : List Value) (s : ByteArray) (w : World) (h : Lib.IsBuilderF 122 5 B b bs w) (hlen : bs.length + s.size ≤ 140737488355328) (hBw : B ≤ w.heap.size) :
    Calls Tryz.prog 105 #[.pointer (some ⟨b, 0, none⟩), .string s] w fun e w' => e = .returned (.tuple #[.int .i64 s.size, .nilIface]) ∧ (Lib.BuilderAtF 122 5 B b (.pointer (some ⟨b, 0, none⟩)) (bs ++ Lib.strCells s) w' ∧ Below B w w' ∧ Lib.OthersKept 5 (some b) w w') := by
  obtain ⟨i0, hi, hz0, hz1, hz2⟩ := info_parts infoByte
  go_enter Tryz.func105, Tryz.ntmps105
  go_wp2_with (go_at_call 131; refine (copyCheck_k B b bs _ h).mono ?_)
  rintro e w1 ⟨rfl, h1, hb1, hk1⟩
  obtain ⟨hB, v, hbk, hown, hne⟩ := h1
  have c0 : w1.cell? ⟨b, 0, none⟩ = some (.pointer (some ⟨b, 0, none⟩)) := by rw [Lib.cell_of_heap hbk]; rfl
  have c1 : w1.cell? ⟨b, 1, none⟩ = some v := by rw [Lib.cell_of_heap hbk]; rfl
  go_wp2_with (at_builtin; refine Lib.wpList_append_own_stringF _ rfl _ _ 22 9 rfl B 5 i0 Tryz.underlying22 Tryz.underlying9 hi hz0 hz1 hz2 _ _ _ rfl hown s rfl ?c3 ?c4 ?c5 ?_)
  case c3 => unfold maxLen; omega
  case c4 => omega
  case c5 => have := hb1.size; omega
  intro v' w2 hown' hgrow _
  have hlt : b < w1.heap.size := by
    rcases Nat.lt_or_ge b w1.heap.size with h' | h'
    · exact h'
    · simp [Array.getElem?_eq_none h'] at hbk
  have hb2 : w2.heap[b]? = some (.cells #[.pointer (some ⟨b, 0, none⟩), v] 122 (0, 0)) := by
    rw [hgrow.block b hlt (fun e => hne e.symm)]
    exact hbk
  have d0 : w2.cell? ⟨b, 0, none⟩ = some (.pointer (some ⟨b, 0, none⟩)) := by rw [Lib.cell_of_heap hb2]; rfl
  have d1 : w2.cell? ⟨b, 1, none⟩ = some v := by rw [Lib.cell_of_heap hb2]; rfl
  have f1 : w2.frozen? ⟨b, 1, none⟩ = false := Lib.frozen_of_heap hb2 1
  obtain ⟨ao, n', cap, rfl⟩ : ∃ ao n' cap, v' = .slice ao n' cap := by
    rcases hown'.2 with ⟨hv, _⟩ | ⟨g, cap, cur, fz, hv, _⟩
    · exact ⟨_, _, _, hv⟩
    · exact ⟨_, _, _, hv⟩
  go_wp2
  go_ret2
  refine ⟨rfl, ?_, ?_, (hk1.grown hgrow (Lib.ownsRowF_kind hown)).setCell ⟨b, 1, none⟩ rfl _⟩
  · exact Lib.BuilderAtF.put (T := 122) (e := 5) hB hb2 (bs' := bs ++ Lib.strCells s) (by simpa [Lib.strCells_length] using hown') (by decide)
  · exact (hb1.grown hgrow (by have := hb1.size; omega) (fun k hk => (hown.lt k hk).1)).setCell (p := ⟨b, 1, none⟩) hB _
end Go.Proofs.YtamndkiagenfnaaGreatDoor.X
namespace Go.Proofs.YtamndkiagenfnaaGreatDoor.X
open Go.RowKit Go.Proofs.YtamndkiagenfnaaGreatDoorW.PrintWords
set_option linter.unusedVariables false
set_option linter.unusedSimpArgs false

def mTold (q : Request) (x : Result) (c i : Int) : ByteArray × Bool :=
  if c = 99 then (showI x.cas, true) else if c = 102 then (showI x.flags, true) else if c = 115 then (showI (mValue x).size, true)
  else if c = 116 then (if x.ttl < 0 then ((⟨#[45, 49]⟩ : ByteArray), true) else (showI x.ttl, true)) else if c = 107 then (atS q.form.keys 0, true)
  else if c = 79 then (atS q.form.tokens i, true) else ((⟨#[]⟩ : ByteArray), c == 98)
theorem decDigits_short (u : Nat) (h : u < 18446744073709551616) : (Lib.decDigits u).length ≤ 20 := by
  rw [Lib.decDigits_length]
  by_cases h0 : u = 0
  · subst h0; rw [show Lib.nDigits 0 = 1 by simp [Lib.nDigits]]; omega
  · have := Lib.numDigits_eq u (by omega) h
    split at this <;> omega
theorem showI_size (n : Int) (h : n ≤ 18446744073709551615) : (showI n).size ≤ 20 := by
  have := decDigits_short n.toNat (by omega)
  simpa [showI, ByteArray.size] using this
theorem strOfNums_size (l : List Int) : (strOfNums l).size = l.length := by simp [strOfNums, ByteArray.size]
theorem mValue_size (x : Result) (hw : x.Wf) : (mValue x).size ≤ 9223372036854775807 := by
  unfold mValue
  split
  · have := showI_size x.number hw.number.2; omega
  · rw [strOfNums_size]; exact hw.value.1
set_option maxRecDepth 100000 in
theorem mTold_calls (q : Request) (x : Result) (cq cx : List Value) (c i : Int) (w : World) (hq : kRequest.K w q cq) (hx : kResult.K w x cx) (hw : x.Wf) (h0 : 0 ≤ i) (hT : Tabs w) :
    Calls Tryz.prog 125 #[.agg cq.toArray, .agg cx.toArray, .int .i32 c, .int .i64 i] w fun e w' => e = .returned (.tuple #[.string (mTold q x c i).1, .bool (mTold q x c i).2]) ∧ Below w.heap.size w w' := by
  obtain ⟨A0, c0, A8, c8, A9, c9, rfl, hl0, hC0, hl8, hC8, hl9, hC9⟩ := kRequest_open hq
  obtain ⟨A, c1, rfl, hl, hC⟩ := kResult_open hx
  have hx' := kResult_mk w x hl hC
  have hv := mValue_size x hw
  have h3 := hw.cas; have h2 := hw.flags; have h4 := hw.ttl
  have HT := Aside0.mk hT; have HX := Aside0.mk hx'; have HW := Aside0.mk hw; have HC8 := Aside0.mk hC8; have HC9 := Aside0.mk hC9; have HB := Aside0.mk (Below.refl w.heap.size w)
  clear hT hC hx hx' hw hq hC0 hC8 hC9 hl0
  go_enter Tryz.func125, Tryz.ntmps125
  go_wp2_with (first
    | (go_at_call 90; (with_reducible refine (mValue_calls x _ _ (kResult.K_below (by repeat (first | (with_reducible first | exact HB.out | apply below_alloc | apply pw_below_drewN | apply below_drew1) | exact HB.out)) HX.out) HW.out (Tabs.below HT.out (by repeat (first | (with_reducible first | exact HB.out | apply below_alloc | apply pw_below_drewN | apply below_drew1) | exact HB.out)))).mono ?_); rintro e w1 ⟨rfl, hb⟩; have HBn := Aside0.mk (below_step (by repeat (first | (with_reducible first | exact HB.out | apply below_alloc | apply pw_below_drewN | apply below_drew1) | exact HB.out)) hb); clear HB; have HB := HBn; clear HBn)
    | (go_at_call 145; (with_reducible refine (atS_calls _ _ _ _ _ hl9 (Kd.C_below HC9.out (by repeat (first | (with_reducible first | exact HB.out | apply below_alloc | apply pw_below_drewN | apply below_drew1) | exact HB.out))) (by omega)).mono ?_); rintro e w1 ⟨rfl, rfl⟩)
    | (go_at_call 145; (with_reducible refine (atS_calls _ _ _ _ _ hl8 (Kd.C_below HC8.out (by repeat (first | (with_reducible first | exact HB.out | apply below_alloc | apply pw_below_drewN | apply below_drew1) | exact HB.out))) (by omega)).mono ?_); rintro e w1 ⟨rfl, rfl⟩)
    | (go_at_call 43; (with_reducible refine (show_calls _ _ (by omega) (by omega) (Tabs.below HT.out (by repeat (first | (with_reducible first | exact HB.out | apply below_alloc | apply pw_below_drewN | apply below_drew1) | exact HB.out)))).mono ?_); rintro e w1 ⟨rfl, hb⟩; have HBn := Aside0.mk (below_step (by repeat (first | (with_reducible first | exact HB.out | apply below_alloc | apply pw_below_drewN | apply below_drew1) | exact HB.out)) hb); clear HB; have HB := HBn; clear HBn))
  all_goals go_ret2
  all_goals exact ⟨by first | (simp_all [mTold]; done) | (simp_all [mTold]; rw [if_neg (by omega)]; exact ⟨rfl, rfl⟩), (by repeat (first | (with_reducible first | exact HB.out | apply below_alloc | apply pw_below_drewN | apply below_drew1) | exact HB.out))⟩
end Go.Proofs.YtamndkiagenfnaaGreatDoor.X
namespace Go.Proofs.YtamndkiagenfnaaGreatDoor.X
open Go.RowKit Go.Proofs.YtamndkiagenfnaaGreatDoorW.PrintWords
set_option linter.unusedVariables false
set_option linter.unusedSimpArgs false

/-- What one letter brings. -/
def mPiece (q : Request) (x : Result) (c : UInt8) (i : Nat) : List UInt8 := if (mTold q x c.toNat i).2 then 32 :: c :: (mTold q x c.toNat i).1.data.toList else []
def mPieces (q : Request) (x : Result) : List UInt8 → Nat → List UInt8
  | [], _ => []
  | c :: r, i => mPiece q x c i ++ mPieces q x r (i + 1)
def mSigns (x : Result) : List UInt8 := (if x.won then [32, 87] else []) ++ ((if x.stale then [32, 88] else []) ++ (if x.lost then [32, 90] else []))
/-- The signs of the first so many places. -/
def mSignsTo (x : Result) (k : Nat) : List UInt8 := (if 1 ≤ k ∧ x.won then [32, 87] else []) ++ ((if 2 ≤ k ∧ x.stale then [32, 88] else []) ++ (if 3 ≤ k ∧ x.lost then [32, 90] else []))
theorem mSignsTo_len (x : Result) (k : Nat) : (mSignsTo x k).length ≤ 6 := by
  unfold mSignsTo
  simp only [List.length_append]
  repeat' split
  all_goals simp
theorem mSigns_yes0 (x : Result) (acc : List UInt8) (h : x.won = true) : Lib.byteCells (acc ++ mSignsTo x 1) = Lib.byteCells (acc ++ mSignsTo x 0) ++ Lib.strCells { data := #[32, 87] } := by
  simp [mSignsTo, h, Lib.byteCells, Lib.strCells]
theorem mSigns_no0 (x : Result) (acc : List UInt8) (h : x.won = false) : Lib.byteCells (acc ++ mSignsTo x 1) = Lib.byteCells (acc ++ mSignsTo x 0) := by
  simp [mSignsTo, h]
theorem mSigns_yes1 (x : Result) (acc : List UInt8) (h : x.stale = true) : Lib.byteCells (acc ++ mSignsTo x 2) = Lib.byteCells (acc ++ mSignsTo x 1) ++ Lib.strCells { data := #[32, 88] } := by
  simp [mSignsTo, h, Lib.byteCells, Lib.strCells]
theorem mSigns_no1 (x : Result) (acc : List UInt8) (h : x.stale = false) : Lib.byteCells (acc ++ mSignsTo x 2) = Lib.byteCells (acc ++ mSignsTo x 1) := by
  simp [mSignsTo, h]
theorem mSigns_yes2 (x : Result) (acc : List UInt8) (h : x.lost = true) : Lib.byteCells (acc ++ mSignsTo x 3) = Lib.byteCells (acc ++ mSignsTo x 2) ++ Lib.strCells { data := #[32, 90] } := by
  simp [mSignsTo, h, Lib.byteCells, Lib.strCells]
theorem mSigns_no2 (x : Result) (acc : List UInt8) (h : x.lost = false) : Lib.byteCells (acc ++ mSignsTo x 3) = Lib.byteCells (acc ++ mSignsTo x 2) := by
  simp [mSignsTo, h]
def mFlagsL (q : Request) (x : Result) : List UInt8 := mPieces q x q.form.flags.data.toList 0 ++ mSigns x
def mFlags (q : Request) (x : Result) : ByteArray := ⟨(mFlagsL q x).toArray⟩

theorem encode_small (n : Nat) (h : n < 128) : (Utf8.encode (n : Int)) = ⟨#[UInt8.ofNat n]⟩ := by
  have hv : Utf8.valid (n : Int) = true := by simp [Utf8.valid]; omega
  unfold Utf8.encode
  simp only [hv, if_true, Int.toNat_natCast]
  rw [if_pos (by omega)]
theorem mPieces_at (q : Request) (x : Result) (l : List UInt8) (pos : Nat) (h : pos < l.length) : mPieces q x (l.drop pos) pos = mPiece q x l[pos] pos ++ mPieces q x (l.drop (pos + 1)) (pos + 1) := by
  rw [List.drop_eq_getElem_cons h]; rfl
theorem mPiece_no (q : Request) (x : Result) (pos : Nat) (hp : pos < q.form.flags.size) (hpd : pos < q.form.flags.data.toList.length) (ht : (mTold q x ((q.form.flags[pos]'hp).toNat : Int) (pos : Int)).2 = false) :
    mPiece q x q.form.flags.data.toList[pos] pos = [] := by
  have e : q.form.flags.data.toList[pos] = q.form.flags[pos]'hp := by rw [Array.getElem_toList]; rfl
  unfold mPiece
  rw [e, ht]
  rfl
theorem mPiece_yes (q : Request) (x : Result) (pos : Nat) (hp : pos < q.form.flags.size) (ht : (mTold q x ((q.form.flags[pos]'hp).toNat : Int) (pos : Int)).2 = true) :
    mPiece q x (q.form.flags[pos]'hp) pos = (({ data := #[32] } ++ { data := #[q.form.flags[pos]'hp] } : ByteArray) ++ (mTold q x ((q.form.flags[pos]'hp).toNat : Int) (pos : Int)).1).data.toList := by
  unfold mPiece
  rw [if_pos ht]
  simp [ByteArray.data_append]
set_option maxHeartbeats 1000000 in
set_option maxRecDepth 100000 in
theorem mFlags_calls (q : Request) (x : Result) (cq cx : List Value) (w : World) (hq : kRequest.K w q cq) (hx : kResult.K w x cx) (hw : x.Wf) (hT : Tabs w)
    (hplain : ∀ c ∈ q.form.flags.data.toList, c.toNat < 128) (hlen : q.form.flags.size ≤ 1000) (htold : ∀ c i, (mTold q x c i).1.size ≤ 1000) :
    Calls Tryz.prog 93 #[.agg cq.toArray, .agg cx.toArray] w fun e w' => e = .returned (.string (mFlags q x)) ∧ Below w.heap.size w w' := by
  obtain ⟨A0, c0, A8, c8, A9, c9, rfl, hl0, hC0, hl8, hC8, hl9, hC9⟩ := kRequest_open hq
  obtain ⟨A, c1, rfl, hl, hC⟩ := kResult_open hx
  have HQ := Aside0.mk (kRequest_mk w q hl0 hC0 hl8 hC8 hl9 hC9)
  have HX := Aside0.mk (kResult_mk w x hl hC)
  have HT := Aside0.mk hT; have HW := Aside0.mk hw
  have HP := Aside0.mk hplain; have HTL := Aside0.mk htold
  clear hT hC hq hx hw hC0 hC8 hC9 hplain htold
  go_enter Tryz.func93, Tryz.ntmps93
  go_wp2
  go_loopw [] (fun wr => ∃ (pos : Nat) (acc : List UInt8), Lib.IsBuilderF 122 5 w.heap.size (w.heap.size + 1 + 1) (Lib.byteCells acc) wr ∧ wr.heap[w.heap.size + 1 + 1 + 1]? = some (.stringIter q.form.flags pos) ∧ wr.heap[w.heap.size]? = some (.cells #[.slice A0 q.cmds.length c0, .int .i64 q.form.dialect, .string q.form.verb, .int .i64 q.form.code, .int .u32 q.form.opq, .bool q.form.quiet, .bool q.form.withcas, .string q.form.flags, .slice A8 q.form.tokens.length c8, .slice A9 q.form.keys.length c9, .bool q.form.base64] 87 (0, 0)) ∧ wr.heap[w.heap.size + 1]? = some (.cells #[.int .i64 x.status, .slice A x.value.length c1, .int .u32 x.flags, .int .u64 x.cas, .int .i64 x.ttl, .int .u64 x.number, .bool x.stale, .bool x.won, .bool x.lost] 32 (0, 0)) ∧ Below w.heap.size w wr ∧ Aside0 (acc ++ mPieces q x (q.form.flags.data.toList.drop pos) pos = mPieces q x q.form.flags.data.toList 0) ∧ pos ≤ q.form.flags.size ∧ Aside0 (acc.length ≤ pos * 1002)) (fun wr => q.form.flags.size - wr.iterPos (w.heap.size + 1 + 1 + 1))
  case atStart =>
    refine ⟨0, [], Or.inl ⟨by omega, .slice none 0 0, ?_, ⟨rfl, Or.inl ⟨rfl, rfl⟩⟩, by simp [Value.ownBlock]⟩, ?_, ?_, ?_, ?_, ⟨rfl⟩, by omega, ⟨by simp⟩⟩
    · exact ha_old (ha_at (by simp))
    · exact ha_at (by simp)
    · exact ha_old (ha_old (ha_old (ha_at rfl)))
    · exact ha_old (ha_old (ha_at (by simp)))
    · exact (((((Below.refl _ w).alloc (Nat.le_refl _) _).alloc (by simp) _).alloc (by simp; omega) _).alloc (by simp; omega) _)
  case round =>
    obtain ⟨pos, acc, hI, hit, hqb, hxb, hbw, hacc, hps, hal⟩ := hrel
    have hsz : w.heap.size + 1 + 1 + 1 < wr.heap.size := (Array.getElem?_eq_some_iff.1 hit).1
    by_cases hp : pos < q.form.flags.size
    · have hpd : pos < q.form.flags.data.toList.length := by rw [Array.length_toList]; exact hp
      have hpl : (q.form.flags[pos]'hp).toNat < 128 := HP.out _ (by show (q.form.flags.data[pos]'hp) ∈ _; simp)
      have hnx : ∀ ty, (Instr.next (.pointer (some ⟨w.heap.size + 1 + 1 + 1, 0, none⟩)) true ty).run Tryz.prog wr = _ := fun ty => Lib.run_next_ascii_at wr (w.heap.size + 1 + 1 + 1) q.form.flags pos ty hit hp hpl
      have hI2 := hI.iterAt hit (pos + 1)
      have hit2 := Lib.iterAt_heap wr (w.heap.size + 1 + 1 + 1) q.form.flags pos (pos + 1) hit
      have hbw2 := Lib.below_iterAt hbw (k := w.heap.size + 1 + 1 + 1) (by omega) q.form.flags (pos + 1)
      have hqb2 := (Lib.iterAt_other wr (w.heap.size + 1 + 1 + 1) (w.heap.size) q.form.flags (pos + 1) (by omega)).trans hqb
      have hxb2 := (Lib.iterAt_other wr (w.heap.size + 1 + 1 + 1) (w.heap.size + 1) q.form.flags (pos + 1) (by omega)).trans hxb
      have hsz2 : w.heap.size + 1 + 1 + 1 < (wr.iterAt (w.heap.size + 1 + 1 + 1) q.form.flags (pos + 1)).heap.size := by rw [Lib.iterAt_size]; omega
      generalize wr.iterAt (w.heap.size + 1 + 1 + 1) q.form.flags (pos + 1) = W2 at *
      have hwsz := hbw2.size
      have q0 := fun j v => blk_cells hqb2 j v
      have x0 := fun j v => blk_cells hxb2 j v
      have a0 := q0 0 _ rfl; have a1 := q0 1 _ rfl; have a2 := q0 2 _ rfl; have a3 := q0 3 _ rfl; have a4 := q0 4 _ rfl; have a5 := q0 5 _ rfl; have a6 := q0 6 _ rfl; have a7 := q0 7 _ rfl; have a8 := q0 8 _ rfl; have a9 := q0 9 _ rfl; have a10 := q0 10 _ rfl
      have b0 := x0 0 _ rfl; have b1 := x0 1 _ rfl; have b2 := x0 2 _ rfl; have b3 := x0 3 _ rfl; have b4 := x0 4 _ rfl; have b5 := x0 5 _ rfl; have b6 := x0 6 _ rfl; have b7 := x0 7 _ rfl; have b8 := x0 8 _ rfl
      have HB := Aside0.mk hbw2; have HI := Aside0.mk hI2; have HIT := Aside0.mk hit2
      clear q0 x0 hqb hxb hI hbw hbw2 hI2 hit2 hsz
      go_wp2_with (go_at_call 125; (with_reducible refine (mTold_calls q x _ _ _ _ _ (kRequest.K_below (by repeat (first | (with_reducible first | exact HB.out | apply below_alloc | apply pw_below_drewN | apply below_drew1) | exact HB.out)) HQ.out) (kResult.K_below (by repeat (first | (with_reducible first | exact HB.out | apply below_alloc | apply pw_below_drewN | apply below_drew1) | exact HB.out)) HX.out) HW.out (by omega) (Tabs.below HT.out (by repeat (first | (with_reducible first | exact HB.out | apply below_alloc | apply pw_below_drewN | apply below_drew1) | exact HB.out)))).mono ?_))
      rintro e w1 ⟨rfl, hb⟩
      obtain ⟨hc, hf⟩ := bcell hb
      have HI1 := Aside0.mk (Lib.IsBuilderF.below HI.out hb)
      have HIT1 := Aside0.mk ((hb.block _ hsz2).trans HIT.out)
      have HQ1 := Aside0.mk ((hb.block _ (by omega)).trans hqb2)
      have HX1 := Aside0.mk ((hb.block _ (by omega)).trans hxb2)
      have hs1 := hb.size
      have HBn := Aside0.mk (below_step (by repeat (first | (with_reducible first | exact HB.out | apply below_alloc | apply pw_below_drewN | apply below_drew1) | exact HB.out)) hb); clear HB; have HB := HBn; clear HBn
      clear hb hqb2 hxb2
      cases ht : (mTold q x ((q.form.flags[pos]'hp).toNat : Int) (pos : Int)).2
      · go_wp2
        go_roundw
        case rel =>
          refine ⟨pos + 1, acc, HI1.out, HIT1.out, HQ1.out, HX1.out, HB.out, ⟨?_⟩, by omega, ⟨by have := hal.out; omega⟩⟩
          rw [← hacc.out, mPieces_at q x _ pos hpd, mPiece_no q x pos hp hpd ht, List.nil_append]
        case measure =>
          rw [iter_pos HIT1.out, iter_pos hit]
          omega
      · have hts := HTL.out ((q.form.flags[pos]'hp).toNat : Int) (pos : Int)
        have henc := encode_small _ hpl
        go_wp2_with (go_at_call 105; (with_reducible refine (writeString_k w.heap.size (w.heap.size + 1 + 1) (Lib.byteCells acc) _ _ HI1.out ?_ ?_).mono ?_))
        · have := hal.out
          rw [Lib.byteCells_length, ByteArray.size_append, ByteArray.size_append]
          show acc.length + (1 + 1 + _) ≤ _
          omega
        · omega
        rintro e w2 ⟨rfl, h1, b1, k1⟩
        have HI2 := Aside0.mk h1
        have HIT2 := Aside0.mk (k1.iter HIT1.out (by omega))
        have HQ2 := Aside0.mk (k1 _ _ HQ1.out (by simp; omega) (by simp))
        have HX2 := Aside0.mk (k1 _ _ HX1.out (by simp) (by simp))
        have HB2 := Aside0.mk (HB.out.trans b1)
        clear h1 k1 b1
        go_wp2
        go_roundw
        case rel =>
          refine ⟨pos + 1, acc ++ mPiece q x (q.form.flags[pos]'hp) pos, Or.inr ?_, HIT2.out, HQ2.out, HX2.out, HB2.out, ⟨?_⟩, by omega, ⟨?_⟩⟩
          · rw [mPiece_yes q x pos hp ht, Lib.byteCells_append]
            exact HI2.out
          · rw [← hacc.out, mPieces_at q x _ pos hpd, List.append_assoc]
            rfl
          · have := hal.out
            rw [mPiece_yes q x pos hp ht, List.length_append, Array.length_toList]
            show acc.length + (({ data := #[32] } ++ { data := #[q.form.flags[pos]'hp] } : ByteArray) ++ (mTold q x ((q.form.flags[pos]'hp).toNat : Int) (pos : Int)).1).size ≤ _
            rw [ByteArray.size_append, ByteArray.size_append]
            show acc.length + (1 + 1 + _) ≤ _
            omega
        case measure =>
          rw [iter_pos HIT2.out, iter_pos hit]
          omega
    · have hnx : ∀ ty, (Instr.next (.pointer (some ⟨w.heap.size + 1 + 1 + 1, 0, none⟩)) true ty).run Tryz.prog wr = _ := fun ty => Lib.run_next_end_at wr (w.heap.size + 1 + 1 + 1) q.form.flags pos ty hit hp
      have hall : mPieces q x q.form.flags.data.toList 0 = acc := by
        rw [← hacc.out, List.drop_of_length_le (by rw [Array.length_toList]; show q.form.flags.size ≤ _; omega)]
        simp [mPieces]
      have hal2 : acc.length ≤ 1002000 := by have := hal.out; have : pos * 1002 ≤ 1000 * 1002 := Nat.mul_le_mul_right _ (by omega); omega
      have HALL := Aside0.mk hall; have HI := Aside0.mk hI; have HB := Aside0.mk hbw; have HAL := Aside0.mk hal2
      have x0 := fun j v => blk_cells hxb j v
      have b6 := x0 6 _ rfl; have b7 := x0 7 _ rfl; have b8 := x0 8 _ rfl
      obtain ⟨s6, h6⟩ : ∃ b, x.stale = b := ⟨_, rfl⟩
      obtain ⟨s7, h7⟩ : ∃ b, x.won = b := ⟨_, rfl⟩
      obtain ⟨s8, h8⟩ : ∃ b, x.lost = b := ⟨_, rfl⟩
      rw [h6] at b6; rw [h7] at b7; rw [h8] at b8
      have H6 := Aside0.mk h6; have H7 := Aside0.mk h7; have H8 := Aside0.mk h8
      clear h6 h7 h8
      have g0 : ∀ w, (Instr.index 149 (.agg #[.bool s7, .string { data := #[32, 87] }, .bool s6, .string { data := #[32, 88] }, .bool s8, .string { data := #[32, 90] }]) (.int .i64 0)).run Tryz.prog w = .ok (.agg #[.bool s7, .string { data := #[32, 87] }]) w := fun _ => by kernel_rfl
      have g1 : ∀ w, (Instr.index 149 (.agg #[.bool s7, .string { data := #[32, 87] }, .bool s6, .string { data := #[32, 88] }, .bool s8, .string { data := #[32, 90] }]) (.int .i64 1)).run Tryz.prog w = .ok (.agg #[.bool s6, .string { data := #[32, 88] }]) w := fun _ => by kernel_rfl
      have g2 : ∀ w, (Instr.index 149 (.agg #[.bool s7, .string { data := #[32, 87] }, .bool s6, .string { data := #[32, 88] }, .bool s8, .string { data := #[32, 90] }]) (.int .i64 2)).run Tryz.prog w = .ok (.agg #[.bool s8, .string { data := #[32, 90] }]) w := fun _ => by kernel_rfl
      clear x0 hqb hxb hI hbw hacc hal hall hal2 hit
      go_wp2
      go_loopw [45] (fun v wr => ∃ k : Nat, k ≤ 3 ∧ v = .int .i64 k ∧ Lib.IsBuilderF 122 5 w.heap.size (w.heap.size + 1 + 1) (Lib.byteCells (acc ++ mSignsTo x k)) wr ∧ Below w.heap.size w wr) (fun v _ => 3 - (intOf v).toNat)
      case atStart => exact ⟨0, by omega, rfl, by simpa [mSignsTo] using HI.out, HB.out⟩
      case round =>
        obtain ⟨k, hk, rfl, hI, hbw⟩ := hrel
        have hl6 := mSignsTo_len x k
        have HI := Aside0.mk hI; have HB := Aside0.mk hbw
        have hwsz := hbw.size
        clear hI hbw
        have hk4 : k = 0 ∨ k = 1 ∨ k = 2 ∨ k = 3 := by omega
        clear hk
        rcases hk4 with rfl | rfl | rfl | rfl
        · go_wp2_with (go_at_call 105; (with_reducible refine (writeString_k w.heap.size (w.heap.size + 1 + 1) (Lib.byteCells (acc ++ mSignsTo x 0)) _ _ (HI.out.alloc _) ?_ ?_).mono ?_))
          · have := HAL.out
            rw [Lib.byteCells_length, List.length_append]
            show _ + _ + 2 ≤ _
            omega
          · simp; omega
          · rintro e w2 ⟨rfl, h1, b1, k1⟩
            have H1 := Aside0.mk h1; have B1 := Aside0.mk (HB.out.trans ((Below.refl _ wr).alloc (by omega) _ |>.trans b1))
            clear h1 k1 b1
            go_wp2
            have hs : s7 = true := by assumption
            subst hs
            refine ⟨⟨_, _, _, _, _, _, _, _, _, _, ⟨1, by omega, rfl, Or.inr ?_, B1.out⟩, rfl⟩, by simp [intOf]⟩
            rw [mSigns_yes0 x acc H7.out]
            exact H1.out
          · refine ⟨⟨1, by omega, rfl, ?_, HB.out.trans ((Below.refl _ wr).alloc (by omega) _)⟩, by simp [intOf]⟩
            rw [mSigns_no0 x acc (H7.out.trans (by assumption))]
            exact HI.out.alloc _
        · go_wp2_with (go_at_call 105; (with_reducible refine (writeString_k w.heap.size (w.heap.size + 1 + 1) (Lib.byteCells (acc ++ mSignsTo x 1)) _ _ (HI.out.alloc _) ?_ ?_).mono ?_))
          · have := HAL.out
            rw [Lib.byteCells_length, List.length_append]
            show _ + _ + 2 ≤ _
            omega
          · simp; omega
          · rintro e w2 ⟨rfl, h1, b1, k1⟩
            have H1 := Aside0.mk h1; have B1 := Aside0.mk (HB.out.trans ((Below.refl _ wr).alloc (by omega) _ |>.trans b1))
            clear h1 k1 b1
            go_wp2
            have hs : s6 = true := by assumption
            subst hs
            refine ⟨⟨_, _, _, _, _, _, _, _, _, _, ⟨2, by omega, rfl, Or.inr ?_, B1.out⟩, rfl⟩, by simp [intOf]⟩
            rw [mSigns_yes1 x acc H6.out]
            exact H1.out
          · refine ⟨⟨2, by omega, rfl, ?_, HB.out.trans ((Below.refl _ wr).alloc (by omega) _)⟩, by simp [intOf]⟩
            rw [mSigns_no1 x acc (H6.out.trans (by assumption))]
            exact HI.out.alloc _
        · go_wp2_with (go_at_call 105; (with_reducible refine (writeString_k w.heap.size (w.heap.size + 1 + 1) (Lib.byteCells (acc ++ mSignsTo x 2)) _ _ (HI.out.alloc _) ?_ ?_).mono ?_))
          · have := HAL.out
            rw [Lib.byteCells_length, List.length_append]
            show _ + _ + 2 ≤ _
            omega
          · simp; omega
          · rintro e w2 ⟨rfl, h1, b1, k1⟩
            have H1 := Aside0.mk h1; have B1 := Aside0.mk (HB.out.trans ((Below.refl _ wr).alloc (by omega) _ |>.trans b1))
            clear h1 k1 b1
            go_wp2
            have hs : s8 = true := by assumption
            subst hs
            refine ⟨⟨_, _, _, _, _, _, _, _, _, _, ⟨3, by omega, rfl, Or.inr ?_, B1.out⟩, rfl⟩, by simp [intOf]⟩
            rw [mSigns_yes2 x acc H8.out]
            exact H1.out
          · refine ⟨⟨3, by omega, rfl, ?_, HB.out.trans ((Below.refl _ wr).alloc (by omega) _)⟩, by simp [intOf]⟩
            rw [mSigns_no2 x acc (H8.out.trans (by assumption))]
            exact HI.out.alloc _
        · have hfin : mFlags q x = ⟨(acc ++ mSignsTo x 3).toArray⟩ := by
            unfold mFlags mFlagsL
            rw [HALL.out]
            simp [mSigns, mSignsTo]
          have HF := Aside0.mk hfin
          clear hfin
          go_wp2_with (go_at_call 106; (with_reducible refine (Tryz.Builder_String_any_k w.heap.size (w.heap.size + 1 + 1) (acc ++ mSignsTo x 3) _ HI.out (by omega)).mono ?_); rintro e w2 ⟨rfl, h1, b1, k1⟩)
          go_ret
          exact ⟨by rw [HF.out]; rfl, HB.out.trans b1⟩
end Go.Proofs.YtamndkiagenfnaaGreatDoor.X
namespace Go.Proofs.YtamndkiagenfnaaGreatDoor.X
open Go.RowKit Go.Proofs.YtamndkiagenfnaaGreatDoorW.PrintWords
set_option linter.unusedVariables false
set_option linter.unusedSimpArgs false

def mFull (q : Request) (x : Result) : ByteArray := (⟨#[86, 65, 32]⟩ : ByteArray) ++ showI (mValue x).size ++ mFlags q x ++ (⟨#[13, 10]⟩ : ByteArray) ++ mValue x ++ (⟨#[13, 10]⟩ : ByteArray)
def mHas (q : Request) : Bool := decide (0 ≤ Lib.indexByte q.form.flags.data.toList 118)
def mTail (q : Request) (x : Result) : ByteArray :=
  if x.status = 0 ∨ x.status = 7 ∨ x.status = 2 ∨ x.status = 5 ∨ x.status = 6 ∨ x.status = 1 ∨ x.status = 3 ∨ x.status = 4 then mWord x.status ++ mFlags q x else mWord x.status
def mOne (q : Request) (op : Int) (x : Result) : List Int :=
  if (q.form.quiet && mSilent op x.status) = true then [] else if op = 12 ∧ x.status = 1 then [69, 78, 13, 10]
  else if (x.status = 0 ∨ x.status = 7) ∧ mHas q = true then bytesOf (mFull q x) else if mTail q x = (⟨#[]⟩ : ByteArray) then [] else bytesOf (mTail q x ++ (⟨#[13, 10]⟩ : ByteArray))
def mEncode (q : Request) (l : List Result) : List Int :=
  match q.cmds, l with
  | c :: _, x :: _ => mOne q c.op x
  | _, _ => []
theorem mPieces_len (q : Request) (x : Result) (htold : ∀ c i, (mTold q x c i).1.size ≤ 1000) : ∀ (l : List UInt8) (i : Nat), (mPieces q x l i).length ≤ l.length * 1002
  | [], _ => by simp [mPieces]
  | c :: r, i => by
    have ih := mPieces_len q x htold r (i + 1)
    have h := htold (c.toNat : Int) (i : Int)
    have hp : (mPiece q x c i).length ≤ 1002 := by
      unfold mPiece
      split
      · simp only [List.length_cons, Array.length_toList]
        have e : (mTold q x (c.toNat : Int) (i : Int)).1.data.size = (mTold q x (c.toNat : Int) (i : Int)).1.size := rfl
        omega
      · simp
    simp only [mPieces, List.length_append, List.length_cons]
    omega
theorem mFlags_size (q : Request) (x : Result) (htold : ∀ c i, (mTold q x c i).1.size ≤ 1000) (hlen : q.form.flags.size ≤ 1000) : (mFlags q x).size ≤ 1002006 := by
  have h := mPieces_len q x htold q.form.flags.data.toList 0
  have e : q.form.flags.data.toList.length = q.form.flags.size := by rw [Array.length_toList]; rfl
  have hs : (mSigns x).length ≤ 6 := by
    unfold mSigns
    simp only [List.length_append]
    repeat' split
    all_goals simp
  have h2 : (mFlags q x).size = (mFlagsL q x).length := by simp [mFlags, ByteArray.size]
  rw [h2, mFlagsL, List.length_append]
  have : q.form.flags.data.toList.length * 1002 ≤ 1000 * 1002 := Nat.mul_le_mul_right _ (by omega)
  omega
theorem mWord_size (s : Int) : (mWord s).size ≤ 100 := by
  unfold mWord
  repeat' split
  all_goals decide
theorem bytes_none (w : World) : Bytes w none [] := ⟨rfl, by decide, fun h => absurd h (by decide)⟩
theorem retNone {w w' : World} (h : Below w.heap.size w w') : RetBytes [] w (.returned (.slice none 0 0)) w' := ⟨none, 0, rfl, Nat.le_refl _, bytes_none _, h⟩
theorem sqx_mk {w W : World} {q : Request} {x : Result} {ab ao mq c0 c8 c9 d3 : Nat} {bq : Bool} {A8 A9 B3 : Option Addr} (h1 : Below w.heap.size w W) (h2 : W.heap[w.heap.size]? = some (.cells #[.slice (some ⟨ab, ao, none⟩) mq c0, .int .i64 q.form.dialect, .string q.form.verb, .int .i64 q.form.code, .int .u32 q.form.opq, .bool bq, .bool q.form.withcas, .string q.form.flags, .slice A8 q.form.tokens.length c8, .slice A9 q.form.keys.length c9, .bool q.form.base64] 87 (0, 0))) (h3 : W.heap[w.heap.size + 1]? = some (.cells #[.int .i64 x.status, .slice B3 x.value.length d3, .int .u32 x.flags, .int .u64 x.cas, .int .i64 x.ttl, .int .u64 x.number, .bool x.stale, .bool x.won, .bool x.lost] 32 (0, 0))) :
    Aside0 (Below w.heap.size w W) ∧ Aside0 (W.heap[w.heap.size]? = some (.cells #[.slice (some ⟨ab, ao, none⟩) mq c0, .int .i64 q.form.dialect, .string q.form.verb, .int .i64 q.form.code, .int .u32 q.form.opq, .bool bq, .bool q.form.withcas, .string q.form.flags, .slice A8 q.form.tokens.length c8, .slice A9 q.form.keys.length c9, .bool q.form.base64] 87 (0, 0))) ∧ Aside0 (W.heap[w.heap.size + 1]? = some (.cells #[.int .i64 x.status, .slice B3 x.value.length d3, .int .u32 x.flags, .int .u64 x.cas, .int .i64 x.ttl, .int .u64 x.number, .bool x.stale, .bool x.won, .bool x.lost] 32 (0, 0))) ∧ W.cell? ⟨w.heap.size, 0, none⟩ = some (.slice (some ⟨ab, ao, none⟩) mq c0) ∧ W.cell? ⟨w.heap.size, 1, none⟩ = some (.int .i64 q.form.dialect) ∧ W.cell? ⟨w.heap.size, 2, none⟩ = some (.string q.form.verb) ∧ W.cell? ⟨w.heap.size, 3, none⟩ = some (.int .i64 q.form.code) ∧ W.cell? ⟨w.heap.size, 4, none⟩ = some (.int .u32 q.form.opq) ∧ W.cell? ⟨w.heap.size, 5, none⟩ = some (.bool bq) ∧ W.cell? ⟨w.heap.size, 6, none⟩ = some (.bool q.form.withcas) ∧ W.cell? ⟨w.heap.size, 7, none⟩ = some (.string q.form.flags) ∧ W.cell? ⟨w.heap.size, 8, none⟩ = some (.slice A8 q.form.tokens.length c8) ∧ W.cell? ⟨w.heap.size, 9, none⟩ = some (.slice A9 q.form.keys.length c9) ∧ W.cell? ⟨w.heap.size, 10, none⟩ = some (.bool q.form.base64) ∧ W.cell? ⟨w.heap.size + 1, 0, none⟩ = some (.int .i64 x.status) ∧ W.cell? ⟨w.heap.size + 1, 1, none⟩ = some (.slice B3 x.value.length d3) ∧ W.cell? ⟨w.heap.size + 1, 2, none⟩ = some (.int .u32 x.flags) ∧ W.cell? ⟨w.heap.size + 1, 3, none⟩ = some (.int .u64 x.cas) ∧ W.cell? ⟨w.heap.size + 1, 4, none⟩ = some (.int .i64 x.ttl) ∧ W.cell? ⟨w.heap.size + 1, 5, none⟩ = some (.int .u64 x.number) ∧ W.cell? ⟨w.heap.size + 1, 6, none⟩ = some (.bool x.stale) ∧ W.cell? ⟨w.heap.size + 1, 7, none⟩ = some (.bool x.won) ∧ W.cell? ⟨w.heap.size + 1, 8, none⟩ = some (.bool x.lost) := by
  have a := fun j v => blk_cells h2 j v
  have b := fun j v => blk_cells h3 j v
  exact ⟨⟨h1⟩, ⟨h2⟩, ⟨h3⟩, a 0 _ rfl, a 1 _ rfl, a 2 _ rfl, a 3 _ rfl, a 4 _ rfl, a 5 _ rfl, a 6 _ rfl, a 7 _ rfl, a 8 _ rfl, a 9 _ rfl, a 10 _ rfl, b 0 _ rfl, b 1 _ rfl, b 2 _ rfl, b 3 _ rfl, b 4 _ rfl, b 5 _ rfl, b 6 _ rfl, b 7 _ rfl, b 8 _ rfl⟩
theorem sqx_below {w W W2 : World} {q : Request} {x : Result} {ab ao mq c0 c8 c9 d3 : Nat} {bq : Bool} {A8 A9 B3 : Option Addr} (hb : Below W.heap.size W W2) (h : Aside0 (Below w.heap.size w W) ∧ Aside0 (W.heap[w.heap.size]? = some (.cells #[.slice (some ⟨ab, ao, none⟩) mq c0, .int .i64 q.form.dialect, .string q.form.verb, .int .i64 q.form.code, .int .u32 q.form.opq, .bool bq, .bool q.form.withcas, .string q.form.flags, .slice A8 q.form.tokens.length c8, .slice A9 q.form.keys.length c9, .bool q.form.base64] 87 (0, 0))) ∧ Aside0 (W.heap[w.heap.size + 1]? = some (.cells #[.int .i64 x.status, .slice B3 x.value.length d3, .int .u32 x.flags, .int .u64 x.cas, .int .i64 x.ttl, .int .u64 x.number, .bool x.stale, .bool x.won, .bool x.lost] 32 (0, 0))) ∧ W.cell? ⟨w.heap.size, 0, none⟩ = some (.slice (some ⟨ab, ao, none⟩) mq c0) ∧ W.cell? ⟨w.heap.size, 1, none⟩ = some (.int .i64 q.form.dialect) ∧ W.cell? ⟨w.heap.size, 2, none⟩ = some (.string q.form.verb) ∧ W.cell? ⟨w.heap.size, 3, none⟩ = some (.int .i64 q.form.code) ∧ W.cell? ⟨w.heap.size, 4, none⟩ = some (.int .u32 q.form.opq) ∧ W.cell? ⟨w.heap.size, 5, none⟩ = some (.bool bq) ∧ W.cell? ⟨w.heap.size, 6, none⟩ = some (.bool q.form.withcas) ∧ W.cell? ⟨w.heap.size, 7, none⟩ = some (.string q.form.flags) ∧ W.cell? ⟨w.heap.size, 8, none⟩ = some (.slice A8 q.form.tokens.length c8) ∧ W.cell? ⟨w.heap.size, 9, none⟩ = some (.slice A9 q.form.keys.length c9) ∧ W.cell? ⟨w.heap.size, 10, none⟩ = some (.bool q.form.base64) ∧ W.cell? ⟨w.heap.size + 1, 0, none⟩ = some (.int .i64 x.status) ∧ W.cell? ⟨w.heap.size + 1, 1, none⟩ = some (.slice B3 x.value.length d3) ∧ W.cell? ⟨w.heap.size + 1, 2, none⟩ = some (.int .u32 x.flags) ∧ W.cell? ⟨w.heap.size + 1, 3, none⟩ = some (.int .u64 x.cas) ∧ W.cell? ⟨w.heap.size + 1, 4, none⟩ = some (.int .i64 x.ttl) ∧ W.cell? ⟨w.heap.size + 1, 5, none⟩ = some (.int .u64 x.number) ∧ W.cell? ⟨w.heap.size + 1, 6, none⟩ = some (.bool x.stale) ∧ W.cell? ⟨w.heap.size + 1, 7, none⟩ = some (.bool x.won) ∧ W.cell? ⟨w.heap.size + 1, 8, none⟩ = some (.bool x.lost)) : Aside0 (Below w.heap.size w W2) ∧ Aside0 (W2.heap[w.heap.size]? = some (.cells #[.slice (some ⟨ab, ao, none⟩) mq c0, .int .i64 q.form.dialect, .string q.form.verb, .int .i64 q.form.code, .int .u32 q.form.opq, .bool bq, .bool q.form.withcas, .string q.form.flags, .slice A8 q.form.tokens.length c8, .slice A9 q.form.keys.length c9, .bool q.form.base64] 87 (0, 0))) ∧ Aside0 (W2.heap[w.heap.size + 1]? = some (.cells #[.int .i64 x.status, .slice B3 x.value.length d3, .int .u32 x.flags, .int .u64 x.cas, .int .i64 x.ttl, .int .u64 x.number, .bool x.stale, .bool x.won, .bool x.lost] 32 (0, 0))) ∧ W2.cell? ⟨w.heap.size, 0, none⟩ = some (.slice (some ⟨ab, ao, none⟩) mq c0) ∧ W2.cell? ⟨w.heap.size, 1, none⟩ = some (.int .i64 q.form.dialect) ∧ W2.cell? ⟨w.heap.size, 2, none⟩ = some (.string q.form.verb) ∧ W2.cell? ⟨w.heap.size, 3, none⟩ = some (.int .i64 q.form.code) ∧ W2.cell? ⟨w.heap.size, 4, none⟩ = some (.int .u32 q.form.opq) ∧ W2.cell? ⟨w.heap.size, 5, none⟩ = some (.bool bq) ∧ W2.cell? ⟨w.heap.size, 6, none⟩ = some (.bool q.form.withcas) ∧ W2.cell? ⟨w.heap.size, 7, none⟩ = some (.string q.form.flags) ∧ W2.cell? ⟨w.heap.size, 8, none⟩ = some (.slice A8 q.form.tokens.length c8) ∧ W2.cell? ⟨w.heap.size, 9, none⟩ = some (.slice A9 q.form.keys.length c9) ∧ W2.cell? ⟨w.heap.size, 10, none⟩ = some (.bool q.form.base64) ∧ W2.cell? ⟨w.heap.size + 1, 0, none⟩ = some (.int .i64 x.status) ∧ W2.cell? ⟨w.heap.size + 1, 1, none⟩ = some (.slice B3 x.value.length d3) ∧ W2.cell? ⟨w.heap.size + 1, 2, none⟩ = some (.int .u32 x.flags) ∧ W2.cell? ⟨w.heap.size + 1, 3, none⟩ = some (.int .u64 x.cas) ∧ W2.cell? ⟨w.heap.size + 1, 4, none⟩ = some (.int .i64 x.ttl) ∧ W2.cell? ⟨w.heap.size + 1, 5, none⟩ = some (.int .u64 x.number) ∧ W2.cell? ⟨w.heap.size + 1, 6, none⟩ = some (.bool x.stale) ∧ W2.cell? ⟨w.heap.size + 1, 7, none⟩ = some (.bool x.won) ∧ W2.cell? ⟨w.heap.size + 1, 8, none⟩ = some (.bool x.lost) :=
  sqx_mk (below_step h.1.out hb) ((hb.block _ (Array.getElem?_eq_some_iff.1 h.2.1.out).1).trans h.2.1.out) ((hb.block _ (Array.getElem?_eq_some_iff.1 h.2.2.1.out).1).trans h.2.2.1.out)
theorem sqx_drew {w W : World} {q : Request} {x : Result} {ab ao mq c0 c8 c9 d3 : Nat} {bq : Bool} {A8 A9 B3 : Option Addr} (h : Aside0 (Below w.heap.size w W) ∧ Aside0 (W.heap[w.heap.size]? = some (.cells #[.slice (some ⟨ab, ao, none⟩) mq c0, .int .i64 q.form.dialect, .string q.form.verb, .int .i64 q.form.code, .int .u32 q.form.opq, .bool bq, .bool q.form.withcas, .string q.form.flags, .slice A8 q.form.tokens.length c8, .slice A9 q.form.keys.length c9, .bool q.form.base64] 87 (0, 0))) ∧ Aside0 (W.heap[w.heap.size + 1]? = some (.cells #[.int .i64 x.status, .slice B3 x.value.length d3, .int .u32 x.flags, .int .u64 x.cas, .int .i64 x.ttl, .int .u64 x.number, .bool x.stale, .bool x.won, .bool x.lost] 32 (0, 0))) ∧ W.cell? ⟨w.heap.size, 0, none⟩ = some (.slice (some ⟨ab, ao, none⟩) mq c0) ∧ W.cell? ⟨w.heap.size, 1, none⟩ = some (.int .i64 q.form.dialect) ∧ W.cell? ⟨w.heap.size, 2, none⟩ = some (.string q.form.verb) ∧ W.cell? ⟨w.heap.size, 3, none⟩ = some (.int .i64 q.form.code) ∧ W.cell? ⟨w.heap.size, 4, none⟩ = some (.int .u32 q.form.opq) ∧ W.cell? ⟨w.heap.size, 5, none⟩ = some (.bool bq) ∧ W.cell? ⟨w.heap.size, 6, none⟩ = some (.bool q.form.withcas) ∧ W.cell? ⟨w.heap.size, 7, none⟩ = some (.string q.form.flags) ∧ W.cell? ⟨w.heap.size, 8, none⟩ = some (.slice A8 q.form.tokens.length c8) ∧ W.cell? ⟨w.heap.size, 9, none⟩ = some (.slice A9 q.form.keys.length c9) ∧ W.cell? ⟨w.heap.size, 10, none⟩ = some (.bool q.form.base64) ∧ W.cell? ⟨w.heap.size + 1, 0, none⟩ = some (.int .i64 x.status) ∧ W.cell? ⟨w.heap.size + 1, 1, none⟩ = some (.slice B3 x.value.length d3) ∧ W.cell? ⟨w.heap.size + 1, 2, none⟩ = some (.int .u32 x.flags) ∧ W.cell? ⟨w.heap.size + 1, 3, none⟩ = some (.int .u64 x.cas) ∧ W.cell? ⟨w.heap.size + 1, 4, none⟩ = some (.int .i64 x.ttl) ∧ W.cell? ⟨w.heap.size + 1, 5, none⟩ = some (.int .u64 x.number) ∧ W.cell? ⟨w.heap.size + 1, 6, none⟩ = some (.bool x.stale) ∧ W.cell? ⟨w.heap.size + 1, 7, none⟩ = some (.bool x.won) ∧ W.cell? ⟨w.heap.size + 1, 8, none⟩ = some (.bool x.lost)) : Aside0 (Below w.heap.size w W.drew) ∧ Aside0 (W.drew.heap[w.heap.size]? = some (.cells #[.slice (some ⟨ab, ao, none⟩) mq c0, .int .i64 q.form.dialect, .string q.form.verb, .int .i64 q.form.code, .int .u32 q.form.opq, .bool bq, .bool q.form.withcas, .string q.form.flags, .slice A8 q.form.tokens.length c8, .slice A9 q.form.keys.length c9, .bool q.form.base64] 87 (0, 0))) ∧ Aside0 (W.drew.heap[w.heap.size + 1]? = some (.cells #[.int .i64 x.status, .slice B3 x.value.length d3, .int .u32 x.flags, .int .u64 x.cas, .int .i64 x.ttl, .int .u64 x.number, .bool x.stale, .bool x.won, .bool x.lost] 32 (0, 0))) ∧ W.drew.cell? ⟨w.heap.size, 0, none⟩ = some (.slice (some ⟨ab, ao, none⟩) mq c0) ∧ W.drew.cell? ⟨w.heap.size, 1, none⟩ = some (.int .i64 q.form.dialect) ∧ W.drew.cell? ⟨w.heap.size, 2, none⟩ = some (.string q.form.verb) ∧ W.drew.cell? ⟨w.heap.size, 3, none⟩ = some (.int .i64 q.form.code) ∧ W.drew.cell? ⟨w.heap.size, 4, none⟩ = some (.int .u32 q.form.opq) ∧ W.drew.cell? ⟨w.heap.size, 5, none⟩ = some (.bool bq) ∧ W.drew.cell? ⟨w.heap.size, 6, none⟩ = some (.bool q.form.withcas) ∧ W.drew.cell? ⟨w.heap.size, 7, none⟩ = some (.string q.form.flags) ∧ W.drew.cell? ⟨w.heap.size, 8, none⟩ = some (.slice A8 q.form.tokens.length c8) ∧ W.drew.cell? ⟨w.heap.size, 9, none⟩ = some (.slice A9 q.form.keys.length c9) ∧ W.drew.cell? ⟨w.heap.size, 10, none⟩ = some (.bool q.form.base64) ∧ W.drew.cell? ⟨w.heap.size + 1, 0, none⟩ = some (.int .i64 x.status) ∧ W.drew.cell? ⟨w.heap.size + 1, 1, none⟩ = some (.slice B3 x.value.length d3) ∧ W.drew.cell? ⟨w.heap.size + 1, 2, none⟩ = some (.int .u32 x.flags) ∧ W.drew.cell? ⟨w.heap.size + 1, 3, none⟩ = some (.int .u64 x.cas) ∧ W.drew.cell? ⟨w.heap.size + 1, 4, none⟩ = some (.int .i64 x.ttl) ∧ W.drew.cell? ⟨w.heap.size + 1, 5, none⟩ = some (.int .u64 x.number) ∧ W.drew.cell? ⟨w.heap.size + 1, 6, none⟩ = some (.bool x.stale) ∧ W.drew.cell? ⟨w.heap.size + 1, 7, none⟩ = some (.bool x.won) ∧ W.drew.cell? ⟨w.heap.size + 1, 8, none⟩ = some (.bool x.lost) := sqx_mk (below_drew1 h.1.out) h.2.1.out h.2.2.1.out
theorem sqx_b {w W : World} {q : Request} {x : Result} {ab ao mq c0 c8 c9 d3 : Nat} {bq : Bool} {A8 A9 B3 : Option Addr} (h : Aside0 (Below w.heap.size w W) ∧ Aside0 (W.heap[w.heap.size]? = some (.cells #[.slice (some ⟨ab, ao, none⟩) mq c0, .int .i64 q.form.dialect, .string q.form.verb, .int .i64 q.form.code, .int .u32 q.form.opq, .bool bq, .bool q.form.withcas, .string q.form.flags, .slice A8 q.form.tokens.length c8, .slice A9 q.form.keys.length c9, .bool q.form.base64] 87 (0, 0))) ∧ Aside0 (W.heap[w.heap.size + 1]? = some (.cells #[.int .i64 x.status, .slice B3 x.value.length d3, .int .u32 x.flags, .int .u64 x.cas, .int .i64 x.ttl, .int .u64 x.number, .bool x.stale, .bool x.won, .bool x.lost] 32 (0, 0))) ∧ W.cell? ⟨w.heap.size, 0, none⟩ = some (.slice (some ⟨ab, ao, none⟩) mq c0) ∧ W.cell? ⟨w.heap.size, 1, none⟩ = some (.int .i64 q.form.dialect) ∧ W.cell? ⟨w.heap.size, 2, none⟩ = some (.string q.form.verb) ∧ W.cell? ⟨w.heap.size, 3, none⟩ = some (.int .i64 q.form.code) ∧ W.cell? ⟨w.heap.size, 4, none⟩ = some (.int .u32 q.form.opq) ∧ W.cell? ⟨w.heap.size, 5, none⟩ = some (.bool bq) ∧ W.cell? ⟨w.heap.size, 6, none⟩ = some (.bool q.form.withcas) ∧ W.cell? ⟨w.heap.size, 7, none⟩ = some (.string q.form.flags) ∧ W.cell? ⟨w.heap.size, 8, none⟩ = some (.slice A8 q.form.tokens.length c8) ∧ W.cell? ⟨w.heap.size, 9, none⟩ = some (.slice A9 q.form.keys.length c9) ∧ W.cell? ⟨w.heap.size, 10, none⟩ = some (.bool q.form.base64) ∧ W.cell? ⟨w.heap.size + 1, 0, none⟩ = some (.int .i64 x.status) ∧ W.cell? ⟨w.heap.size + 1, 1, none⟩ = some (.slice B3 x.value.length d3) ∧ W.cell? ⟨w.heap.size + 1, 2, none⟩ = some (.int .u32 x.flags) ∧ W.cell? ⟨w.heap.size + 1, 3, none⟩ = some (.int .u64 x.cas) ∧ W.cell? ⟨w.heap.size + 1, 4, none⟩ = some (.int .i64 x.ttl) ∧ W.cell? ⟨w.heap.size + 1, 5, none⟩ = some (.int .u64 x.number) ∧ W.cell? ⟨w.heap.size + 1, 6, none⟩ = some (.bool x.stale) ∧ W.cell? ⟨w.heap.size + 1, 7, none⟩ = some (.bool x.won) ∧ W.cell? ⟨w.heap.size + 1, 8, none⟩ = some (.bool x.lost)) : Below w.heap.size w W := h.1.out
theorem mOne_full {q : Request} {op : Int} {x : Result} {b : Bool} (hb : q.form.quiet = b) (h1 : (b && mSilent op x.status) = false ∧ ¬ (op = 12 ∧ x.status = 1)) (hs : x.status = 0 ∨ x.status = 7) (hh : decide (0 ≤ Lib.indexByte q.form.flags.data.toList 118) = true) : mOne q op x = bytesOf (mFull q x) := by
  subst hb
  unfold mOne
  rw [if_neg (by rw [h1.1]; decide), if_neg h1.2, if_pos ⟨hs, hh⟩]
theorem mOne_none {q : Request} {op : Int} {x : Result} {b : Bool} (hb : q.form.quiet = b) (h1 : (b && mSilent op x.status) = false ∧ ¬ (op = 12 ∧ x.status = 1)) (h2 : ¬ ((x.status = 0 ∨ x.status = 7) ∧ mHas q = true)) (h3 : mTail q x = (⟨#[]⟩ : ByteArray)) : mOne q op x = [] := by
  subst hb
  unfold mOne
  rw [if_neg (by rw [h1.1]; decide), if_neg h1.2, if_neg h2, if_pos h3]
theorem mOne_line {q : Request} {op : Int} {x : Result} {b : Bool} (hb : q.form.quiet = b) (h1 : (b && mSilent op x.status) = false ∧ ¬ (op = 12 ∧ x.status = 1)) (h2 : ¬ ((x.status = 0 ∨ x.status = 7) ∧ mHas q = true)) (h3 : ¬ mTail q x = (⟨#[]⟩ : ByteArray)) : mOne q op x = bytesOf (mTail q x ++ (⟨#[13, 10]⟩ : ByteArray)) := by
  subst hb
  unfold mOne
  rw [if_neg (by rw [h1.1]; decide), if_neg h1.2, if_neg h2, if_neg h3]
theorem mTail_size (q : Request) (x : Result) (htold : ∀ c i, (mTold q x c i).1.size ≤ 1000) (hlen : q.form.flags.size ≤ 1000) : (mTail q x).size ≤ 1003000 := by
  have h1 := mFlags_size q x htold hlen
  have h2 := mWord_size x.status
  unfold mTail
  split
  · rw [ByteArray.size_append]; omega
  · omega
set_option maxHeartbeats 1000000 in
set_option maxRecDepth 100000 in
theorem mEncode_calls (q : Request) (l : List Result) (cq : List Value) (A1 : Option Addr) (n1 : Nat) (w : World) (hq : kRequest.K w q cq) (hn1 : l.length ≤ n1) (hL : kResult.C w A1 l.length l) (hw : ∀ x ∈ l, x.Wf) (hT : Tabs w)
    (hplain : ∀ c ∈ q.form.flags.data.toList, c.toNat < 128) (hlen : q.form.flags.size ≤ 1000) (htold : ∀ x ∈ l, ∀ c i, (mTold q x c i).1.size ≤ 1000) (hval : ∀ x ∈ l, x.value.length ≤ 1000000) :
    Calls Tryz.prog 63 #[.agg cq.toArray, .slice A1 l.length n1] w (RetBytes (mEncode q l) w) := by
  obtain ⟨A0, c0, A8, c8, A9, c9, rfl, hl0, hC0, hl8, hC8, hl9, hC9⟩ := kRequest_open hq
  have HQ := Aside0.mk (kRequest_mk w q hl0 hC0 hl8 hC8 hl9 hC9)
  have HT := Aside0.mk hT; have HW := Aside0.mk hw
  have HP := Aside0.mk hplain; have HTL := Aside0.mk htold
  cases hc : q.cmds with
  | nil =>
    have hm : mEncode q l = [] := by unfold mEncode; rw [hc]
    rw [hm]
    clear hT hq hw hC0 hC8 hC9 hplain htold hL
    have h0 : ((([] : List Cmd).length : Nat) : Int) = 0 := rfl
    go_enter Tryz.func63, Tryz.ntmps63
    go_wp2
    go_ret
    exact retNone (by repeat (first | exact Below.refl _ _ | apply below_alloc))
  | cons cm cs =>
    cases l with
    | nil =>
      have hm : mEncode q [] = [] := by unfold mEncode; rw [hc]
      rw [hm]
      clear hT hq hw hC0 hC8 hC9 hplain htold hL
      go_enter Tryz.func63, Tryz.ntmps63
      go_wp2
      go_ret
      exact retNone (by repeat (first | exact Below.refl _ _ | apply below_alloc))
    | cons x xs =>
      have hm : mEncode q (x :: xs) = mOne q cm.op x := by unfold mEncode; rw [hc]
      rw [hm]
      have h0q : 0 < q.cmds.length := by rw [hc]; simp
      obtain ⟨ad, B2, d2, rfl, k0, _⟩ := at_Cmd hC0 0 (by omega) (by omega)
      obtain ⟨bd, B3, d3, rfl, r0, r1, r2, r3, r4, r5, r6, r7, r8, hB3⟩ := at_Result hL 0 (by omega) (by simp)
      rw [show rd_Cmd q.cmds 0 = cm by unfold rd_Cmd; rw [hc]; rfl] at k0
      rw [show rd_Result (x :: xs) 0 = x from rfl] at r0 r1 r2 r3 r4 r5 r6 r7 r8 hB3
      have z0 : (0 : Int).toNat = 0 := rfl
      simp only [z0, Nat.zero_mul, Addr.add_zero'] at k0 r0 r1 r2 r3 r4 r5 r6 r7 r8
      obtain ⟨ab, ao, rfl, hab⟩ := addr_plain k0
      obtain ⟨bb, bo, rfl, hbb⟩ := addr_plain r0
      dsimp only at r1 r2 r3 r4 r5 r6 r7 r8
      have hwx := hw x (by simp)
      have hsz : (mValue x).size ≤ 1000020 := by
        unfold mValue
        split
        · have := showI_size x.number hwx.number.2; omega
        · rw [strOfNums_size]; have := hval x (by simp); omega
      have hsF := mFlags_size q x (htold x (by simp)) hlen
      have hsW := mWord_size x.status
      have hsS := showI_size ((mValue x).size : Int) (by omega)
      have HX := Aside0.mk (kResult_mk w x hB3.1 hB3.2)
      have HWX := Aside0.mk hwx; have HTLX := Aside0.mk (htold x (by simp))
      have h0l : 0 < (x :: xs).length := by simp
      have HB := Aside0.mk (Below.refl w.heap.size w)
      clear hT hq hw hC0 hC8 hC9 hplain htold hval hL hB3 HW HTL hwx z0 hm
      rw [← hc] at *
      clear hc
      generalize q.cmds.length = mq at *
      generalize (x :: xs).length = ml at *
      have hq1 : (mq == 0) = false := beq_eq_false_iff_ne.2 (by omega)
      have hq2 : ((mq : Int) == 0) = false := beq_eq_false_iff_ne.2 (by omega)
      have hl1 : (ml == 0) = false := beq_eq_false_iff_ne.2 (by omega)
      have hl2 : ((ml : Int) == 0) = false := beq_eq_false_iff_ne.2 (by omega)
      obtain ⟨bq, hbq⟩ : ∃ b, q.form.quiet = b := ⟨_, rfl⟩
      rw [hbq] at HQ ⊢
      have HBQ := Aside0.mk hbq
      clear hbq
      go_enter Tryz.func63, Tryz.ntmps63
      go_wp2
      go_region
      go_upto_block 0 with (fail)
      go_cut [5, 6] (fun v5 v6 wc => v5 = .int .i64 cm.op ∧ v6 = .pointer (some ⟨w.heap.size + 1, 0, none⟩) ∧ wc.heap[w.heap.size]? = some (.cells #[.slice (some ⟨ab, ao, none⟩) mq c0, .int .i64 q.form.dialect, .string q.form.verb, .int .i64 q.form.code, .int .u32 q.form.opq, .bool bq, .bool q.form.withcas, .string q.form.flags, .slice A8 q.form.tokens.length c8, .slice A9 q.form.keys.length c9, .bool q.form.base64] 87 (0, 0)) ∧ wc.heap[w.heap.size + 1]? = some (.cells #[.int .i64 x.status, .slice B3 x.value.length d3, .int .u32 x.flags, .int .u64 x.cas, .int .i64 x.ttl, .int .u64 x.number, .bool x.stale, .bool x.won, .bool x.lost] 32 (0, 0)) ∧ Below w.heap.size w wc ∧ Aside0 ((bq && mSilent cm.op x.status) = false ∧ ¬ (cm.op = 12 ∧ x.status = 1)))
      case first =>
        have fin : ¬ (cm.op = 12 ∧ x.status = 1) → (bq && mSilent cm.op x.status) = false → Aside0 ((bq && mSilent cm.op x.status) = false ∧ ¬ (cm.op = 12 ∧ x.status = 1)) := fun a b => ⟨⟨b, a⟩⟩
        have quietly : (q.form.quiet && mSilent cm.op x.status) = true → mOne q cm.op x = [] := fun h => by unfold mOne; rw [if_pos h]
        have enly : (q.form.quiet && mSilent cm.op x.status) = false → cm.op = 12 → x.status = 1 → mOne q cm.op x = [69, 78, 13, 10] := fun h h1 h2 => by unfold mOne; rw [if_neg (by rw [h]; decide), if_pos ⟨h1, h2⟩]
        rw [HBQ.out] at quietly enly
        by_cases hqs : (bq && mSilent cm.op x.status) = true
        · have HM := Aside0.mk (quietly hqs)
          rw [Bool.and_eq_true] at hqs
          obtain ⟨rfl, hs⟩ := hqs
          have HS := Aside0.mk hs
          clear hs quietly enly fin
          go_wp2_with (go_at_call 89; (with_reducible refine (mSilent_calls _ _ _).mono ?_); rintro e w1 ⟨rfl, rfl⟩; rw [HS.out])
          go_ret
          rw [HM.out]
          exact retNone (by repeat (first | exact Below.refl _ _ | apply below_drew1 | apply pw_below_drewN | apply below_alloc))
        · have hqf : (bq && mSilent cm.op x.status) = false := by simpa using hqs
          have HE := Aside0.mk (enly hqf)
          have HF := Aside0.mk (fun a => fin a hqf)
          clear quietly enly fin hqs
          cases hs : mSilent cm.op x.status
          all_goals cases bq
          all_goals first
            | (exfalso; rw [hs] at hqf; exact absurd hqf (by decide))
            | skip
          all_goals
            have HS := Aside0.mk hs
            clear hs hqf
            by_cases ho : cm.op = 12
            · have ho1 : (cm.op == 12) = true := beq_iff_eq.2 ho
              by_cases hx : x.status = 1
              · have hx1 : (x.status == 1) = true := beq_iff_eq.2 hx
                have HM := Aside0.mk (HE.out ho hx)
                clear ho hx
                go_wp2_with (first | (go_at_call 89; (with_reducible refine (mSilent_calls _ _ _).mono ?_); rintro e w1 ⟨rfl, rfl⟩; rw [HS.out]) | ((with_reducible refine gate_dst (N := 45) rfl ?_); (first | (refine wp_const_drew rfl _ _ _ rfl _ _ _ _ rfl ?_ Tryz.underlying22 Tryz.underlying5 ?_) | (refine wp_const rfl _ _ _ rfl _ _ _ _ rfl ?_ Tryz.underlying22 Tryz.underlying5 ?_)); (case _ => simp)))
                go_ret
                rw [HM.out]
                exact ⟨some ⟨w.heap.size + 1 + 1, 0, none⟩, 4, rfl, by decide, Bytes_at (ha_at (by simp)) _ (by decide) rfl, (by repeat (first | exact Below.refl _ _ | apply below_drew1 | apply pw_below_drewN | apply below_alloc))⟩
              · have hx1 : (x.status == 1) = false := beq_eq_false_iff_ne.2 hx
                have HN := Aside0.mk (HF.out (fun h => hx h.2))
                clear ho hx
                go_wp2_with (go_at_call 89; (with_reducible refine (mSilent_calls _ _ _).mono ?_); rintro e w1 ⟨rfl, rfl⟩; rw [HS.out])
                go_meet
                exact ⟨rfl, rfl, ha_old (ha_at rfl), ha_at (by simp), (by repeat (first | exact Below.refl _ _ | apply below_drew1 | apply pw_below_drewN | apply below_alloc)), HN.out⟩
            · have ho1 : (cm.op == 12) = false := beq_eq_false_iff_ne.2 ho
              have HN := Aside0.mk (HF.out (fun h => ho h.1))
              clear ho
              go_wp2_with (go_at_call 89; (with_reducible refine (mSilent_calls _ _ _).mono ?_); rintro e w1 ⟨rfl, rfl⟩; rw [HS.out])
              go_meet
              exact ⟨rfl, rfl, ha_old (ha_at rfl), ha_at (by simp), (by repeat (first | exact Below.refl _ _ | apply below_drew1 | apply pw_below_drewN | apply below_alloc)), HN.out⟩
      case rest =>
        obtain ⟨rfl, rfl, hqb, hxb, hbw, hno⟩ := hcut
        have hwsz := hbw.size
        have hlx : w.heap.size + 1 < wc.heap.size := (Array.getElem?_eq_some_iff.1 hxb).1
        clear HB
        have HB := Aside0.mk hbw; have HQB := Aside0.mk hqb; have HXB := Aside0.mk hxb
        have x0 := fun j v => blk_cells hxb j v
        have b0 := x0 0 _ rfl; have b1 := x0 1 _ rfl; have b2 := x0 2 _ rfl; have b3 := x0 3 _ rfl; have b4 := x0 4 _ rfl; have b5 := x0 5 _ rfl; have b6 := x0 6 _ rfl; have b7 := x0 7 _ rfl; have b8 := x0 8 _ rfl
        clear x0 hbw hxb hqb
        go_upto_block 1 with (first
          | (go_at_call 90; (with_reducible refine (mValue_calls x _ _ (kResult.K_below (by repeat (first | (with_reducible first | exact HB.out | apply below_alloc | apply pw_below_drewN | apply below_drew1) | exact HB.out)) HX.out) HWX.out (Tabs.below HT.out (by repeat (first | (with_reducible first | exact HB.out | apply below_alloc | apply pw_below_drewN | apply below_drew1) | exact HB.out)))).mono ?_); rintro e w1 ⟨rfl, hb⟩; have hs1 := hb.size; have HQ1 := Aside0.mk ((hb.block _ (by omega)).trans HQB.out); have HX1 := Aside0.mk ((hb.block _ (by omega)).trans HXB.out); obtain ⟨hbc, hbf⟩ := bcell hb; have HBn := Aside0.mk (below_step (by repeat (first | (with_reducible first | exact HB.out | apply below_alloc | apply pw_below_drewN | apply below_drew1) | exact HB.out)) hb); clear HB; have HB := HBn; clear HBn; clear hb)
          | (go_at_call 91; (with_reducible refine (mWord_calls _ _).mono ?_); rintro e w1 ⟨rfl, rfl⟩))
        go_cut [8] (fun v8 wd => v8 = .string (mTail q x) ∧ Below w.heap.size w wd ∧ Aside0 (¬ ((x.status = 0 ∨ x.status = 7) ∧ mHas q = true)))
        case first =>
          have y0 := fun j v => blk_cells HX1.out j v
          have z0 := fun j v => blk_cells HQ1.out j v
          have g0 := y0 0 _ rfl; have g1 := y0 1 _ rfl; have g2 := y0 2 _ rfl; have g3 := y0 3 _ rfl; have g4 := y0 4 _ rfl; have g5 := y0 5 _ rfl; have g6 := y0 6 _ rfl; have g7 := y0 7 _ rfl; have g8 := y0 8 _ rfl
          have f0 := z0 0 _ rfl; have f1 := z0 1 _ rfl; have f2 := z0 2 _ rfl; have f3 := z0 3 _ rfl; have f4 := z0 4 _ rfl; have f5 := z0 5 _ rfl; have f6 := z0 6 _ rfl; have f7 := z0 7 _ rfl; have f8 := z0 8 _ rfl; have f9 := z0 9 _ rfl; have f10 := z0 10 _ rfl
          clear y0 z0 hbc hbf b0 b1 b2 b3 b4 b5 b6 b7 b8
          have HNO : Aside0 (decide (0 ≤ Lib.indexByte q.form.flags.data.toList 118) = false → Aside0 (¬ ((x.status = 0 ∨ x.status = 7) ∧ mHas q = true))) := ⟨fun h => ⟨fun h2 => by have := h2.2; unfold mHas at this; rw [h] at this; exact absurd this (by decide)⟩⟩
          have HNS : Aside0 (¬ (x.status = 0 ∨ x.status = 7) → Aside0 (¬ ((x.status = 0 ∨ x.status = 7) ∧ mHas q = true))) := ⟨fun h => ⟨fun h2 => h h2.1⟩⟩
          cases hh : decide (0 ≤ Lib.indexByte q.form.flags.data.toList 118)
          · go_wp2_with (first
              | (go_at_call 92; (with_reducible refine (Tryz.strings_IndexByte _ _ _).mono ?_); rintro e w2 ⟨rfl, rfl⟩)
              | (go_at_call 93; (with_reducible refine (mFlags_calls q x _ _ _ (kRequest.K_below (by repeat (first | (with_reducible first | exact HB.out | apply below_alloc | apply pw_below_drewN | apply below_drew1) | exact HB.out)) HQ.out) (kResult.K_below (by repeat (first | (with_reducible first | exact HB.out | apply below_alloc | apply pw_below_drewN | apply below_drew1) | exact HB.out)) HX.out) HWX.out (Tabs.below HT.out (by repeat (first | (with_reducible first | exact HB.out | apply below_alloc | apply pw_below_drewN | apply below_drew1) | exact HB.out))) HP.out hlen HTLX.out).mono ?_); rintro e w2 ⟨rfl, hb⟩; have HBn := Aside0.mk (below_step (by repeat (first | (with_reducible first | exact HB.out | apply below_alloc | apply pw_below_drewN | apply below_drew1) | exact HB.out)) hb); clear HB; have HB := HBn; clear HBn; clear hb))
            all_goals go_meet
            all_goals exact ⟨by simp_all [mTail], (by repeat (first | (with_reducible first | exact HB.out | apply below_alloc | apply pw_below_drewN | apply below_drew1) | exact HB.out)), HNO.out hh⟩
          · go_wp2_with (first
              | (go_at_call 92; (with_reducible refine (Tryz.strings_IndexByte _ _ _).mono ?_); rintro e w2 ⟨rfl, rfl⟩)
              | (go_at_call 93; (with_reducible refine (mFlags_calls q x _ _ _ (kRequest.K_below (by repeat (first | (with_reducible first | exact HB.out | apply below_alloc | apply pw_below_drewN | apply below_drew1) | exact HB.out)) HQ.out) (kResult.K_below (by repeat (first | (with_reducible first | exact HB.out | apply below_alloc | apply pw_below_drewN | apply below_drew1) | exact HB.out)) HX.out) HWX.out (Tabs.below HT.out (by repeat (first | (with_reducible first | exact HB.out | apply below_alloc | apply pw_below_drewN | apply below_drew1) | exact HB.out))) HP.out hlen HTLX.out).mono ?_); rintro e w2 ⟨rfl, hb⟩; have HBn := Aside0.mk (below_step (by repeat (first | (with_reducible first | exact HB.out | apply below_alloc | apply pw_below_drewN | apply below_drew1) | exact HB.out)) hb); clear HB; have HB := HBn; clear HBn; clear hb))
            all_goals try (go_meet; exact ⟨by simp_all [mTail], (by repeat (first | (with_reducible first | exact HB.out | apply below_alloc | apply pw_below_drewN | apply below_drew1) | exact HB.out)), HNS.out (by simp_all)⟩)
            all_goals
              clear f0 f1 f2 f3 f4 f5 f6 f7 f8 f9 f10 g0 g1 g2 g3 g4 g5 g6 g7 g8
              have hwr : IntKind.u64.wrap ((mValue x).size : Int) = (mValue x).size := by rw [IntKind.wrap_u64]; omega
              have HST : Aside0 (x.status = 0 ∨ x.status = 7) := ⟨by first | exact Or.inl (eq_of_beq (by assumption)) | exact Or.inr (eq_of_beq (by assumption))⟩
              have hS := sqx_mk HB.out HQ1.out HX1.out
              have e1 : ¬ 9223372036854775807 < 3 + (showI ((mValue x).size : Int)).size := by omega
              have e2 : ¬ 9223372036854775807 < 3 + (showI ((mValue x).size : Int)).size + (mFlags q x).size := by omega
              have e3 : ¬ 9223372036854775807 < 3 + (showI ((mValue x).size : Int)).size + (mFlags q x).size + 2 := by omega
              have e4 : ¬ 9223372036854775807 < 3 + (showI ((mValue x).size : Int)).size + (mFlags q x).size + 2 + (mValue x).size := by omega
              have e5 : ¬ 9223372036854775807 < 3 + (showI ((mValue x).size : Int)).size + (mFlags q x).size + 2 + (mValue x).size + 2 := by omega
              (refine wp_region_noPanic ?_; refine wp_region_held_drew (S := (fun w' => Aside0 (Below w.heap.size w w') ∧ Aside0 (w'.heap[w.heap.size]? = some (.cells #[.slice (some ⟨ab, ao, none⟩) mq c0, .int .i64 q.form.dialect, .string q.form.verb, .int .i64 q.form.code, .int .u32 q.form.opq, .bool bq, .bool q.form.withcas, .string q.form.flags, .slice A8 q.form.tokens.length c8, .slice A9 q.form.keys.length c9, .bool q.form.base64] 87 (0, 0))) ∧ Aside0 (w'.heap[w.heap.size + 1]? = some (.cells #[.int .i64 x.status, .slice B3 x.value.length d3, .int .u32 x.flags, .int .u64 x.cas, .int .i64 x.ttl, .int .u64 x.number, .bool x.stale, .bool x.won, .bool x.lost] 32 (0, 0))) ∧ w'.cell? ⟨w.heap.size, 0, none⟩ = some (.slice (some ⟨ab, ao, none⟩) mq c0) ∧ w'.cell? ⟨w.heap.size, 1, none⟩ = some (.int .i64 q.form.dialect) ∧ w'.cell? ⟨w.heap.size, 2, none⟩ = some (.string q.form.verb) ∧ w'.cell? ⟨w.heap.size, 3, none⟩ = some (.int .i64 q.form.code) ∧ w'.cell? ⟨w.heap.size, 4, none⟩ = some (.int .u32 q.form.opq) ∧ w'.cell? ⟨w.heap.size, 5, none⟩ = some (.bool bq) ∧ w'.cell? ⟨w.heap.size, 6, none⟩ = some (.bool q.form.withcas) ∧ w'.cell? ⟨w.heap.size, 7, none⟩ = some (.string q.form.flags) ∧ w'.cell? ⟨w.heap.size, 8, none⟩ = some (.slice A8 q.form.tokens.length c8) ∧ w'.cell? ⟨w.heap.size, 9, none⟩ = some (.slice A9 q.form.keys.length c9) ∧ w'.cell? ⟨w.heap.size, 10, none⟩ = some (.bool q.form.base64) ∧ w'.cell? ⟨w.heap.size + 1, 0, none⟩ = some (.int .i64 x.status) ∧ w'.cell? ⟨w.heap.size + 1, 1, none⟩ = some (.slice B3 x.value.length d3) ∧ w'.cell? ⟨w.heap.size + 1, 2, none⟩ = some (.int .u32 x.flags) ∧ w'.cell? ⟨w.heap.size + 1, 3, none⟩ = some (.int .u64 x.cas) ∧ w'.cell? ⟨w.heap.size + 1, 4, none⟩ = some (.int .i64 x.ttl) ∧ w'.cell? ⟨w.heap.size + 1, 5, none⟩ = some (.int .u64 x.number) ∧ w'.cell? ⟨w.heap.size + 1, 6, none⟩ = some (.bool x.stale) ∧ w'.cell? ⟨w.heap.size + 1, 7, none⟩ = some (.bool x.won) ∧ w'.cell? ⟨w.heap.size + 1, 8, none⟩ = some (.bool x.lost))) (by kernel_rfl) (by (try dsimp only); (first | assumption | exact sqx_drew hS | exact sqx_below hb (by assumption))) ?_; intro hHeld)
              (refine wpAnyH_take (i := 0) (v := ?_) (by simp only [List.getElem?_toArray, List.getElem?_cons_succ, List.getElem?_cons_zero]; rfl) (by kernel_rfl) (by kernel_rfl) (by kernel_rfl) (fun _ _ _ h => h) (Or.inl ⟨by rfl, ?_⟩) (by assumption) ?_; rotate_left; (focus (intro w hSw; (try dsimp only at hSw); go_simp; (try with_reducible rfl); done)); (try simp only [Act.put, List.setIfInBounds_toArray, List.set_cons_zero, List.set_cons_succ]))
              (refine wpAnyH_take (i := 1) (v := ?_) (by simp only [List.getElem?_toArray, List.getElem?_cons_succ, List.getElem?_cons_zero]; rfl) (by kernel_rfl) (by kernel_rfl) (by kernel_rfl) (fun _ _ _ h => h) (Or.inl ⟨by rfl, ?_⟩) (by assumption) ?_; rotate_left; (focus (intro w hSw; (try dsimp only at hSw); go_simp; (try with_reducible rfl); done)); (try simp only [Act.put, List.setIfInBounds_toArray, List.set_cons_zero, List.set_cons_succ]))
              (refine wpAnyH_take (i := 2) (v := ?_) (by simp only [List.getElem?_toArray, List.getElem?_cons_succ, List.getElem?_cons_zero]; rfl) (by kernel_rfl) (by kernel_rfl) (by kernel_rfl) (fun _ _ _ h => h) (Or.inl ⟨by rfl, ?_⟩) (by assumption) ?_; rotate_left; (focus (intro w hSw; (try dsimp only at hSw); go_simp; (try with_reducible rfl); done)); (try simp only [Act.put, List.setIfInBounds_toArray, List.set_cons_zero, List.set_cons_succ]))
              (refine wpAnyH_take (i := 5) (v := ?_) (by simp only [List.getElem?_toArray, List.getElem?_cons_succ, List.getElem?_cons_zero]; rfl) (by kernel_rfl) (by kernel_rfl) (by kernel_rfl) (fun _ _ _ h => h) (Or.inl ⟨by rfl, ?_⟩) (by assumption) ?_; rotate_left; (focus (intro w hSw; (try dsimp only at hSw); go_simp; (try with_reducible rfl); done)); (try simp only [Act.put, List.setIfInBounds_toArray, List.set_cons_zero, List.set_cons_succ]))
              (refine wpAnyH_take (i := 6) (v := ?_) (by simp only [List.getElem?_toArray, List.getElem?_cons_succ, List.getElem?_cons_zero]; rfl) (by kernel_rfl) (by kernel_rfl) (by kernel_rfl) (fun _ _ _ h => h) (Or.inl ⟨by rfl, ?_⟩) (by assumption) ?_; rotate_left; (focus (intro w hSw; (try dsimp only at hSw); go_simp; (try with_reducible rfl); done)); (try simp only [Act.put, List.setIfInBounds_toArray, List.set_cons_zero, List.set_cons_succ]))
              (refine wpAnyH_take (i := 10) (v := ?_) (by simp only [List.getElem?_toArray, List.getElem?_cons_succ, List.getElem?_cons_zero]; rfl) (by kernel_rfl) (by kernel_rfl) (by kernel_rfl) (fun _ _ _ h => h) (Or.inl ⟨by rfl, ?_⟩) (by assumption) ?_; rotate_left; (focus (intro w hSw; (try dsimp only at hSw); go_simp; (try with_reducible rfl); done)); (try simp only [Act.put, List.setIfInBounds_toArray, List.set_cons_zero, List.set_cons_succ]))
              (refine wpAnyH_ready (rs := [3]) (by kernel_rfl) (by simp) ?_; refine AllReadyH.cons (by simp only [List.getElem?_toArray, List.getElem?_cons_succ, List.getElem?_cons_zero]; rfl) (fun K hK => ?_) AllReadyH.nil; go_simp; (go_at_call 43; (with_reducible refine (show_calls _ _ (by omega) (by omega) (Tabs.below HT.out (sqx_b (by assumption)))).mono ?_); rintro e w2 ⟨rfl, hb⟩); refine hK.out _ _ (by (try dsimp only); (first | assumption | exact sqx_drew hS | exact sqx_below hb (by assumption))) ?_; clear hK K hHeld; intro hHeld; (try simp only [Act.put, List.setIfInBounds_toArray, List.set_cons_zero, List.set_cons_succ]))
              (refine wpAnyH_take (i := 4) (v := ?_) (by simp only [List.getElem?_toArray, List.getElem?_cons_succ, List.getElem?_cons_zero]; rfl) (by kernel_rfl) (by kernel_rfl) (by kernel_rfl) (fun _ _ _ h => h) (Or.inl ⟨by rfl, ?_⟩) (by assumption) ?_; rotate_left; (focus (intro w hSw; (try dsimp only at hSw); go_simp; (try with_reducible rfl); done)); (try simp only [Act.put, List.setIfInBounds_toArray, List.set_cons_zero, List.set_cons_succ]))
              (refine wpAnyH_ready (rs := [7]) (by kernel_rfl) (by simp) ?_; refine AllReadyH.cons (by simp only [List.getElem?_toArray, List.getElem?_cons_succ, List.getElem?_cons_zero]; rfl) (fun K hK => ?_) AllReadyH.nil; go_simp; (go_at_call 93; (with_reducible refine (mFlags_calls q x _ _ _ (kRequest.K_below (sqx_b (by assumption)) HQ.out) (kResult.K_below (sqx_b (by assumption)) HX.out) HWX.out (Tabs.below HT.out (sqx_b (by assumption))) HP.out hlen HTLX.out).mono ?_); rintro e w2 ⟨rfl, hb⟩); refine hK.out _ _ (by (try dsimp only); (first | assumption | exact sqx_drew hS | exact sqx_below hb (by assumption))) ?_; clear hK K hHeld; intro hHeld; (try simp only [Act.put, List.setIfInBounds_toArray, List.set_cons_zero, List.set_cons_succ]))
              (refine wpAnyH_take (i := 8) (v := ?_) (by simp only [List.getElem?_toArray, List.getElem?_cons_succ, List.getElem?_cons_zero]; rfl) (by kernel_rfl) (by kernel_rfl) (by kernel_rfl) (fun _ _ _ h => h) (Or.inl ⟨by rfl, ?_⟩) (by assumption) ?_; rotate_left; (focus (intro w hSw; (try dsimp only at hSw); go_simp; (try with_reducible rfl); done)); (try simp only [Act.put, List.setIfInBounds_toArray, List.set_cons_zero, List.set_cons_succ]))
              (refine wpAnyH_take (i := 9) (v := ?_) (by simp only [List.getElem?_toArray, List.getElem?_cons_succ, List.getElem?_cons_zero]; rfl) (by kernel_rfl) (by kernel_rfl) (by kernel_rfl) (fun _ _ _ h => h) (Or.inl ⟨by rfl, ?_⟩) (by assumption) ?_; rotate_left; (focus (intro w hSw; (try dsimp only at hSw); go_simp; (try with_reducible rfl); done)); (try simp only [Act.put, List.setIfInBounds_toArray, List.set_cons_zero, List.set_cons_succ]))
              (refine wpAnyH_take (i := 11) (v := ?_) (by simp only [List.getElem?_toArray, List.getElem?_cons_succ, List.getElem?_cons_zero]; rfl) (by kernel_rfl) (by kernel_rfl) (by kernel_rfl) (fun _ _ _ h => h) (Or.inl ⟨by rfl, ?_⟩) (by assumption) ?_; rotate_left; (focus (intro w hSw; (try dsimp only at hSw); go_simp; (try with_reducible rfl); done)); (try simp only [Act.put, List.setIfInBounds_toArray, List.set_cons_zero, List.set_cons_succ]))
              (refine wpAnyH_take (i := 12) (v := ?_) (by simp only [List.getElem?_toArray, List.getElem?_cons_succ, List.getElem?_cons_zero]; rfl) (by kernel_rfl) (by kernel_rfl) (by kernel_rfl) (fun _ _ _ h => h) (Or.inl ⟨by rfl, ?_⟩) (by assumption) ?_; rotate_left; (focus (intro w hSw; (try dsimp only at hSw); go_simp; (try with_reducible rfl); done)); (try simp only [Act.put, List.setIfInBounds_toArray, List.set_cons_zero, List.set_cons_succ]))
              (refine wpAnyH_ready (rs := [13]) (by kernel_rfl) (by simp) ?_; refine AllReadyH.cons (by simp only [List.getElem?_toArray, List.getElem?_cons_succ, List.getElem?_cons_zero]; rfl) (fun K hK => ?_) AllReadyH.nil; go_simp; (refine upon_bytes 9 22 5 _ Tryz.underlying9 Tryz.underlying22 Tryz.underlying5 ?_ ?_; (case _ => simp only [ByteArray.size_append]; show 3 + _ + _ + 2 + _ + 2 ≤ _; omega); intro A c w3 hc3 hC3 hb; have HC3 := Aside0.mk (And.intro hc3 hC3); clear hc3 hC3); refine hK.out _ _ (by (try dsimp only); (first | assumption | exact sqx_drew hS | exact sqx_below hb (by assumption))) ?_; clear hK K hHeld; intro hHeld; (try simp only [Act.put, List.setIfInBounds_toArray, List.set_cons_zero, List.set_cons_succ]))
              (refine wpAnyH_take (i := 14) (v := ?_) (by simp only [List.getElem?_toArray, List.getElem?_cons_succ, List.getElem?_cons_zero]; rfl) (by kernel_rfl) (by kernel_rfl) (by kernel_rfl) (fun _ _ _ h => h) (Or.inl ⟨by rfl, ?_⟩) (by assumption) ?_; rotate_left; (focus (intro w hSw; (try dsimp only at hSw); go_simp; (try with_reducible rfl); done)); (try simp only [Act.put, List.setIfInBounds_toArray, List.set_cons_zero, List.set_cons_succ]))
              (refine wpAnyH_done (by kernel_rfl) ?_ _; refine NoPanic.normal ?_)
              go_wp2
              go_ret
              rw [mOne_full HBQ.out hno.out HST.out hh]
              exact ⟨A, c, rfl, HC3.out.1, HC3.out.2, below_step hHeld.1.out (Below.refl _ _)⟩
        case rest =>
          obtain ⟨rfl, hbw, hnf⟩ := hcut
          clear b0 b1 b2 b3 b4 b5 b6 b7 b8
          have hT2 := mTail_size q x HTLX.out hlen
          by_cases hz : mTail q x = (⟨#[]⟩ : ByteArray)
          · have hzb : (mTail q x).toList.isEmpty = true := (bs_nil _).2 hz
            go_wp2
            go_ret
            rw [mOne_none HBQ.out hno.out hnf.out hz]
            exact retNone (Below.trans (by assumption) (Below.refl _ _))
          · have hzb : (mTail q x).toList.isEmpty = false := Bool.eq_false_iff.2 (fun h => hz ((bs_nil _).1 h))
            have HZ := Aside0.mk hz
            clear hz
            go_wp2
            refine upon_bytes 9 22 5 _ Tryz.underlying9 Tryz.underlying22 Tryz.underlying5 ?_ ?_
            · rw [ByteArray.size_append]
              show _ + 2 ≤ _
              omega
            intro A c w3 hc3 hC3 hb
            have HC3 := Aside0.mk (And.intro hc3 hC3)
            clear hc3 hC3
            go_wp2
            go_ret
            rw [mOne_line HBQ.out hno.out hnf.out HZ.out]
            exact ⟨A, c, rfl, HC3.out.1, HC3.out.2, below_step hbw hb⟩
end Go.Proofs.YtamndkiagenfnaaGreatDoor.X
namespace Go.Proofs.YtamndkiagenfnaaGreatDoor.X
open Go.RowKit Go.Proofs.YtamndkiagenfnaaGreatDoorW.PrintWords Go.Proofs.YtamndkiagenfnaaGreatDoorW.PrintMore
set_option linter.unusedVariables false
set_option linter.unusedSimpArgs false
def awC : Cmd := { zCmd with op := 8, key := (⟨#[107]⟩ : ByteArray) }
def awX : Result := { zResult with status := 5 }
def awQ : Request := ⟨[awC], { zForm with dialect := 3, code := 4, withcas := true }⟩
theorem awC_K (w : World) : kCmd.K w awC (#[.int .i64 8, .string (⟨#[107]⟩ : ByteArray), .slice none 0 0, .int .u32 0, .int .i64 0, .int .u64 0, .int .u64 0, .int .u64 0, .bool false, .bool false] : Array Value).toList := kCmd_mk w awC (Nat.le_refl _) (C_nil _ _)
theorem awX_K (w : World) : kResult.K w awX (#[.int .i64 5, .slice none 0 0, .int .u32 0, .int .u64 0, .int .i64 0, .int .u64 0, .bool false, .bool false, .bool false] : Array Value).toList := kResult_mk w awX (Nat.le_refl _) (C_nil _ _)
theorem awEnc : mEncode awQ [awX] = awR := by kernel_rfl
theorem aw_told (c i : Int) : (mTold awQ awX c i).1.size ≤ 1000 := by
  have ha : (atS ([] : List ByteArray) i).size ≤ 1000 := by unfold atS; simp; decide
  have hb : (atS ([] : List ByteArray) 0).size ≤ 1000 := by decide
  have hs : ∀ n : Int, n ≤ 18446744073709551615 → (showI n).size ≤ 1000 := fun n hn => Nat.le_trans (showI_size n hn) (by decide)
  unfold mTold
  repeat' split
  all_goals first | exact ha | exact hb | exact hs _ (by decide) | decide
theorem awX_Wf : awX.Wf := ⟨by decide, ⟨by decide, by decide⟩, by decide, by decide, by decide, by decide⟩
theorem aw_encode (b1 b2 : Nat) (w : World) (hT : Tabs w) (h1 : w.heap[b1]? = some (.cells #[.int .i64 8, .string (⟨#[107]⟩ : ByteArray), .slice none 0 0, .int .u32 0, .int .i64 0, .int .u64 0, .int .u64 0, .int .u64 0, .bool false, .bool false] 26 (0, 0))) (h2 : w.heap[b2]? = some (.cells #[.int .i64 5, .slice none 0 0, .int .u32 0, .int .u64 0, .int .i64 0, .int .u64 0, .bool false, .bool false, .bool false] 32 (0, 0))) :
    Calls Tryz.prog 63 #[.agg #[.slice (some ⟨b1, 0, none⟩) 1 1, .int .i64 3, .string ⟨#[]⟩, .int .i64 4, .int .u32 0, .bool false, .bool true, .string ⟨#[]⟩, .slice none 0 0, .slice none 0 0, .bool false], .slice (some ⟨b2, 0, none⟩) 1 1] w fun e w' => ∃ A c, e = .returned (.slice A 4 c) ∧ 4 ≤ c ∧ Bytes w' A awR ∧ Below w.heap.size w w' := by
  have := mEncode_calls awQ [awX] (#[.slice (some ⟨b1, 0, none⟩) 1 1, .int .i64 3, .string ⟨#[]⟩, .int .i64 4, .int .u32 0, .bool false, .bool true, .string ⟨#[]⟩, .slice none 0 0, .slice none 0 0, .bool false] : Array Value).toList (some ⟨b2, 0, none⟩) 1 w (kRequest_mk w awQ (A0 := some ⟨b1, 0, none⟩) (c0 := 1) (Nat.le_refl _) (C_blk1 (awC_K w) h1) (Nat.le_refl _) (C_nil _ _) (Nat.le_refl _) (C_nil _ _)) (Nat.le_refl _) (C_blk1 (awX_K w) h2)
    (fun x hx => by rw [List.mem_singleton.1 hx]; exact awX_Wf) hT (fun c hc => by cases hc) (by decide) (fun x hx => by rw [List.mem_singleton.1 hx]; exact aw_told) (fun x hx => by rw [List.mem_singleton.1 hx]; decide)
  refine this.mono ?_
  rw [awEnc]
  rintro e w' ⟨A, c, rfl, hc, hb, hbl⟩
  exact ⟨A, c, rfl, hc, hb, hbl⟩
set_option maxRecDepth 100000 in
set_option maxHeartbeats 2000000 in
theorem answer_calls (w : World) (hT : Tabs w) :
    Calls Tryz.prog 33 #[.int .i64 3, .agg #[.int .i64 8, .string (⟨#[107]⟩ : ByteArray), .slice none 0 0, .int .u32 0, .int .i64 0, .int .u64 0, .int .u64 0, .int .u64 0, .bool false, .bool false], .agg #[.int .i64 5, .slice none 0 0, .int .u32 0, .int .u64 0, .int .i64 0, .int .u64 0, .bool false, .bool false, .bool false]] w fun e w' => ∃ A c, e = .returned (.slice A 4 c) ∧ 4 ≤ c ∧ Bytes w' A awR ∧ Below w.heap.size w w' := by
  have HB := Aside0.mk (Below.refl w.heap.size w)
  have HT := Aside0.mk hT
  clear hT
  go_enter Tryz.func33, Tryz.ntmps33
  go_wp2_with (first | (go_at_call 19; (with_reducible refine (script_of.calls 8 _ _ _ _ _ _ rfl).mono ?_); rintro e w1 ⟨rfl, hb⟩; have BX := Aside0.mk (blk_below (g := w.heap.size) (o := .cells #[.int .i64 8, .string (⟨#[107]⟩ : ByteArray), .slice none 0 0, .int .u32 0, .int .i64 0, .int .u64 0, .int .u64 0, .int .u64 0, .bool false, .bool false] 26 (0, 0)) (by repeat (first | exact blk_at_new _ _ _ (by simp; done) | exact blk_at_new _ _ _ rfl | refine blk_alloc ?_ _ | refine blk_drew ?_ | refine blk_drewN ?_ _)) hb); have BY := Aside0.mk (blk_below (g := w.heap.size + 1) (o := .cells #[.int .i64 5, .slice none 0 0, .int .u32 0, .int .u64 0, .int .i64 0, .int .u64 0, .bool false, .bool false, .bool false] 32 (0, 0)) (by repeat (first | exact blk_at_new _ _ _ (by simp; done) | exact blk_at_new _ _ _ rfl | refine blk_alloc ?_ _ | refine blk_drew ?_ | refine blk_drewN ?_ _)) hb); have HBn := Aside0.mk (below_step (by repeat (first | (with_reducible first | exact HB.out | apply below_alloc | apply pw_below_drewN | apply below_drew1) | exact HB.out)) hb); clear HB; have HB := HBn; clear HBn; clear hb; have l1 : w.heap.size < w1.heap.size := blk_lt BX.out; have l2 : w.heap.size < w1.heap.size + 1 := (by omega); have l3 : w.heap.size < w1.heap.size + 1 + 1 := (by omega); have l4 : w.heap.size < w1.heap.size + 1 + 1 + 1 := (by omega); have t0 : w1.cell? ⟨w.heap.size, 0, none⟩ = some (.int .i64 8) := (blk_cell BX.out 0).trans rfl) | (refine wpList_load_row rfl 26 _ rfl w.heap.size rfl 26 _ (0, 0) _ (by repeat (first | exact BX.out | refine blk_alloc ?_ _)) Tryz.underlying26 rfl (by kernel_rfl) ?_) | (refine wpList_load_row rfl 32 _ rfl (w.heap.size + 1) rfl 32 _ (0, 0) _ (by repeat (first | exact BY.out | refine blk_alloc ?_ _)) Tryz.underlying32 rfl (by kernel_rfl) ?_) | (go_at_call 46; (with_reducible refine (script_reckons.calls 8 false _ rfl).mono ?_); rintro e w2 ⟨rfl, hd⟩; have hb := hd.below; have BC := Aside0.mk (blk_below (g := w1.heap.size + 1) (o := .cells #[.int .i64 8, .string (⟨#[107]⟩ : ByteArray), .slice none 0 0, .int .u32 0, .int .i64 0, .int .u64 0, .int .u64 0, .int .u64 0, .bool false, .bool false] 26 (0, 0)) (by repeat (first | exact blk_at_new _ _ _ (by simp; done) | exact blk_at_new _ _ _ rfl | refine blk_alloc ?_ _ | refine blk_drew ?_ | refine blk_drewN ?_ _)) hb); have BQ := Aside0.mk (blk_below (g := w1.heap.size + 1 + 1) (o := .cells #[.slice (some ⟨w1.heap.size + 1, 0, none⟩) 1 1, .int .i64 3, .string ⟨#[]⟩, .int .i64 4, .int .u32 0, .bool false, .bool true, .string ⟨#[]⟩, .slice none 0 0, .slice none 0 0, .bool false] 87 (0, 0)) (by repeat (first | exact blk_at_new _ _ _ (by simp; done) | exact blk_at_new _ _ _ rfl | refine blk_alloc ?_ _ | refine blk_drew ?_ | refine blk_drewN ?_ _)) hb); have BZ := Aside0.mk (blk_below (g := w1.heap.size + 1 + 1 + 1) (o := .cells #[.int .i64 5, .slice none 0 0, .int .u32 0, .int .u64 0, .int .i64 0, .int .u64 0, .bool false, .bool false, .bool false] 32 (0, 0)) (by repeat (first | exact blk_at_new _ _ _ (by simp; done) | exact blk_at_new _ _ _ rfl | refine blk_alloc ?_ _ | refine blk_drew ?_ | refine blk_drewN ?_ _)) hb); have HBn := Aside0.mk (below_step (by repeat (first | (with_reducible first | exact HB.out | apply below_alloc | apply pw_below_drewN | apply below_drew1) | exact HB.out)) hb); clear HB; have HB := HBn; clear HBn; clear hb hd t0 l1 l2 l3 l4) | (refine wpList_load_row rfl 87 _ rfl (w1.heap.size + 1 + 1) rfl 87 _ (0, 0) _ BQ.out Tryz.underlying87 rfl (by kernel_rfl) ?_) | (go_at_call 63; (with_reducible refine (aw_encode (w1.heap.size + 1) (w1.heap.size + 1 + 1 + 1) _ (Tabs.below HT.out (by repeat (first | (with_reducible first | exact HB.out | apply below_alloc | apply pw_below_drewN | apply below_drew1) | exact HB.out))) BC.out BZ.out).mono ?_); rintro e w3 ⟨A3, c3, rfl, hc3, hby, hb⟩; have HBY := Aside0.mk hby; have HC3 := Aside0.mk hc3; have HBn := Aside0.mk (below_step (by repeat (first | (with_reducible first | exact HB.out | apply below_alloc | apply pw_below_drewN | apply below_drew1) | exact HB.out)) hb); clear HB; have HB := HBn; clear HBn; clear hby hb hc3))
  go_ret
  exact ⟨A3, c3, rfl, HC3.out, HBY.out, (by repeat (first | (with_reducible first | exact HB.out | apply below_alloc | apply pw_below_drewN | apply below_drew1) | exact HB.out))⟩
end Go.Proofs.YtamndkiagenfnaaGreatDoor.X
namespace Go.Proofs.YtamndkiagenfnaaGreatDoor.X
open Go.RowKit Go.Proofs.YtamndkiagenfnaaGreatDoorW.PrintWords Go.Proofs.YtamndkiagenfnaaGreatDoorW.PrintMore
set_option linter.unusedVariables false
set_option linter.unusedSimpArgs false
def plainC (s : Int) (V : Value) (f k m : Int) : Array Value := if s = 0 then #[.int .i64 0, V, .int .u32 f, .int .u64 k, .int .i64 0, .int .u64 0, .bool false, .bool false, .bool false] else if s = 7 then #[.int .i64 7, .slice none 0 0, .int .u32 0, .int .u64 0, .int .i64 0, .int .u64 m, .bool false, .bool false, .bool false] else #[.int .i64 s, .slice none 0 0, .int .u32 0, .int .u64 0, .int .i64 0, .int .u64 0, .bool false, .bool false, .bool false]
set_option maxRecDepth 100000 in
set_option maxHeartbeats 2000000 in
theorem plain_no (s f k t m : Int) (A : Option Addr) (n c : Nat) (b1 b2 b3 : Bool) (w : World) (h0 : s ≠ 0) :
    Calls Tryz.prog 17 #[.agg #[.int .i64 s, .slice A n c, .int .u32 f, .int .u64 k, .int .i64 t, .int .u64 m, .bool b1, .bool b2, .bool b3]] w fun e w' => e = .returned (.agg (plainC s (.slice A n c) f k m)) ∧ Below w.heap.size w w' := by
  have HB := Aside0.mk (Below.refl w.heap.size w)
  unfold plainC
  rw [if_neg h0]
  have hb0 : (s == 0) = false := beq_eq_false_iff_ne.2 h0
  by_cases h7 : s = 7
  · rw [if_pos h7]
    subst h7
    clear h0
    go_enter Tryz.func17, Tryz.ntmps17
    go_wp2
    ((try simp only [Exit.inBlock, Exit.then]); refine bodyPost_ret (results_cell_row rfl _ _ (w.heap.size + 1) 32 _ (0, 0) _ rfl (blk_alloc (blk_at_new _ _ _ (by simp)) _) Tryz.underlying32 rfl (by kernel_rfl)) rfl ?_)
    exact ⟨rfl, (by repeat (first | (with_reducible first | exact HB.out | apply below_alloc | apply pw_below_drewN | apply below_drew1) | exact HB.out))⟩
  · rw [if_neg h7]
    have hb7 : (s == 7) = false := beq_eq_false_iff_ne.2 h7
    clear h0 h7
    go_enter Tryz.func17, Tryz.ntmps17
    go_wp2
    ((try simp only [Exit.inBlock, Exit.then]); refine bodyPost_ret (results_cell_row rfl _ _ (w.heap.size + 1) 32 _ (0, 0) _ rfl (blk_alloc (blk_at_new _ _ _ (by simp)) _) Tryz.underlying32 rfl (by kernel_rfl)) rfl ?_)
    exact ⟨rfl, (by repeat (first | (with_reducible first | exact HB.out | apply below_alloc | apply pw_below_drewN | apply below_drew1) | exact HB.out))⟩
set_option maxRecDepth 100000 in
set_option maxHeartbeats 2000000 in
theorem rplain_calls (s f k t m : Int) (A : Option Addr) (n c : Nat) (b1 b2 b3 : Bool) (w : World) :
    Calls Tryz.prog 18 #[.agg #[.int .i64 s, .slice A n c, .int .u32 f, .int .u64 k, .int .i64 t, .int .u64 m, .bool b1, .bool b2, .bool b3]] w fun e w' => e = .returned (.agg (plainC s (.slice A n c) f k m)) ∧ Below w.heap.size w w' := by
  have HB := Aside0.mk (Below.refl w.heap.size w)
  unfold plainC
  by_cases h0 : s = 0
  · rw [if_pos h0]
    subst h0
    go_enter Tryz.func18, Tryz.ntmps18
    go_wp2
    ((try simp only [Exit.inBlock, Exit.then]); refine bodyPost_ret (results_cell_row rfl _ _ (w.heap.size + 1) 32 _ (0, 0) _ rfl (by repeat (first | exact blk_at_new _ _ _ (by simp; done) | exact blk_at_new _ _ _ rfl | refine blk_alloc ?_ _ | refine blk_drew ?_ | refine blk_drewN ?_ _)) Tryz.underlying32 rfl (by kernel_rfl)) rfl ?_)
    exact ⟨rfl, (by repeat (first | (with_reducible first | exact HB.out | apply below_alloc | apply pw_below_drewN | apply below_drew1) | exact HB.out))⟩
  rw [if_neg h0]
  have hb0 : (s == 0) = false := beq_eq_false_iff_ne.2 h0
  by_cases h7 : s = 7
  · rw [if_pos h7]
    subst h7
    clear h0
    go_enter Tryz.func18, Tryz.ntmps18
    go_wp2
    ((try simp only [Exit.inBlock, Exit.then]); refine bodyPost_ret (results_cell_row rfl _ _ (w.heap.size + 1) 32 _ (0, 0) _ rfl (by repeat (first | exact blk_at_new _ _ _ (by simp; done) | exact blk_at_new _ _ _ rfl | refine blk_alloc ?_ _ | refine blk_drew ?_ | refine blk_drewN ?_ _)) Tryz.underlying32 rfl (by kernel_rfl)) rfl ?_)
    exact ⟨rfl, (by repeat (first | (with_reducible first | exact HB.out | apply below_alloc | apply pw_below_drewN | apply below_drew1) | exact HB.out))⟩
  · rw [if_neg h7]
    have hb7 : (s == 7) = false := beq_eq_false_iff_ne.2 h7
    clear h0 h7
    go_enter Tryz.func18, Tryz.ntmps18
    go_wp2
    ((try simp only [Exit.inBlock, Exit.then]); refine bodyPost_ret (results_cell_row rfl _ _ (w.heap.size + 1) 32 _ (0, 0) _ rfl (by repeat (first | exact blk_at_new _ _ _ (by simp; done) | exact blk_at_new _ _ _ rfl | refine blk_alloc ?_ _ | refine blk_drew ?_ | refine blk_drewN ?_ _)) Tryz.underlying32 rfl (by kernel_rfl)) rfl ?_)
    exact ⟨rfl, (by repeat (first | (with_reducible first | exact HB.out | apply below_alloc | apply pw_below_drewN | apply below_drew1) | exact HB.out))⟩
end Go.Proofs.YtamndkiagenfnaaGreatDoor.X
namespace Go.Proofs.YtamndkiagenfnaaGreatDoor.X
open Go.RowKit Go.Proofs.YtamndkiagenfnaaGreatDoorW.PrintWords Go.Proofs.YtamndkiagenfnaaGreatDoorW.PrintMore
set_option linter.unusedVariables false
set_option linter.unusedSimpArgs false

def joinB (ws : List ByteArray) : ByteArray := ⟨(Lib.join (ws.map (·.data.toList)) [32]).toArray⟩
def okW (ws : List ByteArray) : Bool := decide (ws.length ≤ 10) && ws.all fun s => decide (s.size ≤ 4000)
def script_line.f (ws : List ByteArray) : Option ByteArray := if okW ws = true then some (joinB ws ++ (⟨#[13, 10]⟩ : ByteArray)) else none
theorem joinTail_len : ∀ (r : List (List UInt8)), (∀ s ∈ r, s.length ≤ 4000) → (Lib.joinTail [32] r).length ≤ r.length * 4001
  | [], _ => by simp [Lib.joinTail]
  | s :: r, h => by
    have ih := joinTail_len r (fun t ht => h t (List.mem_cons_of_mem _ ht))
    have hs := h s (by simp)
    unfold Lib.joinTail at ih ⊢
    simp only [List.map_cons, List.flatten_cons, List.length_append, List.length_cons, List.length_nil] at ih ⊢
    omega
theorem join_len (ws : List ByteArray) (h : okW ws = true) : (Lib.join (ws.map (·.data.toList)) [32]).length ≤ 50000 := by
  unfold okW at h
  rw [Bool.and_eq_true, decide_eq_true_eq, List.all_eq_true] at h
  cases ws with
  | nil => simp [Lib.join_nil]
  | cons x r =>
    rw [List.map_cons, Lib.join_cons, List.length_append]
    have h1 := of_decide_eq_true (h.2 x (by simp))
    have h2 := joinTail_len (r.map (·.data.toList)) (fun s hs => by
      obtain ⟨t, ht, rfl⟩ := List.mem_map.1 hs
      have := of_decide_eq_true (h.2 t (List.mem_cons_of_mem _ ht))
      rw [Array.length_toList]
      exact this)
    have h3 := h.1
    rw [List.length_map] at h2
    rw [List.length_cons] at h3
    have h4 : x.data.toList.length = x.size := by rw [Array.length_toList]; rfl
    omega
theorem joinB_size (ws : List ByteArray) (h : okW ws = true) : (joinB ws).size ≤ 50000 := by
  have := join_len ws h
  unfold joinB ByteArray.size
  simpa using this
theorem S_cells {W : World} {b o : Nat} {xs : List ByteArray} (h : Kd.string.C W (some ⟨b, o, none⟩) xs.length xs) (hx : 0 < xs.length) : ∀ (j : Nat) x, xs[j]? = some x → W.cell? ⟨b, o + j, none⟩ = some (.string x) := fun j x hj => by
  obtain ⟨ad, e, hc⟩ := h.2.2 hx
  obtain rfl := Option.some.inj e
  obtain ⟨cs, hl, hK, hcell⟩ := hc j x hj
  obtain rfl := hK
  have h1 := hcell 0 _ rfl
  rw [show Kd.string.sz = 1 from rfl, Nat.mul_one, Nat.add_zero] at h1
  have ha : (⟨b, o, none⟩ : Addr).add j = ⟨b, o + j, none⟩ := by
    unfold Addr.add
    split <;> simp_all
  rwa [ha] at h1
set_option maxRecDepth 100000 in
theorem script_line.calls (A : Option Addr) (c : Nat) (ws : List ByteArray) (r : ByteArray) (w : World) (hC : Kd.C Kd.string w A ws.length ws) (hc : ws.length ≤ c) (h : script_line.f ws = some r) :
    Calls Tryz.prog 45 #[.slice A ws.length c] w fun e w' => e = .returned (.string r) ∧ Below w.heap.size w w' := by
  unfold script_line.f at h
  split at h
  · next hok =>
    obtain rfl := Option.some.inj h
    have hjl := join_len ws hok
    have hjs := joinB_size ws hok
    have hok' := hok
    unfold okW at hok'
    rw [Bool.and_eq_true, decide_eq_true_eq] at hok'
    have hl10 := hok'.1
    have hcall : Calls Tryz.prog 75 #[.slice A ws.length c, .string (⟨#[32]⟩ : ByteArray)] w fun e w' => e = .returned (.string (joinB ws)) ∧ Below w.heap.size w w' := by
      cases ws with
      | nil =>
        refine (Tryz.strings_Join_none A c (⟨#[32]⟩ : ByteArray) w).mono ?_
        rintro e w' ⟨rfl, rfl⟩
        exact ⟨rfl, Below.refl _ _⟩
      | cons x xs =>
        have h0 : 0 < (x :: xs).length := by simp
        obtain ⟨ad, rfl, hc1⟩ := hC.2.2 h0
        obtain ⟨cs, hcl, hK, hcell⟩ := hc1 0 x rfl
        obtain rfl := hK
        obtain ⟨bb, bo, e, hbb⟩ := addr_plain (hcell 0 _ rfl)
        obtain ⟨ab, ao, s⟩ := ad
        rw [show Kd.string.sz = 1 from rfl, Nat.zero_mul, Nat.zero_add, Addr.add_zero'] at e
        have hs : s = none := by injection e
        subst hs
        have hbk : ab < w.heap.size := World.block_lt_of_cell? _ _ (S_cells hC h0 0 x rfl)
        exact Tryz.strings_Join ab ao c (x :: xs) (⟨#[32]⟩ : ByteArray) w (S_cells hC h0) hbk (by omega) hc (by exact Nat.le_trans hjl (by omega))
    have HC := Aside0.mk hcall
    clear hcall hjl hok' hok hC
    go_enter Tryz.func45, Tryz.ntmps45
    go_wp2_with (go_at_call 75; (with_reducible refine HC.out.mono ?_); rintro e w1 ⟨rfl, hb⟩)
    go_ret
    exact ⟨rfl, by assumption⟩
  · cases h
end Go.Proofs.YtamndkiagenfnaaGreatDoor.X
namespace Go.Proofs.YtamndkiagenfnaaGreatDoor.X
open Go.RowKit Go.Proofs.YtamndkiagenfnaaGreatDoorW.PrintWords Go.Proofs.YtamndkiagenfnaaGreatDoorW.PrintLast Go.Proofs.YtamndkiagenfnaaGreatDoorW.PrintMore
attribute [local go_sem] max2_int min2_int max_two min_two max_three min_three max_four min_four
set_option linter.unusedVariables false
set_option linter.unusedSimpArgs false

/-! ### script_text -/
def script_text.f (a0_0 : ByteArray) (a0_1 : Int) (a0_2 : ByteArray) (a0_3 : ByteArray) (a1_0 : Int) (a1_1 : ByteArray) (l1_2 : List Int) (a1_3 : Int) (a1_4 : Int) (a1_5 : Int) (a1_6 : Int) (a1_7 : Int) (a1_8 : Bool) (a1_9 : Bool) : Option (ByteArray) := (num_Show.f (IntKind.u64.wrap ((l1_2.length : Int)))).bind fun t133 => ((script_whole.f a1_0).bind fun t134 => (if t134 = true then ((num_Show.f (IntKind.u64.wrap (a1_3))).bind fun t135 => ((num_Show.f (IntKind.u64.wrap (a1_4))).bind fun t136 => ((script_line.f (([a0_0, a1_1, t135, t136, t133] : List ByteArray))).bind fun t140 => (some t140)))) else ((script_stores.f a1_0).bind fun t141 => (if t141 = true then ((script_line.f (([a0_0, a1_1, (⟨#[48]⟩ : ByteArray), (⟨#[48]⟩ : ByteArray), t133] : List ByteArray))).bind fun t145 => (some t145)) else ((script_reckons.f a1_0).bind fun t146 => (if t146 = true then ((num_Show.f a1_6).bind fun t147 => ((script_line.f (([a0_0, a1_1, t147] : List ByteArray))).bind fun t151 => (some t151))) else ((script_line.f (([a0_0, a1_1] : List ByteArray))).bind fun t155 => (some t155))))))))
def script_text.T3 : Bool × List (List Nat × List Nat) := (true, [([], []), ([0], [0]), ([], []), ([2], [2]), ([], []), ([4], [4]), ([5], [5]), ([6], [6]), ([], []), ([8], [8]), ([9], [9]), ([10, 7], [10]), ([], []), ([1, 3, 7, 11, 12], [1, 3, 7, 11, 12]), ([13, 11], [13]), ([14, 14, 0, 1, 2, 3, 4, 5, 6, 7, 8, 9, 10, 11, 12, 13, 14], [14])])
def script_text.B3 : List Nat := [0, 1, 0, 4, 0, 16, 48, 112, 0, 256, 768, 2032, 0, 8191, 16383, 32767]
theorem script_text.tab3 : rtab .any (opsOf Tryz.f23 3) = script_text.T3 := by kernel_rfl
theorem script_text.bits3 : waitsOk script_text.T3.2 script_text.B3 = true := by kernel_rfl
def script_text.T7 : Bool × List (List Nat × List Nat) := (true, [([], []), ([0], [0]), ([], []), ([2], [2]), ([], []), ([4], [4]), ([5], [5]), ([1, 3, 6], [1, 3, 6]), ([7, 6], [7]), ([8, 8, 0, 1, 2, 3, 4, 5, 6, 7, 8], [8])])
def script_text.B7 : List Nat := [0, 1, 0, 4, 0, 16, 48, 127, 255, 511]
theorem script_text.tab7 : rtab .any (opsOf Tryz.f23 7) = script_text.T7 := by kernel_rfl
theorem script_text.bits7 : waitsOk script_text.T7.2 script_text.B7 = true := by kernel_rfl
set_option maxHeartbeats 8000000 in
set_option maxRecDepth 100000 in
theorem script_text.calls (a0_0 : ByteArray) (a0_1 : Int) (a0_2 : ByteArray) (a0_3 : ByteArray) (a1_0 : Int) (a1_1 : ByteArray) (A1_2 : Option Addr) (c1_2 : Nat) (l1_2 : List Int) (a1_3 : Int) (a1_4 : Int) (a1_5 : Int) (a1_6 : Int) (a1_7 : Int) (a1_8 : Bool) (a1_9 : Bool) (r : ByteArray) (w : World) (hr1_2 : Kd.C (Kd.int .u8) w A1_2 l1_2.length l1_2) (hc1_2 : l1_2.length ≤ c1_2) (hT : Tabs w) (h : script_text.f a0_0 a0_1 a0_2 a0_3 a1_0 a1_1 l1_2 a1_3 a1_4 a1_5 a1_6 a1_7 a1_8 a1_9 = some r) :
    Calls Tryz.prog 23 #[.agg #[.string a0_0, .int .u8 a0_1, .string a0_2, .string a0_3], .agg #[.int .i64 a1_0, .string a1_1, .slice A1_2 l1_2.length c1_2, .int .u32 a1_3, .int .i64 a1_4, .int .u64 a1_5, .int .u64 a1_6, .int .u64 a1_7, .bool a1_8, .bool a1_9]] w fun e w' => e = .returned (.string r) ∧ Below w.heap.size w w' := by
  have hu41 := Tryz.underlying41
  have hu26 := Tryz.underlying26
  have HT := Aside0.mk hT
  clear hT
  have HR1_2 := Aside0.mk hr1_2
  have HC1_2 := Aside0.mk hc1_2
  clear hr1_2 hc1_2
  have HB := Aside0.mk (Below.refl w.heap.size w)
  have H : ((num_Show.f (IntKind.u64.wrap ((l1_2.length : Int)))).bind fun t133 => ((script_whole.f a1_0).bind fun t134 => (if t134 = true then ((num_Show.f (IntKind.u64.wrap (a1_3))).bind fun t135 => ((num_Show.f (IntKind.u64.wrap (a1_4))).bind fun t136 => ((script_line.f (([a0_0, a1_1, t135, t136, t133] : List ByteArray))).bind fun t140 => (some t140)))) else ((script_stores.f a1_0).bind fun t141 => (if t141 = true then ((script_line.f (([a0_0, a1_1, (⟨#[48]⟩ : ByteArray), (⟨#[48]⟩ : ByteArray), t133] : List ByteArray))).bind fun t145 => (some t145)) else ((script_reckons.f a1_0).bind fun t146 => (if t146 = true then ((num_Show.f a1_6).bind fun t147 => ((script_line.f (([a0_0, a1_1, t147] : List ByteArray))).bind fun t151 => (some t151))) else ((script_line.f (([a0_0, a1_1] : List ByteArray))).bind fun t155 => (some t155))))))))) = some r := h
  clear h
  replace H := Option.bind_eq_some_iff.mp H
  obtain ⟨t133, A30, H⟩ := H
  replace H : ((script_whole.f a1_0).bind fun t134 => (if t134 = true then ((num_Show.f (IntKind.u64.wrap (a1_3))).bind fun t135 => ((num_Show.f (IntKind.u64.wrap (a1_4))).bind fun t136 => ((script_line.f (([a0_0, a1_1, t135, t136, t133] : List ByteArray))).bind fun t140 => (some t140)))) else ((script_stores.f a1_0).bind fun t141 => (if t141 = true then ((script_line.f (([a0_0, a1_1, (⟨#[48]⟩ : ByteArray), (⟨#[48]⟩ : ByteArray), t133] : List ByteArray))).bind fun t145 => (some t145)) else ((script_reckons.f a1_0).bind fun t146 => (if t146 = true then ((num_Show.f a1_6).bind fun t147 => ((script_line.f (([a0_0, a1_1, t147] : List ByteArray))).bind fun t151 => (some t151))) else ((script_line.f (([a0_0, a1_1] : List ByteArray))).bind fun t155 => (some t155)))))))) = some r := H
  have A3 := Aside0.mk A30
  clear A30
  replace H := Option.bind_eq_some_iff.mp H
  obtain ⟨t134, A40, H⟩ := H
  replace H : (if t134 = true then ((num_Show.f (IntKind.u64.wrap (a1_3))).bind fun t135 => ((num_Show.f (IntKind.u64.wrap (a1_4))).bind fun t136 => ((script_line.f (([a0_0, a1_1, t135, t136, t133] : List ByteArray))).bind fun t140 => (some t140)))) else ((script_stores.f a1_0).bind fun t141 => (if t141 = true then ((script_line.f (([a0_0, a1_1, (⟨#[48]⟩ : ByteArray), (⟨#[48]⟩ : ByteArray), t133] : List ByteArray))).bind fun t145 => (some t145)) else ((script_reckons.f a1_0).bind fun t146 => (if t146 = true then ((num_Show.f a1_6).bind fun t147 => ((script_line.f (([a0_0, a1_1, t147] : List ByteArray))).bind fun t151 => (some t151))) else ((script_line.f (([a0_0, a1_1] : List ByteArray))).bind fun t155 => (some t155))))))) = some r := H
  have A4 := Aside0.mk A40
  clear A40
  by_cases c5 : t134 = true
  · subst c5
    have H1 : ((num_Show.f (IntKind.u64.wrap (a1_3))).bind fun t135 => ((num_Show.f (IntKind.u64.wrap (a1_4))).bind fun t136 => ((script_line.f (([a0_0, a1_1, t135, t136, t133] : List ByteArray))).bind fun t140 => (some t140)))) = some r := by rw [if_pos rfl] at H; exact H
    clear H
    have H := H1
    clear H1
    replace H := Option.bind_eq_some_iff.mp H
    obtain ⟨t135, A60, H⟩ := H
    replace H : ((num_Show.f (IntKind.u64.wrap (a1_4))).bind fun t136 => ((script_line.f (([a0_0, a1_1, t135, t136, t133] : List ByteArray))).bind fun t140 => (some t140))) = some r := H
    have A6 := Aside0.mk A60
    clear A60
    replace H := Option.bind_eq_some_iff.mp H
    obtain ⟨t136, A70, H⟩ := H
    replace H : ((script_line.f (([a0_0, a1_1, t135, t136, t133] : List ByteArray))).bind fun t140 => (some t140)) = some r := H
    have A7 := Aside0.mk A70
    clear A70
    obtain ⟨y137, hy137⟩ : ∃ y_ : List ByteArray, y_ = (([a0_0, a1_1, t135, t136, t133] : List ByteArray)) := ⟨_, rfl⟩
    replace H : ((script_line.f y137).bind fun t140 => (some t140)) = some r := by first | (rw [hy137]; with_reducible exact H) | (have H2_ := (Option.bind_some _ _).symm.trans H; rw [hy137]; with_reducible exact H2_) | (have H2_ := (Option.bind_some _ _).symm.trans H; with_reducible exact H2_) | with_reducible exact H | (rw [hy137]; exact H) | exact H
    have Ny137 := Aside0.mk hy137
    clear hy137
    replace H := Option.bind_eq_some_iff.mp H
    obtain ⟨t140, A80, H⟩ := H
    replace H : (some t140) = some r := H
    have A8 := Aside0.mk A80
    clear A80
    obtain rfl := Option.some.inj H
    go_enter Tryz.func23, Tryz.ntmps23
    try go_wp2_with (first | ((with_reducible refine gate_dst (N := 2) rfl ?_); refine box_event ?hg (N := 2) ?hd (cs := #[.string a0_0, .int .u8 a0_1, .string a0_2, .string a0_3]) (t := 41) ?hr ?_; (case hd => rfl); (case hg => rfl); (case hr => first | (go_simp; done) | (go_simp; rfl)); intro gb131 hg w9 hbox hb; have n0_ := Aside0.mk (below_step (by repeat (first | (with_reducible first | exact HB.out | apply below_alloc | apply pw_below_drewN | apply below_drew1) | exact HB.out)) hb); have n1_ := Aside0.mk (hbox); have n2_ := Aside0.mk ((by rw [hg]; exact (below_size (by repeat (first | (with_reducible first | exact HB.out | apply below_alloc | apply pw_below_drewN | apply below_drew1) | exact HB.out))) : w.heap.size ≤ gb131)); have n3_ := Aside0.mk ((by rw [hg]; exact (below_size (by repeat (first | (with_reducible first | exact HB.out | apply below_alloc | apply pw_below_drewN | apply below_drew1) | exact HB.out))) : w.heap.size ≤ gb131)); clear HB; have HB := n0_; have BK131 := n1_; have GW131 := n2_; have GE131 := n3_; clear n0_ n1_ n2_ n3_; clear hb hbox hg) | ((with_reducible refine gate_dst (N := 3) rfl ?_); refine box_event ?hg (N := 3) ?hd (cs := #[.int .i64 a1_0, .string a1_1, .slice A1_2 l1_2.length c1_2, .int .u32 a1_3, .int .i64 a1_4, .int .u64 a1_5, .int .u64 a1_6, .int .u64 a1_7, .bool a1_8, .bool a1_9]) (t := 26) ?hr ?_; (case hd => rfl); (case hg => rfl); (case hr => first | (go_simp; done) | (go_simp; rfl)); intro gb132 hg w10 hbox hb; have n0_ := Aside0.mk (blk_below (g := gb131) (o := .cells #[.string a0_0, .int .u8 a0_1, .string a0_2, .string a0_3] 41 (0, 0)) (by (with_reducible repeat (first | refine blk_drewN ?_ _ | refine blk_drew ?_ | refine blk_alloc ?_ _)); exact BK131.out) hb); have n1_ := Aside0.mk (below_step (by repeat (first | (with_reducible first | exact HB.out | apply below_alloc | apply pw_below_drewN | apply below_drew1 | refine below_set ?_ GE131.out) | exact HB.out)) hb); have n2_ := Aside0.mk (hbox); have n3_ := Aside0.mk ((by rw [hg]; exact (below_size (by repeat (first | (with_reducible first | exact HB.out | apply below_alloc | apply pw_below_drewN | apply below_drew1 | refine below_set ?_ GE131.out) | exact HB.out))) : w.heap.size ≤ gb132)); have n4_ := Aside0.mk ((by rw [hg]; exact (below_size (by repeat (first | (with_reducible first | exact HB.out | apply below_alloc | apply pw_below_drewN | apply below_drew1 | refine below_set ?_ GE131.out) | exact HB.out))) : w.heap.size ≤ gb132)); have n5_ := Aside0.mk ((by rw [hg]; exact Nat.ne_of_lt (blk_lt (g := gb131) (o := .cells #[.string a0_0, .int .u8 a0_1, .string a0_2, .string a0_3] 41 (0, 0)) (by (with_reducible repeat (first | refine blk_drewN ?_ _ | refine blk_drew ?_ | refine blk_alloc ?_ _)); exact BK131.out)) : gb131 ≠ gb132)); have n6_ := Aside0.mk ((by rw [hg]; exact Nat.ne_of_gt (blk_lt (g := gb131) (o := .cells #[.string a0_0, .int .u8 a0_1, .string a0_2, .string a0_3] 41 (0, 0)) (by (with_reducible repeat (first | refine blk_drewN ?_ _ | refine blk_drew ?_ | refine blk_alloc ?_ _)); exact BK131.out)) : gb132 ≠ gb131)); clear BK131; clear HB; have BK131 := n0_; have HB := n1_; have BK132 := n2_; have GW132 := n3_; have GE132 := n4_; have NB131_132 := n5_; have NB132_131 := n6_; clear n0_ n1_ n2_ n3_ n4_ n5_ n6_; clear hb hbox hg; have hnb11 := NB132_131.out; have hnc11 := NB131_132.out; have hcz12_0 : w10.cell? ⟨gb132, 0, none⟩ = some (.int .i64 a1_0) := (blk_cell BK132.out 0).trans rfl; have hcz12_1 : w10.cell? ⟨gb132, 1, none⟩ = some (.string a1_1) := (blk_cell BK132.out 1).trans rfl; have hcz12_2 : w10.cell? ⟨gb132, 2, none⟩ = some (.slice A1_2 l1_2.length c1_2) := (blk_cell BK132.out 2).trans rfl; have hcz12_3 : w10.cell? ⟨gb132, 3, none⟩ = some (.int .u32 a1_3) := (blk_cell BK132.out 3).trans rfl; have hcz12_4 : w10.cell? ⟨gb132, 4, none⟩ = some (.int .i64 a1_4) := (blk_cell BK132.out 4).trans rfl; have hcz12_5 : w10.cell? ⟨gb132, 5, none⟩ = some (.int .u64 a1_5) := (blk_cell BK132.out 5).trans rfl; have hcz12_6 : w10.cell? ⟨gb132, 6, none⟩ = some (.int .u64 a1_6) := (blk_cell BK132.out 6).trans rfl; have hcz12_7 : w10.cell? ⟨gb132, 7, none⟩ = some (.int .u64 a1_7) := (blk_cell BK132.out 7).trans rfl; have hcz12_8 : w10.cell? ⟨gb132, 8, none⟩ = some (.bool a1_8) := (blk_cell BK132.out 8).trans rfl; have hcz12_9 : w10.cell? ⟨gb132, 9, none⟩ = some (.bool a1_9) := (blk_cell BK132.out 9).trans rfl; have hfz12_0 := blk_frozen BK132.out 0; have hfz12_1 := blk_frozen BK132.out 1; have hfz12_2 := blk_frozen BK132.out 2; have hfz12_3 := blk_frozen BK132.out 3; have hfz12_4 := blk_frozen BK132.out 4; have hfz12_5 := blk_frozen BK132.out 5; have hfz12_6 := blk_frozen BK132.out 6; have hfz12_7 := blk_frozen BK132.out 7; have hfz12_8 := blk_frozen BK132.out 8; have hfz12_9 := blk_frozen BK132.out 9) | ((with_reducible refine gate_callee (f := 43) rfl ?_); refine goesL_ (some 10) rfl rfl Tryz.func43 (by kernel_rfl) rfl #[.int .u64 (IntKind.u64.wrap ((l1_2.length : Int)))] rfl (by (try simp only [List.map_toArray, List.map_cons, List.map_nil]); first | done | rfl | (simp only [List.length_drop, List.length_take]; rfl)) ?_; (with_reducible refine (num_Show.calls (IntKind.u64.wrap ((l1_2.length : Int))) t133 _ ?side1 A3.out).mono ?_); (case side1 => exact Tabs.below HT.out (by repeat (first | (with_reducible first | exact HB.out | apply below_alloc | apply pw_below_drewN | apply below_drew1 | refine below_set ?_ GE131.out | refine below_set ?_ GE132.out) | exact HB.out))); rintro e w13 ⟨rfl, hb⟩; refine ⟨_, rfl, ?_⟩; have n0_ := Aside0.mk (blk_below (g := gb131) (o := .cells #[.string a0_0, .int .u8 a0_1, .string a0_2, .string a0_3] 41 (0, 0)) (by (with_reducible repeat (first | refine blk_drewN ?_ _ | refine blk_drew ?_ | refine blk_alloc ?_ _)); exact BK131.out) hb); have n1_ := Aside0.mk (blk_below (g := gb132) (o := .cells #[.int .i64 a1_0, .string a1_1, .slice A1_2 l1_2.length c1_2, .int .u32 a1_3, .int .i64 a1_4, .int .u64 a1_5, .int .u64 a1_6, .int .u64 a1_7, .bool a1_8, .bool a1_9] 26 (0, 0)) (by (with_reducible repeat (first | refine blk_drewN ?_ _ | refine blk_drew ?_ | refine blk_alloc ?_ _)); exact BK132.out) hb); have n2_ := Aside0.mk (below_step (by repeat (first | (with_reducible first | exact HB.out | apply below_alloc | apply pw_below_drewN | apply below_drew1 | refine below_set ?_ GE131.out | refine below_set ?_ GE132.out) | exact HB.out)) hb); clear BK131; clear BK132; clear HB; have BK131 := n0_; have BK132 := n1_; have HB := n2_; clear n0_ n1_ n2_; (try clear hb); (try clear hb2); (try clear hk); (try clear hi); have hcz14_0 : w13.cell? ⟨gb132, 0, none⟩ = some (.int .i64 a1_0) := (blk_cell BK132.out 0).trans rfl; have hcz14_1 : w13.cell? ⟨gb132, 1, none⟩ = some (.string a1_1) := (blk_cell BK132.out 1).trans rfl; have hcz14_2 : w13.cell? ⟨gb132, 2, none⟩ = some (.slice A1_2 l1_2.length c1_2) := (blk_cell BK132.out 2).trans rfl; have hcz14_3 : w13.cell? ⟨gb132, 3, none⟩ = some (.int .u32 a1_3) := (blk_cell BK132.out 3).trans rfl; have hcz14_4 : w13.cell? ⟨gb132, 4, none⟩ = some (.int .i64 a1_4) := (blk_cell BK132.out 4).trans rfl; have hcz14_5 : w13.cell? ⟨gb132, 5, none⟩ = some (.int .u64 a1_5) := (blk_cell BK132.out 5).trans rfl; have hcz14_6 : w13.cell? ⟨gb132, 6, none⟩ = some (.int .u64 a1_6) := (blk_cell BK132.out 6).trans rfl; have hcz14_7 : w13.cell? ⟨gb132, 7, none⟩ = some (.int .u64 a1_7) := (blk_cell BK132.out 7).trans rfl; have hcz14_8 : w13.cell? ⟨gb132, 8, none⟩ = some (.bool a1_8) := (blk_cell BK132.out 8).trans rfl; have hcz14_9 : w13.cell? ⟨gb132, 9, none⟩ = some (.bool a1_9) := (blk_cell BK132.out 9).trans rfl; have hfz14_0 := blk_frozen BK132.out 0; have hfz14_1 := blk_frozen BK132.out 1; have hfz14_2 := blk_frozen BK132.out 2; have hfz14_3 := blk_frozen BK132.out 3; have hfz14_4 := blk_frozen BK132.out 4; have hfz14_5 := blk_frozen BK132.out 5; have hfz14_6 := blk_frozen BK132.out 6; have hfz14_7 := blk_frozen BK132.out 7; have hfz14_8 := blk_frozen BK132.out 8; have hfz14_9 := blk_frozen BK132.out 9) | ((with_reducible refine gate_callee (f := 44) rfl ?_); refine goesL_ (some 14) rfl rfl Tryz.func44 (by kernel_rfl) rfl #[.int .i64 a1_0] rfl (by (try simp only [List.map_toArray, List.map_cons, List.map_nil]); first | done | rfl | (simp only [List.length_drop, List.length_take]; rfl)) ?_; (with_reducible refine (script_whole.calls a1_0 true _ A4.out).mono ?_); rintro e w' ⟨rfl, ⟨nd, rfl⟩⟩; refine ⟨_, rfl, ?_⟩))
    (try (rw [drewN_self w13]; generalize hq_ : World.drewN w13 _ = w13; have n0_ : Aside0 (w13.heap[gb131]? = some (.cells #[.string a0_0, .int .u8 a0_1, .string a0_2, .string a0_3] 41 (0, 0))) := ⟨by rw [← hq_]; exact (by (with_reducible repeat (first | refine blk_drewN ?_ _ | refine blk_drew ?_ | refine blk_alloc ?_ _)); exact BK131.out)⟩; have n1_ : Aside0 (w13.heap[gb132]? = some (.cells #[.int .i64 a1_0, .string a1_1, .slice A1_2 l1_2.length c1_2, .int .u32 a1_3, .int .i64 a1_4, .int .u64 a1_5, .int .u64 a1_6, .int .u64 a1_7, .bool a1_8, .bool a1_9] 26 (0, 0))) := ⟨by rw [← hq_]; exact (by (with_reducible repeat (first | refine blk_drewN ?_ _ | refine blk_drew ?_ | refine blk_alloc ?_ _)); exact BK132.out)⟩; have n2_ : Aside0 (Below w.heap.size w w13) := ⟨by rw [← hq_]; exact (by repeat (first | (with_reducible first | exact HB.out | apply below_alloc | apply pw_below_drewN | apply below_drew1 | refine below_set ?_ GE131.out | refine below_set ?_ GE132.out) | exact HB.out))⟩; clear BK131 BK132 HB hq_; have BK131 := n0_; have BK132 := n1_; have HB := n2_; clear n0_ n1_ n2_))
    have n0_ := Aside0.mk (blk_drew BK131.out)
    have n1_ := Aside0.mk (blk_drew BK132.out)
    have n2_ := Aside0.mk (below_drew1 HB.out)
    clear BK131
    clear BK132
    clear HB
    have BK131 := n0_
    have BK132 := n1_
    have HB := n2_
    clear n0_ n1_ n2_
    refine start_ (n := 16) (S := fun w' => w'.cell? ⟨gb131, 0, none⟩ = some (.string a0_0) ∧ w'.cell? ⟨gb131, 1, none⟩ = some (.int .u8 a0_1) ∧ w'.cell? ⟨gb131, 2, none⟩ = some (.string a0_2) ∧ w'.cell? ⟨gb131, 3, none⟩ = some (.string a0_3) ∧ w'.cell? ⟨gb132, 0, none⟩ = some (.int .i64 a1_0) ∧ w'.cell? ⟨gb132, 1, none⟩ = some (.string a1_1) ∧ w'.cell? ⟨gb132, 2, none⟩ = some (.slice A1_2 l1_2.length c1_2) ∧ w'.cell? ⟨gb132, 3, none⟩ = some (.int .u32 a1_3) ∧ w'.cell? ⟨gb132, 4, none⟩ = some (.int .i64 a1_4) ∧ w'.cell? ⟨gb132, 5, none⟩ = some (.int .u64 a1_5) ∧ w'.cell? ⟨gb132, 6, none⟩ = some (.int .u64 a1_6) ∧ w'.cell? ⟨gb132, 7, none⟩ = some (.int .u64 a1_7) ∧ w'.cell? ⟨gb132, 8, none⟩ = some (.bool a1_8) ∧ w'.cell? ⟨gb132, 9, none⟩ = some (.bool a1_9)) (ds := []) #[false, false, false, false, false, false, false, false, false, false, false, false, false, false, false, false] (by kernel_rfl) rfl rfl ⟨(blk_cell BK131.out 0).trans rfl, (blk_cell BK131.out 1).trans rfl, (blk_cell BK131.out 2).trans rfl, (blk_cell BK131.out 3).trans rfl, (blk_cell BK132.out 0).trans rfl, (blk_cell BK132.out 1).trans rfl, (blk_cell BK132.out 2).trans rfl, (blk_cell BK132.out 3).trans rfl, (blk_cell BK132.out 4).trans rfl, (blk_cell BK132.out 5).trans rfl, (blk_cell BK132.out 6).trans rfl, (blk_cell BK132.out 7).trans rfl, (blk_cell BK132.out 8).trans rfl, (blk_cell BK132.out 9).trans rfl⟩ (fun hHeld => ?_); refine with_tabW script_text.tab3 script_text.bits3 (fun HT_ HW_ => ?_)
    generalize w13.drew = w15 at BK131 BK132 HB hHeld ⊢
    refine pure_ (i := 0) (N := some 15) (v := ?_) (a' := ?_) #[true, false, false, false, false, false, false, false, false, false, false, false, false, false, false, false] rfl rfl (any_of HT_.out (by kernel_rfl)) (fun _ _ _ h => h) (Or.inl ⟨by rfl, ?_⟩) ?_ ?_
    rotate_left
    · intro w'
      go_simp
      with_reducible rfl
    rotate_left
    · simp only [Act.put, List.setIfInBounds_toArray, List.set_cons_zero, List.set_cons_succ, i64_w, i32_w]
      rfl
    refine pure_ (i := 2) (N := some 17) (v := ?_) (a' := ?_) #[true, false, true, false, false, false, false, false, false, false, false, false, false, false, false, false] rfl rfl (any_of HT_.out (by kernel_rfl)) (fun _ _ _ h => h) (Or.inl ⟨by rfl, ?_⟩) ?_ ?_
    rotate_left
    · intro w'
      go_simp
      with_reducible rfl
    rotate_left
    · simp only [Act.put, List.setIfInBounds_toArray, List.set_cons_zero, List.set_cons_succ, i64_w, i32_w]
      rfl
    refine pure_ (i := 4) (N := some 19) (v := ?_) (a' := ?_) #[true, false, true, false, true, false, false, false, false, false, false, false, false, false, false, false] rfl rfl (any_of HT_.out (by kernel_rfl)) (fun _ _ _ h => h) (Or.inl ⟨by rfl, ?_⟩) ?_ ?_
    rotate_left
    · intro w'
      go_simp
      with_reducible rfl
    rotate_left
    · simp only [Act.put, List.setIfInBounds_toArray, List.set_cons_zero, List.set_cons_succ, i64_w, i32_w]
      rfl
    refine pure_ (i := 8) (N := some 23) (v := ?_) (a' := ?_) #[true, false, true, false, true, false, false, false, true, false, false, false, false, false, false, false] rfl rfl (any_of HT_.out (by kernel_rfl)) (fun _ _ _ h => h) (Or.inl ⟨by rfl, ?_⟩) ?_ ?_
    rotate_left
    · intro w'
      go_simp
      with_reducible rfl
    rotate_left
    · simp only [Act.put, List.setIfInBounds_toArray, List.set_cons_zero, List.set_cons_succ, i64_w, i32_w]
      rfl
    refine pure_ (i := 12) (N := some 27) (v := ?_) (a' := ?_) #[true, false, true, false, true, false, false, false, true, false, false, false, true, false, false, false] rfl rfl (any_of HT_.out (by kernel_rfl)) (fun _ _ _ h => h) (Or.inl ⟨by rfl, ?_⟩) ?_ ?_
    rotate_left
    · intro w'
      go_simp
      with_reducible rfl
    rotate_left
    · simp only [Act.put, List.setIfInBounds_toArray, List.set_cons_zero, List.set_cons_succ, i64_w, i32_w]
      rfl
    refine take_ (i := 1) (N := some 16) (v := ?_) (a' := ?_) #[true, true, true, false, true, false, false, false, true, false, false, false, true, false, false, false] rfl rfl (take_ofW HT_.out HW_.out (by kernel_rfl)) (fun _ _ _ h => h) (Or.inl ⟨by rfl, ?_⟩) hHeld ?_ ?_
    rotate_left
    · rintro w' ⟨s0, s1, s2, s3, s4, s5, s6, s7, s8, s9, s10, s11, s12, s13⟩
      go_simp
      with_reducible rfl
    rotate_left
    · simp only [Act.put, List.setIfInBounds_toArray, List.set_cons_zero, List.set_cons_succ, i64_w, i32_w]
      rfl
    refine take_ (i := 3) (N := some 18) (v := ?_) (a' := ?_) #[true, true, true, true, true, false, false, false, true, false, false, false, true, false, false, false] rfl rfl (take_ofW HT_.out HW_.out (by kernel_rfl)) (fun _ _ _ h => h) (Or.inl ⟨by rfl, ?_⟩) hHeld ?_ ?_
    rotate_left
    · rintro w' ⟨s0, s1, s2, s3, s4, s5, s6, s7, s8, s9, s10, s11, s12, s13⟩
      go_simp
      with_reducible rfl
    rotate_left
    · simp only [Act.put, List.setIfInBounds_toArray, List.set_cons_zero, List.set_cons_succ, i64_w, i32_w]
      rfl
    refine take_ (i := 5) (N := some 20) (v := ?_) (a' := ?_) #[true, true, true, true, true, true, false, false, true, false, false, false, true, false, false, false] rfl rfl (take_ofW HT_.out HW_.out (by kernel_rfl)) (fun _ _ _ h => h) (Or.inl ⟨by rfl, ?_⟩) hHeld ?_ ?_
    rotate_left
    · rintro w' ⟨s0, s1, s2, s3, s4, s5, s6, s7, s8, s9, s10, s11, s12, s13⟩
      go_simp
      with_reducible rfl
    rotate_left
    · simp only [Act.put, List.setIfInBounds_toArray, List.set_cons_zero, List.set_cons_succ, i64_w, i32_w]
      rfl
    refine pure_ (i := 6) (N := some 21) (v := ?_) (a' := ?_) #[true, true, true, true, true, true, true, false, true, false, false, false, true, false, false, false] rfl rfl (any_of HT_.out (by kernel_rfl)) (fun _ _ _ h => h) (Or.inl ⟨by rfl, ?_⟩) ?_ ?_
    rotate_left
    · intro w'
      go_simp
      with_reducible rfl
    rotate_left
    · simp only [Act.put, List.setIfInBounds_toArray, List.set_cons_zero, List.set_cons_succ, i64_w, i32_w]
      rfl
    refine take_ (i := 9) (N := some 24) (v := ?_) (a' := ?_) #[true, true, true, true, true, true, true, false, true, true, false, false, true, false, false, false] rfl rfl (take_ofW HT_.out HW_.out (by kernel_rfl)) (fun _ _ _ h => h) (Or.inl ⟨by rfl, ?_⟩) hHeld ?_ ?_
    rotate_left
    · rintro w' ⟨s0, s1, s2, s3, s4, s5, s6, s7, s8, s9, s10, s11, s12, s13⟩
      go_simp
      with_reducible rfl
    rotate_left
    · simp only [Act.put, List.setIfInBounds_toArray, List.set_cons_zero, List.set_cons_succ, i64_w, i32_w]
      rfl
    refine pure_ (i := 10) (N := some 25) (v := ?_) (a' := ?_) #[true, true, true, true, true, true, true, false, true, true, true, false, true, false, false, false] rfl rfl (any_of HT_.out (by kernel_rfl)) (fun _ _ _ h => h) (Or.inl ⟨by rfl, ?_⟩) ?_ ?_
    rotate_left
    · intro w'
      go_simp
      with_reducible rfl
    rotate_left
    · simp only [Act.put, List.setIfInBounds_toArray, List.set_cons_zero, List.set_cons_succ, i64_w, i32_w]
      rfl
    refine one_ (i := 7) (N := some 22) #[true, true, true, true, true, true, true, true, true, true, true, false, true, false, false, false] rfl rfl (one_of HT_.out (by kernel_rfl)) (by decide) (fun K hK => ?_)
    refine goes_ Tryz.func43 (by kernel_rfl) rfl #[.int .u64 (IntKind.u64.wrap (a1_3))] (by rfl) rfl rfl (by (try simp only [List.map_toArray, List.map_cons, List.map_nil]); first | done | rfl | (simp only [List.length_drop, List.length_take]; rfl)) ?_
    with_reducible refine (num_Show.calls (IntKind.u64.wrap (a1_3)) t135 _ ?side1 A6.out).mono ?_
    (case side1 => exact Tabs.below HT.out (by repeat (first | (with_reducible first | exact HB.out | apply below_alloc | apply pw_below_drewN | apply below_drew1 | refine below_set ?_ GE131.out | refine below_set ?_ GE132.out) | exact HB.out)))
    rintro e w16 ⟨rfl, hb⟩
    refine ⟨_, rfl, ?_⟩
    have n0_ := Aside0.mk (blk_below (g := gb131) (o := .cells #[.string a0_0, .int .u8 a0_1, .string a0_2, .string a0_3] 41 (0, 0)) (by (with_reducible repeat (first | refine blk_drewN ?_ _ | refine blk_drew ?_ | refine blk_alloc ?_ _)); exact BK131.out) hb)
    have n1_ := Aside0.mk (blk_below (g := gb132) (o := .cells #[.int .i64 a1_0, .string a1_1, .slice A1_2 l1_2.length c1_2, .int .u32 a1_3, .int .i64 a1_4, .int .u64 a1_5, .int .u64 a1_6, .int .u64 a1_7, .bool a1_8, .bool a1_9] 26 (0, 0)) (by (with_reducible repeat (first | refine blk_drewN ?_ _ | refine blk_drew ?_ | refine blk_alloc ?_ _)); exact BK132.out) hb)
    have n2_ := Aside0.mk (below_step (by repeat (first | (with_reducible first | exact HB.out | apply below_alloc | apply pw_below_drewN | apply below_drew1 | refine below_set ?_ GE131.out | refine below_set ?_ GE132.out) | exact HB.out)) hb)
    clear BK131
    clear BK132
    clear HB
    have BK131 := n0_
    have BK132 := n1_
    have HB := n2_
    clear n0_ n1_ n2_
    (try clear hb)
    (try clear hb2)
    (try clear hk)
    (try clear hi)
    refine hK.out _ _ ⟨(blk_cell BK131.out 0).trans rfl, (blk_cell BK131.out 1).trans rfl, (blk_cell BK131.out 2).trans rfl, (blk_cell BK131.out 3).trans rfl, (blk_cell BK132.out 0).trans rfl, (blk_cell BK132.out 1).trans rfl, (blk_cell BK132.out 2).trans rfl, (blk_cell BK132.out 3).trans rfl, (blk_cell BK132.out 4).trans rfl, (blk_cell BK132.out 5).trans rfl, (blk_cell BK132.out 6).trans rfl, (blk_cell BK132.out 7).trans rfl, (blk_cell BK132.out 8).trans rfl, (blk_cell BK132.out 9).trans rfl⟩ (fun hHeld => ?_)
    clear hK K
    refine norm_ (a' := ?_) ?_ ?_
    rotate_left
    · show Act.put _ (some 22) _ = _
      simp only [Act.put, List.setIfInBounds_toArray, List.set_cons_zero, List.set_cons_succ, i64_w, i32_w]
      rfl
    refine one_ (i := 11) (N := some 26) #[true, true, true, true, true, true, true, true, true, true, true, true, true, false, false, false] rfl rfl (one_of HT_.out (by kernel_rfl)) (by decide) (fun K hK => ?_)
    refine goes_ Tryz.func43 (by kernel_rfl) rfl #[.int .u64 (IntKind.u64.wrap (a1_4))] (by rfl) rfl rfl (by (try simp only [List.map_toArray, List.map_cons, List.map_nil]); first | done | rfl | (simp only [List.length_drop, List.length_take]; rfl)) ?_
    with_reducible refine (num_Show.calls (IntKind.u64.wrap (a1_4)) t136 _ ?side1 A7.out).mono ?_
    (case side1 => exact Tabs.below HT.out (by repeat (first | (with_reducible first | exact HB.out | apply below_alloc | apply pw_below_drewN | apply below_drew1 | refine below_set ?_ GE131.out | refine below_set ?_ GE132.out) | exact HB.out)))
    rintro e w17 ⟨rfl, hb⟩
    refine ⟨_, rfl, ?_⟩
    have n0_ := Aside0.mk (blk_below (g := gb131) (o := .cells #[.string a0_0, .int .u8 a0_1, .string a0_2, .string a0_3] 41 (0, 0)) (by (with_reducible repeat (first | refine blk_drewN ?_ _ | refine blk_drew ?_ | refine blk_alloc ?_ _)); exact BK131.out) hb)
    have n1_ := Aside0.mk (blk_below (g := gb132) (o := .cells #[.int .i64 a1_0, .string a1_1, .slice A1_2 l1_2.length c1_2, .int .u32 a1_3, .int .i64 a1_4, .int .u64 a1_5, .int .u64 a1_6, .int .u64 a1_7, .bool a1_8, .bool a1_9] 26 (0, 0)) (by (with_reducible repeat (first | refine blk_drewN ?_ _ | refine blk_drew ?_ | refine blk_alloc ?_ _)); exact BK132.out) hb)
    have n2_ := Aside0.mk (below_step (by repeat (first | (with_reducible first | exact HB.out | apply below_alloc | apply pw_below_drewN | apply below_drew1 | refine below_set ?_ GE131.out | refine below_set ?_ GE132.out) | exact HB.out)) hb)
    clear BK131
    clear BK132
    clear HB
    have BK131 := n0_
    have BK132 := n1_
    have HB := n2_
    clear n0_ n1_ n2_
    (try clear hb)
    (try clear hb2)
    (try clear hk)
    (try clear hi)
    refine hK.out _ _ ⟨(blk_cell BK131.out 0).trans rfl, (blk_cell BK131.out 1).trans rfl, (blk_cell BK131.out 2).trans rfl, (blk_cell BK131.out 3).trans rfl, (blk_cell BK132.out 0).trans rfl, (blk_cell BK132.out 1).trans rfl, (blk_cell BK132.out 2).trans rfl, (blk_cell BK132.out 3).trans rfl, (blk_cell BK132.out 4).trans rfl, (blk_cell BK132.out 5).trans rfl, (blk_cell BK132.out 6).trans rfl, (blk_cell BK132.out 7).trans rfl, (blk_cell BK132.out 8).trans rfl, (blk_cell BK132.out 9).trans rfl⟩ (fun hHeld => ?_)
    clear hK K
    refine norm_ (a' := ?_) ?_ ?_
    rotate_left
    · show Act.put _ (some 26) _ = _
      simp only [Act.put, List.setIfInBounds_toArray, List.set_cons_zero, List.set_cons_succ, i64_w, i32_w]
      rfl
    refine one_ (i := 13) (N := some 28) #[true, true, true, true, true, true, true, true, true, true, true, true, true, true, false, false] rfl rfl (one_of HT_.out (by kernel_rfl)) (by decide) (fun K hK => ?_)
    refine Kd.R_lit_step Kd.string _ 9 ?hg (N := 28) ?hd (xs := ([a0_0, a1_1, t135, t136, t133] : List ByteArray)) (inner := [.string a0_0, .string a1_1, .string t135, .string t136, .string t133]) (ok := fun _ => True) (okp := fun _ => True) ?hr ?hp (fun _ hk => hk) trivial (Below.refl _ _) (Nat.le_refl _) (by simp) ?_; (case hd => rfl); (case hg => rfl); (case hr => first | (go_simp; done) | (go_simp; rfl)); (case hp => exact (Reps.one (show Kd.M Kd.string _ _ _ a0_0 [.string a0_0] from rfl) (Reps.one (show Kd.M Kd.string _ _ _ a1_1 [.string a1_1] from rfl) (Reps.one (show Kd.M Kd.string _ _ _ t135 [.string t135] from rfl) (Reps.one (show Kd.M Kd.string _ _ _ t136 [.string t136] from rfl) (Reps.one (show Kd.M Kd.string _ _ _ t133 [.string t133] from rfl) (Reps.none _ _)))))))
    intro v138 w18 ho19 hb hg_ hnew_
    clear hg_ hnew_
    (first | rw [← Ny137.out] at ho19 | (simp only [Int.reduceToNat] at ho19; rw [← Ny137.out] at ho19))
    have n0_ := Aside0.mk (Kd.R_lower ho19 (below_size (by repeat (first | (with_reducible first | exact HB.out | apply below_alloc | apply pw_below_drewN | apply below_drew1 | refine below_set ?_ GE131.out | refine below_set ?_ GE132.out) | exact HB.out))))
    have n1_ := Aside0.mk (blk_below (g := gb131) (o := .cells #[.string a0_0, .int .u8 a0_1, .string a0_2, .string a0_3] 41 (0, 0)) (by (with_reducible repeat (first | refine blk_drewN ?_ _ | refine blk_drew ?_ | refine blk_alloc ?_ _)); exact BK131.out) hb)
    have n2_ := Aside0.mk (blk_below (g := gb132) (o := .cells #[.int .i64 a1_0, .string a1_1, .slice A1_2 l1_2.length c1_2, .int .u32 a1_3, .int .i64 a1_4, .int .u64 a1_5, .int .u64 a1_6, .int .u64 a1_7, .bool a1_8, .bool a1_9] 26 (0, 0)) (by (with_reducible repeat (first | refine blk_drewN ?_ _ | refine blk_drew ?_ | refine blk_alloc ?_ _)); exact BK132.out) hb)
    have n3_ := Aside0.mk (below_step (by repeat (first | (with_reducible first | exact HB.out | apply below_alloc | apply pw_below_drewN | apply below_drew1 | refine below_set ?_ GE131.out | refine below_set ?_ GE132.out) | exact HB.out)) hb)
    clear BK131
    clear BK132
    clear HB
    have HO139 := n0_
    have BK131 := n1_
    have BK132 := n2_
    have HB := n3_
    clear n0_ n1_ n2_ n3_
    clear hb ho19
    obtain ⟨Ao20, co20, eo20⟩ := Kd.R_slice HO139.out
    (first | subst eo20 | (injection eo20 with f1_ f2_ f3_; have f4_ := f1_.symm; have f5_ := f3_.symm; clear f1_ f2_ f3_; subst f4_; subst f5_))
    refine hK.out _ _ ⟨(blk_cell BK131.out 0).trans rfl, (blk_cell BK131.out 1).trans rfl, (blk_cell BK131.out 2).trans rfl, (blk_cell BK131.out 3).trans rfl, (blk_cell BK132.out 0).trans rfl, (blk_cell BK132.out 1).trans rfl, (blk_cell BK132.out 2).trans rfl, (blk_cell BK132.out 3).trans rfl, (blk_cell BK132.out 4).trans rfl, (blk_cell BK132.out 5).trans rfl, (blk_cell BK132.out 6).trans rfl, (blk_cell BK132.out 7).trans rfl, (blk_cell BK132.out 8).trans rfl, (blk_cell BK132.out 9).trans rfl⟩ (fun hHeld => ?_)
    clear hK K
    refine norm_ (a' := ?_) ?_ ?_
    rotate_left
    · show Act.put _ (some 28) _ = _
      simp only [Act.put, List.setIfInBounds_toArray, List.set_cons_zero, List.set_cons_succ, i64_w, i32_w]
      rfl
    refine one_ (i := 14) (N := some 29) #[true, true, true, true, true, true, true, true, true, true, true, true, true, true, true, false] rfl rfl (one_of HT_.out (by kernel_rfl)) (by decide) (fun K hK => ?_)
    refine goes_ Tryz.func45 (by kernel_rfl) rfl #[.slice Ao20 y137.length co20] (by rfl) rfl rfl (by (try simp only [List.map_toArray, List.map_cons, List.map_nil]); first | done | rfl | (simp only [List.length_drop, List.length_take]; rfl)) ?_
    with_reducible refine (script_line.calls _ _ y137 t140 _ ?side1 ?side2 A8.out).mono ?_
    (case side1 => repeat (first | exact (Kd.R_reads' HO139.out).2.2 | (with_reducible refine Kd.C_alloc ?_ _) | (with_reducible refine Kd.C_drewN ?_ _) | (with_reducible refine Kd.C_drew ?_)))
    (case side2 => exact (Kd.R_reads' HO139.out).2.1)
    rintro e w21 ⟨rfl, hb⟩
    refine ⟨_, rfl, ?_⟩
    have n0_ := Aside0.mk (Kd.R_below (by (with_reducible repeat (first | apply Kd.R_alloc | apply Kd.R_drewN | apply Kd.R_drew)); exact HO139.out) hb)
    have n1_ := Aside0.mk (blk_below (g := gb131) (o := .cells #[.string a0_0, .int .u8 a0_1, .string a0_2, .string a0_3] 41 (0, 0)) (by (with_reducible repeat (first | refine blk_drewN ?_ _ | refine blk_drew ?_ | refine blk_alloc ?_ _)); exact BK131.out) hb)
    have n2_ := Aside0.mk (blk_below (g := gb132) (o := .cells #[.int .i64 a1_0, .string a1_1, .slice A1_2 l1_2.length c1_2, .int .u32 a1_3, .int .i64 a1_4, .int .u64 a1_5, .int .u64 a1_6, .int .u64 a1_7, .bool a1_8, .bool a1_9] 26 (0, 0)) (by (with_reducible repeat (first | refine blk_drewN ?_ _ | refine blk_drew ?_ | refine blk_alloc ?_ _)); exact BK132.out) hb)
    have n3_ := Aside0.mk (below_step (by repeat (first | (with_reducible first | exact HB.out | apply below_alloc | apply pw_below_drewN | apply below_drew1 | refine below_set ?_ GE131.out | refine below_set ?_ GE132.out) | exact HB.out)) hb)
    clear HO139
    clear BK131
    clear BK132
    clear HB
    have HO139 := n0_
    have BK131 := n1_
    have BK132 := n2_
    have HB := n3_
    clear n0_ n1_ n2_ n3_
    (try clear hb)
    (try clear hb2)
    (try clear hk)
    (try clear hi)
    refine hK.out _ _ ⟨(blk_cell BK131.out 0).trans rfl, (blk_cell BK131.out 1).trans rfl, (blk_cell BK131.out 2).trans rfl, (blk_cell BK131.out 3).trans rfl, (blk_cell BK132.out 0).trans rfl, (blk_cell BK132.out 1).trans rfl, (blk_cell BK132.out 2).trans rfl, (blk_cell BK132.out 3).trans rfl, (blk_cell BK132.out 4).trans rfl, (blk_cell BK132.out 5).trans rfl, (blk_cell BK132.out 6).trans rfl, (blk_cell BK132.out 7).trans rfl, (blk_cell BK132.out 8).trans rfl, (blk_cell BK132.out 9).trans rfl⟩ (fun hHeld => ?_)
    clear hK K
    refine norm_ (a' := ?_) ?_ ?_
    rotate_left
    · show Act.put _ (some 29) _ = _
      simp only [Act.put, List.setIfInBounds_toArray, List.set_cons_zero, List.set_cons_succ, i64_w, i32_w]
      rfl
    refine pure_ (i := 15) (N := some 4) (v := ?_) (a' := ?_) #[true, true, true, true, true, true, true, true, true, true, true, true, true, true, true, true] rfl rfl (any_of HT_.out (by kernel_rfl)) (fun _ _ _ h => h) (Or.inl ⟨by rfl, ?_⟩) ?_ ?_
    rotate_left
    · intro w'
      go_simp
      with_reducible rfl
    rotate_left
    · simp only [Act.put, List.setIfInBounds_toArray, List.set_cons_zero, List.set_cons_succ, i64_w, i32_w]
      rfl
    refine done_ (done_of HT_.out (by kernel_rfl)) ?_
    try go_wp2
    go_ret
    exact ⟨by first | rfl | (simp <;> rfl) | (simp [*] <;> rfl), by repeat (first | (with_reducible first | exact HB.out | apply below_alloc | apply pw_below_drewN | apply below_drew1 | refine below_set ?_ GE131.out | refine below_set ?_ GE132.out) | exact HB.out)⟩
  · replace c5 := Bool.eq_false_iff.mpr c5
    subst c5
    have H1 : ((script_stores.f a1_0).bind fun t141 => (if t141 = true then ((script_line.f (([a0_0, a1_1, (⟨#[48]⟩ : ByteArray), (⟨#[48]⟩ : ByteArray), t133] : List ByteArray))).bind fun t145 => (some t145)) else ((script_reckons.f a1_0).bind fun t146 => (if t146 = true then ((num_Show.f a1_6).bind fun t147 => ((script_line.f (([a0_0, a1_1, t147] : List ByteArray))).bind fun t151 => (some t151))) else ((script_line.f (([a0_0, a1_1] : List ByteArray))).bind fun t155 => (some t155)))))) = some r := by rw [if_neg (show ¬ (false = true) by decide)] at H; exact H
    clear H
    have H := H1
    clear H1
    replace H := Option.bind_eq_some_iff.mp H
    obtain ⟨t141, A220, H⟩ := H
    replace H : (if t141 = true then ((script_line.f (([a0_0, a1_1, (⟨#[48]⟩ : ByteArray), (⟨#[48]⟩ : ByteArray), t133] : List ByteArray))).bind fun t145 => (some t145)) else ((script_reckons.f a1_0).bind fun t146 => (if t146 = true then ((num_Show.f a1_6).bind fun t147 => ((script_line.f (([a0_0, a1_1, t147] : List ByteArray))).bind fun t151 => (some t151))) else ((script_line.f (([a0_0, a1_1] : List ByteArray))).bind fun t155 => (some t155))))) = some r := H
    have A22 := Aside0.mk A220
    clear A220
    by_cases c23 : t141 = true
    · subst c23
      have H1 : ((script_line.f (([a0_0, a1_1, (⟨#[48]⟩ : ByteArray), (⟨#[48]⟩ : ByteArray), t133] : List ByteArray))).bind fun t145 => (some t145)) = some r := by rw [if_pos rfl] at H; exact H
      clear H
      have H := H1
      clear H1
      obtain ⟨y142, hy142⟩ : ∃ y_ : List ByteArray, y_ = (([a0_0, a1_1, (⟨#[48]⟩ : ByteArray), (⟨#[48]⟩ : ByteArray), t133] : List ByteArray)) := ⟨_, rfl⟩
      replace H : ((script_line.f y142).bind fun t145 => (some t145)) = some r := by first | (rw [hy142]; with_reducible exact H) | (have H2_ := (Option.bind_some _ _).symm.trans H; rw [hy142]; with_reducible exact H2_) | (have H2_ := (Option.bind_some _ _).symm.trans H; with_reducible exact H2_) | with_reducible exact H | (rw [hy142]; exact H) | exact H
      have Ny142 := Aside0.mk hy142
      clear hy142
      replace H := Option.bind_eq_some_iff.mp H
      obtain ⟨t145, A240, H⟩ := H
      replace H : (some t145) = some r := H
      have A24 := Aside0.mk A240
      clear A240
      obtain rfl := Option.some.inj H
      go_enter Tryz.func23, Tryz.ntmps23
      go_wp2_with (first | ((with_reducible refine gate_dst (N := 2) rfl ?_); refine box_event ?hg (N := 2) ?hd (cs := #[.string a0_0, .int .u8 a0_1, .string a0_2, .string a0_3]) (t := 41) ?hr ?_; (case hd => rfl); (case hg => rfl); (case hr => first | (go_simp; done) | (go_simp; rfl)); intro gb131 hg w25 hbox hb; have n0_ := Aside0.mk (below_step (by repeat (first | (with_reducible first | exact HB.out | apply below_alloc | apply pw_below_drewN | apply below_drew1) | exact HB.out)) hb); have n1_ := Aside0.mk (hbox); have n2_ := Aside0.mk ((by rw [hg]; exact (below_size (by repeat (first | (with_reducible first | exact HB.out | apply below_alloc | apply pw_below_drewN | apply below_drew1) | exact HB.out))) : w.heap.size ≤ gb131)); have n3_ := Aside0.mk ((by rw [hg]; exact (below_size (by repeat (first | (with_reducible first | exact HB.out | apply below_alloc | apply pw_below_drewN | apply below_drew1) | exact HB.out))) : w.heap.size ≤ gb131)); clear HB; have HB := n0_; have BK131 := n1_; have GW131 := n2_; have GE131 := n3_; clear n0_ n1_ n2_ n3_; clear hb hbox hg) | ((with_reducible refine gate_dst (N := 3) rfl ?_); refine box_event ?hg (N := 3) ?hd (cs := #[.int .i64 a1_0, .string a1_1, .slice A1_2 l1_2.length c1_2, .int .u32 a1_3, .int .i64 a1_4, .int .u64 a1_5, .int .u64 a1_6, .int .u64 a1_7, .bool a1_8, .bool a1_9]) (t := 26) ?hr ?_; (case hd => rfl); (case hg => rfl); (case hr => first | (go_simp; done) | (go_simp; rfl)); intro gb132 hg w26 hbox hb; have n0_ := Aside0.mk (blk_below (g := gb131) (o := .cells #[.string a0_0, .int .u8 a0_1, .string a0_2, .string a0_3] 41 (0, 0)) (by (with_reducible repeat (first | refine blk_drewN ?_ _ | refine blk_drew ?_ | refine blk_alloc ?_ _)); exact BK131.out) hb); have n1_ := Aside0.mk (below_step (by repeat (first | (with_reducible first | exact HB.out | apply below_alloc | apply pw_below_drewN | apply below_drew1 | refine below_set ?_ GE131.out) | exact HB.out)) hb); have n2_ := Aside0.mk (hbox); have n3_ := Aside0.mk ((by rw [hg]; exact (below_size (by repeat (first | (with_reducible first | exact HB.out | apply below_alloc | apply pw_below_drewN | apply below_drew1 | refine below_set ?_ GE131.out) | exact HB.out))) : w.heap.size ≤ gb132)); have n4_ := Aside0.mk ((by rw [hg]; exact (below_size (by repeat (first | (with_reducible first | exact HB.out | apply below_alloc | apply pw_below_drewN | apply below_drew1 | refine below_set ?_ GE131.out) | exact HB.out))) : w.heap.size ≤ gb132)); have n5_ := Aside0.mk ((by rw [hg]; exact Nat.ne_of_lt (blk_lt (g := gb131) (o := .cells #[.string a0_0, .int .u8 a0_1, .string a0_2, .string a0_3] 41 (0, 0)) (by (with_reducible repeat (first | refine blk_drewN ?_ _ | refine blk_drew ?_ | refine blk_alloc ?_ _)); exact BK131.out)) : gb131 ≠ gb132)); have n6_ := Aside0.mk ((by rw [hg]; exact Nat.ne_of_gt (blk_lt (g := gb131) (o := .cells #[.string a0_0, .int .u8 a0_1, .string a0_2, .string a0_3] 41 (0, 0)) (by (with_reducible repeat (first | refine blk_drewN ?_ _ | refine blk_drew ?_ | refine blk_alloc ?_ _)); exact BK131.out)) : gb132 ≠ gb131)); clear BK131; clear HB; have BK131 := n0_; have HB := n1_; have BK132 := n2_; have GW132 := n3_; have GE132 := n4_; have NB131_132 := n5_; have NB132_131 := n6_; clear n0_ n1_ n2_ n3_ n4_ n5_ n6_; clear hb hbox hg; have hnb27 := NB132_131.out; have hnc27 := NB131_132.out; have hcz28_0 : w26.cell? ⟨gb132, 0, none⟩ = some (.int .i64 a1_0) := (blk_cell BK132.out 0).trans rfl; have hcz28_1 : w26.cell? ⟨gb132, 1, none⟩ = some (.string a1_1) := (blk_cell BK132.out 1).trans rfl; have hcz28_2 : w26.cell? ⟨gb132, 2, none⟩ = some (.slice A1_2 l1_2.length c1_2) := (blk_cell BK132.out 2).trans rfl; have hcz28_3 : w26.cell? ⟨gb132, 3, none⟩ = some (.int .u32 a1_3) := (blk_cell BK132.out 3).trans rfl; have hcz28_4 : w26.cell? ⟨gb132, 4, none⟩ = some (.int .i64 a1_4) := (blk_cell BK132.out 4).trans rfl; have hcz28_5 : w26.cell? ⟨gb132, 5, none⟩ = some (.int .u64 a1_5) := (blk_cell BK132.out 5).trans rfl; have hcz28_6 : w26.cell? ⟨gb132, 6, none⟩ = some (.int .u64 a1_6) := (blk_cell BK132.out 6).trans rfl; have hcz28_7 : w26.cell? ⟨gb132, 7, none⟩ = some (.int .u64 a1_7) := (blk_cell BK132.out 7).trans rfl; have hcz28_8 : w26.cell? ⟨gb132, 8, none⟩ = some (.bool a1_8) := (blk_cell BK132.out 8).trans rfl; have hcz28_9 : w26.cell? ⟨gb132, 9, none⟩ = some (.bool a1_9) := (blk_cell BK132.out 9).trans rfl; have hfz28_0 := blk_frozen BK132.out 0; have hfz28_1 := blk_frozen BK132.out 1; have hfz28_2 := blk_frozen BK132.out 2; have hfz28_3 := blk_frozen BK132.out 3; have hfz28_4 := blk_frozen BK132.out 4; have hfz28_5 := blk_frozen BK132.out 5; have hfz28_6 := blk_frozen BK132.out 6; have hfz28_7 := blk_frozen BK132.out 7; have hfz28_8 := blk_frozen BK132.out 8; have hfz28_9 := blk_frozen BK132.out 9) | ((with_reducible refine gate_callee (f := 43) rfl ?_); refine goesL_ (some 10) rfl rfl Tryz.func43 (by kernel_rfl) rfl #[.int .u64 (IntKind.u64.wrap ((l1_2.length : Int)))] rfl (by (try simp only [List.map_toArray, List.map_cons, List.map_nil]); first | done | rfl | (simp only [List.length_drop, List.length_take]; rfl)) ?_; (with_reducible refine (num_Show.calls (IntKind.u64.wrap ((l1_2.length : Int))) t133 _ ?side1 A3.out).mono ?_); (case side1 => exact Tabs.below HT.out (by repeat (first | (with_reducible first | exact HB.out | apply below_alloc | apply pw_below_drewN | apply below_drew1 | refine below_set ?_ GE131.out | refine below_set ?_ GE132.out) | exact HB.out))); rintro e w29 ⟨rfl, hb⟩; refine ⟨_, rfl, ?_⟩; have n0_ := Aside0.mk (blk_below (g := gb131) (o := .cells #[.string a0_0, .int .u8 a0_1, .string a0_2, .string a0_3] 41 (0, 0)) (by (with_reducible repeat (first | refine blk_drewN ?_ _ | refine blk_drew ?_ | refine blk_alloc ?_ _)); exact BK131.out) hb); have n1_ := Aside0.mk (blk_below (g := gb132) (o := .cells #[.int .i64 a1_0, .string a1_1, .slice A1_2 l1_2.length c1_2, .int .u32 a1_3, .int .i64 a1_4, .int .u64 a1_5, .int .u64 a1_6, .int .u64 a1_7, .bool a1_8, .bool a1_9] 26 (0, 0)) (by (with_reducible repeat (first | refine blk_drewN ?_ _ | refine blk_drew ?_ | refine blk_alloc ?_ _)); exact BK132.out) hb); have n2_ := Aside0.mk (below_step (by repeat (first | (with_reducible first | exact HB.out | apply below_alloc | apply pw_below_drewN | apply below_drew1 | refine below_set ?_ GE131.out | refine below_set ?_ GE132.out) | exact HB.out)) hb); clear BK131; clear BK132; clear HB; have BK131 := n0_; have BK132 := n1_; have HB := n2_; clear n0_ n1_ n2_; (try clear hb); (try clear hb2); (try clear hk); (try clear hi); have hcz30_0 : w29.cell? ⟨gb132, 0, none⟩ = some (.int .i64 a1_0) := (blk_cell BK132.out 0).trans rfl; have hcz30_1 : w29.cell? ⟨gb132, 1, none⟩ = some (.string a1_1) := (blk_cell BK132.out 1).trans rfl; have hcz30_2 : w29.cell? ⟨gb132, 2, none⟩ = some (.slice A1_2 l1_2.length c1_2) := (blk_cell BK132.out 2).trans rfl; have hcz30_3 : w29.cell? ⟨gb132, 3, none⟩ = some (.int .u32 a1_3) := (blk_cell BK132.out 3).trans rfl; have hcz30_4 : w29.cell? ⟨gb132, 4, none⟩ = some (.int .i64 a1_4) := (blk_cell BK132.out 4).trans rfl; have hcz30_5 : w29.cell? ⟨gb132, 5, none⟩ = some (.int .u64 a1_5) := (blk_cell BK132.out 5).trans rfl; have hcz30_6 : w29.cell? ⟨gb132, 6, none⟩ = some (.int .u64 a1_6) := (blk_cell BK132.out 6).trans rfl; have hcz30_7 : w29.cell? ⟨gb132, 7, none⟩ = some (.int .u64 a1_7) := (blk_cell BK132.out 7).trans rfl; have hcz30_8 : w29.cell? ⟨gb132, 8, none⟩ = some (.bool a1_8) := (blk_cell BK132.out 8).trans rfl; have hcz30_9 : w29.cell? ⟨gb132, 9, none⟩ = some (.bool a1_9) := (blk_cell BK132.out 9).trans rfl; have hfz30_0 := blk_frozen BK132.out 0; have hfz30_1 := blk_frozen BK132.out 1; have hfz30_2 := blk_frozen BK132.out 2; have hfz30_3 := blk_frozen BK132.out 3; have hfz30_4 := blk_frozen BK132.out 4; have hfz30_5 := blk_frozen BK132.out 5; have hfz30_6 := blk_frozen BK132.out 6; have hfz30_7 := blk_frozen BK132.out 7; have hfz30_8 := blk_frozen BK132.out 8; have hfz30_9 := blk_frozen BK132.out 9) | ((with_reducible refine gate_callee (f := 44) rfl ?_); refine goesL_ (some 14) rfl rfl Tryz.func44 (by kernel_rfl) rfl #[.int .i64 a1_0] rfl (by (try simp only [List.map_toArray, List.map_cons, List.map_nil]); first | done | rfl | (simp only [List.length_drop, List.length_take]; rfl)) ?_; (with_reducible refine (script_whole.calls a1_0 false _ A4.out).mono ?_); rintro e w' ⟨rfl, ⟨nd, rfl⟩⟩; refine ⟨_, rfl, ?_⟩) | ((with_reducible refine gate_callee (f := 26) rfl ?_); refine goesL_ (some 33) rfl rfl Tryz.func26 (by kernel_rfl) rfl #[.int .i64 a1_0] rfl (by (try simp only [List.map_toArray, List.map_cons, List.map_nil]); first | done | rfl | (simp only [List.length_drop, List.length_take]; rfl)) ?_; (with_reducible refine (script_stores.calls a1_0 true _ A22.out).mono ?_); rintro e w' ⟨rfl, ⟨nd, rfl⟩⟩; refine ⟨_, rfl, ?_⟩; have hcz31_0 : w29.cell? ⟨gb131, 0, none⟩ = some (.string a0_0) := (blk_cell BK131.out 0).trans rfl; have hcz31_1 : w29.cell? ⟨gb131, 1, none⟩ = some (.int .u8 a0_1) := (blk_cell BK131.out 1).trans rfl; have hcz31_2 : w29.cell? ⟨gb131, 2, none⟩ = some (.string a0_2) := (blk_cell BK131.out 2).trans rfl; have hcz31_3 : w29.cell? ⟨gb131, 3, none⟩ = some (.string a0_3) := (blk_cell BK131.out 3).trans rfl; have hfz31_0 := blk_frozen BK131.out 0; have hfz31_1 := blk_frozen BK131.out 1; have hfz31_2 := blk_frozen BK131.out 2; have hfz31_3 := blk_frozen BK131.out 3) | ((with_reducible refine gate_dst (N := 39) rfl ?_); refine Kd.R_lit Kd.string _ 9 ?hg (N := 39) ?hd (xs := ([a0_0, a1_1, (⟨#[48]⟩ : ByteArray), (⟨#[48]⟩ : ByteArray), t133] : List ByteArray)) (inner := [.string a0_0, .string a1_1, .string (⟨#[48]⟩ : ByteArray), .string (⟨#[48]⟩ : ByteArray), .string t133]) (ok := fun _ => True) (okp := fun _ => True) ?hr ?hp (fun _ hk => hk) trivial (Below.refl _ _) (Nat.le_refl _) (by simp) ?_; (case hd => rfl); (case hg => rfl); (case hr => first | (go_simp; done) | (go_simp; rfl)); (case hp => exact (Reps.one (show Kd.M Kd.string _ _ _ a0_0 [.string a0_0] from rfl) (Reps.one (show Kd.M Kd.string _ _ _ a1_1 [.string a1_1] from rfl) (Reps.one (show Kd.M Kd.string _ _ _ (⟨#[48]⟩ : ByteArray) [.string (⟨#[48]⟩ : ByteArray)] from rfl) (Reps.one (show Kd.M Kd.string _ _ _ (⟨#[48]⟩ : ByteArray) [.string (⟨#[48]⟩ : ByteArray)] from rfl) (Reps.one (show Kd.M Kd.string _ _ _ t133 [.string t133] from rfl) (Reps.none _ _))))))); intro v143 w32 ho33 hb hg_ hnew_; clear hg_ hnew_; (first | rw [← Ny142.out] at ho33 | (simp only [Int.reduceToNat] at ho33; rw [← Ny142.out] at ho33)); have n0_ := Aside0.mk (Kd.R_lower ho33 (below_size (by repeat (first | (with_reducible first | exact HB.out | apply below_alloc | apply pw_below_drewN | apply below_drew1 | refine below_set ?_ GE131.out | refine below_set ?_ GE132.out) | exact HB.out)))); have n1_ := Aside0.mk (blk_below (g := gb131) (o := .cells #[.string a0_0, .int .u8 a0_1, .string a0_2, .string a0_3] 41 (0, 0)) (by (with_reducible repeat (first | refine blk_drewN ?_ _ | refine blk_drew ?_ | refine blk_alloc ?_ _)); exact BK131.out) hb); have n2_ := Aside0.mk (blk_below (g := gb132) (o := .cells #[.int .i64 a1_0, .string a1_1, .slice A1_2 l1_2.length c1_2, .int .u32 a1_3, .int .i64 a1_4, .int .u64 a1_5, .int .u64 a1_6, .int .u64 a1_7, .bool a1_8, .bool a1_9] 26 (0, 0)) (by (with_reducible repeat (first | refine blk_drewN ?_ _ | refine blk_drew ?_ | refine blk_alloc ?_ _)); exact BK132.out) hb); have n3_ := Aside0.mk (below_step (by repeat (first | (with_reducible first | exact HB.out | apply below_alloc | apply pw_below_drewN | apply below_drew1 | refine below_set ?_ GE131.out | refine below_set ?_ GE132.out) | exact HB.out)) hb); clear BK131; clear BK132; clear HB; have HO144 := n0_; have BK131 := n1_; have BK132 := n2_; have HB := n3_; clear n0_ n1_ n2_ n3_; clear hb ho33; obtain ⟨Ao34, co34, eo34⟩ := Kd.R_slice HO144.out; subst eo34) | ((with_reducible refine gate_callee (f := 45) rfl ?_); refine goesL_ (some 40) rfl rfl Tryz.func45 (by kernel_rfl) rfl #[.slice Ao34 y142.length co34] rfl (by (try simp only [List.map_toArray, List.map_cons, List.map_nil]); first | done | rfl | (simp only [List.length_drop, List.length_take]; rfl)) ?_; (with_reducible refine (script_line.calls _ _ y142 t145 _ ?side1 ?side2 A24.out).mono ?_); (case side1 => repeat (first | exact (Kd.R_reads' HO144.out).2.2 | (with_reducible refine Kd.C_alloc ?_ _) | (with_reducible refine Kd.C_drewN ?_ _) | (with_reducible refine Kd.C_drew ?_))); (case side2 => exact (Kd.R_reads' HO144.out).2.1); rintro e w35 ⟨rfl, hb⟩; refine ⟨_, rfl, ?_⟩; have n0_ := Aside0.mk (Kd.R_below (by (with_reducible repeat (first | apply Kd.R_alloc | apply Kd.R_drewN | apply Kd.R_drew)); exact HO144.out) hb); have n1_ := Aside0.mk (blk_below (g := gb131) (o := .cells #[.string a0_0, .int .u8 a0_1, .string a0_2, .string a0_3] 41 (0, 0)) (by (with_reducible repeat (first | refine blk_drewN ?_ _ | refine blk_drew ?_ | refine blk_alloc ?_ _)); exact BK131.out) hb); have n2_ := Aside0.mk (blk_below (g := gb132) (o := .cells #[.int .i64 a1_0, .string a1_1, .slice A1_2 l1_2.length c1_2, .int .u32 a1_3, .int .i64 a1_4, .int .u64 a1_5, .int .u64 a1_6, .int .u64 a1_7, .bool a1_8, .bool a1_9] 26 (0, 0)) (by (with_reducible repeat (first | refine blk_drewN ?_ _ | refine blk_drew ?_ | refine blk_alloc ?_ _)); exact BK132.out) hb); have n3_ := Aside0.mk (below_step (by repeat (first | (with_reducible first | exact HB.out | apply below_alloc | apply pw_below_drewN | apply below_drew1 | refine below_set ?_ GE131.out | refine below_set ?_ GE132.out) | exact HB.out)) hb); clear HO144; clear BK131; clear BK132; clear HB; have HO144 := n0_; have BK131 := n1_; have BK132 := n2_; have HB := n3_; clear n0_ n1_ n2_ n3_; (try clear hb); (try clear hb2); (try clear hk); (try clear hi)))
      go_ret
      exact ⟨by first | rfl | (simp <;> rfl) | (simp [*] <;> rfl), by repeat (first | (with_reducible first | exact HB.out | apply below_alloc | apply pw_below_drewN | apply below_drew1 | refine below_set ?_ GE131.out | refine below_set ?_ GE132.out) | exact HB.out)⟩
    · replace c23 := Bool.eq_false_iff.mpr c23
      subst c23
      have H1 : ((script_reckons.f a1_0).bind fun t146 => (if t146 = true then ((num_Show.f a1_6).bind fun t147 => ((script_line.f (([a0_0, a1_1, t147] : List ByteArray))).bind fun t151 => (some t151))) else ((script_line.f (([a0_0, a1_1] : List ByteArray))).bind fun t155 => (some t155)))) = some r := by rw [if_neg (show ¬ (false = true) by decide)] at H; exact H
      clear H
      have H := H1
      clear H1
      replace H := Option.bind_eq_some_iff.mp H
      obtain ⟨t146, A360, H⟩ := H
      replace H : (if t146 = true then ((num_Show.f a1_6).bind fun t147 => ((script_line.f (([a0_0, a1_1, t147] : List ByteArray))).bind fun t151 => (some t151))) else ((script_line.f (([a0_0, a1_1] : List ByteArray))).bind fun t155 => (some t155))) = some r := H
      have A36 := Aside0.mk A360
      clear A360
      by_cases c37 : t146 = true
      · subst c37
        have H1 : ((num_Show.f a1_6).bind fun t147 => ((script_line.f (([a0_0, a1_1, t147] : List ByteArray))).bind fun t151 => (some t151))) = some r := by rw [if_pos rfl] at H; exact H
        clear H
        have H := H1
        clear H1
        replace H := Option.bind_eq_some_iff.mp H
        obtain ⟨t147, A380, H⟩ := H
        replace H : ((script_line.f (([a0_0, a1_1, t147] : List ByteArray))).bind fun t151 => (some t151)) = some r := H
        have A38 := Aside0.mk A380
        clear A380
        obtain ⟨y148, hy148⟩ : ∃ y_ : List ByteArray, y_ = (([a0_0, a1_1, t147] : List ByteArray)) := ⟨_, rfl⟩
        replace H : ((script_line.f y148).bind fun t151 => (some t151)) = some r := by first | (rw [hy148]; with_reducible exact H) | (have H2_ := (Option.bind_some _ _).symm.trans H; rw [hy148]; with_reducible exact H2_) | (have H2_ := (Option.bind_some _ _).symm.trans H; with_reducible exact H2_) | with_reducible exact H | (rw [hy148]; exact H) | exact H
        have Ny148 := Aside0.mk hy148
        clear hy148
        replace H := Option.bind_eq_some_iff.mp H
        obtain ⟨t151, A390, H⟩ := H
        replace H : (some t151) = some r := H
        have A39 := Aside0.mk A390
        clear A390
        obtain rfl := Option.some.inj H
        go_enter Tryz.func23, Tryz.ntmps23
        try go_wp2_with (first | ((with_reducible refine gate_dst (N := 2) rfl ?_); refine box_event ?hg (N := 2) ?hd (cs := #[.string a0_0, .int .u8 a0_1, .string a0_2, .string a0_3]) (t := 41) ?hr ?_; (case hd => rfl); (case hg => rfl); (case hr => first | (go_simp; done) | (go_simp; rfl)); intro gb131 hg w40 hbox hb; have n0_ := Aside0.mk (below_step (by repeat (first | (with_reducible first | exact HB.out | apply below_alloc | apply pw_below_drewN | apply below_drew1) | exact HB.out)) hb); have n1_ := Aside0.mk (hbox); have n2_ := Aside0.mk ((by rw [hg]; exact (below_size (by repeat (first | (with_reducible first | exact HB.out | apply below_alloc | apply pw_below_drewN | apply below_drew1) | exact HB.out))) : w.heap.size ≤ gb131)); have n3_ := Aside0.mk ((by rw [hg]; exact (below_size (by repeat (first | (with_reducible first | exact HB.out | apply below_alloc | apply pw_below_drewN | apply below_drew1) | exact HB.out))) : w.heap.size ≤ gb131)); clear HB; have HB := n0_; have BK131 := n1_; have GW131 := n2_; have GE131 := n3_; clear n0_ n1_ n2_ n3_; clear hb hbox hg) | ((with_reducible refine gate_dst (N := 3) rfl ?_); refine box_event ?hg (N := 3) ?hd (cs := #[.int .i64 a1_0, .string a1_1, .slice A1_2 l1_2.length c1_2, .int .u32 a1_3, .int .i64 a1_4, .int .u64 a1_5, .int .u64 a1_6, .int .u64 a1_7, .bool a1_8, .bool a1_9]) (t := 26) ?hr ?_; (case hd => rfl); (case hg => rfl); (case hr => first | (go_simp; done) | (go_simp; rfl)); intro gb132 hg w41 hbox hb; have n0_ := Aside0.mk (blk_below (g := gb131) (o := .cells #[.string a0_0, .int .u8 a0_1, .string a0_2, .string a0_3] 41 (0, 0)) (by (with_reducible repeat (first | refine blk_drewN ?_ _ | refine blk_drew ?_ | refine blk_alloc ?_ _)); exact BK131.out) hb); have n1_ := Aside0.mk (below_step (by repeat (first | (with_reducible first | exact HB.out | apply below_alloc | apply pw_below_drewN | apply below_drew1 | refine below_set ?_ GE131.out) | exact HB.out)) hb); have n2_ := Aside0.mk (hbox); have n3_ := Aside0.mk ((by rw [hg]; exact (below_size (by repeat (first | (with_reducible first | exact HB.out | apply below_alloc | apply pw_below_drewN | apply below_drew1 | refine below_set ?_ GE131.out) | exact HB.out))) : w.heap.size ≤ gb132)); have n4_ := Aside0.mk ((by rw [hg]; exact (below_size (by repeat (first | (with_reducible first | exact HB.out | apply below_alloc | apply pw_below_drewN | apply below_drew1 | refine below_set ?_ GE131.out) | exact HB.out))) : w.heap.size ≤ gb132)); have n5_ := Aside0.mk ((by rw [hg]; exact Nat.ne_of_lt (blk_lt (g := gb131) (o := .cells #[.string a0_0, .int .u8 a0_1, .string a0_2, .string a0_3] 41 (0, 0)) (by (with_reducible repeat (first | refine blk_drewN ?_ _ | refine blk_drew ?_ | refine blk_alloc ?_ _)); exact BK131.out)) : gb131 ≠ gb132)); have n6_ := Aside0.mk ((by rw [hg]; exact Nat.ne_of_gt (blk_lt (g := gb131) (o := .cells #[.string a0_0, .int .u8 a0_1, .string a0_2, .string a0_3] 41 (0, 0)) (by (with_reducible repeat (first | refine blk_drewN ?_ _ | refine blk_drew ?_ | refine blk_alloc ?_ _)); exact BK131.out)) : gb132 ≠ gb131)); clear BK131; clear HB; have BK131 := n0_; have HB := n1_; have BK132 := n2_; have GW132 := n3_; have GE132 := n4_; have NB131_132 := n5_; have NB132_131 := n6_; clear n0_ n1_ n2_ n3_ n4_ n5_ n6_; clear hb hbox hg; have hnb42 := NB132_131.out; have hnc42 := NB131_132.out; have hcz43_0 : w41.cell? ⟨gb132, 0, none⟩ = some (.int .i64 a1_0) := (blk_cell BK132.out 0).trans rfl; have hcz43_1 : w41.cell? ⟨gb132, 1, none⟩ = some (.string a1_1) := (blk_cell BK132.out 1).trans rfl; have hcz43_2 : w41.cell? ⟨gb132, 2, none⟩ = some (.slice A1_2 l1_2.length c1_2) := (blk_cell BK132.out 2).trans rfl; have hcz43_3 : w41.cell? ⟨gb132, 3, none⟩ = some (.int .u32 a1_3) := (blk_cell BK132.out 3).trans rfl; have hcz43_4 : w41.cell? ⟨gb132, 4, none⟩ = some (.int .i64 a1_4) := (blk_cell BK132.out 4).trans rfl; have hcz43_5 : w41.cell? ⟨gb132, 5, none⟩ = some (.int .u64 a1_5) := (blk_cell BK132.out 5).trans rfl; have hcz43_6 : w41.cell? ⟨gb132, 6, none⟩ = some (.int .u64 a1_6) := (blk_cell BK132.out 6).trans rfl; have hcz43_7 : w41.cell? ⟨gb132, 7, none⟩ = some (.int .u64 a1_7) := (blk_cell BK132.out 7).trans rfl; have hcz43_8 : w41.cell? ⟨gb132, 8, none⟩ = some (.bool a1_8) := (blk_cell BK132.out 8).trans rfl; have hcz43_9 : w41.cell? ⟨gb132, 9, none⟩ = some (.bool a1_9) := (blk_cell BK132.out 9).trans rfl; have hfz43_0 := blk_frozen BK132.out 0; have hfz43_1 := blk_frozen BK132.out 1; have hfz43_2 := blk_frozen BK132.out 2; have hfz43_3 := blk_frozen BK132.out 3; have hfz43_4 := blk_frozen BK132.out 4; have hfz43_5 := blk_frozen BK132.out 5; have hfz43_6 := blk_frozen BK132.out 6; have hfz43_7 := blk_frozen BK132.out 7; have hfz43_8 := blk_frozen BK132.out 8; have hfz43_9 := blk_frozen BK132.out 9) | ((with_reducible refine gate_callee (f := 43) rfl ?_); refine goesL_ (some 10) rfl rfl Tryz.func43 (by kernel_rfl) rfl #[.int .u64 (IntKind.u64.wrap ((l1_2.length : Int)))] rfl (by (try simp only [List.map_toArray, List.map_cons, List.map_nil]); first | done | rfl | (simp only [List.length_drop, List.length_take]; rfl)) ?_; (with_reducible refine (num_Show.calls (IntKind.u64.wrap ((l1_2.length : Int))) t133 _ ?side1 A3.out).mono ?_); (case side1 => exact Tabs.below HT.out (by repeat (first | (with_reducible first | exact HB.out | apply below_alloc | apply pw_below_drewN | apply below_drew1 | refine below_set ?_ GE131.out | refine below_set ?_ GE132.out) | exact HB.out))); rintro e w44 ⟨rfl, hb⟩; refine ⟨_, rfl, ?_⟩; have n0_ := Aside0.mk (blk_below (g := gb131) (o := .cells #[.string a0_0, .int .u8 a0_1, .string a0_2, .string a0_3] 41 (0, 0)) (by (with_reducible repeat (first | refine blk_drewN ?_ _ | refine blk_drew ?_ | refine blk_alloc ?_ _)); exact BK131.out) hb); have n1_ := Aside0.mk (blk_below (g := gb132) (o := .cells #[.int .i64 a1_0, .string a1_1, .slice A1_2 l1_2.length c1_2, .int .u32 a1_3, .int .i64 a1_4, .int .u64 a1_5, .int .u64 a1_6, .int .u64 a1_7, .bool a1_8, .bool a1_9] 26 (0, 0)) (by (with_reducible repeat (first | refine blk_drewN ?_ _ | refine blk_drew ?_ | refine blk_alloc ?_ _)); exact BK132.out) hb); have n2_ := Aside0.mk (below_step (by repeat (first | (with_reducible first | exact HB.out | apply below_alloc | apply pw_below_drewN | apply below_drew1 | refine below_set ?_ GE131.out | refine below_set ?_ GE132.out) | exact HB.out)) hb); clear BK131; clear BK132; clear HB; have BK131 := n0_; have BK132 := n1_; have HB := n2_; clear n0_ n1_ n2_; (try clear hb); (try clear hb2); (try clear hk); (try clear hi); have hcz45_0 : w44.cell? ⟨gb132, 0, none⟩ = some (.int .i64 a1_0) := (blk_cell BK132.out 0).trans rfl; have hcz45_1 : w44.cell? ⟨gb132, 1, none⟩ = some (.string a1_1) := (blk_cell BK132.out 1).trans rfl; have hcz45_2 : w44.cell? ⟨gb132, 2, none⟩ = some (.slice A1_2 l1_2.length c1_2) := (blk_cell BK132.out 2).trans rfl; have hcz45_3 : w44.cell? ⟨gb132, 3, none⟩ = some (.int .u32 a1_3) := (blk_cell BK132.out 3).trans rfl; have hcz45_4 : w44.cell? ⟨gb132, 4, none⟩ = some (.int .i64 a1_4) := (blk_cell BK132.out 4).trans rfl; have hcz45_5 : w44.cell? ⟨gb132, 5, none⟩ = some (.int .u64 a1_5) := (blk_cell BK132.out 5).trans rfl; have hcz45_6 : w44.cell? ⟨gb132, 6, none⟩ = some (.int .u64 a1_6) := (blk_cell BK132.out 6).trans rfl; have hcz45_7 : w44.cell? ⟨gb132, 7, none⟩ = some (.int .u64 a1_7) := (blk_cell BK132.out 7).trans rfl; have hcz45_8 : w44.cell? ⟨gb132, 8, none⟩ = some (.bool a1_8) := (blk_cell BK132.out 8).trans rfl; have hcz45_9 : w44.cell? ⟨gb132, 9, none⟩ = some (.bool a1_9) := (blk_cell BK132.out 9).trans rfl; have hfz45_0 := blk_frozen BK132.out 0; have hfz45_1 := blk_frozen BK132.out 1; have hfz45_2 := blk_frozen BK132.out 2; have hfz45_3 := blk_frozen BK132.out 3; have hfz45_4 := blk_frozen BK132.out 4; have hfz45_5 := blk_frozen BK132.out 5; have hfz45_6 := blk_frozen BK132.out 6; have hfz45_7 := blk_frozen BK132.out 7; have hfz45_8 := blk_frozen BK132.out 8; have hfz45_9 := blk_frozen BK132.out 9) | ((with_reducible refine gate_callee (f := 44) rfl ?_); refine goesL_ (some 14) rfl rfl Tryz.func44 (by kernel_rfl) rfl #[.int .i64 a1_0] rfl (by (try simp only [List.map_toArray, List.map_cons, List.map_nil]); first | done | rfl | (simp only [List.length_drop, List.length_take]; rfl)) ?_; (with_reducible refine (script_whole.calls a1_0 false _ A4.out).mono ?_); rintro e w' ⟨rfl, ⟨nd, rfl⟩⟩; refine ⟨_, rfl, ?_⟩) | ((with_reducible refine gate_callee (f := 26) rfl ?_); refine goesL_ (some 33) rfl rfl Tryz.func26 (by kernel_rfl) rfl #[.int .i64 a1_0] rfl (by (try simp only [List.map_toArray, List.map_cons, List.map_nil]); first | done | rfl | (simp only [List.length_drop, List.length_take]; rfl)) ?_; (with_reducible refine (script_stores.calls a1_0 false _ A22.out).mono ?_); rintro e w' ⟨rfl, ⟨nd, rfl⟩⟩; refine ⟨_, rfl, ?_⟩) | ((with_reducible refine gate_callee (f := 46) rfl ?_); refine goesL_ (some 44) rfl rfl Tryz.func46 (by kernel_rfl) rfl #[.int .i64 a1_0] rfl (by (try simp only [List.map_toArray, List.map_cons, List.map_nil]); first | done | rfl | (simp only [List.length_drop, List.length_take]; rfl)) ?_; (with_reducible refine (script_reckons.calls a1_0 true _ A36.out).mono ?_); rintro e w' ⟨rfl, ⟨nd, rfl⟩⟩; refine ⟨_, rfl, ?_⟩))
        (try (rw [drewN_self w44]; generalize hq_ : World.drewN w44 _ = w44; have n0_ : Aside0 (w44.heap[gb131]? = some (.cells #[.string a0_0, .int .u8 a0_1, .string a0_2, .string a0_3] 41 (0, 0))) := ⟨by rw [← hq_]; exact (by (with_reducible repeat (first | refine blk_drewN ?_ _ | refine blk_drew ?_ | refine blk_alloc ?_ _)); exact BK131.out)⟩; have n1_ : Aside0 (w44.heap[gb132]? = some (.cells #[.int .i64 a1_0, .string a1_1, .slice A1_2 l1_2.length c1_2, .int .u32 a1_3, .int .i64 a1_4, .int .u64 a1_5, .int .u64 a1_6, .int .u64 a1_7, .bool a1_8, .bool a1_9] 26 (0, 0))) := ⟨by rw [← hq_]; exact (by (with_reducible repeat (first | refine blk_drewN ?_ _ | refine blk_drew ?_ | refine blk_alloc ?_ _)); exact BK132.out)⟩; have n2_ : Aside0 (Below w.heap.size w w44) := ⟨by rw [← hq_]; exact (by repeat (first | (with_reducible first | exact HB.out | apply below_alloc | apply pw_below_drewN | apply below_drew1 | refine below_set ?_ GE131.out | refine below_set ?_ GE132.out) | exact HB.out))⟩; clear BK131 BK132 HB hq_; have BK131 := n0_; have BK132 := n1_; have HB := n2_; clear n0_ n1_ n2_))
        have n0_ := Aside0.mk (blk_drew BK131.out)
        have n1_ := Aside0.mk (blk_drew BK132.out)
        have n2_ := Aside0.mk (below_drew1 HB.out)
        clear BK131
        clear BK132
        clear HB
        have BK131 := n0_
        have BK132 := n1_
        have HB := n2_
        clear n0_ n1_ n2_
        refine start_ (n := 10) (S := fun w' => w'.cell? ⟨gb131, 0, none⟩ = some (.string a0_0) ∧ w'.cell? ⟨gb131, 1, none⟩ = some (.int .u8 a0_1) ∧ w'.cell? ⟨gb131, 2, none⟩ = some (.string a0_2) ∧ w'.cell? ⟨gb131, 3, none⟩ = some (.string a0_3) ∧ w'.cell? ⟨gb132, 0, none⟩ = some (.int .i64 a1_0) ∧ w'.cell? ⟨gb132, 1, none⟩ = some (.string a1_1) ∧ w'.cell? ⟨gb132, 2, none⟩ = some (.slice A1_2 l1_2.length c1_2) ∧ w'.cell? ⟨gb132, 3, none⟩ = some (.int .u32 a1_3) ∧ w'.cell? ⟨gb132, 4, none⟩ = some (.int .i64 a1_4) ∧ w'.cell? ⟨gb132, 5, none⟩ = some (.int .u64 a1_5) ∧ w'.cell? ⟨gb132, 6, none⟩ = some (.int .u64 a1_6) ∧ w'.cell? ⟨gb132, 7, none⟩ = some (.int .u64 a1_7) ∧ w'.cell? ⟨gb132, 8, none⟩ = some (.bool a1_8) ∧ w'.cell? ⟨gb132, 9, none⟩ = some (.bool a1_9)) (ds := []) #[false, false, false, false, false, false, false, false, false, false] (by kernel_rfl) rfl rfl ⟨(blk_cell BK131.out 0).trans rfl, (blk_cell BK131.out 1).trans rfl, (blk_cell BK131.out 2).trans rfl, (blk_cell BK131.out 3).trans rfl, (blk_cell BK132.out 0).trans rfl, (blk_cell BK132.out 1).trans rfl, (blk_cell BK132.out 2).trans rfl, (blk_cell BK132.out 3).trans rfl, (blk_cell BK132.out 4).trans rfl, (blk_cell BK132.out 5).trans rfl, (blk_cell BK132.out 6).trans rfl, (blk_cell BK132.out 7).trans rfl, (blk_cell BK132.out 8).trans rfl, (blk_cell BK132.out 9).trans rfl⟩ (fun hHeld => ?_); refine with_tabW script_text.tab7 script_text.bits7 (fun HT_ HW_ => ?_)
        generalize w44.drew = w46 at BK131 BK132 HB hHeld ⊢
        refine pure_ (i := 0) (N := some 45) (v := ?_) (a' := ?_) #[true, false, false, false, false, false, false, false, false, false] rfl rfl (any_of HT_.out (by kernel_rfl)) (fun _ _ _ h => h) (Or.inl ⟨by rfl, ?_⟩) ?_ ?_
        rotate_left
        · intro w'
          go_simp
          with_reducible rfl
        rotate_left
        · simp only [Act.put, List.setIfInBounds_toArray, List.set_cons_zero, List.set_cons_succ, i64_w, i32_w]
          rfl
        refine pure_ (i := 2) (N := some 47) (v := ?_) (a' := ?_) #[true, false, true, false, false, false, false, false, false, false] rfl rfl (any_of HT_.out (by kernel_rfl)) (fun _ _ _ h => h) (Or.inl ⟨by rfl, ?_⟩) ?_ ?_
        rotate_left
        · intro w'
          go_simp
          with_reducible rfl
        rotate_left
        · simp only [Act.put, List.setIfInBounds_toArray, List.set_cons_zero, List.set_cons_succ, i64_w, i32_w]
          rfl
        refine pure_ (i := 4) (N := some 49) (v := ?_) (a' := ?_) #[true, false, true, false, true, false, false, false, false, false] rfl rfl (any_of HT_.out (by kernel_rfl)) (fun _ _ _ h => h) (Or.inl ⟨by rfl, ?_⟩) ?_ ?_
        rotate_left
        · intro w'
          go_simp
          with_reducible rfl
        rotate_left
        · simp only [Act.put, List.setIfInBounds_toArray, List.set_cons_zero, List.set_cons_succ, i64_w, i32_w]
          rfl
        refine take_ (i := 1) (N := some 46) (v := ?_) (a' := ?_) #[true, true, true, false, true, false, false, false, false, false] rfl rfl (take_ofW HT_.out HW_.out (by kernel_rfl)) (fun _ _ _ h => h) (Or.inl ⟨by rfl, ?_⟩) hHeld ?_ ?_
        rotate_left
        · rintro w' ⟨s0, s1, s2, s3, s4, s5, s6, s7, s8, s9, s10, s11, s12, s13⟩
          go_simp
          with_reducible rfl
        rotate_left
        · simp only [Act.put, List.setIfInBounds_toArray, List.set_cons_zero, List.set_cons_succ, i64_w, i32_w]
          rfl
        refine take_ (i := 3) (N := some 48) (v := ?_) (a' := ?_) #[true, true, true, true, true, false, false, false, false, false] rfl rfl (take_ofW HT_.out HW_.out (by kernel_rfl)) (fun _ _ _ h => h) (Or.inl ⟨by rfl, ?_⟩) hHeld ?_ ?_
        rotate_left
        · rintro w' ⟨s0, s1, s2, s3, s4, s5, s6, s7, s8, s9, s10, s11, s12, s13⟩
          go_simp
          with_reducible rfl
        rotate_left
        · simp only [Act.put, List.setIfInBounds_toArray, List.set_cons_zero, List.set_cons_succ, i64_w, i32_w]
          rfl
        refine take_ (i := 5) (N := some 50) (v := ?_) (a' := ?_) #[true, true, true, true, true, true, false, false, false, false] rfl rfl (take_ofW HT_.out HW_.out (by kernel_rfl)) (fun _ _ _ h => h) (Or.inl ⟨by rfl, ?_⟩) hHeld ?_ ?_
        rotate_left
        · rintro w' ⟨s0, s1, s2, s3, s4, s5, s6, s7, s8, s9, s10, s11, s12, s13⟩
          go_simp
          with_reducible rfl
        rotate_left
        · simp only [Act.put, List.setIfInBounds_toArray, List.set_cons_zero, List.set_cons_succ, i64_w, i32_w]
          rfl
        refine one_ (i := 6) (N := some 51) #[true, true, true, true, true, true, true, false, false, false] rfl rfl (one_of HT_.out (by kernel_rfl)) (by decide) (fun K hK => ?_)
        refine goes_ Tryz.func43 (by kernel_rfl) rfl #[.int .u64 a1_6] (by rfl) rfl rfl (by (try simp only [List.map_toArray, List.map_cons, List.map_nil]); first | done | rfl | (simp only [List.length_drop, List.length_take]; rfl)) ?_
        with_reducible refine (num_Show.calls a1_6 t147 _ ?side1 A38.out).mono ?_
        (case side1 => exact Tabs.below HT.out (by repeat (first | (with_reducible first | exact HB.out | apply below_alloc | apply pw_below_drewN | apply below_drew1 | refine below_set ?_ GE131.out | refine below_set ?_ GE132.out) | exact HB.out)))
        rintro e w47 ⟨rfl, hb⟩
        refine ⟨_, rfl, ?_⟩
        have n0_ := Aside0.mk (blk_below (g := gb131) (o := .cells #[.string a0_0, .int .u8 a0_1, .string a0_2, .string a0_3] 41 (0, 0)) (by (with_reducible repeat (first | refine blk_drewN ?_ _ | refine blk_drew ?_ | refine blk_alloc ?_ _)); exact BK131.out) hb)
        have n1_ := Aside0.mk (blk_below (g := gb132) (o := .cells #[.int .i64 a1_0, .string a1_1, .slice A1_2 l1_2.length c1_2, .int .u32 a1_3, .int .i64 a1_4, .int .u64 a1_5, .int .u64 a1_6, .int .u64 a1_7, .bool a1_8, .bool a1_9] 26 (0, 0)) (by (with_reducible repeat (first | refine blk_drewN ?_ _ | refine blk_drew ?_ | refine blk_alloc ?_ _)); exact BK132.out) hb)
        have n2_ := Aside0.mk (below_step (by repeat (first | (with_reducible first | exact HB.out | apply below_alloc | apply pw_below_drewN | apply below_drew1 | refine below_set ?_ GE131.out | refine below_set ?_ GE132.out) | exact HB.out)) hb)
        clear BK131
        clear BK132
        clear HB
        have BK131 := n0_
        have BK132 := n1_
        have HB := n2_
        clear n0_ n1_ n2_
        (try clear hb)
        (try clear hb2)
        (try clear hk)
        (try clear hi)
        refine hK.out _ _ ⟨(blk_cell BK131.out 0).trans rfl, (blk_cell BK131.out 1).trans rfl, (blk_cell BK131.out 2).trans rfl, (blk_cell BK131.out 3).trans rfl, (blk_cell BK132.out 0).trans rfl, (blk_cell BK132.out 1).trans rfl, (blk_cell BK132.out 2).trans rfl, (blk_cell BK132.out 3).trans rfl, (blk_cell BK132.out 4).trans rfl, (blk_cell BK132.out 5).trans rfl, (blk_cell BK132.out 6).trans rfl, (blk_cell BK132.out 7).trans rfl, (blk_cell BK132.out 8).trans rfl, (blk_cell BK132.out 9).trans rfl⟩ (fun hHeld => ?_)
        clear hK K
        refine norm_ (a' := ?_) ?_ ?_
        rotate_left
        · show Act.put _ (some 51) _ = _
          simp only [Act.put, List.setIfInBounds_toArray, List.set_cons_zero, List.set_cons_succ, i64_w, i32_w]
          rfl
        refine one_ (i := 7) (N := some 52) #[true, true, true, true, true, true, true, true, false, false] rfl rfl (one_of HT_.out (by kernel_rfl)) (by decide) (fun K hK => ?_)
        refine Kd.R_lit_step Kd.string _ 9 ?hg (N := 52) ?hd (xs := ([a0_0, a1_1, t147] : List ByteArray)) (inner := [.string a0_0, .string a1_1, .string t147]) (ok := fun _ => True) (okp := fun _ => True) ?hr ?hp (fun _ hk => hk) trivial (Below.refl _ _) (Nat.le_refl _) (by simp) ?_; (case hd => rfl); (case hg => rfl); (case hr => first | (go_simp; done) | (go_simp; rfl)); (case hp => exact (Reps.one (show Kd.M Kd.string _ _ _ a0_0 [.string a0_0] from rfl) (Reps.one (show Kd.M Kd.string _ _ _ a1_1 [.string a1_1] from rfl) (Reps.one (show Kd.M Kd.string _ _ _ t147 [.string t147] from rfl) (Reps.none _ _)))))
        intro v149 w48 ho49 hb hg_ hnew_
        clear hg_ hnew_
        (first | rw [← Ny148.out] at ho49 | (simp only [Int.reduceToNat] at ho49; rw [← Ny148.out] at ho49))
        have n0_ := Aside0.mk (Kd.R_lower ho49 (below_size (by repeat (first | (with_reducible first | exact HB.out | apply below_alloc | apply pw_below_drewN | apply below_drew1 | refine below_set ?_ GE131.out | refine below_set ?_ GE132.out) | exact HB.out))))
        have n1_ := Aside0.mk (blk_below (g := gb131) (o := .cells #[.string a0_0, .int .u8 a0_1, .string a0_2, .string a0_3] 41 (0, 0)) (by (with_reducible repeat (first | refine blk_drewN ?_ _ | refine blk_drew ?_ | refine blk_alloc ?_ _)); exact BK131.out) hb)
        have n2_ := Aside0.mk (blk_below (g := gb132) (o := .cells #[.int .i64 a1_0, .string a1_1, .slice A1_2 l1_2.length c1_2, .int .u32 a1_3, .int .i64 a1_4, .int .u64 a1_5, .int .u64 a1_6, .int .u64 a1_7, .bool a1_8, .bool a1_9] 26 (0, 0)) (by (with_reducible repeat (first | refine blk_drewN ?_ _ | refine blk_drew ?_ | refine blk_alloc ?_ _)); exact BK132.out) hb)
        have n3_ := Aside0.mk (below_step (by repeat (first | (with_reducible first | exact HB.out | apply below_alloc | apply pw_below_drewN | apply below_drew1 | refine below_set ?_ GE131.out | refine below_set ?_ GE132.out) | exact HB.out)) hb)
        clear BK131
        clear BK132
        clear HB
        have HO150 := n0_
        have BK131 := n1_
        have BK132 := n2_
        have HB := n3_
        clear n0_ n1_ n2_ n3_
        clear hb ho49
        obtain ⟨Ao50, co50, eo50⟩ := Kd.R_slice HO150.out
        (first | subst eo50 | (injection eo50 with f1_ f2_ f3_; have f4_ := f1_.symm; have f5_ := f3_.symm; clear f1_ f2_ f3_; subst f4_; subst f5_))
        refine hK.out _ _ ⟨(blk_cell BK131.out 0).trans rfl, (blk_cell BK131.out 1).trans rfl, (blk_cell BK131.out 2).trans rfl, (blk_cell BK131.out 3).trans rfl, (blk_cell BK132.out 0).trans rfl, (blk_cell BK132.out 1).trans rfl, (blk_cell BK132.out 2).trans rfl, (blk_cell BK132.out 3).trans rfl, (blk_cell BK132.out 4).trans rfl, (blk_cell BK132.out 5).trans rfl, (blk_cell BK132.out 6).trans rfl, (blk_cell BK132.out 7).trans rfl, (blk_cell BK132.out 8).trans rfl, (blk_cell BK132.out 9).trans rfl⟩ (fun hHeld => ?_)
        clear hK K
        refine norm_ (a' := ?_) ?_ ?_
        rotate_left
        · show Act.put _ (some 52) _ = _
          simp only [Act.put, List.setIfInBounds_toArray, List.set_cons_zero, List.set_cons_succ, i64_w, i32_w]
          rfl
        refine one_ (i := 8) (N := some 53) #[true, true, true, true, true, true, true, true, true, false] rfl rfl (one_of HT_.out (by kernel_rfl)) (by decide) (fun K hK => ?_)
        refine goes_ Tryz.func45 (by kernel_rfl) rfl #[.slice Ao50 y148.length co50] (by rfl) rfl rfl (by (try simp only [List.map_toArray, List.map_cons, List.map_nil]); first | done | rfl | (simp only [List.length_drop, List.length_take]; rfl)) ?_
        with_reducible refine (script_line.calls _ _ y148 t151 _ ?side1 ?side2 A39.out).mono ?_
        (case side1 => repeat (first | exact (Kd.R_reads' HO150.out).2.2 | (with_reducible refine Kd.C_alloc ?_ _) | (with_reducible refine Kd.C_drewN ?_ _) | (with_reducible refine Kd.C_drew ?_)))
        (case side2 => exact (Kd.R_reads' HO150.out).2.1)
        rintro e w51 ⟨rfl, hb⟩
        refine ⟨_, rfl, ?_⟩
        have n0_ := Aside0.mk (Kd.R_below (by (with_reducible repeat (first | apply Kd.R_alloc | apply Kd.R_drewN | apply Kd.R_drew)); exact HO150.out) hb)
        have n1_ := Aside0.mk (blk_below (g := gb131) (o := .cells #[.string a0_0, .int .u8 a0_1, .string a0_2, .string a0_3] 41 (0, 0)) (by (with_reducible repeat (first | refine blk_drewN ?_ _ | refine blk_drew ?_ | refine blk_alloc ?_ _)); exact BK131.out) hb)
        have n2_ := Aside0.mk (blk_below (g := gb132) (o := .cells #[.int .i64 a1_0, .string a1_1, .slice A1_2 l1_2.length c1_2, .int .u32 a1_3, .int .i64 a1_4, .int .u64 a1_5, .int .u64 a1_6, .int .u64 a1_7, .bool a1_8, .bool a1_9] 26 (0, 0)) (by (with_reducible repeat (first | refine blk_drewN ?_ _ | refine blk_drew ?_ | refine blk_alloc ?_ _)); exact BK132.out) hb)
        have n3_ := Aside0.mk (below_step (by repeat (first | (with_reducible first | exact HB.out | apply below_alloc | apply pw_below_drewN | apply below_drew1 | refine below_set ?_ GE131.out | refine below_set ?_ GE132.out) | exact HB.out)) hb)
        clear HO150
        clear BK131
        clear BK132
        clear HB
        have HO150 := n0_
        have BK131 := n1_
        have BK132 := n2_
        have HB := n3_
        clear n0_ n1_ n2_ n3_
        (try clear hb)
        (try clear hb2)
        (try clear hk)
        (try clear hi)
        refine hK.out _ _ ⟨(blk_cell BK131.out 0).trans rfl, (blk_cell BK131.out 1).trans rfl, (blk_cell BK131.out 2).trans rfl, (blk_cell BK131.out 3).trans rfl, (blk_cell BK132.out 0).trans rfl, (blk_cell BK132.out 1).trans rfl, (blk_cell BK132.out 2).trans rfl, (blk_cell BK132.out 3).trans rfl, (blk_cell BK132.out 4).trans rfl, (blk_cell BK132.out 5).trans rfl, (blk_cell BK132.out 6).trans rfl, (blk_cell BK132.out 7).trans rfl, (blk_cell BK132.out 8).trans rfl, (blk_cell BK132.out 9).trans rfl⟩ (fun hHeld => ?_)
        clear hK K
        refine norm_ (a' := ?_) ?_ ?_
        rotate_left
        · show Act.put _ (some 53) _ = _
          simp only [Act.put, List.setIfInBounds_toArray, List.set_cons_zero, List.set_cons_succ, i64_w, i32_w]
          rfl
        refine pure_ (i := 9) (N := some 4) (v := ?_) (a' := ?_) #[true, true, true, true, true, true, true, true, true, true] rfl rfl (any_of HT_.out (by kernel_rfl)) (fun _ _ _ h => h) (Or.inl ⟨by rfl, ?_⟩) ?_ ?_
        rotate_left
        · intro w'
          go_simp
          with_reducible rfl
        rotate_left
        · simp only [Act.put, List.setIfInBounds_toArray, List.set_cons_zero, List.set_cons_succ, i64_w, i32_w]
          rfl
        refine done_ (done_of HT_.out (by kernel_rfl)) ?_
        try go_wp2
        go_ret
        exact ⟨by first | rfl | (simp <;> rfl) | (simp [*] <;> rfl), by repeat (first | (with_reducible first | exact HB.out | apply below_alloc | apply pw_below_drewN | apply below_drew1 | refine below_set ?_ GE131.out | refine below_set ?_ GE132.out) | exact HB.out)⟩
      · replace c37 := Bool.eq_false_iff.mpr c37
        subst c37
        have H1 : ((script_line.f (([a0_0, a1_1] : List ByteArray))).bind fun t155 => (some t155)) = some r := by rw [if_neg (show ¬ (false = true) by decide)] at H; exact H
        clear H
        have H := H1
        clear H1
        obtain ⟨y152, hy152⟩ : ∃ y_ : List ByteArray, y_ = (([a0_0, a1_1] : List ByteArray)) := ⟨_, rfl⟩
        replace H : ((script_line.f y152).bind fun t155 => (some t155)) = some r := by first | (rw [hy152]; with_reducible exact H) | (have H2_ := (Option.bind_some _ _).symm.trans H; rw [hy152]; with_reducible exact H2_) | (have H2_ := (Option.bind_some _ _).symm.trans H; with_reducible exact H2_) | with_reducible exact H | (rw [hy152]; exact H) | exact H
        have Ny152 := Aside0.mk hy152
        clear hy152
        replace H := Option.bind_eq_some_iff.mp H
        obtain ⟨t155, A520, H⟩ := H
        replace H : (some t155) = some r := H
        have A52 := Aside0.mk A520
        clear A520
        obtain rfl := Option.some.inj H
        go_enter Tryz.func23, Tryz.ntmps23
        go_wp2_with (first | ((with_reducible refine gate_dst (N := 2) rfl ?_); refine box_event ?hg (N := 2) ?hd (cs := #[.string a0_0, .int .u8 a0_1, .string a0_2, .string a0_3]) (t := 41) ?hr ?_; (case hd => rfl); (case hg => rfl); (case hr => first | (go_simp; done) | (go_simp; rfl)); intro gb131 hg w53 hbox hb; have n0_ := Aside0.mk (below_step (by repeat (first | (with_reducible first | exact HB.out | apply below_alloc | apply pw_below_drewN | apply below_drew1) | exact HB.out)) hb); have n1_ := Aside0.mk (hbox); have n2_ := Aside0.mk ((by rw [hg]; exact (below_size (by repeat (first | (with_reducible first | exact HB.out | apply below_alloc | apply pw_below_drewN | apply below_drew1) | exact HB.out))) : w.heap.size ≤ gb131)); have n3_ := Aside0.mk ((by rw [hg]; exact (below_size (by repeat (first | (with_reducible first | exact HB.out | apply below_alloc | apply pw_below_drewN | apply below_drew1) | exact HB.out))) : w.heap.size ≤ gb131)); clear HB; have HB := n0_; have BK131 := n1_; have GW131 := n2_; have GE131 := n3_; clear n0_ n1_ n2_ n3_; clear hb hbox hg) | ((with_reducible refine gate_dst (N := 3) rfl ?_); refine box_event ?hg (N := 3) ?hd (cs := #[.int .i64 a1_0, .string a1_1, .slice A1_2 l1_2.length c1_2, .int .u32 a1_3, .int .i64 a1_4, .int .u64 a1_5, .int .u64 a1_6, .int .u64 a1_7, .bool a1_8, .bool a1_9]) (t := 26) ?hr ?_; (case hd => rfl); (case hg => rfl); (case hr => first | (go_simp; done) | (go_simp; rfl)); intro gb132 hg w54 hbox hb; have n0_ := Aside0.mk (blk_below (g := gb131) (o := .cells #[.string a0_0, .int .u8 a0_1, .string a0_2, .string a0_3] 41 (0, 0)) (by (with_reducible repeat (first | refine blk_drewN ?_ _ | refine blk_drew ?_ | refine blk_alloc ?_ _)); exact BK131.out) hb); have n1_ := Aside0.mk (below_step (by repeat (first | (with_reducible first | exact HB.out | apply below_alloc | apply pw_below_drewN | apply below_drew1 | refine below_set ?_ GE131.out) | exact HB.out)) hb); have n2_ := Aside0.mk (hbox); have n3_ := Aside0.mk ((by rw [hg]; exact (below_size (by repeat (first | (with_reducible first | exact HB.out | apply below_alloc | apply pw_below_drewN | apply below_drew1 | refine below_set ?_ GE131.out) | exact HB.out))) : w.heap.size ≤ gb132)); have n4_ := Aside0.mk ((by rw [hg]; exact (below_size (by repeat (first | (with_reducible first | exact HB.out | apply below_alloc | apply pw_below_drewN | apply below_drew1 | refine below_set ?_ GE131.out) | exact HB.out))) : w.heap.size ≤ gb132)); have n5_ := Aside0.mk ((by rw [hg]; exact Nat.ne_of_lt (blk_lt (g := gb131) (o := .cells #[.string a0_0, .int .u8 a0_1, .string a0_2, .string a0_3] 41 (0, 0)) (by (with_reducible repeat (first | refine blk_drewN ?_ _ | refine blk_drew ?_ | refine blk_alloc ?_ _)); exact BK131.out)) : gb131 ≠ gb132)); have n6_ := Aside0.mk ((by rw [hg]; exact Nat.ne_of_gt (blk_lt (g := gb131) (o := .cells #[.string a0_0, .int .u8 a0_1, .string a0_2, .string a0_3] 41 (0, 0)) (by (with_reducible repeat (first | refine blk_drewN ?_ _ | refine blk_drew ?_ | refine blk_alloc ?_ _)); exact BK131.out)) : gb132 ≠ gb131)); clear BK131; clear HB; have BK131 := n0_; have HB := n1_; have BK132 := n2_; have GW132 := n3_; have GE132 := n4_; have NB131_132 := n5_; have NB132_131 := n6_; clear n0_ n1_ n2_ n3_ n4_ n5_ n6_; clear hb hbox hg; have hnb55 := NB132_131.out; have hnc55 := NB131_132.out; have hcz56_0 : w54.cell? ⟨gb132, 0, none⟩ = some (.int .i64 a1_0) := (blk_cell BK132.out 0).trans rfl; have hcz56_1 : w54.cell? ⟨gb132, 1, none⟩ = some (.string a1_1) := (blk_cell BK132.out 1).trans rfl; have hcz56_2 : w54.cell? ⟨gb132, 2, none⟩ = some (.slice A1_2 l1_2.length c1_2) := (blk_cell BK132.out 2).trans rfl; have hcz56_3 : w54.cell? ⟨gb132, 3, none⟩ = some (.int .u32 a1_3) := (blk_cell BK132.out 3).trans rfl; have hcz56_4 : w54.cell? ⟨gb132, 4, none⟩ = some (.int .i64 a1_4) := (blk_cell BK132.out 4).trans rfl; have hcz56_5 : w54.cell? ⟨gb132, 5, none⟩ = some (.int .u64 a1_5) := (blk_cell BK132.out 5).trans rfl; have hcz56_6 : w54.cell? ⟨gb132, 6, none⟩ = some (.int .u64 a1_6) := (blk_cell BK132.out 6).trans rfl; have hcz56_7 : w54.cell? ⟨gb132, 7, none⟩ = some (.int .u64 a1_7) := (blk_cell BK132.out 7).trans rfl; have hcz56_8 : w54.cell? ⟨gb132, 8, none⟩ = some (.bool a1_8) := (blk_cell BK132.out 8).trans rfl; have hcz56_9 : w54.cell? ⟨gb132, 9, none⟩ = some (.bool a1_9) := (blk_cell BK132.out 9).trans rfl; have hfz56_0 := blk_frozen BK132.out 0; have hfz56_1 := blk_frozen BK132.out 1; have hfz56_2 := blk_frozen BK132.out 2; have hfz56_3 := blk_frozen BK132.out 3; have hfz56_4 := blk_frozen BK132.out 4; have hfz56_5 := blk_frozen BK132.out 5; have hfz56_6 := blk_frozen BK132.out 6; have hfz56_7 := blk_frozen BK132.out 7; have hfz56_8 := blk_frozen BK132.out 8; have hfz56_9 := blk_frozen BK132.out 9) | ((with_reducible refine gate_callee (f := 43) rfl ?_); refine goesL_ (some 10) rfl rfl Tryz.func43 (by kernel_rfl) rfl #[.int .u64 (IntKind.u64.wrap ((l1_2.length : Int)))] rfl (by (try simp only [List.map_toArray, List.map_cons, List.map_nil]); first | done | rfl | (simp only [List.length_drop, List.length_take]; rfl)) ?_; (with_reducible refine (num_Show.calls (IntKind.u64.wrap ((l1_2.length : Int))) t133 _ ?side1 A3.out).mono ?_); (case side1 => exact Tabs.below HT.out (by repeat (first | (with_reducible first | exact HB.out | apply below_alloc | apply pw_below_drewN | apply below_drew1 | refine below_set ?_ GE131.out | refine below_set ?_ GE132.out) | exact HB.out))); rintro e w57 ⟨rfl, hb⟩; refine ⟨_, rfl, ?_⟩; have n0_ := Aside0.mk (blk_below (g := gb131) (o := .cells #[.string a0_0, .int .u8 a0_1, .string a0_2, .string a0_3] 41 (0, 0)) (by (with_reducible repeat (first | refine blk_drewN ?_ _ | refine blk_drew ?_ | refine blk_alloc ?_ _)); exact BK131.out) hb); have n1_ := Aside0.mk (blk_below (g := gb132) (o := .cells #[.int .i64 a1_0, .string a1_1, .slice A1_2 l1_2.length c1_2, .int .u32 a1_3, .int .i64 a1_4, .int .u64 a1_5, .int .u64 a1_6, .int .u64 a1_7, .bool a1_8, .bool a1_9] 26 (0, 0)) (by (with_reducible repeat (first | refine blk_drewN ?_ _ | refine blk_drew ?_ | refine blk_alloc ?_ _)); exact BK132.out) hb); have n2_ := Aside0.mk (below_step (by repeat (first | (with_reducible first | exact HB.out | apply below_alloc | apply pw_below_drewN | apply below_drew1 | refine below_set ?_ GE131.out | refine below_set ?_ GE132.out) | exact HB.out)) hb); clear BK131; clear BK132; clear HB; have BK131 := n0_; have BK132 := n1_; have HB := n2_; clear n0_ n1_ n2_; (try clear hb); (try clear hb2); (try clear hk); (try clear hi); have hcz58_0 : w57.cell? ⟨gb132, 0, none⟩ = some (.int .i64 a1_0) := (blk_cell BK132.out 0).trans rfl; have hcz58_1 : w57.cell? ⟨gb132, 1, none⟩ = some (.string a1_1) := (blk_cell BK132.out 1).trans rfl; have hcz58_2 : w57.cell? ⟨gb132, 2, none⟩ = some (.slice A1_2 l1_2.length c1_2) := (blk_cell BK132.out 2).trans rfl; have hcz58_3 : w57.cell? ⟨gb132, 3, none⟩ = some (.int .u32 a1_3) := (blk_cell BK132.out 3).trans rfl; have hcz58_4 : w57.cell? ⟨gb132, 4, none⟩ = some (.int .i64 a1_4) := (blk_cell BK132.out 4).trans rfl; have hcz58_5 : w57.cell? ⟨gb132, 5, none⟩ = some (.int .u64 a1_5) := (blk_cell BK132.out 5).trans rfl; have hcz58_6 : w57.cell? ⟨gb132, 6, none⟩ = some (.int .u64 a1_6) := (blk_cell BK132.out 6).trans rfl; have hcz58_7 : w57.cell? ⟨gb132, 7, none⟩ = some (.int .u64 a1_7) := (blk_cell BK132.out 7).trans rfl; have hcz58_8 : w57.cell? ⟨gb132, 8, none⟩ = some (.bool a1_8) := (blk_cell BK132.out 8).trans rfl; have hcz58_9 : w57.cell? ⟨gb132, 9, none⟩ = some (.bool a1_9) := (blk_cell BK132.out 9).trans rfl; have hfz58_0 := blk_frozen BK132.out 0; have hfz58_1 := blk_frozen BK132.out 1; have hfz58_2 := blk_frozen BK132.out 2; have hfz58_3 := blk_frozen BK132.out 3; have hfz58_4 := blk_frozen BK132.out 4; have hfz58_5 := blk_frozen BK132.out 5; have hfz58_6 := blk_frozen BK132.out 6; have hfz58_7 := blk_frozen BK132.out 7; have hfz58_8 := blk_frozen BK132.out 8; have hfz58_9 := blk_frozen BK132.out 9) | ((with_reducible refine gate_callee (f := 44) rfl ?_); refine goesL_ (some 14) rfl rfl Tryz.func44 (by kernel_rfl) rfl #[.int .i64 a1_0] rfl (by (try simp only [List.map_toArray, List.map_cons, List.map_nil]); first | done | rfl | (simp only [List.length_drop, List.length_take]; rfl)) ?_; (with_reducible refine (script_whole.calls a1_0 false _ A4.out).mono ?_); rintro e w' ⟨rfl, ⟨nd, rfl⟩⟩; refine ⟨_, rfl, ?_⟩) | ((with_reducible refine gate_callee (f := 26) rfl ?_); refine goesL_ (some 33) rfl rfl Tryz.func26 (by kernel_rfl) rfl #[.int .i64 a1_0] rfl (by (try simp only [List.map_toArray, List.map_cons, List.map_nil]); first | done | rfl | (simp only [List.length_drop, List.length_take]; rfl)) ?_; (with_reducible refine (script_stores.calls a1_0 false _ A22.out).mono ?_); rintro e w' ⟨rfl, ⟨nd, rfl⟩⟩; refine ⟨_, rfl, ?_⟩) | ((with_reducible refine gate_callee (f := 46) rfl ?_); refine goesL_ (some 44) rfl rfl Tryz.func46 (by kernel_rfl) rfl #[.int .i64 a1_0] rfl (by (try simp only [List.map_toArray, List.map_cons, List.map_nil]); first | done | rfl | (simp only [List.length_drop, List.length_take]; rfl)) ?_; (with_reducible refine (script_reckons.calls a1_0 false _ A36.out).mono ?_); rintro e w' ⟨rfl, ⟨nd, rfl⟩⟩; refine ⟨_, rfl, ?_⟩; have hcz59_0 : w57.cell? ⟨gb131, 0, none⟩ = some (.string a0_0) := (blk_cell BK131.out 0).trans rfl; have hcz59_1 : w57.cell? ⟨gb131, 1, none⟩ = some (.int .u8 a0_1) := (blk_cell BK131.out 1).trans rfl; have hcz59_2 : w57.cell? ⟨gb131, 2, none⟩ = some (.string a0_2) := (blk_cell BK131.out 2).trans rfl; have hcz59_3 : w57.cell? ⟨gb131, 3, none⟩ = some (.string a0_3) := (blk_cell BK131.out 3).trans rfl; have hfz59_0 := blk_frozen BK131.out 0; have hfz59_1 := blk_frozen BK131.out 1; have hfz59_2 := blk_frozen BK131.out 2; have hfz59_3 := blk_frozen BK131.out 3) | ((with_reducible refine gate_dst (N := 58) rfl ?_); refine Kd.R_lit Kd.string _ 9 ?hg (N := 58) ?hd (xs := ([a0_0, a1_1] : List ByteArray)) (inner := [.string a0_0, .string a1_1]) (ok := fun _ => True) (okp := fun _ => True) ?hr ?hp (fun _ hk => hk) trivial (Below.refl _ _) (Nat.le_refl _) (by simp) ?_; (case hd => rfl); (case hg => rfl); (case hr => first | (go_simp; done) | (go_simp; rfl)); (case hp => exact (Reps.one (show Kd.M Kd.string _ _ _ a0_0 [.string a0_0] from rfl) (Reps.one (show Kd.M Kd.string _ _ _ a1_1 [.string a1_1] from rfl) (Reps.none _ _)))); intro v153 w60 ho61 hb hg_ hnew_; clear hg_ hnew_; (first | rw [← Ny152.out] at ho61 | (simp only [Int.reduceToNat] at ho61; rw [← Ny152.out] at ho61)); have n0_ := Aside0.mk (Kd.R_lower ho61 (below_size (by repeat (first | (with_reducible first | exact HB.out | apply below_alloc | apply pw_below_drewN | apply below_drew1 | refine below_set ?_ GE131.out | refine below_set ?_ GE132.out) | exact HB.out)))); have n1_ := Aside0.mk (blk_below (g := gb131) (o := .cells #[.string a0_0, .int .u8 a0_1, .string a0_2, .string a0_3] 41 (0, 0)) (by (with_reducible repeat (first | refine blk_drewN ?_ _ | refine blk_drew ?_ | refine blk_alloc ?_ _)); exact BK131.out) hb); have n2_ := Aside0.mk (blk_below (g := gb132) (o := .cells #[.int .i64 a1_0, .string a1_1, .slice A1_2 l1_2.length c1_2, .int .u32 a1_3, .int .i64 a1_4, .int .u64 a1_5, .int .u64 a1_6, .int .u64 a1_7, .bool a1_8, .bool a1_9] 26 (0, 0)) (by (with_reducible repeat (first | refine blk_drewN ?_ _ | refine blk_drew ?_ | refine blk_alloc ?_ _)); exact BK132.out) hb); have n3_ := Aside0.mk (below_step (by repeat (first | (with_reducible first | exact HB.out | apply below_alloc | apply pw_below_drewN | apply below_drew1 | refine below_set ?_ GE131.out | refine below_set ?_ GE132.out) | exact HB.out)) hb); clear BK131; clear BK132; clear HB; have HO154 := n0_; have BK131 := n1_; have BK132 := n2_; have HB := n3_; clear n0_ n1_ n2_ n3_; clear hb ho61; obtain ⟨Ao62, co62, eo62⟩ := Kd.R_slice HO154.out; subst eo62) | ((with_reducible refine gate_callee (f := 45) rfl ?_); refine goesL_ (some 59) rfl rfl Tryz.func45 (by kernel_rfl) rfl #[.slice Ao62 y152.length co62] rfl (by (try simp only [List.map_toArray, List.map_cons, List.map_nil]); first | done | rfl | (simp only [List.length_drop, List.length_take]; rfl)) ?_; (with_reducible refine (script_line.calls _ _ y152 t155 _ ?side1 ?side2 A52.out).mono ?_); (case side1 => repeat (first | exact (Kd.R_reads' HO154.out).2.2 | (with_reducible refine Kd.C_alloc ?_ _) | (with_reducible refine Kd.C_drewN ?_ _) | (with_reducible refine Kd.C_drew ?_))); (case side2 => exact (Kd.R_reads' HO154.out).2.1); rintro e w63 ⟨rfl, hb⟩; refine ⟨_, rfl, ?_⟩; have n0_ := Aside0.mk (Kd.R_below (by (with_reducible repeat (first | apply Kd.R_alloc | apply Kd.R_drewN | apply Kd.R_drew)); exact HO154.out) hb); have n1_ := Aside0.mk (blk_below (g := gb131) (o := .cells #[.string a0_0, .int .u8 a0_1, .string a0_2, .string a0_3] 41 (0, 0)) (by (with_reducible repeat (first | refine blk_drewN ?_ _ | refine blk_drew ?_ | refine blk_alloc ?_ _)); exact BK131.out) hb); have n2_ := Aside0.mk (blk_below (g := gb132) (o := .cells #[.int .i64 a1_0, .string a1_1, .slice A1_2 l1_2.length c1_2, .int .u32 a1_3, .int .i64 a1_4, .int .u64 a1_5, .int .u64 a1_6, .int .u64 a1_7, .bool a1_8, .bool a1_9] 26 (0, 0)) (by (with_reducible repeat (first | refine blk_drewN ?_ _ | refine blk_drew ?_ | refine blk_alloc ?_ _)); exact BK132.out) hb); have n3_ := Aside0.mk (below_step (by repeat (first | (with_reducible first | exact HB.out | apply below_alloc | apply pw_below_drewN | apply below_drew1 | refine below_set ?_ GE131.out | refine below_set ?_ GE132.out) | exact HB.out)) hb); clear HO154; clear BK131; clear BK132; clear HB; have HO154 := n0_; have BK131 := n1_; have BK132 := n2_; have HB := n3_; clear n0_ n1_ n2_ n3_; (try clear hb); (try clear hb2); (try clear hk); (try clear hi)))
        go_ret
        exact ⟨by first | rfl | (simp <;> rfl) | (simp [*] <;> rfl), by repeat (first | (with_reducible first | exact HB.out | apply below_alloc | apply pw_below_drewN | apply below_drew1 | refine below_set ?_ GE131.out | refine below_set ?_ GE132.out) | exact HB.out)⟩

-- NOT PRINTED: function 76 (slices_Grow_byte_byte)

-- NOT PRINTED: function 47 (slices_Concat_byte_byte)

end Go.Proofs.YtamndkiagenfnaaGreatDoor.X
