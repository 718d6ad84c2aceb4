/- Texts of this work, merged in build order: Pf2, Key3, Body, Body2, Api, K, Step, Step2, Keys, Nums, Verb, Flush, Clo, Keyed, Keyed2, Sum, CmdR, Mem, Gets. -/
import Derived.Test.YtfljijpkeckeaaaGreatDoorY1
import Derived.WalkSpells
import Derived.Test.YtfljijpkeckeaaaGreatDoorProg
import Derived.Laws.CopyOwn
import Derived.Deep.RegionHeld3
namespace Go.Proofs.YtfljijpkeckeaaaGreatDoor.X
open Go.RowKit Go.Proofs.YtfljijpkeckeaaaGreatDoorW.PrintWords Go.Proofs.YtfljijpkeckeaaaGreatDoorW.PrintMore
set_option linter.unusedVariables false
set_option linter.unusedSimpArgs false

theorem bt_list (s : ByteArray) (i : Nat) (h : i < s.size) (hl : i < s.data.toList.length) : bt s (i : Int) = ((s.data.toList[i]).toNat : Int) := by
  unfold bt
  rw [Int.toNat_natCast, dif_pos h]
  rw [Array.getElem_toList]
  rfl
def resOf : Option Nat → Int × Bool
  | some u => (u, true)
  | none => (0, false)
theorem rdec_l0 (s : ByteArray) (hs : s.size ≤ 40) : ∀ (d i n : Nat), i + d = s.size → n < 18446744073709551616 → ∃ K, butteryref01_Decimal.l0 K s n i = some (resOf (rDecL n (s.data.toList.drop i)))
  | 0, i, n, hd, hn => by
    refine ⟨1, ?_⟩
    unfold butteryref01_Decimal.l0
    have hl : s.data.toList.length = s.size := Array.length_toList
    rw [if_neg (by omega), List.drop_eq_nil_of_le (by omega)]
    rfl
  | d + 1, i, n, hd, hn => by
    have hl : s.data.toList.length = s.size := Array.length_toList
    have hi : i < s.size := by omega
    have hb := bt_list s i hi (by omega)
    have hc : (s.data.toList[i]'(by omega)).toNat < 256 := UInt8.toNat_lt _
    have hdr := List.drop_eq_getElem_cons (l := s.data.toList) (i := i) (by omega)
    generalize (s.data.toList[i]'(by omega)) = c at *
    rw [hdr]
    by_cases h1 : c.toNat < 48
    · refine ⟨2, ?_⟩
      unfold butteryref01_Decimal.l0
      rw [if_pos (by omega), if_pos (by omega), if_pos (by omega)]
      unfold butteryref01_Decimal.j2
      rw [if_pos rfl, rDecL, if_pos (Or.inl h1)]
      rfl
    · by_cases h2 : 57 < c.toNat
      · refine ⟨2, ?_⟩
        unfold butteryref01_Decimal.l0
        rw [if_pos (by omega), if_pos (by omega), if_neg (by omega)]
        unfold butteryref01_Decimal.j2
        rw [if_pos (decide_eq_true (by omega)), rDecL, if_pos (Or.inr h2)]
        rfl
      · have e8 : (bt s (i : Int) - 48) % 256 = ((c.toNat - 48 : Nat) : Int) := by omega
        by_cases h3 : (18446744073709551615 - (c.toNat - 48)) / 10 < n
        · refine ⟨2, ?_⟩
          unfold butteryref01_Decimal.l0
          rw [if_pos (by omega), if_pos (by omega), if_neg (by omega)]
          unfold butteryref01_Decimal.j2
          rw [if_neg (by rw [decide_eq_true_eq]; omega), if_pos (by omega), if_pos (by omega), e8, if_pos (by omega), rDecL, if_neg (by omega), if_pos h3]
          rfl
        · obtain ⟨K, hK⟩ := rdec_l0 s hs d (i + 1) (10 * n + (c.toNat - 48)) (by omega) (by omega)
          refine ⟨K + 2, ?_⟩
          unfold butteryref01_Decimal.l0
          rw [if_pos (by omega), if_pos (by omega), if_neg (by omega)]
          unfold butteryref01_Decimal.j2
          have e9 : IntKind.u64.wrap (IntKind.u64.wrap (10 * (n : Int)) + ((c.toNat - 48 : Nat) : Int)) = ((10 * n + (c.toNat - 48) : Nat) : Int) := by rw [IntKind.wrap_u64, IntKind.wrap_u64]; omega
          rw [if_neg (by rw [decide_eq_true_eq]; omega), if_pos (by omega), if_pos (by omega), e8, if_neg (by omega), e9, w64 _ (by omega) (by omega), rDecL, if_neg (by omega), if_neg h3]
          exact hK
theorem rdec_f (s : ByteArray) : Ev (fun k => butteryref01_Decimal.f k s) ((decS s).1, (decS s).2) := by
  have hm := butteryref01_Decimal.mono s
  by_cases h0 : s.size = 0
  · refine Ev.of hm (k := 1) ?_
    show butteryref01_Decimal.f 1 s = _
    unfold butteryref01_Decimal.f decS
    rw [if_pos (by omega), if_pos (Or.inl h0)]
    rfl
  · by_cases h40 : 40 < s.size
    · refine Ev.of hm (k := 1) ?_
      show butteryref01_Decimal.f 1 s = _
      unfold butteryref01_Decimal.f decS
      rw [if_neg (by omega), if_pos (Or.inr h40), decide_eq_true (by omega)]
      rfl
    · obtain ⟨K, hK⟩ := rdec_l0 s (by omega) s.size 0 0 (by omega) (by omega)
      refine Ev.of hm (k := K + 1) ?_
      show butteryref01_Decimal.f (K + 1) s = _
      unfold butteryref01_Decimal.f decS
      rw [if_neg (by omega), if_neg (by omega), decide_eq_false (by omega)]
      show butteryref01_Decimal.l0 K s ((0 : Nat) : Int) ((0 : Nat) : Int) = _
      rw [hK, List.drop_zero]
      cases rDecL 0 s.data.toList <;> rfl
def sgnOf (neg : Bool) (p : Nat × Bool) : Int × Bool := if p.2 = true ∧ p.1 ≤ 1099511627776 then ((if neg then -(p.1 : Int) else p.1), true) else (0, false)
def isNeg (s : ByteArray) : Bool := Lib.hasPrefix s.data.toList [45]
def unsigned (s : ByteArray) : ByteArray := ⟨(Lib.trimPrefix s.data.toList [45]).toArray⟩
def sgnS (s : ByteArray) : Int × Bool := sgnOf (isNeg s) (decS (unsigned s))
theorem sgn_f (s : ByteArray) : Ev (fun k => num_Signed.f k s) (sgnS s) := by
  have hm := num_Signed.mono s
  refine Ev.of hm (k := 1) ?_
  show num_Signed.f 1 s = _
  unfold num_Signed.f
  show ((num_Decimal.f (unsigned s)).bind fun bt228 => (if bt228.2 = true then (num_Signed.j0 1 (isNeg s) bt228.1 (decide (bt228.1 > 1099511627776))) else (num_Signed.j0 1 (isNeg s) bt228.1 true))) = _
  unfold num_Decimal.f sgnS
  generalize decS (unsigned s) = p
  obtain ⟨u, b⟩ := p
  show (if b = true then (num_Signed.j0 1 (isNeg s) (u : Int) (decide ((u : Int) > 1099511627776))) else (num_Signed.j0 1 (isNeg s) (u : Int) true)) = _
  unfold sgnOf
  cases b
  · rw [if_neg (by decide)]
    show some (0, false) = _
    rw [if_neg (by simp)]
  · rw [if_pos rfl]
    by_cases h : (u : Int) > 1099511627776
    · rw [decide_eq_true h]
      show some (0, false) = _
      rw [if_neg (by simp; omega)]
    · rw [decide_eq_false h]
      have hu : u ≤ 1099511627776 := by omega
      show (if isNeg s = true then (some (wrap64 (-(wrap64 (u : Int))), true)) else (some (wrap64 (u : Int), true))) = _
      rw [w64 (u : Int) (by omega) (by omega), w64 (-(u : Int)) (by omega) (by omega)]
      cases isNeg s
      · show some ((u : Int), true) = some (if true = true ∧ u ≤ 1099511627776 then ((u : Int), true) else (0, false))
        rw [if_pos ⟨rfl, hu⟩]
      · show some (-(u : Int), true) = some (if true = true ∧ u ≤ 1099511627776 then (-(u : Int), true) else (0, false))
        rw [if_pos ⟨rfl, hu⟩]
theorem rsgn_j1 (s : ByteArray) (neg : Bool) : ∃ K, butteryref01_Signed.j1 K s neg = some (sgnOf neg (decS s)) := by
  obtain ⟨K, hK⟩ := rdec_f s
  refine ⟨K + 2, ?_⟩
  have h1 : butteryref01_Decimal.f (K + 1) s = some (((decS s).1 : Int), (decS s).2) := hK (K + 1) (by omega)
  show ((butteryref01_Decimal.f (K + 1) s).bind fun bt230 => (if bt230.2 = true then (butteryref01_Signed.j2 (K + 1) neg bt230.1 (decide (bt230.1 > 1099511627776))) else (butteryref01_Signed.j2 (K + 1) neg bt230.1 true))) = _
  rw [h1]
  generalize decS s = p
  obtain ⟨u, b⟩ := p
  show (if b = true then (butteryref01_Signed.j2 (K + 1) neg (u : Int) (decide ((u : Int) > 1099511627776))) else (butteryref01_Signed.j2 (K + 1) neg (u : Int) true)) = _
  unfold sgnOf
  cases b
  · rw [if_neg (by decide)]
    show some (0, false) = _
    rw [if_neg (by simp)]
  · rw [if_pos rfl]
    by_cases h : (u : Int) > 1099511627776
    · rw [decide_eq_true h]
      show some (0, false) = _
      rw [if_neg (by simp; omega)]
    · rw [decide_eq_false h]
      have hu : u ≤ 1099511627776 := by omega
      show (if neg = true then (some (wrap64 (-(wrap64 (u : Int))), true)) else (some (wrap64 (u : Int), true))) = _
      rw [w64 (u : Int) (by omega) (by omega), w64 (-(u : Int)) (by omega) (by omega)]
      cases neg
      · show some ((u : Int), true) = some (if true = true ∧ u ≤ 1099511627776 then ((u : Int), true) else (0, false))
        rw [if_pos ⟨rfl, hu⟩]
      · show some (-(u : Int), true) = some (if true = true ∧ u ≤ 1099511627776 then (-(u : Int), true) else (0, false))
        rw [if_pos ⟨rfl, hu⟩]
theorem neg_cases (s : ByteArray) : (s.size = 0 ∧ isNeg s = false ∧ unsigned s = s) ∨ (0 < s.size ∧ isNeg s = (bt s 0 == 45) ∧ unsigned s = if isNeg s then s.extract 1 s.size else s) := by
  obtain ⟨⟨l⟩⟩ := s
  cases l with
  | nil => exact Or.inl ⟨rfl, rfl, rfl⟩
  | cons c r =>
    right
    have e : isNeg ⟨⟨c :: r⟩⟩ = (c == 45) := by
      unfold isNeg
      rw [Bool.eq_iff_iff]
      simp [Lib.hasPrefix]
      exact eq_comm
    have e2 : bt ⟨⟨c :: r⟩⟩ 0 = (c.toNat : Int) := by
      have := bt_list ⟨⟨c :: r⟩⟩ 0 (by simp [ByteArray.size]) (by simp)
      simpa using this
    refine ⟨by simp [ByteArray.size], ?_, ?_⟩
    · rw [e, e2, Bool.eq_iff_iff, beq_iff_eq, beq_iff_eq]
      constructor
      · rintro rfl; rfl
      · intro h
        exact UInt8.toNat_inj.1 (by have : (45 : UInt8).toNat = 45 := rfl
                                    omega)
    · rw [e]
      unfold unsigned
      cases hc : (c == 45)
      · have : Lib.hasPrefix (c :: r) [45] = false := by have := e; unfold isNeg at this; rw [hc] at this; exact this
        show (⟨(Lib.trimPrefix (c :: r) [45]).toArray⟩ : ByteArray) = _
        unfold Lib.trimPrefix
        rw [this]
        rfl
      · have : Lib.hasPrefix (c :: r) [45] = true := by have := e; unfold isNeg at this; rw [hc] at this; exact this
        show (⟨(Lib.trimPrefix (c :: r) [45]).toArray⟩ : ByteArray) = _
        unfold Lib.trimPrefix
        rw [this]
        apply ByteArray.ext
        simp [ByteArray.data_extract, ByteArray.size]
theorem rsgn_f (s : ByteArray) (hs : s.size ≤ 9223372036854775807) : Ev (fun k => butteryref01_Signed.f k s) (sgnS s) := by
  have hm := butteryref01_Signed.mono s
  unfold sgnS
  rcases neg_cases s with ⟨h0, h1, h2⟩ | ⟨h0, h1, h2⟩
  · rw [h1, h2]
    obtain ⟨K, hK⟩ := rsgn_j1 s false
    refine Ev.of hm (k := K + 1) ?_
    show butteryref01_Signed.f (K + 1) s = _
    unfold butteryref01_Signed.f
    rw [if_neg (by omega)]
    exact hK
  · obtain ⟨K, hK⟩ := rsgn_j1 (unsigned s) (isNeg s)
    refine Ev.of hm (k := K + 1) ?_
    show butteryref01_Signed.f (K + 1) s = _
    unfold butteryref01_Signed.f
    rw [if_pos (by omega), if_pos (by omega), ← h1]
    rw [h2] at hK
    rw [h2]
    cases hn : isNeg s
    · rw [hn] at hK
      rw [if_neg (by decide)] at hK ⊢
      exact hK
    · rw [hn] at hK
      rw [if_pos rfl] at hK ⊢
      show (if 1 ≤ (s.size : Int) then (butteryref01_Signed.j1 K (s.extract 1 s.size) true) else (none)) = _
      rw [if_pos (by omega)]
      exact hK
end Go.Proofs.YtfljijpkeckeaaaGreatDoor.X
namespace Go.Proofs.YtfljijpkeckeaaaGreatDoor.X
open Go.RowKit Go.Proofs.YtfljijpkeckeaaaGreatDoorW.PrintWords
set_option linter.unusedVariables false
set_option linter.unusedSimpArgs false

theorem rkey_l0 (s : ByteArray) (hl : s.size ≤ 1000000) : ∀ (d i : Nat), i + d = s.size → Ev (fun k => butteryref13_Key.l0 k s (i : Int)) (!((bytesOf s).drop i).any oddB)
  | 0, i, hd => by
    refine Ev.step (fun k => by rw [butteryref13_Key.l0]) (Ev.neg (by omega) ?_)
    rw [List.drop_eq_nil_of_le (by rw [bytesOf_length]; omega)]
    exact Ev.now _
  | d + 1, i, hd => by
    have hi : i < s.size := by omega
    have hil : i < s.data.toList.length := hi
    have hib : i < (bytesOf s).length := by rw [bytesOf_length]; exact hi
    have e : (bytesOf s).drop i = (bytesOf s)[i] :: (bytesOf s).drop (i + 1) := List.drop_eq_getElem_cons hib
    have hr : bt s (i : Int) = (bytesOf s)[i] := by
      rw [bt_list s i hi hil]
      simp [bytesOf]
    refine Ev.step (fun k => by rw [butteryref13_Key.l0]) (Ev.pos (by omega) (Ev.pos (by omega) ?_))
    rw [hr, e, List.any_cons]
    generalize (bytesOf s)[i] = v
    by_cases h1 : v ≤ 32
    · refine Ev.pos h1 (ev_to (Ev.now _) ?_)
      simp [oddB, h1]
    · refine Ev.neg h1 ?_
      by_cases h2 : v = 127
      · refine Ev.pos h2 (ev_to (Ev.now _) ?_)
        simp [oddB, h2]
      · refine Ev.neg h2 ?_
        rw [w64 _ (by omega) (by omega)]
        refine ev_to (rkey_l0 s hl d (i + 1) (by omega)) ?_
        simp [oddB, h1, h2]
theorem rkey_ev (s : ByteArray) (hl : s.size ≤ 1000000) : Ev (fun k => butteryref13_Key.f k s) (keyS s) := by
  rw [keyS_eq]
  unfold butteryref13_Key.f
  by_cases h : (s.size : Int) < 1
  · refine Ev.pos h (Ev.step (fun k => by rw [butteryref13_Key.j0]) (Ev.pos rfl (ev_to (Ev.now _) ?_)))
    have : ¬ 1 ≤ s.size := by omega
    simp [keyedS, this]
  · refine Ev.neg h ?_
    by_cases h2 : (s.size : Int) > 250
    · rw [decide_eq_true h2]
      refine Ev.step (fun k => by rw [butteryref13_Key.j0]) (Ev.pos rfl (ev_to (Ev.now _) ?_))
      have : ¬ s.size ≤ 250 := by omega
      simp [keyedS, this]
    · rw [decide_eq_false h2]
      refine Ev.step (fun k => by rw [butteryref13_Key.j0]) (Ev.neg (by decide) ?_)
      refine ev_to (rkey_l0 s hl s.size 0 (by omega)) ?_
      have h3 : 1 ≤ s.size := by omega
      have h4 : s.size ≤ 250 := by omega
      simp [keyedS, h3, h4]
theorem rkey_calls (s : ByteArray) (w : World) (hl : s.size ≤ 1000000) : Calls Tryz.prog 32 #[.string s] w fun e w' => e = .returned (.bool (keyS s)) ∧ Below w.heap.size w w' := by
  obtain ⟨K, hK⟩ := rkey_ev s hl
  exact (butteryref13_Key.calls K s _ w (hK K (Nat.le_refl _))).mono fun e w' ⟨he, hd⟩ => ⟨he, hd.below⟩
end Go.Proofs.YtfljijpkeckeaaaGreatDoor.X
namespace Go.Proofs.YtfljijpkeckeaaaGreatDoor.X
open Go.RowKit Go.Proofs.YtfljijpkeckeaaaGreatDoorW.PrintWords Go.Proofs.YtfljijpkeckeaaaGreatDoorW.PrintMore
set_option linter.unusedVariables false
set_option linter.unusedSimpArgs false
def RowB (l : List Int) (w : World) (v : Value) (w' : World) : Prop := w'.ownsRow w.heap.size 5 1 v l.length (encs (Value.int .u8) l) ∧ Below w.heap.size w w'
theorem C_news {W : World} {A : Addr} {l : List Int} (h : (Kd.int .u8).C W (some A) l.length l) : ∀ j u, (encs (Value.int .u8) l)[j]? = some u → W.cell? (A.add j) = some u := by
  intro j u hj
  have hlt : j < l.length := by
    obtain ⟨h1, -⟩ := List.getElem?_eq_some_iff.1 hj
    rwa [encs_length] at h1
  obtain ⟨b, o, e, -, hc⟩ := C_cell h j hlt
  obtain rfl := Option.some.inj e
  have e2 : (encs (Value.int .u8) l)[j]? = some (Value.int .u8 (l.getD j 0)) := encs_get _ _ hlt
  rw [e2] at hj
  obtain rfl := Option.some.inj hj
  have e3 : (⟨b, o, none⟩ : Addr).add j = ⟨b, o + j, none⟩ := by
    unfold Addr.add
    split <;> simp_all
  rw [e3]
  exact hc
theorem rowB_own {l : List Int} {w w' : World} {v : Value} (h : w'.ownsRow w.heap.size 5 1 v l.length (encs (Value.int .u8) l)) (hb : Below w.heap.size w w') : RowB l w v w' := ⟨h, hb⟩
theorem RowB.C {l : List Int} {w w' : World} {v : Value} (h : RowB l w v w') : ∃ A c, v = .slice A l.length c ∧ l.length ≤ c ∧ (Kd.int .u8).C w' A l.length l := Kd.R_reads (Kd.R_of_own (h1 := fun _ => rfl) (ok := fun _ => True) h.1 (fun _ _ => trivial))
theorem own_empty (W : World) (base : Nat) (e : TypeId) (h : base ≤ W.heap.size) : (W.alloc (.cells #[] e)).ownsRow base e 1 (.slice (some ⟨W.heap.size, 0, none⟩) 0 0) 0 [] :=
  ⟨rfl, .inr ⟨W.heap.size, 0, #[], rfl, h, by rw [← World.alloc_eq]; exact Array.getElem?_push_size, by omega, by decide, rfl, rfl⟩⟩
set_option maxRecDepth 100000 in
set_option maxHeartbeats 1000000 in
theorem clone_calls (l : List Int) (A : Option Addr) (c : Nat) (w : World) (hC : (Kd.int .u8).C w A l.length l) (hc : l.length ≤ c) (hl : l.length ≤ 1000000) :
    Calls Tryz.prog 92 #[.slice A l.length c] w fun e w' => ∃ v, e = .returned v ∧ RowB l w v w' := by
  have HC := Aside0.mk hC
  clear hC
  have HB := Aside0.mk (Below.refl w.heap.size w)
  obtain ⟨i0, hi, hz0, hz1, hz2⟩ := info_parts info5
  cases A with
  | none =>
    obtain rfl : l = [] := by
      cases l with
      | nil => rfl
      | cons x xs => obtain ⟨b, o, e, -⟩ := C_cell HC.out 0 (by simp); cases e
    go_enter Tryz.func92, Tryz.ntmps92
    go_wp2
    rw [Lib.run_eql_slice_nil (h := Tryz.underlying22)]
    go_wp2
    go_ret
    exact ⟨_, rfl, World.ownsRow_nil _ _ _ _, HB.out⟩
  | some a =>
    go_enter Tryz.func92, Tryz.ntmps92
    go_wp2
    rw [Lib.run_eql_slice_nil (h := Tryz.underlying22)]
    go_wp2_with (at_builtin; refine wpList_append_own _ rfl _ _ 22 rfl w.heap.size 5 i0 (.int .u8 0) 1 1 Tryz.underlying22 hi hz0 hz1 hz2 rfl (by decide) _ _ _ rfl (own_empty w _ _ (Nat.le_refl _)) a l.length c (encs (Value.int .u8) l) rfl (by rw [encs_length, Nat.mul_one]) (C_news (Kd.C_below HC.out (by repeat (first | (with_reducible first | exact HB.out | apply below_alloc | apply pw_below_drewN | apply below_drew1) | exact HB.out)))) (by intro u hu; obtain ⟨z, -, rfl⟩ := List.mem_map.1 hu; rfl) (by unfold maxLen; omega) (by omega) (by simp) ?_; intro v' w1 hown' hgrow _; have HO := Aside0.mk hown'; have HG := Aside0.mk hgrow; clear hown' hgrow)
    go_ret
    refine ⟨_, rfl, rowB_own (by have := HO.out; simpa using this) ?_⟩
    exact Below.grown ((Below.refl _ w).alloc (Nat.le_refl _) _) HG.out (by simp) (fun k hk => by cases hk; exact Nat.le_refl _)
def BL (w : World) (r : List Int × Int × Int) (e : Ending) (w' : World) : Prop := ∃ v, e = .returned (.tuple #[v, .int .i64 r.2.1, .int .i64 r.2.2]) ∧ RowB r.1 w v w'
theorem rowB_nil (w : World) (w' : World) (h : Below w.heap.size w w') : RowB [] w (.slice none 0 0) w' := ⟨World.ownsRow_nil _ _ _ _, h⟩
theorem crlf_iff (l : List Int) (k : Nat) (h : k + 2 ≤ l.length) (h8 : B8 l) : strOfNums ((l.drop k).take 2) = ⟨#[13, 10]⟩ ↔ (l.getD k 0 = 13 ∧ l.getD (k + 1) 0 = 10) := by
  have e1 : (l.drop k).take 2 = [l.getD k 0, l.getD (k + 1) 0] := by
    rw [List.drop_eq_getElem_cons (by omega), List.drop_eq_getElem_cons (by omega), List.getD_eq_getElem?_getD, List.getD_eq_getElem?_getD, List.getElem?_eq_getElem (by omega), List.getElem?_eq_getElem (by omega)]
    rfl
  have hx := h8 (l.getD k 0) (by rw [List.getD_eq_getElem?_getD, List.getElem?_eq_getElem (by omega)]; exact List.getElem_mem _)
  have hy := h8 (l.getD (k + 1) 0) (by rw [List.getD_eq_getElem?_getD, List.getElem?_eq_getElem (by omega)]; exact List.getElem_mem _)
  rw [e1]
  generalize l.getD k 0 = x at *
  generalize l.getD (k + 1) 0 = y at *
  have e2 : ∀ z : Int, 0 ≤ z ∧ z < 256 → ∀ n : Nat, n < 256 → (UInt8.ofNat z.toNat = UInt8.ofNat n ↔ z = n) := by
    intro z hz n hn
    constructor
    · intro h
      have h2 := congrArg UInt8.toNat h
      rw [UInt8.toNat_ofNat', UInt8.toNat_ofNat'] at h2
      omega
    · rintro rfl
      rfl
  have e3 : strOfNums [x, y] = ⟨#[UInt8.ofNat x.toNat, UInt8.ofNat y.toNat]⟩ := rfl
  rw [e3]
  constructor
  · intro h
    injection h with h
    have h2 := congrArg Array.toList h
    simp only [List.cons.injEq, and_true] at h2
    exact ⟨(e2 x hx 13 (by omega)).1 h2.1, (e2 y hy 10 (by omega)).1 h2.2⟩
  · rintro ⟨rfl, rfl⟩
    rfl
set_option maxRecDepth 100000 in
set_option maxHeartbeats 1000000 in
theorem fbody_calls (l : List Int) (A : Option Addr) (c : Nat) (n : Int) (w : World) (hC : (Kd.int .u8).C w A l.length l) (hc : l.length ≤ c) (hl : l.length ≤ 1000000) (h8 : B8 l) :
    Calls Tryz.prog 73 #[.slice A l.length c, .int .i64 n] w (BL w (bodyS l n)) := by
  have HC := Aside0.mk hC
  have H8 := Aside0.mk h8
  clear hC h8
  have HB := Aside0.mk (Below.refl w.heap.size w)
  obtain ⟨r, hr⟩ : ∃ r, bodyS l n = r := ⟨_, rfl⟩
  rw [hr]
  unfold bodyS at hr
  by_cases h1 : n < 0
  · rw [if_pos (Or.inl h1)] at hr
    subst hr
    have h1d : decide (n < 0) = true := decide_eq_true h1
    go_enter Tryz.func73, Tryz.ntmps73
    go_wp2
    go_ret3
    exact ⟨_, rfl, rowB_nil _ _ HB.out⟩
  by_cases h2 : n > 1000
  · rw [if_pos (Or.inr h2)] at hr
    subst hr
    have h1d : decide (n < 0) = false := decide_eq_false h1
    have h2d : decide (n > 1000) = true := decide_eq_true h2
    go_enter Tryz.func73, Tryz.ntmps73
    go_wp2
    go_ret3
    exact ⟨_, rfl, rowB_nil _ _ HB.out⟩
  rw [if_neg (by omega)] at hr
  obtain ⟨k, rfl⟩ : ∃ k : Nat, n = k := ⟨n.toNat, by omega⟩
  have hw : IntKind.i64.wrap ((k : Int) + 2) = (k : Int) + 2 := IntWalk.i64_in _ (by omega)
  by_cases h3 : (l.length : Int) < (k : Int) + 2
  · rw [if_pos h3] at hr
    subst hr
    go_enter Tryz.func73, Tryz.ntmps73
    go_wp2
    go_ret3
    exact ⟨_, rfl, rowB_nil _ _ HB.out⟩
  rw [if_neg h3] at hr
  have hp1 : (0 : Int) ≤ (k : Int) + 2 := by omega
  have hn1 : ((k : Int) + 2).toNat = k + 2 := by omega
  have hk1 : (k : Int) + 2 ≤ l.length := by omega
  have hk2 : (k : Int) ≤ l.length := by omega
  have hk3 : (k : Int) ≤ c := by omega
  have hk4 : k ≤ c := by omega
  have hk5 : (l.length : Int) ≤ c := by omega
  have hk6 : (k : Int) + 2 ≤ c := by omega
  have HD : Aside0 ((Kd.int .u8).C w (Option.map (fun x => x.add k) A) 2 ((l.drop k).take 2)) := ⟨by
    have h5 := Kd.C_drop (c := c) (m := k) HC.out (by omega) hc
    rw [if_neg (by omega), show k * (Kd.int .u8).sz = k from Nat.mul_one k] at h5
    have h6 := Kd.C_take (m := 2) h5 (by rw [List.length_drop]; omega)
    rw [show ((l.drop k).take 2).length = 2 from by rw [List.length_take, List.length_drop]; omega] at h6
    exact h6⟩
  have hs2 : strOfNums ((l.drop k).take 2) = ⟨#[13, 10]⟩ ↔ (l.getD k 0 = 13 ∧ l.getD (k + 1) 0 = 10) := crlf_iff l k (by omega) H8.out
  obtain ⟨s2, he2⟩ : ∃ s2, strOfNums ((l.drop k).take 2) = s2 := ⟨_, rfl⟩
  have HE2 := Aside0.mk he2
  rw [he2] at hs2
  rw [show ((k : Int)).toNat = k from by omega] at hr
  clear he2
  go_enter Tryz.func73, Tryz.ntmps73
  go_wp2
  rw [Kd.C_string (xs := (l.drop k).take 2) Tryz.underlying22 Tryz.underlying5 Tryz.underlying9 HD.out, HE2.out]
  by_cases h4 : l.getD k 0 = 13 ∧ l.getD (k + 1) 0 = 10
  · rw [if_pos h4] at hr
    obtain rfl := hs2.2 h4
    clear hs2
    subst hr
    have HT : Aside0 ((Kd.int .u8).C w A (l.take k).length (l.take k)) := ⟨Kd.C_take (m := k) HC.out (by omega)⟩
    have hlk : (l.take k).length = k := by rw [List.length_take]; omega
    obtain ⟨T, hT⟩ : ∃ T, l.take k = T := ⟨_, rfl⟩
    rw [hT] at HT hlk
    have HTK := Aside0.mk hT
    clear hT
    have HCL := Aside0.mk (clone_calls T A k w HT.out (by omega) (by omega))
    rw [hlk] at HCL
    go_wp2_with (go_at_call 92; (with_reducible refine HCL.out.mono ?_); rintro e w1 ⟨v, rfl, hrow⟩; have HR := Aside0.mk hrow; clear hrow)
    go_ret3
    have HR2 := HR.out
    rw [← HTK.out] at HR2
    exact ⟨_, rfl, HR2⟩
  · rw [if_neg h4] at hr
    subst hr
    have hne : (s2.toList == [13, 10]) = false := by
      rw [Bool.eq_false_iff]
      intro h
      have h5 := beq_iff_eq.1 h
      rw [ByteArray.toList_eq] at h5
      refine h4 (hs2.1 ?_)
      rcases s2 with ⟨⟨q⟩⟩
      have h6 : q = [13, 10] := h5
      subst h6
      rfl
    clear hs2
    go_wp2
    go_ret3
    exact ⟨_, rfl, rowB_nil _ _ HB.out⟩
end Go.Proofs.YtfljijpkeckeaaaGreatDoor.X
namespace Go.Proofs.YtfljijpkeckeaaaGreatDoor.X
open Go.RowKit Go.Proofs.YtfljijpkeckeaaaGreatDoorW.PrintWords Go.Proofs.YtfljijpkeckeaaaGreatDoorW.PrintMore
set_option linter.unusedVariables false
set_option linter.unusedSimpArgs false
set_option maxRecDepth 100000 in
set_option maxHeartbeats 1000000 in
theorem rbody_calls (l : List Int) (A : Option Addr) (c : Nat) (n : Int) (w : World) (hC : (Kd.int .u8).C w A l.length l) (hc : l.length ≤ c) (hl : l.length ≤ 1000000) :
    Calls Tryz.prog 57 #[.slice A l.length c, .int .i64 n] w (BL w (bodyS l n)) := by
  have HC := Aside0.mk hC
  clear hC
  have HB := Aside0.mk (Below.refl w.heap.size w)
  obtain ⟨i0, hi, hz0, hz1, hz2⟩ := info_parts info5
  obtain ⟨r, hr⟩ : ∃ r, bodyS l n = r := ⟨_, rfl⟩
  rw [hr]
  unfold bodyS at hr
  by_cases h1 : n < 0
  · rw [if_pos (Or.inl h1)] at hr
    subst hr
    have h1d : decide (n < 0) = true := decide_eq_true h1
    go_enter Tryz.func57, Tryz.ntmps57
    go_wp2
    go_ret3
    exact ⟨_, rfl, rowB_nil _ _ HB.out⟩
  by_cases h2 : n > 1000
  · rw [if_pos (Or.inr h2)] at hr
    subst hr
    have h1d : decide (n < 0) = false := decide_eq_false h1
    have h2d : decide (n > 1000) = true := decide_eq_true h2
    go_enter Tryz.func57, Tryz.ntmps57
    go_wp2
    go_ret3
    exact ⟨_, rfl, rowB_nil _ _ HB.out⟩
  rw [if_neg (by omega)] at hr
  obtain ⟨k, rfl⟩ : ∃ k : Nat, n = k := ⟨n.toNat, by omega⟩
  have hw : IntKind.i64.wrap ((k : Int) + 2) = (k : Int) + 2 := IntWalk.i64_in _ (by omega)
  have hwa : IntKind.i64.wrap ((k : Int) + 1) = (k : Int) + 1 := IntWalk.i64_in _ (by omega)
  by_cases h3 : (l.length : Int) < (k : Int) + 2
  · rw [if_pos h3] at hr
    subst hr
    go_enter Tryz.func57, Tryz.ntmps57
    go_wp2
    go_ret3
    exact ⟨_, rfl, rowB_nil _ _ HB.out⟩
  rw [if_neg h3] at hr
  have hp1 : (0 : Int) ≤ (k : Int) + 2 := by omega
  have hn1 : ((k : Int) + 2).toNat = k + 2 := by omega
  have hpa : (0 : Int) ≤ (k : Int) + 1 := by omega
  have hna : ((k : Int) + 1).toNat = k + 1 := by omega
  have hk1 : (k : Int) + 2 ≤ l.length := by omega
  have hka : (k : Int) + 1 < l.length := by omega
  have hkb : (k : Int) < l.length := by omega
  have hk2 : (k : Int) ≤ l.length := by omega
  have hk3 : (k : Int) ≤ c := by omega
  have hk4 : k ≤ c := by omega
  have hk5 : (l.length : Int) ≤ c := by omega
  have hk6 : (k : Int) + 2 ≤ c := by omega
  obtain ⟨b, o, rfl, hb0, t1⟩ := C_cell HC.out k (by omega)
  obtain ⟨b', o', e', -, t2⟩ := C_cell HC.out (k + 1) (by omega)
  obtain ⟨rfl, rfl⟩ : b = b' ∧ o = o' := by simpa using e'
  rw [show ((k : Int)).toNat = k from by omega] at hr
  obtain ⟨x, hx⟩ : ∃ x, l.getD k 0 = x := ⟨_, rfl⟩
  obtain ⟨y, hy⟩ : ∃ y, l.getD (k + 1) 0 = y := ⟨_, rfl⟩
  rw [hx] at hr t1
  rw [hy] at hr t2
  clear hx hy e'
  by_cases hx : x = 13
  · by_cases hy : y = 10
    · rw [if_pos ⟨hx, hy⟩] at hr
      subst hx hy hr
      have HT : Aside0 ((Kd.int .u8).C w (some ⟨b, o, none⟩) (l.take k).length (l.take k)) := ⟨Kd.C_take (m := k) HC.out (by omega)⟩
      have hlk : (l.take k).length = k := by rw [List.length_take]; omega
      obtain ⟨T, hT⟩ : ∃ T, l.take k = T := ⟨_, rfl⟩
      rw [hT] at HT hlk
      have HTK := Aside0.mk hT
      clear hT
      go_enter Tryz.func57, Tryz.ntmps57
      go_wp2_with (at_builtin; refine wpList_append_own _ rfl _ _ 22 rfl w.heap.size 5 i0 (.int .u8 0) 1 1 Tryz.underlying22 hi hz0 hz1 hz2 rfl (by decide) _ _ _ rfl (own_nil w _ _ _) ⟨b, o, none⟩ k c (encs (Value.int .u8) T) rfl (by rw [encs_length, hlk, Nat.mul_one]) (C_news HT.out) (by intro u hu; obtain ⟨z, -, rfl⟩ := List.mem_map.1 hu; rfl) (by unfold maxLen; omega) (by omega) (by simp) ?_; intro v' w1 hown' hgrow _; have HO := Aside0.mk hown'; have HG := Aside0.mk hgrow; clear hown' hgrow)
      go_ret3
      refine ⟨_, rfl, ?_⟩
      have HO2 := HO.out
      rw [Nat.zero_add, List.nil_append, ← hlk] at HO2
      have HR := rowB_own HO2 (Below.grown (Below.refl _ w) HG.out (Nat.le_refl _) (fun k hk => by cases hk))
      rw [← HTK.out] at HR
      exact HR
    · rw [if_neg (fun h => hy h.2)] at hr
      subst hx hr
      have hyb : (y == 10) = false := beq_eq_false_iff_ne.2 hy
      go_enter Tryz.func57, Tryz.ntmps57
      go_wp2
      go_ret3
      exact ⟨_, rfl, rowB_nil _ _ HB.out⟩
  · rw [if_neg (fun h => hx h.1)] at hr
    subst hr
    have hxb : (x == 13) = false := beq_eq_false_iff_ne.2 hx
    go_enter Tryz.func57, Tryz.ntmps57
    go_wp2
    go_ret3
    exact ⟨_, rfl, rowB_nil _ _ HB.out⟩
end Go.Proofs.YtfljijpkeckeaaaGreatDoor.X
namespace Go.Proofs.YtfljijpkeckeaaaGreatDoor.X
structure Cmd where
  op : Int
  key : ByteArray
  value : List Int
  flags : Int
  exp : Int
  cas : Int
  delta : Int
  initial : Int
  makes : Bool
  sets : Bool
structure Cmd.Wf (x : Cmd) : Prop where
  op : -9223372036854775808 ≤ x.op ∧ x.op ≤ 9223372036854775807
  key : x.key.size ≤ 9223372036854775807
  value : x.value.length ≤ 9223372036854775807 ∧ ∀ y ∈ x.value, 0 ≤ y ∧ y ≤ 255
  flags : 0 ≤ x.flags ∧ x.flags ≤ 4294967295
  exp : -9223372036854775808 ≤ x.exp ∧ x.exp ≤ 9223372036854775807
  cas : 0 ≤ x.cas ∧ x.cas ≤ 18446744073709551615
  delta : 0 ≤ x.delta ∧ x.delta ≤ 18446744073709551615
  initial : 0 ≤ x.initial ∧ x.initial ≤ 18446744073709551615
structure Form where
  dialect : Int
  verb : ByteArray
  code : Int
  opq : Int
  quiet : Bool
  withcas : Bool
  flags : ByteArray
  tokens : List ByteArray
  keys : List ByteArray
  base64 : Bool
structure Form.Wf (x : Form) : Prop where
  dialect : -9223372036854775808 ≤ x.dialect ∧ x.dialect ≤ 9223372036854775807
  verb : x.verb.size ≤ 9223372036854775807
  code : -9223372036854775808 ≤ x.code ∧ x.code ≤ 9223372036854775807
  opq : 0 ≤ x.opq ∧ x.opq ≤ 4294967295
  flags : x.flags.size ≤ 9223372036854775807
  tokens : x.tokens.length ≤ 9223372036854775807 ∧ ∀ y ∈ x.tokens, y.size ≤ 9223372036854775807
  keys : x.keys.length ≤ 9223372036854775807 ∧ ∀ y ∈ x.keys, y.size ≤ 9223372036854775807
structure Request where
  cmds : List Cmd
  form : Form
structure Request.Wf (x : Request) : Prop where
  cmds : x.cmds.length ≤ 9223372036854775807 ∧ ∀ y ∈ x.cmds, y.Wf
  form : x.form.Wf
structure Step where
  req : Request
  reply : ByteArray
  used : Int
  skip : Int
  line : Bool
  e : Int
structure Step.Wf (x : Step) : Prop where
  req : x.req.Wf
  reply : x.reply.size ≤ 9223372036854775807
  used : -9223372036854775808 ≤ x.used ∧ x.used ≤ 9223372036854775807
  skip : -9223372036854775808 ≤ x.skip ∧ x.skip ≤ 9223372036854775807
  e : -9223372036854775808 ≤ x.e ∧ x.e ≤ 9223372036854775807
structure TextinLine where
  verb : ByteArray
  words : List ByteArray
  quiet : Bool
  used : Int
  rest : List Int
structure TextinLine.Wf (x : TextinLine) : Prop where
  verb : x.verb.size ≤ 9223372036854775807
  words : x.words.length ≤ 9223372036854775807 ∧ ∀ y ∈ x.words, y.size ≤ 9223372036854775807
  used : -9223372036854775808 ≤ x.used ∧ x.used ≤ 9223372036854775807
  rest : x.rest.length ≤ 9223372036854775807 ∧ ∀ y ∈ x.rest, 0 ≤ y ∧ y ≤ 255
end Go.Proofs.YtfljijpkeckeaaaGreatDoor.X
namespace Go.Proofs.YtfljijpkeckeaaaGreatDoor.X
open Go.RowKit Go.Proofs.YtfljijpkeckeaaaGreatDoorW.PrintWords
set_option linter.unusedVariables false
set_option linter.unusedSimpArgs false

def zCmd : Cmd := ⟨(0 : Int), (⟨#[]⟩ : ByteArray), ([] : List Int), (0 : Int), (0 : Int), (0 : Int), (0 : Int), (0 : Int), false, false⟩
def kCmd : Kd Cmd := Kd.iso (Kd.pair (Kd.int .i64) (Kd.pair Kd.string (Kd.pair (Kd.slice 5 (Kd.int .u8)) (Kd.pair (Kd.int .u32) (Kd.pair (Kd.int .i64) (Kd.pair (Kd.int .u64) (Kd.pair (Kd.int .u64) (Kd.pair (Kd.int .u64) (Kd.pair Kd.bool Kd.bool))))))))) (fun x : Cmd => (x.op, x.key, x.value, x.flags, x.exp, x.cas, x.delta, x.initial, x.makes, x.sets))
theorem kCmd_open {w : World} {x : Cmd} {cs : List Value} (h : kCmd.K w x cs) : ∃ A2 c2, cs = [.int .i64 x.op, .string x.key, .slice A2 x.value.length c2, .int .u32 x.flags, .int .i64 x.exp, .int .u64 x.cas, .int .u64 x.delta, .int .u64 x.initial, .bool x.makes, .bool x.sets] ∧ x.value.length ≤ c2 ∧ (Kd.int .u8).C w A2 x.value.length x.value := by
  obtain ⟨_, _, rfl, rfl, ⟨_, _, rfl, rfl, ⟨_, _, rfl, ⟨A2, c2, rfl, l2, g2⟩, ⟨_, _, rfl, rfl, ⟨_, _, rfl, rfl, ⟨_, _, rfl, rfl, ⟨_, _, rfl, rfl, ⟨_, _, rfl, rfl, ⟨_, _, rfl, rfl, rfl⟩⟩⟩⟩⟩⟩⟩⟩⟩ := h
  exact ⟨A2, c2, rfl, l2, g2⟩
theorem kCmd_mk (w : World) (x : Cmd) {A2 : Option Addr} {c2 : Nat} (l2 : x.value.length ≤ c2) (g2 : (Kd.int .u8).C w A2 x.value.length x.value) : kCmd.K w x [.int .i64 x.op, .string x.key, .slice A2 x.value.length c2, .int .u32 x.flags, .int .i64 x.exp, .int .u64 x.cas, .int .u64 x.delta, .int .u64 x.initial, .bool x.makes, .bool x.sets] := ⟨[.int .i64 x.op], [.string x.key, .slice A2 x.value.length c2, .int .u32 x.flags, .int .i64 x.exp, .int .u64 x.cas, .int .u64 x.delta, .int .u64 x.initial, .bool x.makes, .bool x.sets], rfl, rfl, ⟨[.string x.key], [.slice A2 x.value.length c2, .int .u32 x.flags, .int .i64 x.exp, .int .u64 x.cas, .int .u64 x.delta, .int .u64 x.initial, .bool x.makes, .bool x.sets], rfl, rfl, ⟨[.slice A2 x.value.length c2], [.int .u32 x.flags, .int .i64 x.exp, .int .u64 x.cas, .int .u64 x.delta, .int .u64 x.initial, .bool x.makes, .bool x.sets], rfl, ⟨A2, c2, rfl, l2, g2⟩, ⟨[.int .u32 x.flags], [.int .i64 x.exp, .int .u64 x.cas, .int .u64 x.delta, .int .u64 x.initial, .bool x.makes, .bool x.sets], rfl, rfl, ⟨[.int .i64 x.exp], [.int .u64 x.cas, .int .u64 x.delta, .int .u64 x.initial, .bool x.makes, .bool x.sets], rfl, rfl, ⟨[.int .u64 x.cas], [.int .u64 x.delta, .int .u64 x.initial, .bool x.makes, .bool x.sets], rfl, rfl, ⟨[.int .u64 x.delta], [.int .u64 x.initial, .bool x.makes, .bool x.sets], rfl, rfl, ⟨[.int .u64 x.initial], [.bool x.makes, .bool x.sets], rfl, rfl, ⟨[.bool x.makes], [.bool x.sets], rfl, rfl, rfl⟩⟩⟩⟩⟩⟩⟩⟩⟩
def zForm : Form := ⟨(0 : Int), (⟨#[]⟩ : ByteArray), (0 : Int), (0 : Int), false, false, (⟨#[]⟩ : ByteArray), ([] : List ByteArray), ([] : List ByteArray), false⟩
def kForm : Kd Form := Kd.iso (Kd.pair (Kd.int .i64) (Kd.pair Kd.string (Kd.pair (Kd.int .i64) (Kd.pair (Kd.int .u32) (Kd.pair Kd.bool (Kd.pair Kd.bool (Kd.pair Kd.string (Kd.pair (Kd.slice 9 Kd.string) (Kd.pair (Kd.slice 9 Kd.string) Kd.bool))))))))) (fun x : Form => (x.dialect, x.verb, x.code, x.opq, x.quiet, x.withcas, x.flags, x.tokens, x.keys, x.base64))
theorem kForm_open {w : World} {x : Form} {cs : List Value} (h : kForm.K w x cs) : ∃ A7 c7 A8 c8, cs = [.int .i64 x.dialect, .string x.verb, .int .i64 x.code, .int .u32 x.opq, .bool x.quiet, .bool x.withcas, .string x.flags, .slice A7 x.tokens.length c7, .slice A8 x.keys.length c8, .bool x.base64] ∧ x.tokens.length ≤ c7 ∧ Kd.string.C w A7 x.tokens.length x.tokens ∧ x.keys.length ≤ c8 ∧ Kd.string.C w A8 x.keys.length x.keys := by
  obtain ⟨_, _, rfl, rfl, ⟨_, _, rfl, rfl, ⟨_, _, rfl, rfl, ⟨_, _, rfl, rfl, ⟨_, _, rfl, rfl, ⟨_, _, rfl, rfl, ⟨_, _, rfl, rfl, ⟨_, _, rfl, ⟨A7, c7, rfl, l7, g7⟩, ⟨_, _, rfl, ⟨A8, c8, rfl, l8, g8⟩, rfl⟩⟩⟩⟩⟩⟩⟩⟩⟩ := h
  exact ⟨A7, c7, A8, c8, rfl, l7, g7, l8, g8⟩
theorem kForm_mk (w : World) (x : Form) {A7 : Option Addr} {c7 : Nat} (l7 : x.tokens.length ≤ c7) (g7 : Kd.string.C w A7 x.tokens.length x.tokens) {A8 : Option Addr} {c8 : Nat} (l8 : x.keys.length ≤ c8) (g8 : Kd.string.C w A8 x.keys.length x.keys) : kForm.K w x [.int .i64 x.dialect, .string x.verb, .int .i64 x.code, .int .u32 x.opq, .bool x.quiet, .bool x.withcas, .string x.flags, .slice A7 x.tokens.length c7, .slice A8 x.keys.length c8, .bool x.base64] := ⟨[.int .i64 x.dialect], [.string x.verb, .int .i64 x.code, .int .u32 x.opq, .bool x.quiet, .bool x.withcas, .string x.flags, .slice A7 x.tokens.length c7, .slice A8 x.keys.length c8, .bool x.base64], rfl, rfl, ⟨[.string x.verb], [.int .i64 x.code, .int .u32 x.opq, .bool x.quiet, .bool x.withcas, .string x.flags, .slice A7 x.tokens.length c7, .slice A8 x.keys.length c8, .bool x.base64], rfl, rfl, ⟨[.int .i64 x.code], [.int .u32 x.opq, .bool x.quiet, .bool x.withcas, .string x.flags, .slice A7 x.tokens.length c7, .slice A8 x.keys.length c8, .bool x.base64], rfl, rfl, ⟨[.int .u32 x.opq], [.bool x.quiet, .bool x.withcas, .string x.flags, .slice A7 x.tokens.length c7, .slice A8 x.keys.length c8, .bool x.base64], rfl, rfl, ⟨[.bool x.quiet], [.bool x.withcas, .string x.flags, .slice A7 x.tokens.length c7, .slice A8 x.keys.length c8, .bool x.base64], rfl, rfl, ⟨[.bool x.withcas], [.string x.flags, .slice A7 x.tokens.length c7, .slice A8 x.keys.length c8, .bool x.base64], rfl, rfl, ⟨[.string x.flags], [.slice A7 x.tokens.length c7, .slice A8 x.keys.length c8, .bool x.base64], rfl, rfl, ⟨[.slice A7 x.tokens.length c7], [.slice A8 x.keys.length c8, .bool x.base64], rfl, ⟨A7, c7, rfl, l7, g7⟩, ⟨[.slice A8 x.keys.length c8], [.bool x.base64], rfl, ⟨A8, c8, rfl, l8, g8⟩, rfl⟩⟩⟩⟩⟩⟩⟩⟩⟩
def zRequest : Request := ⟨([] : List Cmd), zForm⟩
def kRequest : Kd Request := Kd.iso (Kd.pair (Kd.slice 40 kCmd) kForm) (fun x : Request => (x.cmds, x.form))
theorem kRequest_open {w : World} {x : Request} {cs : List Value} (h : kRequest.K w x cs) : ∃ A0 c0 A8 c8 A9 c9, cs = [.slice A0 x.cmds.length c0, .int .i64 x.form.dialect, .string x.form.verb, .int .i64 x.form.code, .int .u32 x.form.opq, .bool x.form.quiet, .bool x.form.withcas, .string x.form.flags, .slice A8 x.form.tokens.length c8, .slice A9 x.form.keys.length c9, .bool x.form.base64] ∧ x.cmds.length ≤ c0 ∧ kCmd.C w A0 x.cmds.length x.cmds ∧ x.form.tokens.length ≤ c8 ∧ Kd.string.C w A8 x.form.tokens.length x.form.tokens ∧ x.form.keys.length ≤ c9 ∧ Kd.string.C w A9 x.form.keys.length x.form.keys := by
  obtain ⟨_, _, rfl, ⟨A0, c0, rfl, l0, g0⟩, s1⟩ := h
  obtain ⟨A8, c8, A9, c9, rfl, l8, g8, l9, g9⟩ := kForm_open s1
  exact ⟨A0, c0, A8, c8, A9, c9, rfl, l0, g0, l8, g8, l9, g9⟩
theorem kRequest_mk (w : World) (x : Request) {A0 : Option Addr} {c0 : Nat} (l0 : x.cmds.length ≤ c0) (g0 : kCmd.C w A0 x.cmds.length x.cmds) {A8 : Option Addr} {c8 : Nat} (l8 : x.form.tokens.length ≤ c8) (g8 : Kd.string.C w A8 x.form.tokens.length x.form.tokens) {A9 : Option Addr} {c9 : Nat} (l9 : x.form.keys.length ≤ c9) (g9 : Kd.string.C w A9 x.form.keys.length x.form.keys) : kRequest.K w x [.slice A0 x.cmds.length c0, .int .i64 x.form.dialect, .string x.form.verb, .int .i64 x.form.code, .int .u32 x.form.opq, .bool x.form.quiet, .bool x.form.withcas, .string x.form.flags, .slice A8 x.form.tokens.length c8, .slice A9 x.form.keys.length c9, .bool x.form.base64] := ⟨[.slice A0 x.cmds.length c0], [.int .i64 x.form.dialect, .string x.form.verb, .int .i64 x.form.code, .int .u32 x.form.opq, .bool x.form.quiet, .bool x.form.withcas, .string x.form.flags, .slice A8 x.form.tokens.length c8, .slice A9 x.form.keys.length c9, .bool x.form.base64], rfl, ⟨A0, c0, rfl, l0, g0⟩, (kForm_mk w x.form l8 g8 l9 g9)⟩
def zStep : Step := ⟨zRequest, (⟨#[]⟩ : ByteArray), (0 : Int), (0 : Int), false, (0 : Int)⟩
def kStep : Kd Step := Kd.iso (Kd.pair kRequest (Kd.pair Kd.string (Kd.pair (Kd.int .i64) (Kd.pair (Kd.int .i64) (Kd.pair Kd.bool (Kd.int .i64)))))) (fun x : Step => (x.req, x.reply, x.used, x.skip, x.line, x.e))
theorem kStep_open {w : World} {x : Step} {cs : List Value} (h : kStep.K w x cs) : ∃ A0 c0 A8 c8 A9 c9, cs = [.slice A0 x.req.cmds.length c0, .int .i64 x.req.form.dialect, .string x.req.form.verb, .int .i64 x.req.form.code, .int .u32 x.req.form.opq, .bool x.req.form.quiet, .bool x.req.form.withcas, .string x.req.form.flags, .slice A8 x.req.form.tokens.length c8, .slice A9 x.req.form.keys.length c9, .bool x.req.form.base64, .string x.reply, .int .i64 x.used, .int .i64 x.skip, .bool x.line, .int .i64 x.e] ∧ x.req.cmds.length ≤ c0 ∧ kCmd.C w A0 x.req.cmds.length x.req.cmds ∧ x.req.form.tokens.length ≤ c8 ∧ Kd.string.C w A8 x.req.form.tokens.length x.req.form.tokens ∧ x.req.form.keys.length ≤ c9 ∧ Kd.string.C w A9 x.req.form.keys.length x.req.form.keys := by
  obtain ⟨_, _, rfl, s0, ⟨_, _, rfl, rfl, ⟨_, _, rfl, rfl, ⟨_, _, rfl, rfl, ⟨_, _, rfl, rfl, rfl⟩⟩⟩⟩⟩ := h
  obtain ⟨A0, c0, A8, c8, A9, c9, rfl, l0, g0, l8, g8, l9, g9⟩ := kRequest_open s0
  exact ⟨A0, c0, A8, c8, A9, c9, rfl, l0, g0, l8, g8, l9, g9⟩
theorem kStep_mk (w : World) (x : Step) {A0 : Option Addr} {c0 : Nat} (l0 : x.req.cmds.length ≤ c0) (g0 : kCmd.C w A0 x.req.cmds.length x.req.cmds) {A8 : Option Addr} {c8 : Nat} (l8 : x.req.form.tokens.length ≤ c8) (g8 : Kd.string.C w A8 x.req.form.tokens.length x.req.form.tokens) {A9 : Option Addr} {c9 : Nat} (l9 : x.req.form.keys.length ≤ c9) (g9 : Kd.string.C w A9 x.req.form.keys.length x.req.form.keys) : kStep.K w x [.slice A0 x.req.cmds.length c0, .int .i64 x.req.form.dialect, .string x.req.form.verb, .int .i64 x.req.form.code, .int .u32 x.req.form.opq, .bool x.req.form.quiet, .bool x.req.form.withcas, .string x.req.form.flags, .slice A8 x.req.form.tokens.length c8, .slice A9 x.req.form.keys.length c9, .bool x.req.form.base64, .string x.reply, .int .i64 x.used, .int .i64 x.skip, .bool x.line, .int .i64 x.e] := ⟨[.slice A0 x.req.cmds.length c0, .int .i64 x.req.form.dialect, .string x.req.form.verb, .int .i64 x.req.form.code, .int .u32 x.req.form.opq, .bool x.req.form.quiet, .bool x.req.form.withcas, .string x.req.form.flags, .slice A8 x.req.form.tokens.length c8, .slice A9 x.req.form.keys.length c9, .bool x.req.form.base64], [.string x.reply, .int .i64 x.used, .int .i64 x.skip, .bool x.line, .int .i64 x.e], rfl, (kRequest_mk w x.req l0 g0 l8 g8 l9 g9), ⟨[.string x.reply], [.int .i64 x.used, .int .i64 x.skip, .bool x.line, .int .i64 x.e], rfl, rfl, ⟨[.int .i64 x.used], [.int .i64 x.skip, .bool x.line, .int .i64 x.e], rfl, rfl, ⟨[.int .i64 x.skip], [.bool x.line, .int .i64 x.e], rfl, rfl, ⟨[.bool x.line], [.int .i64 x.e], rfl, rfl, rfl⟩⟩⟩⟩⟩
def kTextinLine : Kd TextinLine := Kd.iso (Kd.pair Kd.string (Kd.pair (Kd.slice 9 Kd.string) (Kd.pair Kd.bool (Kd.pair (Kd.int .i64) (Kd.slice 5 (Kd.int .u8)))))) (fun x : TextinLine => (x.verb, x.words, x.quiet, x.used, x.rest))
theorem kTextinLine_open {w : World} {x : TextinLine} {cs : List Value} (h : kTextinLine.K w x cs) : ∃ A1 c1 A4 c4, cs = [.string x.verb, .slice A1 x.words.length c1, .bool x.quiet, .int .i64 x.used, .slice A4 x.rest.length c4] ∧ x.words.length ≤ c1 ∧ Kd.string.C w A1 x.words.length x.words ∧ x.rest.length ≤ c4 ∧ (Kd.int .u8).C w A4 x.rest.length x.rest := by
  obtain ⟨_, _, rfl, rfl, ⟨_, _, rfl, ⟨A1, c1, rfl, l1, g1⟩, ⟨_, _, rfl, rfl, ⟨_, _, rfl, rfl, ⟨A4, c4, rfl, l4, g4⟩⟩⟩⟩⟩ := h
  exact ⟨A1, c1, A4, c4, rfl, l1, g1, l4, g4⟩
theorem kTextinLine_mk (w : World) (x : TextinLine) {A1 : Option Addr} {c1 : Nat} (l1 : x.words.length ≤ c1) (g1 : Kd.string.C w A1 x.words.length x.words) {A4 : Option Addr} {c4 : Nat} (l4 : x.rest.length ≤ c4) (g4 : (Kd.int .u8).C w A4 x.rest.length x.rest) : kTextinLine.K w x [.string x.verb, .slice A1 x.words.length c1, .bool x.quiet, .int .i64 x.used, .slice A4 x.rest.length c4] := ⟨[.string x.verb], [.slice A1 x.words.length c1, .bool x.quiet, .int .i64 x.used, .slice A4 x.rest.length c4], rfl, rfl, ⟨[.slice A1 x.words.length c1], [.bool x.quiet, .int .i64 x.used, .slice A4 x.rest.length c4], rfl, ⟨A1, c1, rfl, l1, g1⟩, ⟨[.bool x.quiet], [.int .i64 x.used, .slice A4 x.rest.length c4], rfl, rfl, ⟨[.int .i64 x.used], [.slice A4 x.rest.length c4], rfl, rfl, ⟨A4, c4, rfl, l4, g4⟩⟩⟩⟩⟩
end Go.Proofs.YtfljijpkeckeaaaGreatDoor.X
namespace Go.Proofs.YtfljijpkeckeaaaGreatDoor.X
open Go.RowKit Go.Proofs.YtfljijpkeckeaaaGreatDoorW.PrintWords Go.Proofs.YtfljijpkeckeaaaGreatDoorW.PrintMore
set_option linter.unusedVariables false
set_option linter.unusedSimpArgs false
def stepF (used : Int) (reply : ByteArray) : Step := { zStep with e := 2, reply := reply ++ (⟨#[13, 10]⟩ : ByteArray), used := used }
def formT (verb : ByteArray) (quiet : Bool) (keys : List ByteArray) : Form := { zForm with dialect := 1, verb := verb, quiet := quiet, keys := keys }
def stepO (used : Int) (f : Form) (c : Cmd) : Step := { zStep with req := ⟨[c], f⟩, used := used }
def HolF (F : Nat → Prop) (w : World) (Φ : World → Prop) : Prop := ∀ w2, Below 0 w w2 → (∀ k, k < w.heap.size → F k → w2.heap[k]? = w.heap[k]?) → Φ w2
theorem below_zero {B : Nat} {w w2 : World} (h : Below B w w2) : Below 0 w w2 := ⟨h.os, h.tape, h.output, h.size, fun k hk => absurd hk (by omega)⟩
theorem HolF.now {F : Nat → Prop} {w : World} {Φ : World → Prop} (h : HolF F w Φ) : Φ w := h w (Below.refl _ _) (fun _ _ _ => rfl)
theorem HolF.kept {F : Nat → Prop} {w w1 : World} {Φ : World → Prop} (h : HolF F w Φ) (hb : Below 0 w w1) (hk : ∀ k, k < w.heap.size → F k → w1.heap[k]? = w.heap[k]?) : HolF F w1 Φ := fun w2 h2 hk2 =>
  h w2 ((below_zero hb).trans (below_zero h2)) (fun k h3 h4 => (hk2 k (by have := hb.size; omega) h4).trans (hk k h3 h4))
theorem HolF.below {F : Nat → Prop} {w w1 : World} {Φ : World → Prop} (h : HolF F w Φ) (hb : Below w.heap.size w w1) : HolF F w1 Φ := h.kept (below_zero hb) (fun k h3 _ => hb.block k h3)
theorem HolF.mono {F F' : Nat → Prop} {w : World} {Φ : World → Prop} (h : HolF F w Φ) (hF : ∀ k, F k → F' k) : HolF F' w Φ := fun w2 h2 hk => h w2 h2 (fun k h3 h4 => hk k h3 (hF k h4))
theorem HolF.imp {F : Nat → Prop} {w : World} {Φ Ψ : World → Prop} (h : HolF F w Φ) (hi : ∀ w2, Φ w2 → Ψ w2) : HolF F w Ψ := fun w2 h2 hk => hi _ (h w2 h2 hk)
theorem HolF.deep {F : Nat → Prop} {w w1 : World} {Φ : World → Prop} (h : HolF F w Φ) (hb : Below w.heap.size w w1) : HolF (fun k => k < w.heap.size ∧ F k) w1 Φ := fun w2 h2 hk =>
  h w2 ((below_zero hb).trans (below_zero h2)) (fun k h3 h4 => (hk k (by have := hb.size; omega) ⟨h3, h4⟩).trans (hb.block k h3))
theorem HolF.back {F : Nat → Prop} {w w1 w2 : World} {Φ : World → Prop} (h : HolF F w Φ) (hb : Below w.heap.size w w1) (h2 : Below 0 w1 w2) (hk : ∀ k, k < w1.heap.size → (k < w.heap.size → F k) → w2.heap[k]? = w1.heap[k]?) : Φ w2 :=
  h w2 ((below_zero hb).trans (below_zero h2)) (fun k h3 h4 => (hk k (by have := hb.size; omega) (fun _ => h4)).trans (hb.block k h3))
theorem HolF.ofC {α : Type} {d : Kd α} {w : World} {A : Option Addr} {n : Nat} {xs : List α} (h : d.C w A n xs) : HolF (fun _ => True) w (fun w2 => d.C w2 A n xs) := fun w2 h2 hk => Kd.C_below h ⟨h2.os, h2.tape, h2.output, h2.size, fun k h3 => hk k h3 trivial⟩
def StepR (F : Nat → Prop) (w : World) (st : Step) (e : Ending) (w' : World) : Prop := (∃ cs, e = .returned (.agg cs.toArray) ∧ HolF (fun k => k < w.heap.size → F k) w' (fun w2 => kStep.K w2 st cs)) ∧ Below w.heap.size w w'
theorem blk_at_new (W : World) (o : Obj) (g : Nat) (hg : g = W.heap.size) : (W.alloc o).heap[g]? = some o := by subst hg; exact heap_alloc_new W o
theorem C_blk1 {α : Type} {d : Kd α} {W : World} {g t : Nat} {x : α} {cs : List Value} (hK : d.K W x cs) (hb : W.heap[g]? = some (.cells cs.toArray t (0, 0))) : d.C W (some ⟨g, 0, none⟩) 1 [x] := by
  refine ⟨rfl, by decide, fun _ => ⟨_, rfl, fun j p hj => ?_⟩⟩
  cases j with
  | succ j => cases hj
  | zero =>
    obtain rfl := Option.some.inj hj
    refine ⟨cs, d.K_len hK, hK, fun i u hu => ?_⟩
    have e3 : (⟨g, 0, none⟩ : Addr).add (0 * d.sz + i) = ⟨g, i, none⟩ := by
      rw [Nat.zero_mul, Nat.zero_add]
      unfold Addr.add
      split <;> simp_all
    rw [e3, blk_cell hb, List.getElem?_toArray]
    exact hu
theorem C_str1 {W : World} {g t : Nat} {k : ByteArray} (hb : W.heap[g]? = some (.cells #[.string k] t (0, 0))) : Kd.string.C W (some ⟨g, 0, none⟩) 1 [k] := C_blk1 (d := Kd.string) (cs := [.string k]) rfl hb
theorem C_nil {α : Type} (d : Kd α) (w : World) : d.C w none 0 [] := ⟨rfl, by decide, fun h => absurd h (by decide)⟩
set_option maxRecDepth 100000 in
set_option maxHeartbeats 1000000 in
theorem fault_calls (x : TextinLine) (cx : List Value) (reply : ByteArray) (F : Nat → Prop) (w : World) (hx : kTextinLine.K w x cx) (hr : reply.size ≤ 1000) :
    Calls Tryz.prog 18 #[.agg cx.toArray, .string reply] w (StepR F w (stepF x.used reply)) := by
  have HB := Aside0.mk (Below.refl w.heap.size w)
  obtain ⟨A1, c1, A4, c4, rfl, hl1, hg1, hl4, hg4⟩ := kTextinLine_open hx
  have HK : Aside0 (∀ w', kStep.K w' (stepF x.used reply) _) := ⟨fun w' => kStep_mk w' (stepF x.used reply) (Nat.le_refl _) (C_nil _ _) (Nat.le_refl _) (C_nil _ _) (Nat.le_refl _) (C_nil _ _)⟩
  clear hg1 hg4 hx
  go_enter Tryz.func18, Tryz.ntmps18
  go_wp2
  ((try simp only [Exit.inBlock, Exit.then]); refine bodyPost_ret (results_cell_row rfl _ _ (w.heap.size + 1) 34 _ (0, 0) _ rfl (by repeat (first | exact blk_at_new _ _ _ (by simp; done) | exact blk_at_new _ _ _ rfl | refine blk_alloc ?_ _ | refine blk_drew ?_ | refine blk_drewN ?_ _)) Tryz.underlying34 rfl (by kernel_rfl)) rfl ?_)
  exact ⟨⟨_, rfl, fun w2 _ _ => HK.out w2⟩, (by repeat (first | (with_reducible first | exact HB.out | apply below_alloc | apply pw_below_drewN | apply below_drew1) | exact HB.out))⟩
def keysOf (k : ByteArray) : List ByteArray := if k.size = 0 then [] else [k]
set_option maxRecDepth 100000 in
set_option maxHeartbeats 1000000 in
theorem one_calls (x : TextinLine) (y : Cmd) (cx cy : List Value) (F : Nat → Prop) (w : World) (hx : kTextinLine.K w x cx) (hy : HolF F w (fun w2 => kCmd.K w2 y cy)) :
    Calls Tryz.prog 70 #[.agg cx.toArray, .agg cy.toArray] w (StepR F w (stepO x.used (formT x.verb x.quiet (keysOf y.key)) y)) := by
  have HB := Aside0.mk (Below.refl w.heap.size w)
  obtain ⟨A1, c1, A4, c4, rfl, hl1, hg1, hl4, hg4⟩ := kTextinLine_open hx
  have HY := Aside0.mk hy
  obtain ⟨A2, c2, rfl, hl2, hg2⟩ := kCmd_open hy.now
  unfold keysOf
  clear hg1 hg4 hx hy hg2
  by_cases hk : y.key.size = 0
  · rw [if_pos hk]
    have hk0 : y.key.toList.isEmpty = true := (bs_nil _).2 (by rcases hz : y.key with ⟨⟨l⟩⟩; rw [hz] at hk; cases l with | nil => rfl | cons a b => cases hk)
    go_enter Tryz.func70, Tryz.ntmps70
    go_wp2
    (try simp only [Exit.inBlock, Exit.then])
    ((try simp only [Exit.inBlock, Exit.then]); refine bodyPost_ret (results_cell_row rfl _ _ (w.heap.size + 1 + 1) 34 _ (0, 0) _ rfl (by repeat (first | exact blk_at_new _ _ _ (by simp; done) | exact blk_at_new _ _ _ rfl | refine blk_alloc ?_ _ | refine blk_drew ?_ | refine blk_drewN ?_ _)) Tryz.underlying34 rfl (by kernel_rfl)) rfl ?_)
    refine ⟨⟨_, rfl, fun w2 hb2 hk2 => kStep_mk w2 (stepO x.used (formT x.verb x.quiet []) y) (Nat.le_refl _) (C_blk1 (t := 40) (HY.out.back (by repeat (first | (with_reducible first | exact HB.out | apply below_alloc | apply pw_below_drewN | apply below_drew1) | exact HB.out)) hb2 hk2) ((hk2 _ (by simp) (by simp; omega)).trans (by repeat (first | exact blk_at_new _ _ _ (by simp; done) | exact blk_at_new _ _ _ rfl | refine blk_alloc ?_ _ | refine blk_drew ?_ | refine blk_drewN ?_ _)))) (Nat.le_refl _) (C_nil _ _) (Nat.le_refl _) (C_nil _ _)⟩, (by repeat (first | (with_reducible first | exact HB.out | apply below_alloc | apply pw_below_drewN | apply below_drew1) | exact HB.out))⟩
  · rw [if_neg hk]
    have hk0 : y.key.toList.isEmpty = false := by
      rw [Bool.eq_false_iff]
      intro h
      rw [(bs_nil _).1 h] at hk
      exact hk rfl
    go_enter Tryz.func70, Tryz.ntmps70
    go_wp2
    ((try simp only [Exit.inBlock, Exit.then]); refine bodyPost_ret (results_cell_row rfl _ _ (w.heap.size + 1 + 1) 34 _ (0, 0) _ rfl (by repeat (first | exact blk_at_new _ _ _ (by simp; done) | exact blk_at_new _ _ _ rfl | refine blk_alloc ?_ _ | refine blk_drew ?_ | refine blk_drewN ?_ _)) Tryz.underlying34 rfl (by kernel_rfl)) rfl ?_)
    refine ⟨⟨_, rfl, fun w2 hb2 hk2 => kStep_mk w2 (stepO x.used (formT x.verb x.quiet [y.key]) y) (Nat.le_refl _) (C_blk1 (t := 40) (HY.out.back (by repeat (first | (with_reducible first | exact HB.out | apply below_alloc | apply pw_below_drewN | apply below_drew1) | exact HB.out)) hb2 hk2) ((hk2 _ (by simp) (by simp; omega)).trans (by repeat (first | exact blk_at_new _ _ _ (by simp; done) | exact blk_at_new _ _ _ rfl | refine blk_alloc ?_ _ | refine blk_drew ?_ | refine blk_drewN ?_ _)))) (Nat.le_refl _) (C_nil _ _) (Nat.le_refl _) (C_str1 (t := 9) ((hk2 _ (by simp) (by simp; omega)).trans (by repeat (first | exact blk_at_new _ _ _ (by simp; done) | exact blk_at_new _ _ _ rfl | refine blk_alloc ?_ _ | refine blk_drew ?_ | refine blk_drewN ?_ _))))⟩, (by repeat (first | (with_reducible first | exact HB.out | apply below_alloc | apply pw_below_drewN | apply below_drew1) | exact HB.out))⟩
end Go.Proofs.YtfljijpkeckeaaaGreatDoor.X
namespace Go.Proofs.YtfljijpkeckeaaaGreatDoor.X
open Go.RowKit Go.Proofs.YtfljijpkeckeaaaGreatDoorW.PrintWords Go.Proofs.YtfljijpkeckeaaaGreatDoorW.PrintMore
set_option linter.unusedVariables false
set_option linter.unusedSimpArgs false
set_option maxRecDepth 100000 in
set_option maxHeartbeats 1000000 in
theorem rfault_calls (used : Int) (reply : ByteArray) (F : Nat → Prop) (w : World) (hr : reply.size ≤ 1000) :
    Calls Tryz.prog 24 #[.int .i64 used, .string reply] w (StepR F w (stepF used reply)) := by
  have HB := Aside0.mk (Below.refl w.heap.size w)
  have HK : Aside0 (∀ w', kStep.K w' (stepF used reply) _) := ⟨fun w' => kStep_mk w' (stepF used reply) (Nat.le_refl _) (C_nil _ _) (Nat.le_refl _) (C_nil _ _) (Nat.le_refl _) (C_nil _ _)⟩
  go_enter Tryz.func24, Tryz.ntmps24
  go_wp2
  ((try simp only [Exit.inBlock, Exit.then]); refine bodyPost_ret (results_cell_row rfl _ _ (w.heap.size) 34 _ (0, 0) _ rfl (by repeat (first | exact blk_at_new _ _ _ (by simp; done) | exact blk_at_new _ _ _ rfl | refine blk_alloc ?_ _ | refine blk_drew ?_ | refine blk_drewN ?_ _)) Tryz.underlying34 rfl (by kernel_rfl)) rfl ?_)
  exact ⟨⟨_, rfl, fun w2 _ _ => HK.out w2⟩, (by repeat (first | (with_reducible first | exact HB.out | apply below_alloc | apply pw_below_drewN | apply below_drew1) | exact HB.out))⟩
set_option maxRecDepth 100000 in
set_option maxHeartbeats 1000000 in
theorem rone_calls (used : Int) (y : Cmd) (f : Form) (cy cf : List Value) (F : Nat → Prop) (w : World) (hy : HolF F w (fun w2 => kCmd.K w2 y cy)) (hf : HolF F w (fun w2 => kForm.K w2 f cf)) :
    Calls Tryz.prog 55 #[.int .i64 used, .agg cy.toArray, .agg cf.toArray] w (StepR F w (stepO used f y)) := by
  have HB := Aside0.mk (Below.refl w.heap.size w)
  have HY := Aside0.mk hy
  have HF := Aside0.mk hf
  obtain ⟨A2, c2, rfl, hl2, hg2⟩ := kCmd_open hy.now
  obtain ⟨A7, c7, A8, c8, rfl, hl7, hg7, hl8, hg8⟩ := kForm_open hf.now
  clear hy hf hg2 hg7 hg8
  go_enter Tryz.func55, Tryz.ntmps55
  go_wp2
  ((try simp only [Exit.inBlock, Exit.then]); refine bodyPost_ret (results_cell_row rfl _ _ (w.heap.size + 1 + 1) 34 _ (0, 0) _ rfl (by repeat (first | exact blk_at_new _ _ _ (by simp; done) | exact blk_at_new _ _ _ rfl | refine blk_alloc ?_ _ | refine blk_drew ?_ | refine blk_drewN ?_ _)) Tryz.underlying34 rfl (by kernel_rfl)) rfl ?_)
  refine ⟨⟨_, rfl, fun w2 hb2 hk2 => ?_⟩, (by repeat (first | (with_reducible first | exact HB.out | apply below_alloc | apply pw_below_drewN | apply below_drew1) | exact HB.out))⟩
  obtain ⟨A7', c7', A8', c8', e, hl7', hg7', hl8', hg8'⟩ := kForm_open (HF.out.back (by repeat (first | (with_reducible first | exact HB.out | apply below_alloc | apply pw_below_drewN | apply below_drew1) | exact HB.out)) hb2 hk2)
  simp only [List.cons.injEq, Value.slice.injEq, and_true, true_and] at e
  obtain ⟨⟨rfl, rfl⟩, rfl, rfl⟩ := e
  exact kStep_mk w2 (stepO used f y) (Nat.le_refl _) (C_blk1 (t := 40) (HY.out.back (by repeat (first | (with_reducible first | exact HB.out | apply below_alloc | apply pw_below_drewN | apply below_drew1) | exact HB.out)) hb2 hk2) ((hk2 _ (by simp) (by simp; omega)).trans (by repeat (first | exact blk_at_new _ _ _ (by simp; done) | exact blk_at_new _ _ _ rfl | refine blk_alloc ?_ _ | refine blk_drew ?_ | refine blk_drewN ?_ _)))) hl7 hg7' hl8 hg8'
theorem wpList_store_K {P : Program} {ops : Array Oper} {rest : List Oper} {o : Oper} {a : Act} {w : World} {Q : Exit → Act → World → Prop} {α : Type} {d : Kd α} {x0 : α} {cs : List Value} (hK : d.K w x0 cs)
    (hgd : o.guard = none) (ty : TypeId) (x y : Operand) (ho : o.op = .store ty x y)
    (g : Nat) (hx : a.eval x = .pointer (some ⟨g, 0, none⟩)) (hy : a.eval y = .agg cs.toArray)
    (t : TypeId) (old : Array Value) (hg : w.heap[g]? = some (.cells old t (0, 0))) (hi : (P.info? ty).map (·.size) = some d.sz) (hold : old.size = d.sz)
    (h : ∀ w', w'.heap[g]? = some (.cells cs.toArray t (0, 0)) → (∀ B, B ≤ g → Below B w w') → (∀ (F : Nat → Prop) (Φ : World → Prop), ¬ F g → HolF F w Φ → HolF F w' Φ) → wpList P ops Q rest (a.put o.dst undef) w') : wpList P ops Q (o :: rest) a w := by
  have hl := d.K_len hK
  refine wpList_store_row hgd ty x y ho g cs.toArray hx hy t old hg (by rw [hi, List.size_toArray, hl]) (by rw [hold, List.size_toArray, hl]) (by rw [Array.all_eq_true_iff_forall_mem]; intro u hu; exact d.K_one hK u (by simpa using hu)) ?_
  exact h _ (setRow_heap w g old _ t _ hg) (fun B hB => below_setRow (Below.refl _ _) hB _) (fun F Φ hF hh => hh.kept (below_setRow (Below.refl _ _) (Nat.zero_le _) _) (fun k hk hFk => setRow_other _ _ _ _ (fun e => hF (e ▸ hFk))))
theorem S_cell {W : World} {A : Option Addr} {l : List ByteArray} (h : Kd.string.C W A l.length l) (i : Nat) (hi : i < l.length) : ∃ b o, A = some ⟨b, o, none⟩ ∧ b < W.heap.size ∧ W.cell? ⟨b, o + i, none⟩ = some (.string (l.getD i ⟨#[]⟩)) := by
  obtain ⟨ad, rfl, hc⟩ := h.2.2 (by omega)
  obtain ⟨cs, hlen, hK, hcell⟩ := hc 0 _ (List.getElem?_eq_getElem (show 0 < l.length by omega))
  have h0 := hcell 0 _ (List.getElem?_eq_getElem (show 0 < cs.length by rw [hlen]; decide))
  rw [Nat.zero_mul, Nat.zero_add, Addr.add_zero'] at h0
  obtain ⟨b, o, rfl, hb⟩ := addr_plain h0
  obtain ⟨cs2, hlen2, hK2, hcell2⟩ := hc i _ (List.getElem?_eq_getElem hi)
  obtain rfl : cs2 = [Value.string l[i]] := hK2
  have h1 := hcell2 0 _ rfl
  refine ⟨b, o, rfl, hb, ?_⟩
  have e : (⟨b, o, none⟩ : Addr).add (i * Kd.string.sz + 0) = ⟨b, o + i, none⟩ := by
    rw [show i * Kd.string.sz + 0 = i from by show i * 1 + 0 = i; omega]
    unfold Addr.add
    split <;> simp_all
  rw [e] at h1
  rw [h1, List.getD_eq_getElem?_getD, List.getElem?_eq_getElem hi]
  rfl
def cmdB (op : Int) : Cmd := { zCmd with op := op }
theorem keysOf_cmdB (op : Int) : keysOf (cmdB op).key = [] := by
  unfold keysOf
  exact if_pos rfl
def bareS (verb : ByteArray) (n : Nat) (used op : Int) : Step := if n = 0 then stepO used (formT verb false []) (cmdB op) else stepF used (⟨#[69, 82, 82, 79, 82]⟩ : ByteArray)
set_option maxRecDepth 100000 in
set_option maxHeartbeats 1000000 in
theorem bare_calls (x : TextinLine) (cx : List Value) (op : Int) (F : Nat → Prop) (w : World) (hx : kTextinLine.K w x cx) (hq : x.quiet = false) :
    Calls Tryz.prog 43 #[.agg cx.toArray, .int .i64 op] w (StepR F w (bareS x.verb x.words.length x.used op)) := by
  have HB := Aside0.mk (Below.refl w.heap.size w)
  have HX := Aside0.mk hx
  obtain ⟨A1, c1, A4, c4, rfl, hl1, hg1, hl4, hg4⟩ := kTextinLine_open hx
  obtain ⟨r, hr⟩ : ∃ r, bareS x.verb x.words.length x.used op = r := ⟨_, rfl⟩
  rw [hr]
  unfold bareS at hr
  have HQ := Aside0.mk hq
  clear hx hg1 hg4 hq
  by_cases hn : x.words.length = 0
  · rw [if_pos hn] at hr
    subst hr
    have hn0 : (x.words.length : Int) = 0 := by omega
    go_enter Tryz.func43, Tryz.ntmps43
    have HC : Aside0 (∀ w', kCmd.K w' (cmdB op) [.int .i64 op, .string ⟨#[]⟩, .slice none 0 0, .int .u32 0, .int .i64 0, .int .u64 0, .int .u64 0, .int .u64 0, .bool false, .bool false]) := ⟨fun w' => kCmd_mk w' (cmdB op) (Nat.le_refl _) (C_nil _ _)⟩
    have HO : Aside0 (∀ w', Below w.heap.size w w' → Calls Tryz.prog 70 #[.agg #[.string x.verb, .slice A1 0 c1, .bool x.quiet, .int .i64 x.used, .slice A4 x.rest.length c4], .agg #[.int .i64 op, .string ⟨#[]⟩, .slice none 0 0, .int .u32 0, .int .i64 0, .int .u64 0, .int .u64 0, .int .u64 0, .bool false, .bool false]] w' (StepR (fun k => k < w.heap.size ∧ F k) w' (stepO x.used (formT x.verb false []) (cmdB op)))) := ⟨fun w' hb => by
      have := one_calls x (cmdB op) _ _ (fun k => k < w.heap.size ∧ F k) w' (kTextinLine.K_below hb HX.out) (fun w2 _ _ => HC.out w2)
      rw [keysOf_cmdB, show formT x.verb x.quiet [] = formT x.verb false [] from by rw [HQ.out], hn] at this
      exact this⟩
    go_wp2_with (first | (refine wpList_store_K HK.out.now rfl 34 _ _ rfl (w.heap.size + 1) rfl rfl 34 _ BK.out (by kernel_rfl) rfl ?_; intro w2 hbk hlow hfar; have HK2 := Aside0.mk (hfar _ _ (fun h => absurd (h (by simp)).1 (by simp)) HK.out); clear BK; have BK := Aside0.mk hbk; have HL := Aside0.mk hlow; clear hbk hlow hfar) | go_at_call 70; (with_reducible refine (HO.out _ (by repeat (first | (with_reducible first | exact HB.out | apply below_alloc | apply pw_below_drewN | apply below_drew1) | exact HB.out))).mono ?_); rintro e w1 ⟨⟨cs, rfl, hk⟩, hb⟩; have BK := Aside0.mk (blk_below (g := w.heap.size + 1) (by repeat (first | exact blk_at_new _ _ _ (by simp; done) | exact blk_at_new _ _ _ rfl | refine blk_alloc ?_ _ | refine blk_drew ?_ | refine blk_drewN ?_ _)) hb); have HBn := Aside0.mk (below_step (by repeat (first | (with_reducible first | exact HB.out | apply below_alloc | apply pw_below_drewN | apply below_drew1) | exact HB.out)) hb); clear HB; have HB := HBn; clear HBn; have HK := Aside0.mk hk; clear hb hk)
    ((try simp only [Exit.inBlock, Exit.then]); refine bodyPost_ret (results_cell_row rfl _ _ (w.heap.size + 1) 34 _ (0, 0) _ rfl BK.out Tryz.underlying34 rfl (by rw [List.size_toArray, kStep.K_len HK.out.now]; kernel_rfl)) rfl ?_)
    exact ⟨⟨_, rfl, HK2.out.mono (fun k hk h3 => (hk (by simp; omega)).2)⟩, HB.out.trans (HL.out _ (by omega))⟩
  · rw [if_neg hn] at hr
    subst hr
    have hn0 : 0 < (x.words.length : Int) := by omega
    go_enter Tryz.func43, Tryz.ntmps43
    have HO : Aside0 (∀ w', Below w.heap.size w w' → Calls Tryz.prog 18 #[.agg #[.string x.verb, .slice A1 x.words.length c1, .bool x.quiet, .int .i64 x.used, .slice A4 x.rest.length c4], .string (⟨#[69, 82, 82, 79, 82]⟩ : ByteArray)] w' (StepR (fun k => k < w.heap.size ∧ F k) w' (stepF x.used (⟨#[69, 82, 82, 79, 82]⟩ : ByteArray)))) := ⟨fun w' hb => fault_calls x _ _ _ w' (kTextinLine.K_below hb HX.out) (by decide)⟩
    go_wp2_with (first | (refine wpList_store_K HK.out.now rfl 34 _ _ rfl (w.heap.size + 1) rfl rfl 34 _ BK.out (by kernel_rfl) rfl ?_; intro w2 hbk hlow hfar; have HK2 := Aside0.mk (hfar _ _ (fun h => absurd (h (by simp)).1 (by simp)) HK.out); clear BK; have BK := Aside0.mk hbk; have HL := Aside0.mk hlow; clear hbk hlow hfar) | go_at_call 18; (with_reducible refine (HO.out _ (by repeat (first | (with_reducible first | exact HB.out | apply below_alloc | apply pw_below_drewN | apply below_drew1) | exact HB.out))).mono ?_); rintro e w1 ⟨⟨cs, rfl, hk⟩, hb⟩; have BK := Aside0.mk (blk_below (g := w.heap.size + 1) (by repeat (first | exact blk_at_new _ _ _ (by simp; done) | exact blk_at_new _ _ _ rfl | refine blk_alloc ?_ _ | refine blk_drew ?_ | refine blk_drewN ?_ _)) hb); have HBn := Aside0.mk (below_step (by repeat (first | (with_reducible first | exact HB.out | apply below_alloc | apply pw_below_drewN | apply below_drew1) | exact HB.out)) hb); clear HB; have HB := HBn; clear HBn; have HK := Aside0.mk hk; clear hb hk)
    ((try simp only [Exit.inBlock, Exit.then]); refine bodyPost_ret (results_cell_row rfl _ _ (w.heap.size + 1) 34 _ (0, 0) _ rfl BK.out Tryz.underlying34 rfl (by rw [List.size_toArray, kStep.K_len HK.out.now]; kernel_rfl)) rfl ?_)
    exact ⟨⟨_, rfl, HK2.out.mono (fun k hk h3 => (hk (by simp; omega)).2)⟩, HB.out.trans (HL.out _ (by omega))⟩
end Go.Proofs.YtfljijpkeckeaaaGreatDoor.X
namespace Go.Proofs.YtfljijpkeckeaaaGreatDoor.X
open Go.RowKit Go.Proofs.YtfljijpkeckeaaaGreatDoorW.PrintWords Go.Proofs.YtfljijpkeckeaaaGreatDoorW.PrintMore
set_option linter.unusedVariables false
set_option linter.unusedSimpArgs false
def badK (k : ByteArray) : Bool := !keyS k
theorem gets1_calls (k : ByteArray) (w : World) (hs : k.size ≤ 1000000) : Calls Tryz.prog 66 #[.string k] w fun e w' => e = .returned (.bool (badK k)) ∧ Below w.heap.size w w' := by
  have HB := Aside0.mk (Below.refl w.heap.size w)
  have HK := Aside0.mk (fkey_calls k w hs)
  unfold badK
  obtain ⟨b, hb⟩ : ∃ b, keyS k = b := ⟨_, rfl⟩
  rw [hb] at HK ⊢
  clear hb
  go_enter Tryz.func66, Tryz.ntmps66
  go_wp2_with (go_at_call 67; (with_reducible refine HK.out.mono ?_); rintro e w1 ⟨rfl, hb⟩; have HBn := Aside0.mk (below_step (by repeat (first | (with_reducible first | exact HB.out | apply below_alloc | apply pw_below_drewN | apply below_drew1) | exact HB.out)) hb); clear HB; have HB := HBn; clear HBn; clear hb)
  go_ret
  exact ⟨rfl, HB.out⟩
set_option maxRecDepth 100000 in
set_option maxHeartbeats 1000000 in
theorem ifnS_calls (l : List ByteArray) (A : Option Addr) (c : Nat) (w : World) (hC : Kd.string.C w A l.length l) (hc : l.length ≤ c) (hl : l.length ≤ 1000000) (hs : ∀ k ∈ l, k.size ≤ 1000000) :
    Calls Tryz.prog 84 #[.slice A l.length c, .func (.func 66) #[] #[]] w fun e w' => IfnP (l.any badK) e ∧ Below w.heap.size w w' := by
  have HC := Aside0.mk hC
  have HS := Aside0.mk hs
  clear hC hs
  go_enter Tryz.func84, Tryz.ntmps84
  go_wp2
  go_loopw [8] (fun v wr => ∃ k : Nat, v = .int .i64 k ∧ k ≤ l.length ∧ Aside0 ((l.take k).any badK = false) ∧ Aside0 (Below w.heap.size w wr)) (fun v _ => l.length - (intOf v).toNat)
  case atStart => exact ⟨0, rfl, by omega, ⟨by simp⟩, ⟨Below.refl _ _⟩⟩
  case round =>
    obtain ⟨k, rfl, hk, hn, HB⟩ := hrel
    by_cases hlt : k < l.length
    · obtain ⟨b, o, rfl, hb0, hcell⟩ := S_cell (Kd.C_below HC.out HB.out) k hlt
      have h8k := HS.out (l.getD k ⟨#[]⟩) (by rw [List.getD_eq_getElem?_getD, List.getElem?_eq_getElem hlt]; exact List.getElem_mem hlt)
      have htk : l.take (k + 1) = l.take k ++ [l.getD k ⟨#[]⟩] := by
        rw [List.take_succ_eq_append_getElem hlt, List.getD_eq_getElem?_getD, List.getElem?_eq_getElem hlt]; rfl
      have hmem : l.getD k ⟨#[]⟩ ∈ l := by rw [List.getD_eq_getElem?_getD, List.getElem?_eq_getElem hlt]; exact List.getElem_mem hlt
      obtain ⟨v, hv⟩ : ∃ v, l.getD k ⟨#[]⟩ = v := ⟨_, rfl⟩
      rw [hv] at hcell h8k htk hmem
      obtain ⟨bo, hbo⟩ : ∃ bo, badK v = bo := ⟨_, rfl⟩
      have HBO := Aside0.mk hbo
      have HTK := Aside0.mk htk
      have HM := Aside0.mk hmem
      have H8 := Aside0.mk h8k
      clear htk hv hbo hmem h8k
      cases bo
      · go_wp2_with (go_at_call 66; (with_reducible refine (gets1_calls v _ H8.out).mono ?_); rintro e w' ⟨rfl, hb⟩; rw [HBO.out]; have HBn := Aside0.mk (below_step (by repeat (first | (with_reducible first | exact HB.out | apply below_alloc | apply pw_below_drewN | apply below_drew1) | exact HB.out)) hb); clear HB; have HB := HBn; clear HBn; clear hb)
        go_round
        case rel => exact ⟨k + 1, by first | rfl | simp, by omega, ⟨by rw [HTK.out, List.any_append, hn.out]; simp [HBO.out]⟩, ⟨HB.out⟩⟩
        case measure => simp [intOf]; omega
      · go_wp2_with (go_at_call 66; (with_reducible refine (gets1_calls v _ H8.out).mono ?_); rintro e w' ⟨rfl, hb⟩; rw [HBO.out]; have HBn := Aside0.mk (below_step (by repeat (first | (with_reducible first | exact HB.out | apply below_alloc | apply pw_below_drewN | apply below_drew1) | exact HB.out)) hb); clear HB; have HB := HBn; clear HBn; clear hb)
        go_ret
        refine ⟨⟨_, rfl, ?_⟩, HB.out⟩
        rw [if_pos (List.any_eq_true.2 ⟨v, HM.out, HBO.out⟩)]
        omega
    · have hkl : k = l.length := by omega
      go_wp2
      go_ret
      refine ⟨⟨_, rfl, ?_⟩, HB.out⟩
      have := hn.out
      rw [List.take_of_length_le (by omega)] at this
      rw [if_neg (by rw [this]; decide)]
set_option maxRecDepth 100000 in
set_option maxHeartbeats 1000000 in
theorem cfnS_calls (l : List ByteArray) (A : Option Addr) (c : Nat) (w : World) (hC : Kd.string.C w A l.length l) (hc : l.length ≤ c) (hl : l.length ≤ 1000000) (hs : ∀ k ∈ l, k.size ≤ 1000000) :
    Calls Tryz.prog 65 #[.slice A l.length c, .func (.func 66) #[] #[]] w fun e w' => e = .returned (.bool (l.any badK)) ∧ Below w.heap.size w w' := by
  have HI := Aside0.mk (ifnS_calls l A c w hC hc hl hs)
  have HB := Aside0.mk (Below.refl w.heap.size w)
  clear hC hs
  obtain ⟨b, hb⟩ : ∃ b, l.any badK = b := ⟨_, rfl⟩
  rw [hb] at HI ⊢
  clear hb
  cases b
  · go_enter Tryz.func65, Tryz.ntmps65
    go_wp2_with (go_at_call 84; (with_reducible refine HI.out.mono ?_); rintro e w' ⟨⟨z, rfl, hz⟩, hb⟩; rw [if_neg (by decide)] at hz; subst hz; have HBn := Aside0.mk (below_step (by repeat (first | (with_reducible first | exact HB.out | apply below_alloc | apply pw_below_drewN | apply below_drew1) | exact HB.out)) hb); clear HB; have HB := HBn; clear HBn; clear hb)
    go_ret
    exact ⟨rfl, HB.out⟩
  · go_enter Tryz.func65, Tryz.ntmps65
    go_wp2_with (go_at_call 84; (with_reducible refine HI.out.mono ?_); rintro e w' ⟨⟨z, rfl, hz⟩, hb⟩; rw [if_pos rfl] at hz; have HBn := Aside0.mk (below_step (by repeat (first | (with_reducible first | exact HB.out | apply below_alloc | apply pw_below_drewN | apply below_drew1) | exact HB.out)) hb); clear HB; have HB := HBn; clear HBn; clear hb)
    go_ret
    exact ⟨rfl, HB.out⟩
def keysS (l : List ByteArray) : Bool := decide (l.length ≤ 16) && !l.any badK
set_option maxRecDepth 100000 in
set_option maxHeartbeats 1000000 in
theorem rkeys_calls (l : List ByteArray) (A : Option Addr) (c : Nat) (w : World) (hC : Kd.string.C w A l.length l) (hc : l.length ≤ c) (hl : l.length ≤ 1000000) (hs : ∀ k ∈ l, k.size ≤ 1000000) :
    Calls Tryz.prog 52 #[.slice A l.length c] w fun e w' => e = .returned (.bool (keysS l)) ∧ Below w.heap.size w w' := by
  have HC := Aside0.mk hC
  have HS := Aside0.mk hs
  have HB := Aside0.mk (Below.refl w.heap.size w)
  clear hC hs
  obtain ⟨r, hr⟩ : ∃ r, keysS l = r := ⟨_, rfl⟩
  rw [hr]
  have HR := Aside0.mk hr
  clear hr
  by_cases hlt : 16 < l.length
  · obtain rfl : r = false := by rw [← HR.out]; unfold keysS; rw [decide_eq_false (by omega), Bool.false_and]
    go_enter Tryz.func52, Tryz.ntmps52
    go_wp2
    go_ret
    exact ⟨rfl, HB.out⟩
  · have HR2 : Aside0 (r = !l.any badK) := ⟨by rw [← HR.out]; unfold keysS; rw [decide_eq_true (by omega), Bool.true_and]⟩
    clear HB
    go_enter Tryz.func52, Tryz.ntmps52
    go_wp2
    go_loopw [3] (fun v wr => ∃ k : Nat, v = .int .i64 k ∧ k ≤ l.length ∧ Aside0 ((l.take k).any badK = false) ∧ Aside0 (Below w.heap.size w wr)) (fun v _ => l.length - (intOf v).toNat)
    case atStart => exact ⟨0, rfl, by omega, ⟨by simp⟩, ⟨Below.refl _ _⟩⟩
    case round =>
      obtain ⟨k, rfl, hk, hn, HB⟩ := hrel
      by_cases hlt : k < l.length
      · obtain ⟨b, o, rfl, hb0, hcell⟩ := S_cell (Kd.C_below HC.out HB.out) k hlt
        have h8k := HS.out (l.getD k ⟨#[]⟩) (by rw [List.getD_eq_getElem?_getD, List.getElem?_eq_getElem hlt]; exact List.getElem_mem hlt)
        have htk : l.take (k + 1) = l.take k ++ [l.getD k ⟨#[]⟩] := by
          rw [List.take_succ_eq_append_getElem hlt, List.getD_eq_getElem?_getD, List.getElem?_eq_getElem hlt]; rfl
        have hmem : l.getD k ⟨#[]⟩ ∈ l := by rw [List.getD_eq_getElem?_getD, List.getElem?_eq_getElem hlt]; exact List.getElem_mem hlt
        obtain ⟨v, hv⟩ : ∃ v, l.getD k ⟨#[]⟩ = v := ⟨_, rfl⟩
        rw [hv] at hcell h8k htk hmem
        obtain ⟨bo, hbo⟩ : ∃ bo, keyS v = bo := ⟨_, rfl⟩
        have HBO := Aside0.mk hbo
        have HTK := Aside0.mk htk
        have HM := Aside0.mk hmem
        have H8 := Aside0.mk h8k
        clear htk hv hbo hmem h8k
        cases bo
        · go_wp2_with (go_at_call 32; (with_reducible refine (rkey_calls v _ H8.out).mono ?_); rintro e w' ⟨rfl, hb⟩; rw [HBO.out]; have HBn := Aside0.mk (below_step (by repeat (first | (with_reducible first | exact HB.out | apply below_alloc | apply pw_below_drewN | apply below_drew1) | exact HB.out)) hb); clear HB; have HB := HBn; clear HBn; clear hb)
          go_ret
          refine ⟨?_, HB.out⟩
          rw [HR2.out, List.any_eq_true.2 ⟨v, HM.out, by unfold badK; rw [HBO.out]; rfl⟩]
          rfl
        · go_wp2_with (go_at_call 32; (with_reducible refine (rkey_calls v _ H8.out).mono ?_); rintro e w' ⟨rfl, hb⟩; rw [HBO.out]; have HBn := Aside0.mk (below_step (by repeat (first | (with_reducible first | exact HB.out | apply below_alloc | apply pw_below_drewN | apply below_drew1) | exact HB.out)) hb); clear HB; have HB := HBn; clear HBn; clear hb)
          go_round
          case rel => exact ⟨k + 1, by first | rfl | simp, by omega, ⟨by rw [HTK.out, List.any_append, hn.out]; simp [badK, HBO.out]⟩, ⟨HB.out⟩⟩
          case measure => simp [intOf]; omega
      · have hkl : k = l.length := by omega
        go_wp2
        go_ret
        refine ⟨?_, HB.out⟩
        have := hn.out
        rw [List.take_of_length_le (by omega)] at this
        rw [HR2.out, this]
        rfl
end Go.Proofs.YtfljijpkeckeaaaGreatDoor.X
namespace Go.Proofs.YtfljijpkeckeaaaGreatDoor.X
open Go.RowKit Go.Proofs.YtfljijpkeckeaaaGreatDoorW.PrintWords Go.Proofs.YtfljijpkeckeaaaGreatDoorW.PrintMore
set_option linter.unusedVariables false
theorem dec_w (s : ByteArray) (w : World) (hT : Tabs w) : Calls Tryz.prog 71 #[.string s] w fun e w' => e = .returned (.tuple #[.int .u64 ((decS s).1 : Int), .bool (decS s).2]) ∧ Below w.heap.size w w' :=
  num_Decimal.calls s _ _ w hT rfl
theorem sgn_w (s : ByteArray) (w : World) (hT : Tabs w) : Calls Tryz.prog 69 #[.string s] w fun e w' => e = .returned (.tuple #[.int .i64 (sgnS s).1, .bool (sgnS s).2]) ∧ Below w.heap.size w w' := by
  obtain ⟨K, hK⟩ := sgn_f s
  exact num_Signed.calls K s _ _ w hT (hK K (Nat.le_refl _))
theorem rdec_w (s : ByteArray) (w : World) : Calls Tryz.prog 56 #[.string s] w fun e w' => e = .returned (.tuple #[.int .u64 ((decS s).1 : Int), .bool (decS s).2]) ∧ Below w.heap.size w w' := by
  obtain ⟨K, hK⟩ := rdec_f s
  exact (butteryref01_Decimal.calls K s _ _ w (hK K (Nat.le_refl _))).mono fun e w' ⟨he, hd⟩ => ⟨he, hd.below⟩
theorem rsgn_w (s : ByteArray) (w : World) (hs : s.size ≤ 1000000) : Calls Tryz.prog 54 #[.string s] w fun e w' => e = .returned (.tuple #[.int .i64 (sgnS s).1, .bool (sgnS s).2]) ∧ Below w.heap.size w w' := by
  obtain ⟨K, hK⟩ := rsgn_f s (by omega)
  exact (butteryref01_Signed.calls K s _ _ w (hK K (Nat.le_refl _))).mono fun e w' ⟨he, hd⟩ => ⟨he, hd.below⟩
end Go.Proofs.YtfljijpkeckeaaaGreatDoor.X
namespace Go.Proofs.YtfljijpkeckeaaaGreatDoor.X
open Go.RowKit Go.Proofs.YtfljijpkeckeaaaGreatDoorW.PrintWords Go.Proofs.YtfljijpkeckeaaaGreatDoorW.PrintMore
set_option linter.unusedVariables false
def asksL (l : List UInt8) : Int :=
  if l = [115, 101, 116] then 4 else if l = [97, 100, 100] then 4 else if l = [114, 101, 112, 108, 97, 99, 101] then 4 else if l = [97, 112, 112, 101, 110, 100] then 4 else if l = [112, 114, 101, 112, 101, 110, 100] then 4 else if l = [99, 97, 115] then 5
  else if l = [100, 101, 108, 101, 116, 101] then 1 else if l = [105, 110, 99, 114] then 2 else if l = [100, 101, 99, 114] then 2 else if l = [116, 111, 117, 99, 104] then 2 else -1
theorem asks_f1 (v : ByteArray) : textin_asks.f 1 v = some (asksL v.toList) := by
  unfold textin_asks.f asksL
  simp only [textin_asks.j0]
  generalize v.toList = l
  by_cases h1 : l = [115, 101, 116]
  · simp [h1]
  by_cases h2 : l = [97, 100, 100]
  · simp [h2]
  by_cases h3 : l = [114, 101, 112, 108, 97, 99, 101]
  · simp [h3]
  by_cases h4 : l = [97, 112, 112, 101, 110, 100]
  · simp [h4]
  by_cases h5 : l = [112, 114, 101, 112, 101, 110, 100]
  · simp [h5]
  by_cases h6 : l = [99, 97, 115]
  · simp [h6]
  by_cases h7 : l = [100, 101, 108, 101, 116, 101]
  · simp [h7]
  by_cases h8 : l = [105, 110, 99, 114]
  · simp [h8]
  by_cases h9 : l = [100, 101, 99, 114]
  · simp [h9]
  by_cases h10 : l = [116, 111, 117, 99, 104]
  · simp [h10]
  simp [h1, h2, h3, h4, h5, h6, h7, h8, h9, h10]
theorem asks_w (v : ByteArray) (w : World) : Calls Tryz.prog 44 #[.string v] w fun e w' => e = .returned (.int .i64 (asksL v.toList)) ∧ Below w.heap.size w w' :=
  (textin_asks.calls 1 v _ w (asks_f1 v)).mono fun e w' ⟨he, hd⟩ => ⟨he, hd.below⟩
def manyL (l : List UInt8) : Int := if asksL l = -1 then 0 else asksL l + 1
theorem many_f1 (v : ByteArray) : butteryref14_many.f 1 v = some (manyL v.toList) := by
  unfold butteryref14_many.f manyL asksL
  simp only [butteryref14_many.j0]
  generalize v.toList = l
  by_cases h1 : l = [115, 101, 116]
  · simp [h1]
  by_cases h2 : l = [97, 100, 100]
  · simp [h2]
  by_cases h3 : l = [114, 101, 112, 108, 97, 99, 101]
  · simp [h3]
  by_cases h4 : l = [97, 112, 112, 101, 110, 100]
  · simp [h4]
  by_cases h5 : l = [112, 114, 101, 112, 101, 110, 100]
  · simp [h5]
  by_cases h6 : l = [99, 97, 115]
  · simp [h6]
  by_cases h7 : l = [100, 101, 108, 101, 116, 101]
  · simp [h7]
  by_cases h8 : l = [105, 110, 99, 114]
  · simp [h8]
  by_cases h9 : l = [100, 101, 99, 114]
  · simp [h9]
  by_cases h10 : l = [116, 111, 117, 99, 104]
  · simp [h10]
  simp [h1, h2, h3, h4, h5, h6, h7, h8, h9, h10]
theorem many_w (v : ByteArray) (w : World) : Calls Tryz.prog 28 #[.string v] w fun e w' => e = .returned (.int .i64 (manyL v.toList)) ∧ Below w.heap.size w w' :=
  (butteryref14_many.calls 1 v _ w (many_f1 v)).mono fun e w' ⟨he, hd⟩ => ⟨he, hd.below⟩
def opL (l : List UInt8) : Int :=
  if l = [115, 101, 116] then 3 else if l = [97, 100, 100] then 4 else if l = [114, 101, 112, 108, 97, 99, 101] then 5 else if l = [97, 112, 112, 101, 110, 100] then 6 else if l = [112, 114, 101, 112, 101, 110, 100] then 7 else if l = [99, 97, 115] then 3 else -1
theorem op_f8 (v : ByteArray) : butteryref14_op.f 8 v = some (opL v.toList) := by
  unfold butteryref14_op.f opL
  have hl : ∀ (s t : ByteArray), (s.toList = t.toList) ↔ (t.toList = s.toList) := fun s t => ⟨Eq.symm, Eq.symm⟩
  have w : ∀ n : Int, 0 ≤ n → n < 10 → wrap64 n = n := fun n h0 h1 => w64 n (by omega) (by omega)
  have e0 : (rdOf ByteArray.empty ([(⟨#[115, 101, 116]⟩ : ByteArray), (⟨#[97, 100, 100]⟩ : ByteArray), (⟨#[114, 101, 112, 108, 97, 99, 101]⟩ : ByteArray), (⟨#[97, 112, 112, 101, 110, 100]⟩ : ByteArray), (⟨#[112, 114, 101, 112, 101, 110, 100]⟩ : ByteArray), (⟨#[99, 97, 115]⟩ : ByteArray)] : List ByteArray) 0).toList = [115, 101, 116] := by rw [ByteArray.toList_eq]; rfl
  have e1 : (rdOf ByteArray.empty ([(⟨#[115, 101, 116]⟩ : ByteArray), (⟨#[97, 100, 100]⟩ : ByteArray), (⟨#[114, 101, 112, 108, 97, 99, 101]⟩ : ByteArray), (⟨#[97, 112, 112, 101, 110, 100]⟩ : ByteArray), (⟨#[112, 114, 101, 112, 101, 110, 100]⟩ : ByteArray), (⟨#[99, 97, 115]⟩ : ByteArray)] : List ByteArray) 1).toList = [97, 100, 100] := by rw [ByteArray.toList_eq]; rfl
  have e2 : (rdOf ByteArray.empty ([(⟨#[115, 101, 116]⟩ : ByteArray), (⟨#[97, 100, 100]⟩ : ByteArray), (⟨#[114, 101, 112, 108, 97, 99, 101]⟩ : ByteArray), (⟨#[97, 112, 112, 101, 110, 100]⟩ : ByteArray), (⟨#[112, 114, 101, 112, 101, 110, 100]⟩ : ByteArray), (⟨#[99, 97, 115]⟩ : ByteArray)] : List ByteArray) 2).toList = [114, 101, 112, 108, 97, 99, 101] := by rw [ByteArray.toList_eq]; rfl
  have e3 : (rdOf ByteArray.empty ([(⟨#[115, 101, 116]⟩ : ByteArray), (⟨#[97, 100, 100]⟩ : ByteArray), (⟨#[114, 101, 112, 108, 97, 99, 101]⟩ : ByteArray), (⟨#[97, 112, 112, 101, 110, 100]⟩ : ByteArray), (⟨#[112, 114, 101, 112, 101, 110, 100]⟩ : ByteArray), (⟨#[99, 97, 115]⟩ : ByteArray)] : List ByteArray) 3).toList = [97, 112, 112, 101, 110, 100] := by rw [ByteArray.toList_eq]; rfl
  have e4 : (rdOf ByteArray.empty ([(⟨#[115, 101, 116]⟩ : ByteArray), (⟨#[97, 100, 100]⟩ : ByteArray), (⟨#[114, 101, 112, 108, 97, 99, 101]⟩ : ByteArray), (⟨#[97, 112, 112, 101, 110, 100]⟩ : ByteArray), (⟨#[112, 114, 101, 112, 101, 110, 100]⟩ : ByteArray), (⟨#[99, 97, 115]⟩ : ByteArray)] : List ByteArray) 4).toList = [112, 114, 101, 112, 101, 110, 100] := by rw [ByteArray.toList_eq]; rfl
  have e5 : (rdOf ByteArray.empty ([(⟨#[115, 101, 116]⟩ : ByteArray), (⟨#[97, 100, 100]⟩ : ByteArray), (⟨#[114, 101, 112, 108, 97, 99, 101]⟩ : ByteArray), (⟨#[97, 112, 112, 101, 110, 100]⟩ : ByteArray), (⟨#[112, 114, 101, 112, 101, 110, 100]⟩ : ByteArray), (⟨#[99, 97, 115]⟩ : ByteArray)] : List ByteArray) 5).toList = [99, 97, 115] := by rw [ByteArray.toList_eq]; rfl
  simp only [butteryref14_op.l0, show wrap64 (0 + 1) = 1 from (w64 (0 + 1) (by decide) (by decide)).trans rfl, show wrap64 (1 + 1) = 2 from (w64 (1 + 1) (by decide) (by decide)).trans rfl, show wrap64 (2 + 1) = 3 from (w64 (2 + 1) (by decide) (by decide)).trans rfl, show wrap64 (3 + 1) = 4 from (w64 (3 + 1) (by decide) (by decide)).trans rfl, show wrap64 (4 + 1) = 5 from (w64 (4 + 1) (by decide) (by decide)).trans rfl, show wrap64 (5 + 1) = 6 from (w64 (5 + 1) (by decide) (by decide)).trans rfl, e0, e1, e2, e3, e4, e5]
  generalize v.toList = l
  by_cases h1 : [115, 101, 116] = l
  · subst h1; simp [rd]
  by_cases h2 : [97, 100, 100] = l
  · subst h2; simp [rd]
  by_cases h3 : [114, 101, 112, 108, 97, 99, 101] = l
  · subst h3; simp [rd]
  by_cases h4 : [97, 112, 112, 101, 110, 100] = l
  · subst h4; simp [rd]
  by_cases h5 : [112, 114, 101, 112, 101, 110, 100] = l
  · subst h5; simp [rd]
  by_cases h6 : [99, 97, 115] = l
  · subst h6; simp [rd]
  simp [h1, h2, h3, h4, h5, h6, Ne.symm h1, Ne.symm h2, Ne.symm h3, Ne.symm h4, Ne.symm h5, Ne.symm h6]
theorem op_w (v : ByteArray) (w : World) : Calls Tryz.prog 29 #[.string v] w fun e w' => e = .returned (.int .i64 (opL v.toList)) ∧ Below w.heap.size w w' :=
  (butteryref14_op.calls 8 v _ w (op_f8 v)).mono fun e w' h => h
end Go.Proofs.YtfljijpkeckeaaaGreatDoor.X
namespace Go.Proofs.YtfljijpkeckeaaaGreatDoor.X
open Go.RowKit Go.Proofs.YtfljijpkeckeaaaGreatDoorW.PrintWords Go.Proofs.YtfljijpkeckeaaaGreatDoorW.PrintMore
set_option linter.unusedVariables false
set_option linter.unusedSimpArgs false
def badT : ByteArray := (⟨#[67, 76, 73, 69, 78, 84, 95, 69, 82, 82, 79, 82, 32, 98, 97, 100, 32, 99, 111, 109, 109, 97, 110, 100, 32, 108, 105, 110, 101, 32, 102, 111, 114, 109, 97, 116]⟩ : ByteArray)
def cmdF (exp : Int) : Cmd := { zCmd with op := 13, exp := exp }
theorem keysOf_cmdF (exp : Int) : keysOf (cmdF exp).key = [] := by
  unfold keysOf
  exact if_pos rfl
def expF (words : List ByteArray) : Int × Bool := if words.length = 0 then (0, true) else sgnS (words.getD 0 ⟨#[]⟩)
def flushS (verb : ByteArray) (quiet : Bool) (words : List ByteArray) (used : Int) : Step :=
  if 1 < words.length then stepF used (⟨#[69, 82, 82, 79, 82]⟩ : ByteArray) else if (expF words).2 = true then stepO used (formT verb quiet []) (cmdF (expF words).1) else stepF used badT
set_option maxRecDepth 100000 in
set_option maxHeartbeats 1000000 in
theorem flush_calls (x : TextinLine) (cx : List Value) (F : Nat → Prop) (w : World) (hx : kTextinLine.K w x cx) (hT : Tabs w) :
    Calls Tryz.prog 50 #[.agg cx.toArray] w (StepR F w (flushS x.verb x.quiet x.words x.used)) := by
  have HB := Aside0.mk (Below.refl w.heap.size w)
  have HX := Aside0.mk hx
  have HT := Aside0.mk hT
  obtain ⟨A1, c1, A4, c4, rfl, hl1, hg1, hl4, hg4⟩ := kTextinLine_open hx
  have HG := Aside0.mk hg1
  obtain ⟨r, hr⟩ : ∃ r, flushS x.verb x.quiet x.words x.used = r := ⟨_, rfl⟩
  rw [hr]
  unfold flushS at hr
  clear hx hg1 hg4 hT
  have HO1 : Aside0 (∀ w', Below w.heap.size w w' → Calls Tryz.prog 18 #[.agg #[.string x.verb, .slice A1 x.words.length c1, .bool x.quiet, .int .i64 x.used, .slice A4 x.rest.length c4], .string (⟨#[69, 82, 82, 79, 82]⟩ : ByteArray)] w' (StepR (fun k => k < w.heap.size ∧ F k) w' (stepF x.used (⟨#[69, 82, 82, 79, 82]⟩ : ByteArray)))) := ⟨fun w' hb => fault_calls x _ _ _ w' (kTextinLine.K_below hb HX.out) (by decide)⟩
  have HO2 : Aside0 (∀ w', Below w.heap.size w w' → Calls Tryz.prog 18 #[.agg #[.string x.verb, .slice A1 x.words.length c1, .bool x.quiet, .int .i64 x.used, .slice A4 x.rest.length c4], .string (⟨#[67, 76, 73, 69, 78, 84, 95, 69, 82, 82, 79, 82, 32, 98, 97, 100, 32, 99, 111, 109, 109, 97, 110, 100, 32, 108, 105, 110, 101, 32, 102, 111, 114, 109, 97, 116]⟩ : ByteArray)] w' (StepR (fun k => k < w.heap.size ∧ F k) w' (stepF x.used badT))) := ⟨fun w' hb => fault_calls x _ _ _ w' (kTextinLine.K_below hb HX.out) (by decide)⟩
  have HC : Aside0 (∀ w' v, kCmd.K w' (cmdF v) [.int .i64 13, .string ⟨#[]⟩, .slice none 0 0, .int .u32 0, .int .i64 v, .int .u64 0, .int .u64 0, .int .u64 0, .bool false, .bool false]) := ⟨fun w' v => kCmd_mk w' (cmdF v) (Nat.le_refl _) (C_nil _ _)⟩
  have HO3 : Aside0 (∀ v w', Below w.heap.size w w' → Calls Tryz.prog 70 #[.agg #[.string x.verb, .slice A1 x.words.length c1, .bool x.quiet, .int .i64 x.used, .slice A4 x.rest.length c4], .agg #[.int .i64 13, .string ⟨#[]⟩, .slice none 0 0, .int .u32 0, .int .i64 v, .int .u64 0, .int .u64 0, .int .u64 0, .bool false, .bool false]] w' (StepR (fun k => k < w.heap.size ∧ F k) w' (stepO x.used (formT x.verb x.quiet []) (cmdF v)))) := ⟨fun v w' hb => by
    have := one_calls x (cmdF v) _ _ (fun k => k < w.heap.size ∧ F k) w' (kTextinLine.K_below hb HX.out) (fun w2 _ _ => HC.out w2 v)
    rw [keysOf_cmdF] at this
    exact this⟩
  by_cases hn : x.words.length = 0
  · have HO4 : Aside0 (∀ v w', Below w.heap.size w w' → Calls Tryz.prog 70 #[.agg #[.string x.verb, .slice A1 0 c1, .bool x.quiet, .int .i64 x.used, .slice A4 x.rest.length c4], .agg #[.int .i64 13, .string ⟨#[]⟩, .slice none 0 0, .int .u32 0, .int .i64 v, .int .u64 0, .int .u64 0, .int .u64 0, .bool false, .bool false]] w' (StepR (fun k => k < w.heap.size ∧ F k) w' (stepO x.used (formT x.verb x.quiet []) (cmdF v)))) := ⟨fun v w' hb => by
      have := HO3.out v w' hb
      rw [hn] at this
      exact this⟩
    unfold expF at hr
    rw [if_neg (by omega), if_pos hn] at hr
    dsimp only at hr
    rw [if_pos rfl] at hr
    subst hr
    have hn0 : (x.words.length : Int) = 0 := by omega
    go_enter Tryz.func50, Tryz.ntmps50
    go_wp2_with (first | (refine wpList_store_K HK.out.now rfl 34 _ _ rfl (w.heap.size + 1) rfl rfl 34 _ BK.out (by kernel_rfl) rfl ?_; intro w2 hbk hlow hfar; have HK2 := Aside0.mk (hfar _ _ (fun h => absurd (h (by simp)).1 (by simp)) HK.out); clear BK; have BK := Aside0.mk hbk; have HL := Aside0.mk hlow; clear hbk hlow hfar) | go_at_call 70; (with_reducible refine (HO4.out _ _ (by repeat (first | (with_reducible first | exact HB.out | apply below_alloc | apply pw_below_drewN | apply below_drew1) | exact HB.out))).mono ?_); rintro e w1 ⟨⟨cs, rfl, hk⟩, hb⟩; have BK := Aside0.mk (blk_below (g := w.heap.size + 1) (by repeat (first | exact blk_at_new _ _ _ (by simp; done) | exact blk_at_new _ _ _ rfl | refine blk_alloc ?_ _ | refine blk_drew ?_ | refine blk_drewN ?_ _)) hb); have HBn := Aside0.mk (below_step (by repeat (first | (with_reducible first | exact HB.out | apply below_alloc | apply pw_below_drewN | apply below_drew1) | exact HB.out)) hb); clear HB; have HB := HBn; clear HBn; have HK := Aside0.mk hk; clear hb hk)
    ((try simp only [Exit.inBlock, Exit.then]); refine bodyPost_ret (results_cell_row rfl _ _ (w.heap.size + 1) 34 _ (0, 0) _ rfl BK.out Tryz.underlying34 rfl (by rw [List.size_toArray, kStep.K_len HK.out.now]; kernel_rfl)) rfl ?_)
    exact ⟨⟨_, rfl, HK2.out.mono (fun k hk h3 => (hk (by simp; omega)).2)⟩, HB.out.trans (HL.out _ (by omega))⟩
  by_cases hn2 : 1 < x.words.length
  · rw [if_pos hn2] at hr
    subst hr
    obtain ⟨b, o, rfl, hb0, hcell⟩ := S_cell HG.out 0 (by omega)
    have hn0 : 0 < (x.words.length : Int) := by omega
    have hn1 : 1 < (x.words.length : Int) := by omega
    obtain ⟨v, hv⟩ : ∃ v, x.words.getD 0 ⟨#[]⟩ = v := ⟨_, rfl⟩
    rw [hv, Nat.add_zero] at hcell
    clear hv
    obtain ⟨z, hz⟩ : ∃ z, (sgnS v).1 = z := ⟨_, rfl⟩
    obtain ⟨q, hq⟩ : ∃ q, (sgnS v).2 = q := ⟨_, rfl⟩
    have HSG := Aside0.mk (fun w => sgn_w v w)
    rw [hz, hq] at HSG
    clear hz hq
    go_enter Tryz.func50, Tryz.ntmps50
    go_wp2_with (first | (go_at_call 69; (with_reducible refine (HSG.out _ (Tabs.below HT.out (by repeat (first | (with_reducible first | exact HB.out | apply below_alloc | apply pw_below_drewN | apply below_drew1) | exact HB.out)))).mono ?_); rintro e w1 ⟨rfl, hb⟩; have BX := Aside0.mk (blk_below (g := w.heap.size) (o := .cells #[.string x.verb, .slice (some ⟨b, o, none⟩) x.words.length c1, .bool x.quiet, .int .i64 x.used, .slice A4 x.rest.length c4] 50 (0, 0)) (by repeat (first | exact blk_at_new _ _ _ (by simp; done) | exact blk_at_new _ _ _ rfl | refine blk_alloc ?_ _ | refine blk_drew ?_ | refine blk_drewN ?_ _)) hb); have BR := Aside0.mk (blk_below (g := w.heap.size + 1) (by repeat (first | exact blk_at_new _ _ _ (by simp; done) | exact blk_at_new _ _ _ rfl | refine blk_alloc ?_ _ | refine blk_drew ?_ | refine blk_drewN ?_ _)) hb); have GLT := Aside0.mk (blk_lt BR.out); have HBn := Aside0.mk (below_step (by repeat (first | (with_reducible first | exact HB.out | apply below_alloc | apply pw_below_drewN | apply below_drew1) | exact HB.out)) hb); clear HB; have HB := HBn; clear HBn; clear hb; have t0 : w1.cell? ⟨w.heap.size, 0, none⟩ = some (.string x.verb) := (blk_cell BX.out 0).trans rfl; have t1 : w1.cell? ⟨w.heap.size, 1, none⟩ = some (.slice (some ⟨b, o, none⟩) x.words.length c1) := (blk_cell BX.out 1).trans rfl; have t2 : w1.cell? ⟨w.heap.size, 2, none⟩ = some (.bool x.quiet) := (blk_cell BX.out 2).trans rfl; have t3 : w1.cell? ⟨w.heap.size, 3, none⟩ = some (.int .i64 x.used) := (blk_cell BX.out 3).trans rfl; have t4 : w1.cell? ⟨w.heap.size, 4, none⟩ = some (.slice A4 x.rest.length c4) := (blk_cell BX.out 4).trans rfl) | (refine wpList_store_K HK.out.now rfl 34 _ _ rfl (w.heap.size + 1) rfl rfl 34 _ BK.out (by kernel_rfl) rfl ?_; intro w2 hbk hlow hfar; have HK2 := Aside0.mk (hfar _ _ (fun h => absurd (h GLT.out).1 (by omega)) HK.out); clear BK; have BK := Aside0.mk hbk; have HL := Aside0.mk hlow; clear hbk hlow hfar) | go_at_call 18; (with_reducible refine (HO1.out _ (by repeat (first | (with_reducible first | exact HB.out | apply below_alloc | apply pw_below_drewN | apply below_drew1) | exact HB.out))).mono ?_); rintro e w1 ⟨⟨cs, rfl, hk⟩, hb⟩; have BK := Aside0.mk (blk_below BR.out hb); have HBn := Aside0.mk (below_step (by repeat (first | (with_reducible first | exact HB.out | apply below_alloc | apply pw_below_drewN | apply below_drew1) | exact HB.out)) hb); clear HB; have HB := HBn; clear HBn; have HK := Aside0.mk hk; clear hb hk)
    ((try simp only [Exit.inBlock, Exit.then]); refine bodyPost_ret (results_cell_row rfl _ _ (w.heap.size + 1) 34 _ (0, 0) _ rfl BK.out Tryz.underlying34 rfl (by rw [List.size_toArray, kStep.K_len HK.out.now]; kernel_rfl)) rfl ?_)
    exact ⟨⟨_, rfl, HK2.out.mono (fun k hk h3 => (hk (by have := GLT.out; omega)).2)⟩, HB.out.trans (HL.out _ (by omega))⟩
  have hn1 : x.words.length = 1 := by omega
  rw [if_neg hn2] at hr
  unfold expF at hr
  rw [if_neg hn] at hr
  obtain ⟨b, o, rfl, hb0, hcell⟩ := S_cell HG.out 0 (by omega)
  obtain ⟨v, hv⟩ : ∃ v, x.words.getD 0 ⟨#[]⟩ = v := ⟨_, rfl⟩
  rw [hv, Nat.add_zero] at hcell
  rw [hv] at hr
  clear hv hn hn2
  have hd0 : decide (0 < (x.words.length : Int)) = true := decide_eq_true (by omega)
  have hd1 : decide ((x.words.length : Int) > 1) = false := decide_eq_false (by omega)
  have hd2 : (0 : Int) < x.words.length := by omega
  have hd3 : (x.words.length : Int) ≤ 1 := by omega
  clear hn1
  obtain ⟨z, hz⟩ : ∃ z, (sgnS v).1 = z := ⟨_, rfl⟩
  obtain ⟨q, hq⟩ : ∃ q, (sgnS v).2 = q := ⟨_, rfl⟩
  have HSG := Aside0.mk (fun w => sgn_w v w)
  rw [hz, hq] at HSG
  rw [hz, hq] at hr
  clear hz hq
  cases q
  · rw [if_neg (by decide)] at hr
    subst hr
    go_enter Tryz.func50, Tryz.ntmps50
    go_wp2_with (first | (go_at_call 69; (with_reducible refine (HSG.out _ (Tabs.below HT.out (by repeat (first | (with_reducible first | exact HB.out | apply below_alloc | apply pw_below_drewN | apply below_drew1) | exact HB.out)))).mono ?_); rintro e w1 ⟨rfl, hb⟩; have BX := Aside0.mk (blk_below (g := w.heap.size) (o := .cells #[.string x.verb, .slice (some ⟨b, o, none⟩) x.words.length c1, .bool x.quiet, .int .i64 x.used, .slice A4 x.rest.length c4] 50 (0, 0)) (by repeat (first | exact blk_at_new _ _ _ (by simp; done) | exact blk_at_new _ _ _ rfl | refine blk_alloc ?_ _ | refine blk_drew ?_ | refine blk_drewN ?_ _)) hb); have BR := Aside0.mk (blk_below (g := w.heap.size + 1) (by repeat (first | exact blk_at_new _ _ _ (by simp; done) | exact blk_at_new _ _ _ rfl | refine blk_alloc ?_ _ | refine blk_drew ?_ | refine blk_drewN ?_ _)) hb); have GLT := Aside0.mk (blk_lt BR.out); have HBn := Aside0.mk (below_step (by repeat (first | (with_reducible first | exact HB.out | apply below_alloc | apply pw_below_drewN | apply below_drew1) | exact HB.out)) hb); clear HB; have HB := HBn; clear HBn; clear hb; have t0 : w1.cell? ⟨w.heap.size, 0, none⟩ = some (.string x.verb) := (blk_cell BX.out 0).trans rfl; have t1 : w1.cell? ⟨w.heap.size, 1, none⟩ = some (.slice (some ⟨b, o, none⟩) x.words.length c1) := (blk_cell BX.out 1).trans rfl; have t2 : w1.cell? ⟨w.heap.size, 2, none⟩ = some (.bool x.quiet) := (blk_cell BX.out 2).trans rfl; have t3 : w1.cell? ⟨w.heap.size, 3, none⟩ = some (.int .i64 x.used) := (blk_cell BX.out 3).trans rfl; have t4 : w1.cell? ⟨w.heap.size, 4, none⟩ = some (.slice A4 x.rest.length c4) := (blk_cell BX.out 4).trans rfl) | (refine wpList_store_K HK.out.now rfl 34 _ _ rfl (w.heap.size + 1) rfl rfl 34 _ BK.out (by kernel_rfl) rfl ?_; intro w2 hbk hlow hfar; have HK2 := Aside0.mk (hfar _ _ (fun h => absurd (h GLT.out).1 (by omega)) HK.out); clear BK; have BK := Aside0.mk hbk; have HL := Aside0.mk hlow; clear hbk hlow hfar) | go_at_call 18; (with_reducible refine (HO2.out _ (by repeat (first | (with_reducible first | exact HB.out | apply below_alloc | apply pw_below_drewN | apply below_drew1) | exact HB.out))).mono ?_); rintro e w1 ⟨⟨cs, rfl, hk⟩, hb⟩; have BK := Aside0.mk (blk_below BR.out hb); have HBn := Aside0.mk (below_step (by repeat (first | (with_reducible first | exact HB.out | apply below_alloc | apply pw_below_drewN | apply below_drew1) | exact HB.out)) hb); clear HB; have HB := HBn; clear HBn; have HK := Aside0.mk hk; clear hb hk)
    ((try simp only [Exit.inBlock, Exit.then]); refine bodyPost_ret (results_cell_row rfl _ _ (w.heap.size + 1) 34 _ (0, 0) _ rfl BK.out Tryz.underlying34 rfl (by rw [List.size_toArray, kStep.K_len HK.out.now]; kernel_rfl)) rfl ?_)
    exact ⟨⟨_, rfl, HK2.out.mono (fun k hk h3 => (hk (by have := GLT.out; omega)).2)⟩, HB.out.trans (HL.out _ (by omega))⟩
  · rw [if_pos rfl] at hr
    subst hr
    go_enter Tryz.func50, Tryz.ntmps50
    go_wp2_with (first | (go_at_call 69; (with_reducible refine (HSG.out _ (Tabs.below HT.out (by repeat (first | (with_reducible first | exact HB.out | apply below_alloc | apply pw_below_drewN | apply below_drew1) | exact HB.out)))).mono ?_); rintro e w1 ⟨rfl, hb⟩; have BX := Aside0.mk (blk_below (g := w.heap.size) (o := .cells #[.string x.verb, .slice (some ⟨b, o, none⟩) x.words.length c1, .bool x.quiet, .int .i64 x.used, .slice A4 x.rest.length c4] 50 (0, 0)) (by repeat (first | exact blk_at_new _ _ _ (by simp; done) | exact blk_at_new _ _ _ rfl | refine blk_alloc ?_ _ | refine blk_drew ?_ | refine blk_drewN ?_ _)) hb); have BR := Aside0.mk (blk_below (g := w.heap.size + 1) (by repeat (first | exact blk_at_new _ _ _ (by simp; done) | exact blk_at_new _ _ _ rfl | refine blk_alloc ?_ _ | refine blk_drew ?_ | refine blk_drewN ?_ _)) hb); have GLT := Aside0.mk (blk_lt BR.out); have HBn := Aside0.mk (below_step (by repeat (first | (with_reducible first | exact HB.out | apply below_alloc | apply pw_below_drewN | apply below_drew1) | exact HB.out)) hb); clear HB; have HB := HBn; clear HBn; clear hb; have t0 : w1.cell? ⟨w.heap.size, 0, none⟩ = some (.string x.verb) := (blk_cell BX.out 0).trans rfl; have t1 : w1.cell? ⟨w.heap.size, 1, none⟩ = some (.slice (some ⟨b, o, none⟩) x.words.length c1) := (blk_cell BX.out 1).trans rfl; have t2 : w1.cell? ⟨w.heap.size, 2, none⟩ = some (.bool x.quiet) := (blk_cell BX.out 2).trans rfl; have t3 : w1.cell? ⟨w.heap.size, 3, none⟩ = some (.int .i64 x.used) := (blk_cell BX.out 3).trans rfl; have t4 : w1.cell? ⟨w.heap.size, 4, none⟩ = some (.slice A4 x.rest.length c4) := (blk_cell BX.out 4).trans rfl) | (refine wpList_store_K HK.out.now rfl 34 _ _ rfl (w.heap.size + 1) rfl rfl 34 _ BK.out (by kernel_rfl) rfl ?_; intro w2 hbk hlow hfar; have HK2 := Aside0.mk (hfar _ _ (fun h => absurd (h GLT.out).1 (by omega)) HK.out); clear BK; have BK := Aside0.mk hbk; have HL := Aside0.mk hlow; clear hbk hlow hfar) | go_at_call 70; (with_reducible refine (HO3.out _ _ (by repeat (first | (with_reducible first | exact HB.out | apply below_alloc | apply pw_below_drewN | apply below_drew1) | exact HB.out))).mono ?_); rintro e w1 ⟨⟨cs, rfl, hk⟩, hb⟩; have BK := Aside0.mk (blk_below BR.out hb); have HBn := Aside0.mk (below_step (by repeat (first | (with_reducible first | exact HB.out | apply below_alloc | apply pw_below_drewN | apply below_drew1) | exact HB.out)) hb); clear HB; have HB := HBn; clear HBn; have HK := Aside0.mk hk; clear hb hk)
    ((try simp only [Exit.inBlock, Exit.then]); refine bodyPost_ret (results_cell_row rfl _ _ (w.heap.size + 1) 34 _ (0, 0) _ rfl BK.out Tryz.underlying34 rfl (by rw [List.size_toArray, kStep.K_len HK.out.now]; kernel_rfl)) rfl ?_)
    exact ⟨⟨_, rfl, HK2.out.mono (fun k hk h3 => (hk (by have := GLT.out; omega)).2)⟩, HB.out.trans (HL.out _ (by omega))⟩
end Go.Proofs.YtfljijpkeckeaaaGreatDoor.X
namespace Go.Proofs.YtfljijpkeckeaaaGreatDoor.X
open Go.RowKit Go.Proofs.YtfljijpkeckeaaaGreatDoorW.PrintWords Go.Proofs.YtfljijpkeckeaaaGreatDoorW.PrintMore
set_option linter.unusedVariables false
set_option linter.unusedSimpArgs false
def cloV (op exp delta : Int) (reply : ByteArray) : Value := .tuple #[.agg #[.int .i64 op, .string ⟨#[]⟩, .slice none 0 0, .int .u32 0, .int .i64 exp, .int .u64 0, .int .u64 delta, .int .u64 0, .bool false, .bool false], .string reply]
set_option maxRecDepth 100000 in
theorem other1_calls (word : ByteArray) (w : World) : Calls Tryz.prog 47 #[.string word] w fun e w' => e = .returned (cloV 8 0 0 ⟨#[]⟩) ∧ Below w.heap.size w w' := by
  have HB := Aside0.mk (Below.refl w.heap.size w)
  go_enter Tryz.func47, Tryz.ntmps47
  go_wp2
  ((try simp only [Exit.inBlock, Exit.then]); refine bodyPost_ret (results_ct rfl _ _ (w.heap.size) 40 _ (0, 0) _ rfl (by repeat (first | exact blk_at_new _ _ _ (by simp; done) | exact blk_at_new _ _ _ rfl | refine blk_alloc ?_ _ | refine blk_drew ?_ | refine blk_drewN ?_ _)) Tryz.underlying40 rfl (by kernel_rfl)) rfl ?_)
  exact ⟨rfl, (by repeat (first | (with_reducible first | exact HB.out | apply below_alloc | apply pw_below_drewN | apply below_drew1) | exact HB.out))⟩
theorem wpList_store_A {P : Program} {ops : Array Oper} {rest : List Oper} {o : Oper} {a : Act} {w : World} {Q : Exit → Act → World → Prop}
    (hgd : o.guard = none) (ty : TypeId) (x y : Operand) (ho : o.op = .store ty x y)
    (g : Nat) (cells : Array Value) (hx : a.eval x = .pointer (some ⟨g, 0, none⟩)) (hy : a.eval y = .agg cells)
    (t : TypeId) (old : Array Value) (hg : w.heap[g]? = some (.cells old t (0, 0))) (hi : (P.info? ty).map (·.size) = some cells.size) (hold : old.size = cells.size) (h1 : cells.all (·.oneCell') = true)
    (h : ∀ w', w'.heap[g]? = some (.cells cells t (0, 0)) → (∀ B, B ≤ g → Below B w w') → wpList P ops Q rest (a.put o.dst undef) w') : wpList P ops Q (o :: rest) a w :=
  wpList_store_row hgd ty x y ho g cells hx hy t old hg hi hold h1 (h _ (setRow_heap w g old _ t _ hg) (fun B hB => below_setRow (Below.refl _ _) hB _))
def touchV (z : Int × Bool) : Value := if z.2 = true then cloV 2 z.1 0 ⟨#[]⟩ else cloV 0 0 0 badT
set_option maxRecDepth 100000 in
set_option maxHeartbeats 1000000 in
theorem touch_calls (x : TextinLine) (cx : List Value) (word : ByteArray) (w : World) (hx : kTextinLine.K w x cx) (hT : Tabs w) :
    Calls Tryz.prog 49 #[.agg cx.toArray, .string word] w fun e w' => e = .returned (touchV (sgnS word)) ∧ Below w.heap.size w w' := by
  have HB := Aside0.mk (Below.refl w.heap.size w)
  obtain ⟨A1, c1, A4, c4, rfl, -, -, -, -⟩ := kTextinLine_open hx
  have HT := Aside0.mk hT
  clear hT hx
  have HSG := Aside0.mk (fun w => sgn_w word w)
  unfold touchV
  obtain ⟨z, hz⟩ : ∃ z, sgnS word = z := ⟨_, rfl⟩
  rw [hz] at HSG ⊢
  clear hz
  obtain ⟨z, q⟩ := z
  cases q
  · rw [if_neg (show ¬ (false = true) by decide)]
    go_enter Tryz.func49, Tryz.ntmps49
    go_wp2_with (first | (go_at_call 69; (with_reducible refine (HSG.out _ (Tabs.below HT.out (by repeat (first | (with_reducible first | exact HB.out | apply below_alloc | apply pw_below_drewN | apply below_drew1) | exact HB.out)))).mono ?_); rintro e w1 ⟨rfl, hb⟩; have BR := Aside0.mk (blk_below (g := w.heap.size + 1) (by repeat (first | exact blk_at_new _ _ _ (by simp; done) | exact blk_at_new _ _ _ rfl | refine blk_alloc ?_ _ | refine blk_drew ?_ | refine blk_drewN ?_ _)) hb); have HBn := Aside0.mk (below_step (by repeat (first | (with_reducible first | exact HB.out | apply below_alloc | apply pw_below_drewN | apply below_drew1) | exact HB.out)) hb); clear HB; have HB := HBn; clear HBn; clear hb) | (refine wpList_store_A rfl 40 _ _ rfl (w.heap.size + 1) _ rfl rfl 40 _ BR.out (by kernel_rfl) rfl (by first | kernel_rfl | simp [Value.oneCell']) ?_; intro w2 hbk hlow; clear BR; have BR := Aside0.mk hbk; have HL := Aside0.mk hlow; clear hbk hlow))
    ((try simp only [Exit.inBlock, Exit.then]); refine bodyPost_ret (results_ct rfl _ _ (w.heap.size + 1) 40 _ (0, 0) _ rfl BR.out Tryz.underlying40 rfl (by kernel_rfl)) rfl ?_)
    exact ⟨rfl, HB.out.trans (HL.out _ (by omega))⟩
  · rw [if_pos rfl]
    go_enter Tryz.func49, Tryz.ntmps49
    go_wp2_with (first | (go_at_call 69; (with_reducible refine (HSG.out _ (Tabs.below HT.out (by repeat (first | (with_reducible first | exact HB.out | apply below_alloc | apply pw_below_drewN | apply below_drew1) | exact HB.out)))).mono ?_); rintro e w1 ⟨rfl, hb⟩; have BR := Aside0.mk (blk_below (g := w.heap.size + 1) (by repeat (first | exact blk_at_new _ _ _ (by simp; done) | exact blk_at_new _ _ _ rfl | refine blk_alloc ?_ _ | refine blk_drew ?_ | refine blk_drewN ?_ _)) hb); have HBn := Aside0.mk (below_step (by repeat (first | (with_reducible first | exact HB.out | apply below_alloc | apply pw_below_drewN | apply below_drew1) | exact HB.out)) hb); clear HB; have HB := HBn; clear HBn; clear hb) | (refine wpList_store_A rfl 40 _ _ rfl (w.heap.size + 1) _ rfl rfl 40 _ BR.out (by kernel_rfl) rfl (by first | kernel_rfl | simp [Value.oneCell']) ?_; intro w2 hbk hlow; clear BR; have BR := Aside0.mk hbk; have HL := Aside0.mk hlow; clear hbk hlow))
    ((try simp only [Exit.inBlock, Exit.then]); refine bodyPost_ret (results_ct rfl _ _ (w.heap.size + 1) 40 _ (0, 0) _ rfl BR.out Tryz.underlying40 rfl (by kernel_rfl)) rfl ?_)
    exact ⟨rfl, HB.out.trans (HL.out _ (by omega))⟩
def deltaT : ByteArray := (⟨#[67, 76, 73, 69, 78, 84, 95, 69, 82, 82, 79, 82, 32, 105, 110, 118, 97, 108, 105, 100, 32, 110, 117, 109, 101, 114, 105, 99, 32, 100, 101, 108, 116, 97, 32, 97, 114, 103, 117, 109, 101, 110, 116]⟩ : ByteArray)
def sumV (op : Int) (z : Nat × Bool) : Value := if z.2 = true then cloV op 0 z.1 ⟨#[]⟩ else cloV 0 0 0 deltaT
set_option maxRecDepth 100000 in
set_option maxHeartbeats 1000000 in
theorem sum1_calls (g : Nat) (op : Int) (word : ByteArray) (w : World) (hT : Tabs w) (hop : w.heap[g]? = some (.cells #[.int .i64 op] 3 (0, 0))) :
    Calls Tryz.prog 74 #[.string word, .pointer (some ⟨g, 0, none⟩)] w fun e w' => e = .returned (sumV op (decS word)) ∧ Below w.heap.size w w' := by
  have HB := Aside0.mk (Below.refl w.heap.size w)
  have HT := Aside0.mk hT
  have HOP := Aside0.mk hop
  clear hT hop
  have HSG := Aside0.mk (fun w => dec_w word w)
  unfold sumV
  obtain ⟨z, hz⟩ : ∃ z, decS word = z := ⟨_, rfl⟩
  rw [hz] at HSG ⊢
  clear hz
  obtain ⟨z, q⟩ := z
  cases q
  · rw [if_neg (show ¬ (false = true) by decide)]
    go_enter Tryz.func74, Tryz.ntmps74
    go_wp2_with (first | (go_at_call 71; (with_reducible refine (HSG.out _ (Tabs.below HT.out (by repeat (first | (with_reducible first | exact HB.out | apply below_alloc | apply pw_below_drewN | apply below_drew1) | exact HB.out)))).mono ?_); rintro e w1 ⟨rfl, hb⟩; have BO := blk_below (blk_alloc HOP.out _) hb; have hop1 : w1.cell? ⟨g, 0, none⟩ = some (.int .i64 op) := (blk_cell BO 0).trans rfl; clear BO; have BR := Aside0.mk (blk_below (g := w.heap.size) (by repeat (first | exact blk_at_new _ _ _ (by simp; done) | exact blk_at_new _ _ _ rfl | refine blk_alloc ?_ _ | refine blk_drew ?_ | refine blk_drewN ?_ _)) hb); have HBn := Aside0.mk (below_step (by repeat (first | (with_reducible first | exact HB.out | apply below_alloc | apply pw_below_drewN | apply below_drew1) | exact HB.out)) hb); clear HB; have HB := HBn; clear HBn; clear hb) | (refine wpList_store_A rfl 40 _ _ rfl (w.heap.size) _ rfl rfl 40 _ BR.out (by kernel_rfl) rfl (by first | kernel_rfl | simp [Value.oneCell']) ?_; intro w2 hbk hlow; clear BR; have BR := Aside0.mk hbk; have HL := Aside0.mk hlow; clear hbk hlow))
    ((try simp only [Exit.inBlock, Exit.then]); refine bodyPost_ret (results_ct rfl _ _ (w.heap.size) 40 _ (0, 0) _ rfl BR.out Tryz.underlying40 rfl (by kernel_rfl)) rfl ?_)
    exact ⟨rfl, HB.out.trans (HL.out _ (by omega))⟩
  · rw [if_pos rfl]
    go_enter Tryz.func74, Tryz.ntmps74
    go_wp2_with (first | (go_at_call 71; (with_reducible refine (HSG.out _ (Tabs.below HT.out (by repeat (first | (with_reducible first | exact HB.out | apply below_alloc | apply pw_below_drewN | apply below_drew1) | exact HB.out)))).mono ?_); rintro e w1 ⟨rfl, hb⟩; have BO := blk_below (blk_alloc HOP.out _) hb; have hop1 : w1.cell? ⟨g, 0, none⟩ = some (.int .i64 op) := (blk_cell BO 0).trans rfl; clear BO; have BR := Aside0.mk (blk_below (g := w.heap.size) (by repeat (first | exact blk_at_new _ _ _ (by simp; done) | exact blk_at_new _ _ _ rfl | refine blk_alloc ?_ _ | refine blk_drew ?_ | refine blk_drewN ?_ _)) hb); have HBn := Aside0.mk (below_step (by repeat (first | (with_reducible first | exact HB.out | apply below_alloc | apply pw_below_drewN | apply below_drew1) | exact HB.out)) hb); clear HB; have HB := HBn; clear HBn; clear hb) | (refine wpList_store_A rfl 40 _ _ rfl (w.heap.size) _ rfl rfl 40 _ BR.out (by kernel_rfl) rfl (by first | kernel_rfl | simp [Value.oneCell']) ?_; intro w2 hbk hlow; clear BR; have BR := Aside0.mk hbk; have HL := Aside0.mk hlow; clear hbk hlow))
    ((try simp only [Exit.inBlock, Exit.then]); refine bodyPost_ret (results_ct rfl _ _ (w.heap.size) 40 _ (0, 0) _ rfl BR.out Tryz.underlying40 rfl (by kernel_rfl)) rfl ?_)
    exact ⟨rfl, HB.out.trans (HL.out _ (by omega))⟩
end Go.Proofs.YtfljijpkeckeaaaGreatDoor.X
namespace Go.Proofs.YtfljijpkeckeaaaGreatDoor.X
open Go.RowKit Go.Proofs.YtfljijpkeckeaaaGreatDoorW.PrintWords Go.Proofs.YtfljijpkeckeaaaGreatDoorW.PrintMore
set_option linter.unusedVariables false
set_option linter.unusedSimpArgs false
def cmdK (op exp delta : Int) (key : ByteArray) : Cmd := { zCmd with op := op, key := key, exp := exp, delta := delta }
def keyedSt (verb : ByteArray) (quiet : Bool) (used : Int) (words : List ByteArray) (many : Nat) (op exp delta : Int) (wrong : ByteArray) : Step :=
  if words.length ≠ many then stepF used (⟨#[69, 82, 82, 79, 82]⟩ : ByteArray) else if keyS (words.getD 0 ⟨#[]⟩) = false then stepF used badT else if wrong.size ≠ 0 then stepF used wrong
  else stepO used (formT verb quiet [words.getD 0 ⟨#[]⟩]) (cmdK op exp delta (words.getD 0 ⟨#[]⟩))
set_option maxRecDepth 100000 in
set_option maxHeartbeats 1000000 in
theorem keyedD_calls (x : TextinLine) (cx : List Value) (F : Nat → Prop) (w : World) (hx : kTextinLine.K w x cx) (k : ByteArray) (hw : x.words = [k]) (hk : k.size ≤ 1000000) :
    Calls Tryz.prog 46 #[.agg cx.toArray, .int .i64 1, .func (.func 47) #[] #[]] w (StepR F w (keyedSt x.verb x.quiet x.used x.words 1 8 0 0 ⟨#[]⟩)) := by
  have HB := Aside0.mk (Below.refl w.heap.size w)
  have HX := Aside0.mk hx
  obtain ⟨A1, c1, A4, c4, rfl, hl1, hg1, hl4, hg4⟩ := kTextinLine_open hx
  obtain ⟨b, o, rfl, hb0, hcell⟩ := S_cell hg1 0 (by rw [hw]; exact Nat.one_pos)
  rw [hw, Nat.add_zero] at hcell
  have hcell : w.cell? ⟨b, o, none⟩ = some (.string k) := hcell
  have HCL := Aside0.mk hcell
  rw [hw] at HX hl1 ⊢
  have HKY := Aside0.mk (fun w => fkey_calls k w hk)
  clear hx hg1 hg4 hw
  obtain ⟨q, hq⟩ : ∃ q, keyS k = q := ⟨_, rfl⟩
  rw [hq] at HKY
  have hc1 : 1 ≤ c1 := hl1
  have HO2 : Aside0 (∀ w', Below w.heap.size w w' → Calls Tryz.prog 18 #[.agg #[.string x.verb, .slice (some ⟨b, o, none⟩) 1 c1, .bool x.quiet, .int .i64 x.used, .slice A4 x.rest.length c4], .string (⟨#[67, 76, 73, 69, 78, 84, 95, 69, 82, 82, 79, 82, 32, 98, 97, 100, 32, 99, 111, 109, 109, 97, 110, 100, 32, 108, 105, 110, 101, 32, 102, 111, 114, 109, 97, 116]⟩ : ByteArray)] w' (StepR (fun k => k < w.heap.size ∧ F k) w' (stepF x.used badT))) := ⟨fun w' hb => fault_calls x _ _ _ w' (kTextinLine.K_below hb HX.out) (by decide)⟩
  cases q
  · have hr : keyedSt x.verb x.quiet x.used [k] 1 8 0 0 ⟨#[]⟩ = stepF x.used badT := by
      unfold keyedSt
      rw [if_neg (by simp), if_pos (by exact hq)]
    rw [hr]
    clear hr hq
    go_enter Tryz.func46, Tryz.ntmps46
    go_wp2_with (first | (go_at_call 67; (with_reducible refine (HKY.out _).mono ?_); rintro e w1 ⟨rfl, hb⟩; have BX := Aside0.mk (blk_below (g := w.heap.size) (o := .cells #[.string x.verb, .slice (some ⟨b, o, none⟩) 1 c1, .bool x.quiet, .int .i64 x.used, .slice A4 x.rest.length c4] 50 (0, 0)) (by repeat (first | exact blk_at_new _ _ _ (by simp; done) | exact blk_at_new _ _ _ rfl | refine blk_alloc ?_ _ | refine blk_drew ?_ | refine blk_drewN ?_ _)) hb); have BR := Aside0.mk (blk_below (g := w.heap.size + 1) (by repeat (first | exact blk_at_new _ _ _ (by simp; done) | exact blk_at_new _ _ _ rfl | refine blk_alloc ?_ _ | refine blk_drew ?_ | refine blk_drewN ?_ _)) hb); have GLT := Aside0.mk (blk_lt BR.out); have HBn := Aside0.mk (below_step (by repeat (first | (with_reducible first | exact HB.out | apply below_alloc | apply pw_below_drewN | apply below_drew1) | exact HB.out)) hb); clear HB; have HB := HBn; clear HBn; clear hb; have t0 : w1.cell? ⟨w.heap.size, 0, none⟩ = some (.string x.verb) := (blk_cell BX.out 0).trans rfl; have t1 : w1.cell? ⟨w.heap.size, 1, none⟩ = some (.slice (some ⟨b, o, none⟩) 1 c1) := (blk_cell BX.out 1).trans rfl; have t2 : w1.cell? ⟨w.heap.size, 2, none⟩ = some (.bool x.quiet) := (blk_cell BX.out 2).trans rfl; have t3 : w1.cell? ⟨w.heap.size, 3, none⟩ = some (.int .i64 x.used) := (blk_cell BX.out 3).trans rfl; have t4 : w1.cell? ⟨w.heap.size, 4, none⟩ = some (.slice A4 x.rest.length c4) := (blk_cell BX.out 4).trans rfl; have t5 : w1.cell? ⟨b, o, none⟩ = some (.string k) := (Below.cell HB.out (p := ⟨b, o, none⟩) hb0).trans HCL.out) | (refine wpList_store_K HK.out.now rfl 34 _ _ rfl (w.heap.size + 1) rfl rfl 34 _ BK.out (by kernel_rfl) rfl ?_; intro w2 hbk hlow hfar; have HK2 := Aside0.mk (hfar _ _ (fun h => absurd (h GLT.out).1 (by omega)) HK.out); clear BK; have BK := Aside0.mk hbk; have HL := Aside0.mk hlow; clear hbk hlow hfar) | go_at_call 18; (with_reducible refine (HO2.out _ (by repeat (first | (with_reducible first | exact HB.out | apply below_alloc | apply pw_below_drewN | apply below_drew1) | exact HB.out))).mono ?_); rintro e w1 ⟨⟨cs, rfl, hk⟩, hb⟩; have BK := Aside0.mk (blk_below BR.out hb); have HBn := Aside0.mk (below_step (by repeat (first | (with_reducible first | exact HB.out | apply below_alloc | apply pw_below_drewN | apply below_drew1) | exact HB.out)) hb); clear HB; have HB := HBn; clear HBn; have HK := Aside0.mk hk; clear hb hk)
    ((try simp only [Exit.inBlock, Exit.then]); refine bodyPost_ret (results_cell_row rfl _ _ (w.heap.size + 1) 34 _ (0, 0) _ rfl BK.out Tryz.underlying34 rfl (by rw [List.size_toArray, kStep.K_len HK.out.now]; kernel_rfl)) rfl ?_)
    exact ⟨⟨_, rfl, HK2.out.mono (fun k hk h3 => (hk (by have := GLT.out; omega)).2)⟩, HB.out.trans (HL.out _ (by omega))⟩
  · have hr : keyedSt x.verb x.quiet x.used [k] 1 8 0 0 ⟨#[]⟩ = stepO x.used (formT x.verb x.quiet [k]) (cmdK 8 0 0 k) := by
      unfold keyedSt
      rw [if_neg (by simp), if_neg (by show ¬ keyS k = false; rw [hq]; decide), if_neg (by decide)]
      rfl
    rw [hr]
    have hks : keysOf (cmdK 8 0 0 k).key = [k] := by
      unfold keysOf
      refine if_neg (fun h => ?_)
      have h : k.size = 0 := h
      have : keyS k = false := by unfold keyS; rw [decide_eq_false (by omega), Bool.false_and]
      rw [this] at hq
      cases hq
    clear hr hq
    have HC : Aside0 (∀ w', kCmd.K w' (cmdK 8 0 0 k) [.int .i64 8, .string k, .slice none 0 0, .int .u32 0, .int .i64 0, .int .u64 0, .int .u64 0, .int .u64 0, .bool false, .bool false]) := ⟨fun w' => kCmd_mk w' (cmdK 8 0 0 k) (Nat.le_refl _) (C_nil _ _)⟩
    have HO3 : Aside0 (∀ w', Below w.heap.size w w' → Calls Tryz.prog 70 #[.agg #[.string x.verb, .slice (some ⟨b, o, none⟩) 1 c1, .bool x.quiet, .int .i64 x.used, .slice A4 x.rest.length c4], .agg #[.int .i64 8, .string k, .slice none 0 0, .int .u32 0, .int .i64 0, .int .u64 0, .int .u64 0, .int .u64 0, .bool false, .bool false]] w' (StepR (fun k => k < w.heap.size ∧ F k) w' (stepO x.used (formT x.verb x.quiet [k]) (cmdK 8 0 0 k)))) := ⟨fun w' hb => by
      have := one_calls x (cmdK 8 0 0 k) _ _ (fun k => k < w.heap.size ∧ F k) w' (kTextinLine.K_below hb HX.out) (fun w2 _ _ => HC.out w2)
      rw [hks] at this
      exact this⟩
    clear hks
    go_enter Tryz.func46, Tryz.ntmps46
    go_wp2_with (first | (go_at_call 67; (with_reducible refine (HKY.out _).mono ?_); rintro e w1 ⟨rfl, hb⟩; have BX := Aside0.mk (blk_below (g := w.heap.size) (o := .cells #[.string x.verb, .slice (some ⟨b, o, none⟩) 1 c1, .bool x.quiet, .int .i64 x.used, .slice A4 x.rest.length c4] 50 (0, 0)) (by repeat (first | exact blk_at_new _ _ _ (by simp; done) | exact blk_at_new _ _ _ rfl | refine blk_alloc ?_ _ | refine blk_drew ?_ | refine blk_drewN ?_ _)) hb); have BR := Aside0.mk (blk_below (g := w.heap.size + 1) (by repeat (first | exact blk_at_new _ _ _ (by simp; done) | exact blk_at_new _ _ _ rfl | refine blk_alloc ?_ _ | refine blk_drew ?_ | refine blk_drewN ?_ _)) hb); have GLT := Aside0.mk (blk_lt BR.out); have HBn := Aside0.mk (below_step (by repeat (first | (with_reducible first | exact HB.out | apply below_alloc | apply pw_below_drewN | apply below_drew1) | exact HB.out)) hb); clear HB; have HB := HBn; clear HBn; clear hb; have t0 : w1.cell? ⟨w.heap.size, 0, none⟩ = some (.string x.verb) := (blk_cell BX.out 0).trans rfl; have t1 : w1.cell? ⟨w.heap.size, 1, none⟩ = some (.slice (some ⟨b, o, none⟩) 1 c1) := (blk_cell BX.out 1).trans rfl; have t2 : w1.cell? ⟨w.heap.size, 2, none⟩ = some (.bool x.quiet) := (blk_cell BX.out 2).trans rfl; have t3 : w1.cell? ⟨w.heap.size, 3, none⟩ = some (.int .i64 x.used) := (blk_cell BX.out 3).trans rfl; have t4 : w1.cell? ⟨w.heap.size, 4, none⟩ = some (.slice A4 x.rest.length c4) := (blk_cell BX.out 4).trans rfl; have t5 : w1.cell? ⟨b, o, none⟩ = some (.string k) := (Below.cell HB.out (p := ⟨b, o, none⟩) hb0).trans HCL.out) | (refine wpList_store_K HK.out.now rfl 34 _ _ rfl (w.heap.size + 1) rfl rfl 34 _ BK.out (by kernel_rfl) rfl ?_; intro w4 hbk hlow hfar; have HK2 := Aside0.mk (hfar _ _ (fun h => absurd (h (by have := GLT2.out; simp; omega)).1 (by omega)) HK.out); clear BK; have BK := Aside0.mk hbk; have HL := Aside0.mk hlow; clear hbk hlow hfar) | (go_at_call 47; (with_reducible refine (other1_calls k _).mono ?_); (rintro e w1 ⟨rfl, hb⟩; unfold cloV; have BXn := Aside0.mk (blk_below BX.out hb); have BRn := Aside0.mk (blk_below BR.out hb); clear BX BR t0 t1 t2 t3 t4 t5; have BX := BXn; have BR := BRn; clear BXn BRn; have GLT2 := Aside0.mk (blk_lt BR.out); have HBn := Aside0.mk (below_step (by repeat (first | (with_reducible first | exact HB.out | apply below_alloc | apply pw_below_drewN | apply below_drew1) | exact HB.out)) hb); clear HB; have HB := HBn; clear HBn; clear hb; have hb1 : b < w1.heap.size := Nat.lt_of_lt_of_le hb0 HB.out.size; have hx1 : w.heap.size < w1.heap.size := blk_lt BX.out; have t0 : w1.cell? ⟨w.heap.size, 0, none⟩ = some (.string x.verb) := (blk_cell BX.out 0).trans rfl; have t1 : w1.cell? ⟨w.heap.size, 1, none⟩ = some (.slice (some ⟨b, o, none⟩) 1 c1) := (blk_cell BX.out 1).trans rfl; have t2 : w1.cell? ⟨w.heap.size, 2, none⟩ = some (.bool x.quiet) := (blk_cell BX.out 2).trans rfl; have t3 : w1.cell? ⟨w.heap.size, 3, none⟩ = some (.int .i64 x.used) := (blk_cell BX.out 3).trans rfl; have t4 : w1.cell? ⟨w.heap.size, 4, none⟩ = some (.slice A4 x.rest.length c4) := (blk_cell BX.out 4).trans rfl; have t5 : w1.cell? ⟨b, o, none⟩ = some (.string k) := (Below.cell HB.out (p := ⟨b, o, none⟩) hb0).trans HCL.out)) | (go_at_call 70; (with_reducible refine (HO3.out _ (by repeat (first | (with_reducible first | exact HB.out | apply below_alloc | apply pw_below_drewN | apply below_drew1) | exact HB.out))).mono ?_); rintro e w3 ⟨⟨cs, rfl, hk⟩, hb⟩; have BK := Aside0.mk (blk_below (blk_alloc BR.out _) hb); have HBn := Aside0.mk (below_step (by repeat (first | (with_reducible first | exact HB.out | apply below_alloc | apply pw_below_drewN | apply below_drew1) | exact HB.out)) hb); clear HB; have HB := HBn; clear HBn; have HK := Aside0.mk hk; clear hb hk))
    ((try simp only [Exit.inBlock, Exit.then]); refine bodyPost_ret (results_cell_row rfl _ _ (w.heap.size + 1) 34 _ (0, 0) _ rfl BK.out Tryz.underlying34 rfl (by rw [List.size_toArray, kStep.K_len HK.out.now]; kernel_rfl)) rfl ?_)
    exact ⟨⟨_, rfl, HK2.out.mono (fun k hk h3 => (hk (by have := GLT2.out; simp; omega)).2)⟩, HB.out.trans (HL.out _ (by omega))⟩
set_option maxRecDepth 100000 in
set_option maxHeartbeats 1000000 in
theorem keyedE_calls (x : TextinLine) (cx : List Value) (F : Nat → Prop) (w : World) (hx : kTextinLine.K w x cx) (many : Int) (fv : Value) (hw : (x.words.length : Int) ≠ many) :
    Calls Tryz.prog 46 #[.agg cx.toArray, .int .i64 many, fv] w (StepR F w (stepF x.used (⟨#[69, 82, 82, 79, 82]⟩ : ByteArray))) := by
  have HB := Aside0.mk (Below.refl w.heap.size w)
  have HX := Aside0.mk hx
  obtain ⟨A1, c1, A4, c4, rfl, hl1, hg1, hl4, hg4⟩ := kTextinLine_open hx
  have HO : Aside0 (∀ w', Below w.heap.size w w' → Calls Tryz.prog 18 #[.agg #[.string x.verb, .slice A1 x.words.length c1, .bool x.quiet, .int .i64 x.used, .slice A4 x.rest.length c4], .string (⟨#[69, 82, 82, 79, 82]⟩ : ByteArray)] w' (StepR (fun k => k < w.heap.size ∧ F k) w' (stepF x.used (⟨#[69, 82, 82, 79, 82]⟩ : ByteArray)))) := ⟨fun w' hb => fault_calls x _ _ _ w' (kTextinLine.K_below hb HX.out) (by decide)⟩
  clear hx hg1 hg4
  have hwb : ((x.words.length : Int) == many) = false := beq_eq_false_iff_ne.2 hw
  go_enter Tryz.func46, Tryz.ntmps46
  go_wp2_with (first | (refine wpList_store_K HK.out.now rfl 34 _ _ rfl (w.heap.size + 1) rfl rfl 34 _ BK.out (by kernel_rfl) rfl ?_; intro w2 hbk hlow hfar; have HK2 := Aside0.mk (hfar _ _ (fun h => absurd (h (by simp)).1 (by simp)) HK.out); clear BK; have BK := Aside0.mk hbk; have HL := Aside0.mk hlow; clear hbk hlow hfar) | go_at_call 18; (with_reducible refine (HO.out _ (by repeat (first | (with_reducible first | exact HB.out | apply below_alloc | apply pw_below_drewN | apply below_drew1) | exact HB.out))).mono ?_); rintro e w1 ⟨⟨cs, rfl, hk⟩, hb⟩; have BK := Aside0.mk (blk_below (g := w.heap.size + 1) (by repeat (first | exact blk_at_new _ _ _ (by simp; done) | exact blk_at_new _ _ _ rfl | refine blk_alloc ?_ _ | refine blk_drew ?_ | refine blk_drewN ?_ _)) hb); have HBn := Aside0.mk (below_step (by repeat (first | (with_reducible first | exact HB.out | apply below_alloc | apply pw_below_drewN | apply below_drew1) | exact HB.out)) hb); clear HB; have HB := HBn; clear HBn; have HK := Aside0.mk hk; clear hb hk)
  ((try simp only [Exit.inBlock, Exit.then]); refine bodyPost_ret (results_cell_row rfl _ _ (w.heap.size + 1) 34 _ (0, 0) _ rfl BK.out Tryz.underlying34 rfl (by rw [List.size_toArray, kStep.K_len HK.out.now]; kernel_rfl)) rfl ?_)
  exact ⟨⟨_, rfl, HK2.out.mono (fun k hk h3 => (hk (by simp; omega)).2)⟩, HB.out.trans (HL.out _ (by omega))⟩
end Go.Proofs.YtfljijpkeckeaaaGreatDoor.X
namespace Go.Proofs.YtfljijpkeckeaaaGreatDoor.X
open Go.RowKit Go.Proofs.YtfljijpkeckeaaaGreatDoorW.PrintWords Go.Proofs.YtfljijpkeckeaaaGreatDoorW.PrintMore
set_option linter.unusedVariables false
set_option linter.unusedSimpArgs false
set_option maxRecDepth 100000 in
set_option maxHeartbeats 1000000 in
theorem keyedT_calls (x : TextinLine) (cx : List Value) (F : Nat → Prop) (w : World) (hx : kTextinLine.K w x cx) (hT : Tabs w) (k v : ByteArray) (hw : x.words = [k, v]) (hk : k.size ≤ 1000000) :
    Calls Tryz.prog 46 #[.agg cx.toArray, .int .i64 2, .func (.func 49) #[.agg cx.toArray] #[]] w (StepR F w (if (sgnS v).2 = true then keyedSt x.verb x.quiet x.used x.words 2 2 (sgnS v).1 0 ⟨#[]⟩ else keyedSt x.verb x.quiet x.used x.words 2 0 0 0 badT)) := by
  have HB := Aside0.mk (Below.refl w.heap.size w)
  have HX := Aside0.mk hx
  have HT := Aside0.mk hT
  obtain ⟨A1, c1, A4, c4, rfl, hl1, hg1, hl4, hg4⟩ := kTextinLine_open hx
  obtain ⟨b, o, rfl, hb0, hcell⟩ := S_cell hg1 0 (by rw [hw]; simp)
  obtain ⟨b', o', e', -, hcell2⟩ := S_cell hg1 1 (by rw [hw]; simp)
  obtain ⟨rfl, rfl⟩ : b = b' ∧ o = o' := by simpa using e'
  rw [hw, Nat.add_zero] at hcell
  rw [hw] at hcell2
  have hcell : w.cell? ⟨b, o, none⟩ = some (.string k) := hcell
  have hcell2 : w.cell? ⟨b, o + 1, none⟩ = some (.string v) := hcell2
  have HCL := Aside0.mk hcell
  have HCV := Aside0.mk hcell2
  rw [hw] at HX hl1 ⊢
  have HKY := Aside0.mk (fun w => fkey_calls k w hk)
  clear hx hg1 hg4 hw e' hT
  obtain ⟨q, hq⟩ : ∃ q, keyS k = q := ⟨_, rfl⟩
  rw [hq] at HKY
  have hc1 : 2 ≤ c1 := hl1
  obtain ⟨z, hz⟩ : ∃ z, sgnS v = z := ⟨_, rfl⟩
  have HCLO : Aside0 (∀ w', Below w.heap.size w w' → Calls Tryz.prog 49 #[.agg #[.string x.verb, .slice (some ⟨b, o, none⟩) 2 c1, .bool x.quiet, .int .i64 x.used, .slice A4 x.rest.length c4], .string v] w' fun e w'' => e = .returned (touchV (sgnS v)) ∧ Below w'.heap.size w' w'') := ⟨fun w' hb => touch_calls x _ v w' (kTextinLine.K_below hb HX.out) (Tabs.below HT.out hb)⟩
  rw [hz]
  rw [hz] at HCLO
  clear hz
  obtain ⟨z, p⟩ := z
  dsimp only
  have HO2 : Aside0 (∀ w', Below w.heap.size w w' → Calls Tryz.prog 18 #[.agg #[.string x.verb, .slice (some ⟨b, o, none⟩) 2 c1, .bool x.quiet, .int .i64 x.used, .slice A4 x.rest.length c4], .string (⟨#[67, 76, 73, 69, 78, 84, 95, 69, 82, 82, 79, 82, 32, 98, 97, 100, 32, 99, 111, 109, 109, 97, 110, 100, 32, 108, 105, 110, 101, 32, 102, 111, 114, 109, 97, 116]⟩ : ByteArray)] w' (StepR (fun k => k < w.heap.size ∧ F k) w' (stepF x.used badT))) := ⟨fun w' hb => fault_calls x _ _ _ w' (kTextinLine.K_below hb HX.out) (by decide)⟩
  cases q
  · have hr : (if p = true then keyedSt x.verb x.quiet x.used [k, v] 2 2 z 0 ⟨#[]⟩ else keyedSt x.verb x.quiet x.used [k, v] 2 0 0 0 badT) = stepF x.used badT := by
      unfold keyedSt
      split
      all_goals rw [if_neg (by simp), if_pos (by exact hq)]
    rw [hr]
    clear hr hq HCLO hcell2
    go_enter Tryz.func46, Tryz.ntmps46
    go_wp2_with (first | (go_at_call 67; (with_reducible refine (HKY.out _).mono ?_); rintro e w1 ⟨rfl, hb⟩; have BX := Aside0.mk (blk_below (g := w.heap.size) (o := .cells #[.string x.verb, .slice (some ⟨b, o, none⟩) 2 c1, .bool x.quiet, .int .i64 x.used, .slice A4 x.rest.length c4] 50 (0, 0)) (by repeat (first | exact blk_at_new _ _ _ (by simp; done) | exact blk_at_new _ _ _ rfl | refine blk_alloc ?_ _ | refine blk_drew ?_ | refine blk_drewN ?_ _)) hb); have BR := Aside0.mk (blk_below (g := w.heap.size + 1) (by repeat (first | exact blk_at_new _ _ _ (by simp; done) | exact blk_at_new _ _ _ rfl | refine blk_alloc ?_ _ | refine blk_drew ?_ | refine blk_drewN ?_ _)) hb); have GLT := Aside0.mk (blk_lt BR.out); have HBn := Aside0.mk (below_step (by repeat (first | (with_reducible first | exact HB.out | apply below_alloc | apply pw_below_drewN | apply below_drew1) | exact HB.out)) hb); clear HB; have HB := HBn; clear HBn; clear hb; have t0 : w1.cell? ⟨w.heap.size, 0, none⟩ = some (.string x.verb) := (blk_cell BX.out 0).trans rfl; have t1 : w1.cell? ⟨w.heap.size, 1, none⟩ = some (.slice (some ⟨b, o, none⟩) 2 c1) := (blk_cell BX.out 1).trans rfl; have t2 : w1.cell? ⟨w.heap.size, 2, none⟩ = some (.bool x.quiet) := (blk_cell BX.out 2).trans rfl; have t3 : w1.cell? ⟨w.heap.size, 3, none⟩ = some (.int .i64 x.used) := (blk_cell BX.out 3).trans rfl; have t4 : w1.cell? ⟨w.heap.size, 4, none⟩ = some (.slice A4 x.rest.length c4) := (blk_cell BX.out 4).trans rfl; have t5 : w1.cell? ⟨b, o, none⟩ = some (.string k) := (Below.cell HB.out (p := ⟨b, o, none⟩) hb0).trans HCL.out; have t6 : w1.cell? ⟨b, o + 1, none⟩ = some (.string v) := (Below.cell HB.out (p := ⟨b, o + 1, none⟩) hb0).trans HCV.out) | (refine wpList_store_K HK.out.now rfl 34 _ _ rfl (w.heap.size + 1) rfl rfl 34 _ BK.out (by kernel_rfl) rfl ?_; intro w2 hbk hlow hfar; have HK2 := Aside0.mk (hfar _ _ (fun h => absurd (h GLT.out).1 (by omega)) HK.out); clear BK; have BK := Aside0.mk hbk; have HL := Aside0.mk hlow; clear hbk hlow hfar) | go_at_call 18; (with_reducible refine (HO2.out _ (by repeat (first | (with_reducible first | exact HB.out | apply below_alloc | apply pw_below_drewN | apply below_drew1) | exact HB.out))).mono ?_); rintro e w1 ⟨⟨cs, rfl, hk⟩, hb⟩; have BK := Aside0.mk (blk_below BR.out hb); have HBn := Aside0.mk (below_step (by repeat (first | (with_reducible first | exact HB.out | apply below_alloc | apply pw_below_drewN | apply below_drew1) | exact HB.out)) hb); clear HB; have HB := HBn; clear HBn; have HK := Aside0.mk hk; clear hb hk)
    ((try simp only [Exit.inBlock, Exit.then]); refine bodyPost_ret (results_cell_row rfl _ _ (w.heap.size + 1) 34 _ (0, 0) _ rfl BK.out Tryz.underlying34 rfl (by rw [List.size_toArray, kStep.K_len HK.out.now]; kernel_rfl)) rfl ?_)
    exact ⟨⟨_, rfl, HK2.out.mono (fun k hk h3 => (hk (by have := GLT.out; omega)).2)⟩, HB.out.trans (HL.out _ (by omega))⟩
  cases p
  · have hr : (if false = true then keyedSt x.verb x.quiet x.used [k, v] 2 2 z 0 ⟨#[]⟩ else keyedSt x.verb x.quiet x.used [k, v] 2 0 0 0 badT) = stepF x.used badT := by
      rw [if_neg (by decide)]
      unfold keyedSt
      rw [if_neg (by simp), if_neg (by show ¬ keyS k = false; rw [hq]; decide), if_pos (by decide)]
    rw [hr]
    clear hr hq
    unfold touchV badT at HCLO
    rw [if_neg (show ¬ (false = true) by decide)] at HCLO
    go_enter Tryz.func46, Tryz.ntmps46
    go_wp2_with (first | (go_at_call 67; (with_reducible refine (HKY.out _).mono ?_); rintro e w1 ⟨rfl, hb⟩; have BX := Aside0.mk (blk_below (g := w.heap.size) (o := .cells #[.string x.verb, .slice (some ⟨b, o, none⟩) 2 c1, .bool x.quiet, .int .i64 x.used, .slice A4 x.rest.length c4] 50 (0, 0)) (by repeat (first | exact blk_at_new _ _ _ (by simp; done) | exact blk_at_new _ _ _ rfl | refine blk_alloc ?_ _ | refine blk_drew ?_ | refine blk_drewN ?_ _)) hb); have BR := Aside0.mk (blk_below (g := w.heap.size + 1) (by repeat (first | exact blk_at_new _ _ _ (by simp; done) | exact blk_at_new _ _ _ rfl | refine blk_alloc ?_ _ | refine blk_drew ?_ | refine blk_drewN ?_ _)) hb); have GLT := Aside0.mk (blk_lt BR.out); have HBn := Aside0.mk (below_step (by repeat (first | (with_reducible first | exact HB.out | apply below_alloc | apply pw_below_drewN | apply below_drew1) | exact HB.out)) hb); clear HB; have HB := HBn; clear HBn; clear hb; have t0 : w1.cell? ⟨w.heap.size, 0, none⟩ = some (.string x.verb) := (blk_cell BX.out 0).trans rfl; have t1 : w1.cell? ⟨w.heap.size, 1, none⟩ = some (.slice (some ⟨b, o, none⟩) 2 c1) := (blk_cell BX.out 1).trans rfl; have t2 : w1.cell? ⟨w.heap.size, 2, none⟩ = some (.bool x.quiet) := (blk_cell BX.out 2).trans rfl; have t3 : w1.cell? ⟨w.heap.size, 3, none⟩ = some (.int .i64 x.used) := (blk_cell BX.out 3).trans rfl; have t4 : w1.cell? ⟨w.heap.size, 4, none⟩ = some (.slice A4 x.rest.length c4) := (blk_cell BX.out 4).trans rfl; have t5 : w1.cell? ⟨b, o, none⟩ = some (.string k) := (Below.cell HB.out (p := ⟨b, o, none⟩) hb0).trans HCL.out; have t6 : w1.cell? ⟨b, o + 1, none⟩ = some (.string v) := (Below.cell HB.out (p := ⟨b, o + 1, none⟩) hb0).trans HCV.out) | (refine wpList_store_K HK.out.now rfl 34 _ _ rfl (w.heap.size + 1) rfl rfl 34 _ BK.out (by kernel_rfl) rfl ?_; intro w4 hbk hlow hfar; have HK2 := Aside0.mk (hfar _ _ (fun h => absurd (h (by have := GLT2.out; simp; omega)).1 (by omega)) HK.out); clear BK; have BK := Aside0.mk hbk; have HL := Aside0.mk hlow; clear hbk hlow hfar) | (go_at_call 49; (with_reducible refine (HCLO.out _ (by repeat (first | (with_reducible first | exact HB.out | apply below_alloc | apply pw_below_drewN | apply below_drew1) | exact HB.out))).mono ?_); (rintro e w1 ⟨rfl, hb⟩; unfold cloV; have BXn := Aside0.mk (blk_below BX.out hb); have BRn := Aside0.mk (blk_below BR.out hb); clear BX BR t0 t1 t2 t3 t4 t5 t6; have BX := BXn; have BR := BRn; clear BXn BRn; have GLT2 := Aside0.mk (blk_lt BR.out); have HBn := Aside0.mk (below_step (by repeat (first | (with_reducible first | exact HB.out | apply below_alloc | apply pw_below_drewN | apply below_drew1) | exact HB.out)) hb); clear HB; have HB := HBn; clear HBn; clear hb; have hb1 : b < w1.heap.size := Nat.lt_of_lt_of_le hb0 HB.out.size; have hx1 : w.heap.size < w1.heap.size := blk_lt BX.out; have t0 : w1.cell? ⟨w.heap.size, 0, none⟩ = some (.string x.verb) := (blk_cell BX.out 0).trans rfl; have t1 : w1.cell? ⟨w.heap.size, 1, none⟩ = some (.slice (some ⟨b, o, none⟩) 2 c1) := (blk_cell BX.out 1).trans rfl; have t2 : w1.cell? ⟨w.heap.size, 2, none⟩ = some (.bool x.quiet) := (blk_cell BX.out 2).trans rfl; have t3 : w1.cell? ⟨w.heap.size, 3, none⟩ = some (.int .i64 x.used) := (blk_cell BX.out 3).trans rfl; have t4 : w1.cell? ⟨w.heap.size, 4, none⟩ = some (.slice A4 x.rest.length c4) := (blk_cell BX.out 4).trans rfl; have t5 : w1.cell? ⟨b, o, none⟩ = some (.string k) := (Below.cell HB.out (p := ⟨b, o, none⟩) hb0).trans HCL.out; have t6 : w1.cell? ⟨b, o + 1, none⟩ = some (.string v) := (Below.cell HB.out (p := ⟨b, o + 1, none⟩) hb0).trans HCV.out)) | (go_at_call 18; (with_reducible refine (HO2.out _ (by repeat (first | (with_reducible first | exact HB.out | apply below_alloc | apply pw_below_drewN | apply below_drew1) | exact HB.out))).mono ?_); rintro e w3 ⟨⟨cs, rfl, hk⟩, hb⟩; have BK := Aside0.mk (blk_below (blk_alloc BR.out _) hb); have HBn := Aside0.mk (below_step (by repeat (first | (with_reducible first | exact HB.out | apply below_alloc | apply pw_below_drewN | apply below_drew1) | exact HB.out)) hb); clear HB; have HB := HBn; clear HBn; have HK := Aside0.mk hk; clear hb hk))
    ((try simp only [Exit.inBlock, Exit.then]); refine bodyPost_ret (results_cell_row rfl _ _ (w.heap.size + 1) 34 _ (0, 0) _ rfl BK.out Tryz.underlying34 rfl (by rw [List.size_toArray, kStep.K_len HK.out.now]; kernel_rfl)) rfl ?_)
    exact ⟨⟨_, rfl, HK2.out.mono (fun k hk h3 => (hk (by have := GLT2.out; simp; omega)).2)⟩, HB.out.trans (HL.out _ (by omega))⟩
  · have hr : (if true = true then keyedSt x.verb x.quiet x.used [k, v] 2 2 z 0 ⟨#[]⟩ else keyedSt x.verb x.quiet x.used [k, v] 2 0 0 0 badT) = stepO x.used (formT x.verb x.quiet [k]) (cmdK 2 z 0 k) := by
      rw [if_pos rfl]
      unfold keyedSt
      rw [if_neg (by simp), if_neg (by show ¬ keyS k = false; rw [hq]; decide), if_neg (by decide)]
      rfl
    rw [hr]
    have hks : keysOf (cmdK 2 z 0 k).key = [k] := by
      unfold keysOf
      refine if_neg (fun h => ?_)
      have h : k.size = 0 := h
      have : keyS k = false := by unfold keyS; rw [decide_eq_false (by omega), Bool.false_and]
      rw [this] at hq
      cases hq
    clear hr hq
    unfold touchV badT at HCLO
    rw [if_pos rfl] at HCLO
    have HC : Aside0 (∀ w', kCmd.K w' (cmdK 2 z 0 k) [.int .i64 2, .string k, .slice none 0 0, .int .u32 0, .int .i64 z, .int .u64 0, .int .u64 0, .int .u64 0, .bool false, .bool false]) := ⟨fun w' => kCmd_mk w' (cmdK 2 z 0 k) (Nat.le_refl _) (C_nil _ _)⟩
    have HO3 : Aside0 (∀ w', Below w.heap.size w w' → Calls Tryz.prog 70 #[.agg #[.string x.verb, .slice (some ⟨b, o, none⟩) 2 c1, .bool x.quiet, .int .i64 x.used, .slice A4 x.rest.length c4], .agg #[.int .i64 2, .string k, .slice none 0 0, .int .u32 0, .int .i64 z, .int .u64 0, .int .u64 0, .int .u64 0, .bool false, .bool false]] w' (StepR (fun k => k < w.heap.size ∧ F k) w' (stepO x.used (formT x.verb x.quiet [k]) (cmdK 2 z 0 k)))) := ⟨fun w' hb => by
      have := one_calls x (cmdK 2 z 0 k) _ _ (fun k => k < w.heap.size ∧ F k) w' (kTextinLine.K_below hb HX.out) (fun w2 _ _ => HC.out w2)
      rw [hks] at this
      exact this⟩
    clear hks
    go_enter Tryz.func46, Tryz.ntmps46
    go_wp2_with (first | (go_at_call 67; (with_reducible refine (HKY.out _).mono ?_); rintro e w1 ⟨rfl, hb⟩; have BX := Aside0.mk (blk_below (g := w.heap.size) (o := .cells #[.string x.verb, .slice (some ⟨b, o, none⟩) 2 c1, .bool x.quiet, .int .i64 x.used, .slice A4 x.rest.length c4] 50 (0, 0)) (by repeat (first | exact blk_at_new _ _ _ (by simp; done) | exact blk_at_new _ _ _ rfl | refine blk_alloc ?_ _ | refine blk_drew ?_ | refine blk_drewN ?_ _)) hb); have BR := Aside0.mk (blk_below (g := w.heap.size + 1) (by repeat (first | exact blk_at_new _ _ _ (by simp; done) | exact blk_at_new _ _ _ rfl | refine blk_alloc ?_ _ | refine blk_drew ?_ | refine blk_drewN ?_ _)) hb); have GLT := Aside0.mk (blk_lt BR.out); have HBn := Aside0.mk (below_step (by repeat (first | (with_reducible first | exact HB.out | apply below_alloc | apply pw_below_drewN | apply below_drew1) | exact HB.out)) hb); clear HB; have HB := HBn; clear HBn; clear hb; have t0 : w1.cell? ⟨w.heap.size, 0, none⟩ = some (.string x.verb) := (blk_cell BX.out 0).trans rfl; have t1 : w1.cell? ⟨w.heap.size, 1, none⟩ = some (.slice (some ⟨b, o, none⟩) 2 c1) := (blk_cell BX.out 1).trans rfl; have t2 : w1.cell? ⟨w.heap.size, 2, none⟩ = some (.bool x.quiet) := (blk_cell BX.out 2).trans rfl; have t3 : w1.cell? ⟨w.heap.size, 3, none⟩ = some (.int .i64 x.used) := (blk_cell BX.out 3).trans rfl; have t4 : w1.cell? ⟨w.heap.size, 4, none⟩ = some (.slice A4 x.rest.length c4) := (blk_cell BX.out 4).trans rfl; have t5 : w1.cell? ⟨b, o, none⟩ = some (.string k) := (Below.cell HB.out (p := ⟨b, o, none⟩) hb0).trans HCL.out; have t6 : w1.cell? ⟨b, o + 1, none⟩ = some (.string v) := (Below.cell HB.out (p := ⟨b, o + 1, none⟩) hb0).trans HCV.out) | (refine wpList_store_K HK.out.now rfl 34 _ _ rfl (w.heap.size + 1) rfl rfl 34 _ BK.out (by kernel_rfl) rfl ?_; intro w4 hbk hlow hfar; have HK2 := Aside0.mk (hfar _ _ (fun h => absurd (h (by have := GLT2.out; simp; omega)).1 (by omega)) HK.out); clear BK; have BK := Aside0.mk hbk; have HL := Aside0.mk hlow; clear hbk hlow hfar) | (go_at_call 49; (with_reducible refine (HCLO.out _ (by repeat (first | (with_reducible first | exact HB.out | apply below_alloc | apply pw_below_drewN | apply below_drew1) | exact HB.out))).mono ?_); (rintro e w1 ⟨rfl, hb⟩; unfold cloV; have BXn := Aside0.mk (blk_below BX.out hb); have BRn := Aside0.mk (blk_below BR.out hb); clear BX BR t0 t1 t2 t3 t4 t5 t6; have BX := BXn; have BR := BRn; clear BXn BRn; have GLT2 := Aside0.mk (blk_lt BR.out); have HBn := Aside0.mk (below_step (by repeat (first | (with_reducible first | exact HB.out | apply below_alloc | apply pw_below_drewN | apply below_drew1) | exact HB.out)) hb); clear HB; have HB := HBn; clear HBn; clear hb; have hb1 : b < w1.heap.size := Nat.lt_of_lt_of_le hb0 HB.out.size; have hx1 : w.heap.size < w1.heap.size := blk_lt BX.out; have t0 : w1.cell? ⟨w.heap.size, 0, none⟩ = some (.string x.verb) := (blk_cell BX.out 0).trans rfl; have t1 : w1.cell? ⟨w.heap.size, 1, none⟩ = some (.slice (some ⟨b, o, none⟩) 2 c1) := (blk_cell BX.out 1).trans rfl; have t2 : w1.cell? ⟨w.heap.size, 2, none⟩ = some (.bool x.quiet) := (blk_cell BX.out 2).trans rfl; have t3 : w1.cell? ⟨w.heap.size, 3, none⟩ = some (.int .i64 x.used) := (blk_cell BX.out 3).trans rfl; have t4 : w1.cell? ⟨w.heap.size, 4, none⟩ = some (.slice A4 x.rest.length c4) := (blk_cell BX.out 4).trans rfl; have t5 : w1.cell? ⟨b, o, none⟩ = some (.string k) := (Below.cell HB.out (p := ⟨b, o, none⟩) hb0).trans HCL.out; have t6 : w1.cell? ⟨b, o + 1, none⟩ = some (.string v) := (Below.cell HB.out (p := ⟨b, o + 1, none⟩) hb0).trans HCV.out)) | (go_at_call 70; (with_reducible refine (HO3.out _ (by repeat (first | (with_reducible first | exact HB.out | apply below_alloc | apply pw_below_drewN | apply below_drew1) | exact HB.out))).mono ?_); rintro e w3 ⟨⟨cs, rfl, hk⟩, hb⟩; have BK := Aside0.mk (blk_below (blk_alloc BR.out _) hb); have HBn := Aside0.mk (below_step (by repeat (first | (with_reducible first | exact HB.out | apply below_alloc | apply pw_below_drewN | apply below_drew1) | exact HB.out)) hb); clear HB; have HB := HBn; clear HBn; have HK := Aside0.mk hk; clear hb hk))
    ((try simp only [Exit.inBlock, Exit.then]); refine bodyPost_ret (results_cell_row rfl _ _ (w.heap.size + 1) 34 _ (0, 0) _ rfl BK.out Tryz.underlying34 rfl (by rw [List.size_toArray, kStep.K_len HK.out.now]; kernel_rfl)) rfl ?_)
    exact ⟨⟨_, rfl, HK2.out.mono (fun k hk h3 => (hk (by have := GLT2.out; simp; omega)).2)⟩, HB.out.trans (HL.out _ (by omega))⟩
set_option maxRecDepth 100000 in
set_option maxHeartbeats 1000000 in
theorem keyedS_calls (x : TextinLine) (cx : List Value) (F : Nat → Prop) (w : World) (g : Nat) (op : Int) (hx : kTextinLine.K w x cx) (hT : Tabs w) (hop : w.heap[g]? = some (.cells #[.int .i64 op] 3 (0, 0))) (k v : ByteArray) (hw : x.words = [k, v]) (hk : k.size ≤ 1000000) :
    Calls Tryz.prog 46 #[.agg cx.toArray, .int .i64 2, .func (.func 74) #[] #[.pointer (some ⟨g, 0, none⟩)]] w (StepR F w (if (decS v).2 = true then keyedSt x.verb x.quiet x.used x.words 2 op 0 (decS v).1 ⟨#[]⟩ else keyedSt x.verb x.quiet x.used x.words 2 0 0 0 deltaT)) := by
  have HB := Aside0.mk (Below.refl w.heap.size w)
  have HX := Aside0.mk hx
  have HT := Aside0.mk hT
  have HOP := Aside0.mk hop
  obtain ⟨A1, c1, A4, c4, rfl, hl1, hg1, hl4, hg4⟩ := kTextinLine_open hx
  obtain ⟨b, o, rfl, hb0, hcell⟩ := S_cell hg1 0 (by rw [hw]; simp)
  obtain ⟨b', o', e', -, hcell2⟩ := S_cell hg1 1 (by rw [hw]; simp)
  obtain ⟨rfl, rfl⟩ : b = b' ∧ o = o' := by simpa using e'
  rw [hw, Nat.add_zero] at hcell
  rw [hw] at hcell2
  have hcell : w.cell? ⟨b, o, none⟩ = some (.string k) := hcell
  have hcell2 : w.cell? ⟨b, o + 1, none⟩ = some (.string v) := hcell2
  have HCL := Aside0.mk hcell
  have HCV := Aside0.mk hcell2
  rw [hw] at HX hl1 ⊢
  have HKY := Aside0.mk (fun w => fkey_calls k w hk)
  clear hx hg1 hg4 hw e' hT hop
  obtain ⟨q, hq⟩ : ∃ q, keyS k = q := ⟨_, rfl⟩
  rw [hq] at HKY
  have hc1 : 2 ≤ c1 := hl1
  obtain ⟨z, hz⟩ : ∃ z, decS v = z := ⟨_, rfl⟩
  have HCLO : Aside0 (∀ w', Below w.heap.size w w' → Calls Tryz.prog 74 #[.string v, .pointer (some ⟨g, 0, none⟩)] w' fun e w'' => e = .returned (sumV op (decS v)) ∧ Below w'.heap.size w' w'') := ⟨fun w' hb => sum1_calls g op v w' (Tabs.below HT.out hb) (blk_below HOP.out hb)⟩
  rw [hz]
  rw [hz] at HCLO
  clear hz
  obtain ⟨z, p⟩ := z
  dsimp only
  have HO2 : Aside0 (∀ w', Below w.heap.size w w' → Calls Tryz.prog 18 #[.agg #[.string x.verb, .slice (some ⟨b, o, none⟩) 2 c1, .bool x.quiet, .int .i64 x.used, .slice A4 x.rest.length c4], .string (⟨#[67, 76, 73, 69, 78, 84, 95, 69, 82, 82, 79, 82, 32, 98, 97, 100, 32, 99, 111, 109, 109, 97, 110, 100, 32, 108, 105, 110, 101, 32, 102, 111, 114, 109, 97, 116]⟩ : ByteArray)] w' (StepR (fun k => k < w.heap.size ∧ F k) w' (stepF x.used badT))) := ⟨fun w' hb => fault_calls x _ _ _ w' (kTextinLine.K_below hb HX.out) (by decide)⟩
  have HO5 : Aside0 (∀ w', Below w.heap.size w w' → Calls Tryz.prog 18 #[.agg #[.string x.verb, .slice (some ⟨b, o, none⟩) 2 c1, .bool x.quiet, .int .i64 x.used, .slice A4 x.rest.length c4], .string (⟨#[67, 76, 73, 69, 78, 84, 95, 69, 82, 82, 79, 82, 32, 105, 110, 118, 97, 108, 105, 100, 32, 110, 117, 109, 101, 114, 105, 99, 32, 100, 101, 108, 116, 97, 32, 97, 114, 103, 117, 109, 101, 110, 116]⟩ : ByteArray)] w' (StepR (fun k => k < w.heap.size ∧ F k) w' (stepF x.used deltaT))) := ⟨fun w' hb => fault_calls x _ _ _ w' (kTextinLine.K_below hb HX.out) (by decide)⟩
  cases q
  · have hr : (if p = true then keyedSt x.verb x.quiet x.used [k, v] 2 op 0 z ⟨#[]⟩ else keyedSt x.verb x.quiet x.used [k, v] 2 0 0 0 deltaT) = stepF x.used badT := by
      unfold keyedSt
      split
      all_goals rw [if_neg (by simp), if_pos (by exact hq)]
    rw [hr]
    clear hr hq HCLO hcell2
    go_enter Tryz.func46, Tryz.ntmps46
    go_wp2_with (first | (go_at_call 67; (with_reducible refine (HKY.out _).mono ?_); rintro e w1 ⟨rfl, hb⟩; have BX := Aside0.mk (blk_below (g := w.heap.size) (o := .cells #[.string x.verb, .slice (some ⟨b, o, none⟩) 2 c1, .bool x.quiet, .int .i64 x.used, .slice A4 x.rest.length c4] 50 (0, 0)) (by repeat (first | exact blk_at_new _ _ _ (by simp; done) | exact blk_at_new _ _ _ rfl | refine blk_alloc ?_ _ | refine blk_drew ?_ | refine blk_drewN ?_ _)) hb); have BR := Aside0.mk (blk_below (g := w.heap.size + 1) (by repeat (first | exact blk_at_new _ _ _ (by simp; done) | exact blk_at_new _ _ _ rfl | refine blk_alloc ?_ _ | refine blk_drew ?_ | refine blk_drewN ?_ _)) hb); have GLT := Aside0.mk (blk_lt BR.out); have HBn := Aside0.mk (below_step (by repeat (first | (with_reducible first | exact HB.out | apply below_alloc | apply pw_below_drewN | apply below_drew1) | exact HB.out)) hb); clear HB; have HB := HBn; clear HBn; clear hb; have t0 : w1.cell? ⟨w.heap.size, 0, none⟩ = some (.string x.verb) := (blk_cell BX.out 0).trans rfl; have t1 : w1.cell? ⟨w.heap.size, 1, none⟩ = some (.slice (some ⟨b, o, none⟩) 2 c1) := (blk_cell BX.out 1).trans rfl; have t2 : w1.cell? ⟨w.heap.size, 2, none⟩ = some (.bool x.quiet) := (blk_cell BX.out 2).trans rfl; have t3 : w1.cell? ⟨w.heap.size, 3, none⟩ = some (.int .i64 x.used) := (blk_cell BX.out 3).trans rfl; have t4 : w1.cell? ⟨w.heap.size, 4, none⟩ = some (.slice A4 x.rest.length c4) := (blk_cell BX.out 4).trans rfl; have t5 : w1.cell? ⟨b, o, none⟩ = some (.string k) := (Below.cell HB.out (p := ⟨b, o, none⟩) hb0).trans HCL.out; have t6 : w1.cell? ⟨b, o + 1, none⟩ = some (.string v) := (Below.cell HB.out (p := ⟨b, o + 1, none⟩) hb0).trans HCV.out) | (refine wpList_store_K HK.out.now rfl 34 _ _ rfl (w.heap.size + 1) rfl rfl 34 _ BK.out (by kernel_rfl) rfl ?_; intro w2 hbk hlow hfar; have HK2 := Aside0.mk (hfar _ _ (fun h => absurd (h GLT.out).1 (by omega)) HK.out); clear BK; have BK := Aside0.mk hbk; have HL := Aside0.mk hlow; clear hbk hlow hfar) | go_at_call 18; (with_reducible refine (HO2.out _ (by repeat (first | (with_reducible first | exact HB.out | apply below_alloc | apply pw_below_drewN | apply below_drew1) | exact HB.out))).mono ?_); rintro e w1 ⟨⟨cs, rfl, hk⟩, hb⟩; have BK := Aside0.mk (blk_below BR.out hb); have HBn := Aside0.mk (below_step (by repeat (first | (with_reducible first | exact HB.out | apply below_alloc | apply pw_below_drewN | apply below_drew1) | exact HB.out)) hb); clear HB; have HB := HBn; clear HBn; have HK := Aside0.mk hk; clear hb hk)
    ((try simp only [Exit.inBlock, Exit.then]); refine bodyPost_ret (results_cell_row rfl _ _ (w.heap.size + 1) 34 _ (0, 0) _ rfl BK.out Tryz.underlying34 rfl (by rw [List.size_toArray, kStep.K_len HK.out.now]; kernel_rfl)) rfl ?_)
    exact ⟨⟨_, rfl, HK2.out.mono (fun k hk h3 => (hk (by have := GLT.out; omega)).2)⟩, HB.out.trans (HL.out _ (by omega))⟩
  cases p
  · have hr : (if false = true then keyedSt x.verb x.quiet x.used [k, v] 2 op 0 z ⟨#[]⟩ else keyedSt x.verb x.quiet x.used [k, v] 2 0 0 0 deltaT) = stepF x.used deltaT := by
      rw [if_neg (by decide)]
      unfold keyedSt
      rw [if_neg (by simp), if_neg (by show ¬ keyS k = false; rw [hq]; decide), if_pos (by decide)]
    rw [hr]
    clear hr hq
    unfold sumV deltaT at HCLO
    rw [if_neg (show ¬ (false = true) by decide)] at HCLO
    go_enter Tryz.func46, Tryz.ntmps46
    go_wp2_with (first | (go_at_call 67; (with_reducible refine (HKY.out _).mono ?_); rintro e w1 ⟨rfl, hb⟩; have BX := Aside0.mk (blk_below (g := w.heap.size) (o := .cells #[.string x.verb, .slice (some ⟨b, o, none⟩) 2 c1, .bool x.quiet, .int .i64 x.used, .slice A4 x.rest.length c4] 50 (0, 0)) (by repeat (first | exact blk_at_new _ _ _ (by simp; done) | exact blk_at_new _ _ _ rfl | refine blk_alloc ?_ _ | refine blk_drew ?_ | refine blk_drewN ?_ _)) hb); have BR := Aside0.mk (blk_below (g := w.heap.size + 1) (by repeat (first | exact blk_at_new _ _ _ (by simp; done) | exact blk_at_new _ _ _ rfl | refine blk_alloc ?_ _ | refine blk_drew ?_ | refine blk_drewN ?_ _)) hb); have GLT := Aside0.mk (blk_lt BR.out); have HBn := Aside0.mk (below_step (by repeat (first | (with_reducible first | exact HB.out | apply below_alloc | apply pw_below_drewN | apply below_drew1) | exact HB.out)) hb); clear HB; have HB := HBn; clear HBn; clear hb; have t0 : w1.cell? ⟨w.heap.size, 0, none⟩ = some (.string x.verb) := (blk_cell BX.out 0).trans rfl; have t1 : w1.cell? ⟨w.heap.size, 1, none⟩ = some (.slice (some ⟨b, o, none⟩) 2 c1) := (blk_cell BX.out 1).trans rfl; have t2 : w1.cell? ⟨w.heap.size, 2, none⟩ = some (.bool x.quiet) := (blk_cell BX.out 2).trans rfl; have t3 : w1.cell? ⟨w.heap.size, 3, none⟩ = some (.int .i64 x.used) := (blk_cell BX.out 3).trans rfl; have t4 : w1.cell? ⟨w.heap.size, 4, none⟩ = some (.slice A4 x.rest.length c4) := (blk_cell BX.out 4).trans rfl; have t5 : w1.cell? ⟨b, o, none⟩ = some (.string k) := (Below.cell HB.out (p := ⟨b, o, none⟩) hb0).trans HCL.out; have t6 : w1.cell? ⟨b, o + 1, none⟩ = some (.string v) := (Below.cell HB.out (p := ⟨b, o + 1, none⟩) hb0).trans HCV.out) | (refine wpList_store_K HK.out.now rfl 34 _ _ rfl (w.heap.size + 1) rfl rfl 34 _ BK.out (by kernel_rfl) rfl ?_; intro w4 hbk hlow hfar; have HK2 := Aside0.mk (hfar _ _ (fun h => absurd (h (by have := GLT2.out; simp; omega)).1 (by omega)) HK.out); clear BK; have BK := Aside0.mk hbk; have HL := Aside0.mk hlow; clear hbk hlow hfar) | (go_at_call 74; (with_reducible refine (HCLO.out _ (by repeat (first | (with_reducible first | exact HB.out | apply below_alloc | apply pw_below_drewN | apply below_drew1) | exact HB.out))).mono ?_); (rintro e w1 ⟨rfl, hb⟩; unfold cloV; have BXn := Aside0.mk (blk_below BX.out hb); have BRn := Aside0.mk (blk_below BR.out hb); clear BX BR t0 t1 t2 t3 t4 t5 t6; have BX := BXn; have BR := BRn; clear BXn BRn; have GLT2 := Aside0.mk (blk_lt BR.out); have HBn := Aside0.mk (below_step (by repeat (first | (with_reducible first | exact HB.out | apply below_alloc | apply pw_below_drewN | apply below_drew1) | exact HB.out)) hb); clear HB; have HB := HBn; clear HBn; clear hb; have hb1 : b < w1.heap.size := Nat.lt_of_lt_of_le hb0 HB.out.size; have hx1 : w.heap.size < w1.heap.size := blk_lt BX.out; have t0 : w1.cell? ⟨w.heap.size, 0, none⟩ = some (.string x.verb) := (blk_cell BX.out 0).trans rfl; have t1 : w1.cell? ⟨w.heap.size, 1, none⟩ = some (.slice (some ⟨b, o, none⟩) 2 c1) := (blk_cell BX.out 1).trans rfl; have t2 : w1.cell? ⟨w.heap.size, 2, none⟩ = some (.bool x.quiet) := (blk_cell BX.out 2).trans rfl; have t3 : w1.cell? ⟨w.heap.size, 3, none⟩ = some (.int .i64 x.used) := (blk_cell BX.out 3).trans rfl; have t4 : w1.cell? ⟨w.heap.size, 4, none⟩ = some (.slice A4 x.rest.length c4) := (blk_cell BX.out 4).trans rfl; have t5 : w1.cell? ⟨b, o, none⟩ = some (.string k) := (Below.cell HB.out (p := ⟨b, o, none⟩) hb0).trans HCL.out; have t6 : w1.cell? ⟨b, o + 1, none⟩ = some (.string v) := (Below.cell HB.out (p := ⟨b, o + 1, none⟩) hb0).trans HCV.out)) | (go_at_call 18; (with_reducible refine (HO5.out _ (by repeat (first | (with_reducible first | exact HB.out | apply below_alloc | apply pw_below_drewN | apply below_drew1) | exact HB.out))).mono ?_); rintro e w3 ⟨⟨cs, rfl, hk⟩, hb⟩; have BK := Aside0.mk (blk_below (blk_alloc BR.out _) hb); have HBn := Aside0.mk (below_step (by repeat (first | (with_reducible first | exact HB.out | apply below_alloc | apply pw_below_drewN | apply below_drew1) | exact HB.out)) hb); clear HB; have HB := HBn; clear HBn; have HK := Aside0.mk hk; clear hb hk))
    ((try simp only [Exit.inBlock, Exit.then]); refine bodyPost_ret (results_cell_row rfl _ _ (w.heap.size + 1) 34 _ (0, 0) _ rfl BK.out Tryz.underlying34 rfl (by rw [List.size_toArray, kStep.K_len HK.out.now]; kernel_rfl)) rfl ?_)
    exact ⟨⟨_, rfl, HK2.out.mono (fun k hk h3 => (hk (by have := GLT2.out; simp; omega)).2)⟩, HB.out.trans (HL.out _ (by omega))⟩
  · have hr : (if true = true then keyedSt x.verb x.quiet x.used [k, v] 2 op 0 z ⟨#[]⟩ else keyedSt x.verb x.quiet x.used [k, v] 2 0 0 0 deltaT) = stepO x.used (formT x.verb x.quiet [k]) (cmdK op 0 z k) := by
      rw [if_pos rfl]
      unfold keyedSt
      rw [if_neg (by simp), if_neg (by show ¬ keyS k = false; rw [hq]; decide), if_neg (by decide)]
      rfl
    rw [hr]
    have hks : keysOf (cmdK op 0 z k).key = [k] := by
      unfold keysOf
      refine if_neg (fun h => ?_)
      have h : k.size = 0 := h
      have : keyS k = false := by unfold keyS; rw [decide_eq_false (by omega), Bool.false_and]
      rw [this] at hq
      cases hq
    clear hr hq
    unfold sumV deltaT at HCLO
    rw [if_pos rfl] at HCLO
    have HC : Aside0 (∀ w', kCmd.K w' (cmdK op 0 z k) [.int .i64 op, .string k, .slice none 0 0, .int .u32 0, .int .i64 0, .int .u64 0, .int .u64 z, .int .u64 0, .bool false, .bool false]) := ⟨fun w' => kCmd_mk w' (cmdK op 0 z k) (Nat.le_refl _) (C_nil _ _)⟩
    have HO3 : Aside0 (∀ w', Below w.heap.size w w' → Calls Tryz.prog 70 #[.agg #[.string x.verb, .slice (some ⟨b, o, none⟩) 2 c1, .bool x.quiet, .int .i64 x.used, .slice A4 x.rest.length c4], .agg #[.int .i64 op, .string k, .slice none 0 0, .int .u32 0, .int .i64 0, .int .u64 0, .int .u64 z, .int .u64 0, .bool false, .bool false]] w' (StepR (fun k => k < w.heap.size ∧ F k) w' (stepO x.used (formT x.verb x.quiet [k]) (cmdK op 0 z k)))) := ⟨fun w' hb => by
      have := one_calls x (cmdK op 0 z k) _ _ (fun k => k < w.heap.size ∧ F k) w' (kTextinLine.K_below hb HX.out) (fun w2 _ _ => HC.out w2)
      rw [hks] at this
      exact this⟩
    clear hks
    go_enter Tryz.func46, Tryz.ntmps46
    go_wp2_with (first | (go_at_call 67; (with_reducible refine (HKY.out _).mono ?_); rintro e w1 ⟨rfl, hb⟩; have BX := Aside0.mk (blk_below (g := w.heap.size) (o := .cells #[.string x.verb, .slice (some ⟨b, o, none⟩) 2 c1, .bool x.quiet, .int .i64 x.used, .slice A4 x.rest.length c4] 50 (0, 0)) (by repeat (first | exact blk_at_new _ _ _ (by simp; done) | exact blk_at_new _ _ _ rfl | refine blk_alloc ?_ _ | refine blk_drew ?_ | refine blk_drewN ?_ _)) hb); have BR := Aside0.mk (blk_below (g := w.heap.size + 1) (by repeat (first | exact blk_at_new _ _ _ (by simp; done) | exact blk_at_new _ _ _ rfl | refine blk_alloc ?_ _ | refine blk_drew ?_ | refine blk_drewN ?_ _)) hb); have GLT := Aside0.mk (blk_lt BR.out); have HBn := Aside0.mk (below_step (by repeat (first | (with_reducible first | exact HB.out | apply below_alloc | apply pw_below_drewN | apply below_drew1) | exact HB.out)) hb); clear HB; have HB := HBn; clear HBn; clear hb; have t0 : w1.cell? ⟨w.heap.size, 0, none⟩ = some (.string x.verb) := (blk_cell BX.out 0).trans rfl; have t1 : w1.cell? ⟨w.heap.size, 1, none⟩ = some (.slice (some ⟨b, o, none⟩) 2 c1) := (blk_cell BX.out 1).trans rfl; have t2 : w1.cell? ⟨w.heap.size, 2, none⟩ = some (.bool x.quiet) := (blk_cell BX.out 2).trans rfl; have t3 : w1.cell? ⟨w.heap.size, 3, none⟩ = some (.int .i64 x.used) := (blk_cell BX.out 3).trans rfl; have t4 : w1.cell? ⟨w.heap.size, 4, none⟩ = some (.slice A4 x.rest.length c4) := (blk_cell BX.out 4).trans rfl; have t5 : w1.cell? ⟨b, o, none⟩ = some (.string k) := (Below.cell HB.out (p := ⟨b, o, none⟩) hb0).trans HCL.out; have t6 : w1.cell? ⟨b, o + 1, none⟩ = some (.string v) := (Below.cell HB.out (p := ⟨b, o + 1, none⟩) hb0).trans HCV.out) | (refine wpList_store_K HK.out.now rfl 34 _ _ rfl (w.heap.size + 1) rfl rfl 34 _ BK.out (by kernel_rfl) rfl ?_; intro w4 hbk hlow hfar; have HK2 := Aside0.mk (hfar _ _ (fun h => absurd (h (by have := GLT2.out; simp; omega)).1 (by omega)) HK.out); clear BK; have BK := Aside0.mk hbk; have HL := Aside0.mk hlow; clear hbk hlow hfar) | (go_at_call 74; (with_reducible refine (HCLO.out _ (by repeat (first | (with_reducible first | exact HB.out | apply below_alloc | apply pw_below_drewN | apply below_drew1) | exact HB.out))).mono ?_); (rintro e w1 ⟨rfl, hb⟩; unfold cloV; have BXn := Aside0.mk (blk_below BX.out hb); have BRn := Aside0.mk (blk_below BR.out hb); clear BX BR t0 t1 t2 t3 t4 t5 t6; have BX := BXn; have BR := BRn; clear BXn BRn; have GLT2 := Aside0.mk (blk_lt BR.out); have HBn := Aside0.mk (below_step (by repeat (first | (with_reducible first | exact HB.out | apply below_alloc | apply pw_below_drewN | apply below_drew1) | exact HB.out)) hb); clear HB; have HB := HBn; clear HBn; clear hb; have hb1 : b < w1.heap.size := Nat.lt_of_lt_of_le hb0 HB.out.size; have hx1 : w.heap.size < w1.heap.size := blk_lt BX.out; have t0 : w1.cell? ⟨w.heap.size, 0, none⟩ = some (.string x.verb) := (blk_cell BX.out 0).trans rfl; have t1 : w1.cell? ⟨w.heap.size, 1, none⟩ = some (.slice (some ⟨b, o, none⟩) 2 c1) := (blk_cell BX.out 1).trans rfl; have t2 : w1.cell? ⟨w.heap.size, 2, none⟩ = some (.bool x.quiet) := (blk_cell BX.out 2).trans rfl; have t3 : w1.cell? ⟨w.heap.size, 3, none⟩ = some (.int .i64 x.used) := (blk_cell BX.out 3).trans rfl; have t4 : w1.cell? ⟨w.heap.size, 4, none⟩ = some (.slice A4 x.rest.length c4) := (blk_cell BX.out 4).trans rfl; have t5 : w1.cell? ⟨b, o, none⟩ = some (.string k) := (Below.cell HB.out (p := ⟨b, o, none⟩) hb0).trans HCL.out; have t6 : w1.cell? ⟨b, o + 1, none⟩ = some (.string v) := (Below.cell HB.out (p := ⟨b, o + 1, none⟩) hb0).trans HCV.out)) | (go_at_call 70; (with_reducible refine (HO3.out _ (by repeat (first | (with_reducible first | exact HB.out | apply below_alloc | apply pw_below_drewN | apply below_drew1) | exact HB.out))).mono ?_); rintro e w3 ⟨⟨cs, rfl, hk⟩, hb⟩; have BK := Aside0.mk (blk_below (blk_alloc BR.out _) hb); have HBn := Aside0.mk (below_step (by repeat (first | (with_reducible first | exact HB.out | apply below_alloc | apply pw_below_drewN | apply below_drew1) | exact HB.out)) hb); clear HB; have HB := HBn; clear HBn; have HK := Aside0.mk hk; clear hb hk))
    ((try simp only [Exit.inBlock, Exit.then]); refine bodyPost_ret (results_cell_row rfl _ _ (w.heap.size + 1) 34 _ (0, 0) _ rfl BK.out Tryz.underlying34 rfl (by rw [List.size_toArray, kStep.K_len HK.out.now]; kernel_rfl)) rfl ?_)
    exact ⟨⟨_, rfl, HK2.out.mono (fun k hk h3 => (hk (by have := GLT2.out; simp; omega)).2)⟩, HB.out.trans (HL.out _ (by omega))⟩
end Go.Proofs.YtfljijpkeckeaaaGreatDoor.X
namespace Go.Proofs.YtfljijpkeckeaaaGreatDoor.X
open Go.RowKit Go.Proofs.YtfljijpkeckeaaaGreatDoorW.PrintWords Go.Proofs.YtfljijpkeckeaaaGreatDoorW.PrintMore
set_option linter.unusedVariables false
set_option linter.unusedSimpArgs false
theorem keyedSt_no (verb : ByteArray) (quiet : Bool) (used : Int) (words : List ByteArray) (many : Nat) (op exp delta : Int) (wrong : ByteArray) (h : words.length ≠ many) : keyedSt verb quiet used words many op exp delta wrong = stepF used (⟨#[69, 82, 82, 79, 82]⟩ : ByteArray) := by
  unfold keyedSt
  exact if_pos h
def delS (verb : ByteArray) (quiet : Bool) (used : Int) (words : List ByteArray) : Step := keyedSt verb quiet used words 1 8 0 0 ⟨#[]⟩
def touchS (verb : ByteArray) (quiet : Bool) (used : Int) (words : List ByteArray) : Step :=
  if (sgnS (words.getD 1 ⟨#[]⟩)).2 = true then keyedSt verb quiet used words 2 2 (sgnS (words.getD 1 ⟨#[]⟩)).1 0 ⟨#[]⟩ else keyedSt verb quiet used words 2 0 0 0 badT
def sumS (verb : ByteArray) (quiet : Bool) (used : Int) (words : List ByteArray) (op : Int) : Step :=
  if (decS (words.getD 1 ⟨#[]⟩)).2 = true then keyedSt verb quiet used words 2 op 0 (decS (words.getD 1 ⟨#[]⟩)).1 ⟨#[]⟩ else keyedSt verb quiet used words 2 0 0 0 deltaT
theorem len2 {α : Type} : ∀ {l : List α}, l.length = 2 → ∃ a b, l = [a, b]
  | [a, b], _ => ⟨a, b, rfl⟩
theorem len1 {α : Type} : ∀ {l : List α}, l.length = 1 → ∃ a, l = [a]
  | [a], _ => ⟨a, rfl⟩
theorem keyedDU (x : TextinLine) (cx : List Value) (F : Nat → Prop) (w : World) (hx : kTextinLine.K w x cx) (hk : ∀ k ∈ x.words, k.size ≤ 1000000) :
    Calls Tryz.prog 46 #[.agg cx.toArray, .int .i64 1, .func (.func 47) #[] #[]] w (StepR F w (delS x.verb x.quiet x.used x.words)) := by
  by_cases hn : x.words.length = 1
  · obtain ⟨k, hw⟩ := len1 hn
    exact keyedD_calls x cx F w hx k hw (hk k (by rw [hw]; simp))
  · have := keyedE_calls x cx F w hx 1 (.func (.func 47) #[] #[]) (by omega)
    unfold delS
    rw [keyedSt_no _ _ _ _ _ _ _ _ _ hn]
    exact this
theorem keyedTU (x : TextinLine) (cx : List Value) (F : Nat → Prop) (w : World) (hx : kTextinLine.K w x cx) (hT : Tabs w) (hk : ∀ k ∈ x.words, k.size ≤ 1000000) :
    Calls Tryz.prog 46 #[.agg cx.toArray, .int .i64 2, .func (.func 49) #[.agg cx.toArray] #[]] w (StepR F w (touchS x.verb x.quiet x.used x.words)) := by
  unfold touchS
  by_cases hn : x.words.length = 2
  · obtain ⟨k, v, hw⟩ := len2 hn
    have := keyedT_calls x cx F w hx hT k v hw (hk k (by rw [hw]; simp))
    rw [show x.words.getD 1 ⟨#[]⟩ = v from by rw [hw]; rfl]
    exact this
  · have := keyedE_calls x cx F w hx 2 (.func (.func 49) #[.agg cx.toArray] #[]) (by omega)
    rw [keyedSt_no _ _ _ _ _ _ _ _ _ hn, keyedSt_no _ _ _ _ _ _ _ _ _ hn, ite_self]
    exact this
theorem keyedSU (x : TextinLine) (cx : List Value) (F : Nat → Prop) (w : World) (g : Nat) (op : Int) (hx : kTextinLine.K w x cx) (hT : Tabs w) (hop : w.heap[g]? = some (.cells #[.int .i64 op] 3 (0, 0))) (hk : ∀ k ∈ x.words, k.size ≤ 1000000) :
    Calls Tryz.prog 46 #[.agg cx.toArray, .int .i64 2, .func (.func 74) #[] #[.pointer (some ⟨g, 0, none⟩)]] w (StepR F w (sumS x.verb x.quiet x.used x.words op)) := by
  unfold sumS
  by_cases hn : x.words.length = 2
  · obtain ⟨k, v, hw⟩ := len2 hn
    have := keyedS_calls x cx F w g op hx hT hop k v hw (hk k (by rw [hw]; simp))
    rw [show x.words.getD 1 ⟨#[]⟩ = v from by rw [hw]; rfl]
    exact this
  · have := keyedE_calls x cx F w hx 2 (.func (.func 74) #[] #[.pointer (some ⟨g, 0, none⟩)]) (by omega)
    rw [keyedSt_no _ _ _ _ _ _ _ _ _ hn, keyedSt_no _ _ _ _ _ _ _ _ _ hn, ite_self]
    exact this
set_option maxRecDepth 100000 in
set_option maxHeartbeats 1000000 in
theorem sum_calls (x : TextinLine) (cx : List Value) (op : Int) (F : Nat → Prop) (w : World) (hx : kTextinLine.K w x cx) (hT : Tabs w) (hk : ∀ k ∈ x.words, k.size ≤ 1000000) :
    Calls Tryz.prog 48 #[.agg cx.toArray, .int .i64 op] w (StepR F w (sumS x.verb x.quiet x.used x.words op)) := by
  have HB := Aside0.mk (Below.refl w.heap.size w)
  have HX := Aside0.mk hx
  have HT := Aside0.mk hT
  obtain ⟨A1, c1, A4, c4, rfl, hl1, hg1, hl4, hg4⟩ := kTextinLine_open hx
  obtain ⟨r, hr⟩ : ∃ r, sumS x.verb x.quiet x.used x.words op = r := ⟨_, rfl⟩
  rw [hr]
  have HO : Aside0 (∀ w', Below w.heap.size w w' → w'.heap[w.heap.size + 1]? = some (.cells #[.int .i64 op] 3 (0, 0)) → Calls Tryz.prog 46 #[.agg #[.string x.verb, .slice A1 x.words.length c1, .bool x.quiet, .int .i64 x.used, .slice A4 x.rest.length c4], .int .i64 2, .func (.func 74) #[] #[.pointer (some ⟨w.heap.size + 1, 0, none⟩)]] w' (StepR (fun k => k < w.heap.size ∧ F k) w' r)) := ⟨fun w' hb h2 => hr ▸ keyedSU x _ _ w' (w.heap.size + 1) op (kTextinLine.K_below hb HX.out) (Tabs.below HT.out hb) h2 hk⟩
  clear hx hg1 hg4 hT hr hk
  go_enter Tryz.func48, Tryz.ntmps48
  go_wp2_with (first | (refine wpList_store_K HK.out.now rfl 34 _ _ rfl (w.heap.size + 1 + 1) rfl rfl 34 _ BK.out (by kernel_rfl) rfl ?_; intro w2 hbk hlow hfar; have HK2 := Aside0.mk (hfar _ _ (fun h => absurd (h (by simp <;> omega)).1 (by omega)) HK.out); clear BK; have BK := Aside0.mk hbk; have HL := Aside0.mk hlow; clear hbk hlow hfar) | go_at_call 46; (with_reducible refine (HO.out _ (by repeat (first | (with_reducible first | exact HB.out | apply below_alloc | apply pw_below_drewN | apply below_drew1) | exact HB.out)) (by repeat (first | exact blk_at_new _ _ _ (by simp; done) | exact blk_at_new _ _ _ rfl | refine blk_alloc ?_ _ | refine blk_drew ?_ | refine blk_drewN ?_ _))).mono ?_); rintro e w1 ⟨⟨cs, rfl, hk⟩, hb⟩; have BK := Aside0.mk (blk_below (g := w.heap.size + 1 + 1) (by repeat (first | exact blk_at_new _ _ _ (by simp; done) | exact blk_at_new _ _ _ rfl | refine blk_alloc ?_ _ | refine blk_drew ?_ | refine blk_drewN ?_ _)) hb); have HBn := Aside0.mk (below_step (by repeat (first | (with_reducible first | exact HB.out | apply below_alloc | apply pw_below_drewN | apply below_drew1) | exact HB.out)) hb); clear HB; have HB := HBn; clear HBn; have HK := Aside0.mk hk; clear hb hk)
  ((try simp only [Exit.inBlock, Exit.then]); refine bodyPost_ret (results_cell_row rfl _ _ (w.heap.size + 1 + 1) 34 _ (0, 0) _ rfl BK.out Tryz.underlying34 rfl (by rw [List.size_toArray, kStep.K_len HK.out.now]; kernel_rfl)) rfl ?_)
  exact ⟨⟨_, rfl, HK2.out.mono (fun k hk h3 => (hk (by simp; omega)).2)⟩, HB.out.trans (HL.out _ (by omega))⟩
end Go.Proofs.YtfljijpkeckeaaaGreatDoor.X
namespace Go.Proofs.YtfljijpkeckeaaaGreatDoor.X
open Go.RowKit Go.Proofs.YtfljijpkeckeaaaGreatDoorW.PrintWords Go.Proofs.YtfljijpkeckeaaaGreatDoorW.PrintMore
set_option linter.unusedVariables false
set_option linter.unusedSimpArgs false
def cmdC (op exp : Int) (k : ByteArray) : List Value := [.int .i64 op, .string k, .slice none 0 0, .int .u32 0, .int .i64 exp, .int .u64 0, .int .u64 0, .int .u64 0, .bool false, .bool false]
def rowsC (op exp : Int) (ks : List ByteArray) : List Value := ks.flatMap (cmdC op exp)
theorem rowsC_snoc (op exp : Int) (ks : List ByteArray) (k : ByteArray) : rowsC op exp (ks ++ [k]) = rowsC op exp ks ++ cmdC op exp k := by
  unfold rowsC
  rw [List.flatMap_append, List.flatMap_cons, List.flatMap_nil, List.append_nil]
theorem rowsC_get (op exp : Int) : ∀ (ks : List ByteArray) (j : Nat) (k : ByteArray), ks[j]? = some k → ∀ i u, (cmdC op exp k)[i]? = some u → (rowsC op exp ks)[j * 10 + i]? = some u
  | [], _, _, h, _, _, _ => by simp at h
  | a :: l, 0, k, h, i, u, hu => by
    obtain rfl : a = k := by simpa using h
    have hi : i < (cmdC op exp a).length := (List.getElem?_eq_some_iff.1 hu).1
    show (cmdC op exp a ++ rowsC op exp l)[0 * 10 + i]? = some u
    rw [Nat.zero_mul, Nat.zero_add, List.getElem?_append_left hi]
    exact hu
  | a :: l, j + 1, k, h, i, u, hu => by
    have h : l[j]? = some k := by simpa using h
    show (cmdC op exp a ++ rowsC op exp l)[(j + 1) * 10 + i]? = some u
    rw [List.getElem?_append_right (by show 10 ≤ _; omega), show (j + 1) * 10 + i - (cmdC op exp a).length = j * 10 + i from by show (j + 1) * 10 + i - 10 = _; omega]
    exact rowsC_get op exp l j k h i u hu
theorem cmdC_one (op exp : Int) (k : ByteArray) : ∀ u ∈ cmdC op exp k, u.oneCell' = true := by
  intro u hu
  simp only [cmdC, List.mem_cons, List.not_mem_nil, or_false] at hu
  rcases hu with h | h | h | h | h | h | h | h | h | h <;> subst h <;> rfl
theorem K_cmdC (w : World) (op exp : Int) (k : ByteArray) : kCmd.K w (cmdK op exp 0 k) (cmdC op exp k) := kCmd_mk w (cmdK op exp 0 k) (Nat.le_refl _) (C_nil _ _)
theorem own_C {W : World} {base : Nat} {v : Value} {op exp : Int} {ks : List ByteArray} (h : W.ownsRow base 40 10 v ks.length (rowsC op exp ks)) :
    ∃ A c, v = .slice A ks.length c ∧ ks.length ≤ c ∧ kCmd.C W A ks.length (ks.map (cmdK op exp 0)) := by
  rcases h.2 with ⟨rfl, h0⟩ | ⟨g, cap, cur, rfl, hb, hh, hn, hcm, hcs, htake⟩
  · obtain rfl : ks = [] := List.eq_nil_of_length_eq_zero h0
    exact ⟨none, 0, rfl, Nat.le_refl _, C_nil _ _⟩
  · refine ⟨some ⟨g, 0, none⟩, cap, rfl, hn, ?_⟩
    refine ⟨by simp, by unfold maxLen at hcm; omega, fun _ => ⟨_, rfl, fun j p hj => ?_⟩⟩
    rw [List.getElem?_map] at hj
    obtain ⟨k, hk, rfl⟩ := Option.map_eq_some_iff.1 hj
    exact ⟨cmdC op exp k, rfl, K_cmdC W op exp k, fun i u hu => h.cells (g := g) rfl (j * 10 + i) u (rowsC_get op exp ks j k hk i u hu)⟩
theorem own_keep {w w1 : World} {base : Nat} {e : TypeId} {size n : Nat} {v : Value} {xs : List Value} (h : w.ownsRow base e size v n xs) (hm : ∀ k, base ≤ k → k < w.heap.size → w1.heap[k]? = w.heap[k]?) : w1.ownsRow base e size v n xs :=
  own_move h (fun k hk => hm k (own_base h k hk) (own_lt h k hk))
end Go.Proofs.YtfljijpkeckeaaaGreatDoor.X
namespace Go.Proofs.YtfljijpkeckeaaaGreatDoor.X
open Go.RowKit Go.Proofs.YtfljijpkeckeaaaGreatDoorW.PrintWords Go.Proofs.YtfljijpkeckeaaaGreatDoorW.PrintMore
set_option linter.unusedVariables false
set_option linter.unusedSimpArgs false
structure StoreTo (g : Nat) (w w' : World) : Prop where
  below : ∀ B, B ≤ g → Below B w w'
  block : ∀ k, k ≠ g → w'.heap[k]? = w.heap[k]?
  size : w'.heap.size = w.heap.size
theorem StoreTo.row (w : World) (g : Nat) (cs : Array Value) : StoreTo g w (w.setRow g cs) :=
  ⟨fun _ hB => below_setRow (Below.refl _ _) hB _, fun k hk => setRow_other _ _ _ _ hk, by simp [World.setRow]⟩
theorem StoreTo.zero {g : Nat} {w w' : World} (h : StoreTo g w w') : Below 0 w w' := h.below 0 (Nat.zero_le _)
theorem StoreTo.blk {g k : Nat} {w w' : World} {o : Obj} (h : StoreTo g w w') (hb : w.heap[k]? = some o) (hk : k ≠ g) : w'.heap[k]? = some o := (h.block k hk).trans hb
theorem StoreTo.up {g B : Nat} {w0 w w' : World} (h : StoreTo g w w') (hb : Below B w0 w) (hg : B ≤ g) : Below B w0 w' := hb.trans (h.below B hg)
theorem StoreTo.hol {g : Nat} {w w' : World} {F : Nat → Prop} {Φ : World → Prop} (h : StoreTo g w w') (hh : HolF F w Φ) (hg : ¬ F g) : HolF F w' Φ := hh.kept h.zero (fun k _ hF => h.block k (fun e => hg (e ▸ hF)))
theorem StoreTo.own {g : Nat} {w w' : World} {base n size : Nat} {e : TypeId} {v : Value} {xs : List Value} (h : StoreTo g w w') (ho : w.ownsRow base e size v n xs) (hg : g < base) : w'.ownsRow base e size v n xs :=
  own_keep ho (fun k hk _ => h.block k (by omega))
theorem StoreTo.own' {g : Nat} {w w' : World} {base n size : Nat} {e : TypeId} {v : Value} {xs : List Value} (h : StoreTo g w w') (ho : w.ownsRow base e size v n xs) (hg : some g ≠ v.ownBlock) : w'.ownsRow base e size v n xs :=
  own_move ho (fun k hk => h.block k (fun e => hg (by rw [← e]; exact hk.symm)))
theorem own_not {w : World} {base n size g : Nat} {e : TypeId} {v : Value} {xs : List Value} (ho : w.ownsRow base e size v n xs) (hg : w.heap.size ≤ g) : some g ≠ v.ownBlock := fun e => absurd (own_lt ho _ e.symm) (by omega)
theorem cells_one {u : Value} (h1 : u.oneCell' = true) : u.cells = #[u] := by cases u <;> first | rfl | cases h1
theorem run_storeVar_F {P : Program} (w : World) (g i : Nat) (t ty : TypeId) (cur : Array Value) (v : Value) (vs : List Value) (hv : v.cells = vs.toArray) (hg : w.heap[g]? = some (.cells cur t (0, 0))) (hi : (P.info? ty).map (·.size) = some vs.length)
    (hfit : i + vs.length ≤ cur.size) (h1 : ∀ u ∈ vs, u.oneCell' = true) : (storeVar ty ⟨g, i, none⟩ v).run P w = .ok () (w.setRow g (cur.toList.take i ++ vs ++ cur.toList.drop (i + vs.length)).toArray) := by
  have := run_storeCells_at (P := P) g i t vs 0 cur w hg (by omega) h1
  cases hq : P.info? ty with
  | none => simp [hq] at hi
  | some j =>
    have hs : j.size = vs.length := by simpa [hq] using hi
    simp only [Nat.add_zero] at this
    simp [storeVar, sizeOf, typeInfo, hq, hv, hs, this]
theorem wpList_store_F {P : Program} {ops : Array Oper} {rest : List Oper} {o : Oper} {a : Act} {w : World} {Q : Exit → Act → World → Prop} (hgd : o.guard = none) (ty : TypeId) (x y : Operand) (ho : o.op = .store ty x y)
    (g i : Nat) (vs : List Value) (hx : a.eval x = .pointer (some ⟨g, i, none⟩)) (hv : (a.eval y).cells = vs.toArray) (h1 : ∀ u ∈ vs, u.oneCell' = true)
    (t : TypeId) (cur new : Array Value) (hg : w.heap[g]? = some (.cells cur t (0, 0))) (hfit : i + vs.length ≤ cur.size) (hi : (P.info? ty).map (·.size) = some vs.length) (hnew : (cur.toList.take i ++ vs ++ cur.toList.drop (i + vs.length)).toArray = new)
    (h : ∀ w', w'.heap[g]? = some (.cells new t (0, 0)) → StoreTo g w w' → wpList P ops Q rest (a.put o.dst undef) w') : wpList P ops Q (o :: rest) a w :=
  wpList_plain hgd fun _ hK => by
    unfold Oper.wp execOp
    simp only [ho, hx, Instr.storeAt, Instr.sureAddr, Sem.run_bind, Sem.run_pure, Result.andThen_ok, run_storeVar_F w g i t ty cur _ vs hv hg hi hfit h1]
    rw [hnew]
    exact hK _ _ (h _ (setRow_heap w g cur _ t _ hg) (StoreTo.row w g new))
theorem wpList_store_1 {P : Program} {ops : Array Oper} {rest : List Oper} {o : Oper} {a : Act} {w : World} {Q : Exit → Act → World → Prop} (hgd : o.guard = none) (ty : TypeId) (x y : Operand) (ho : o.op = .store ty x y)
    (g i : Nat) (v : Value) (hx : a.eval x = .pointer (some ⟨g, i, none⟩)) (hv : a.eval y = v) (h1 : v.oneCell' = true)
    (t : TypeId) (cur new : Array Value) (hg : w.heap[g]? = some (.cells cur t (0, 0))) (hfit : i + 1 ≤ cur.size) (hi : (P.info? ty).map (·.size) = some 1) (hnew : (cur.toList.take i ++ [v] ++ cur.toList.drop (i + 1)).toArray = new)
    (h : ∀ w', w'.heap[g]? = some (.cells new t (0, 0)) → StoreTo g w w' → wpList P ops Q rest (a.put o.dst undef) w') : wpList P ops Q (o :: rest) a w :=
  wpList_store_F hgd ty x y ho g i [v] hx (by rw [hv]; exact cells_one h1) (by intro u hu; simp only [List.mem_singleton] at hu; subst hu; exact h1) t cur new hg hfit hi hnew h
theorem step_store_F {P : Program} {ops : Array Oper} {o : Oper} {a : Act} {w : World} {K : Act → World → Prop} {Q : Exit → Act → World → Prop} (hw : Region.wanted o (yielded ops a.tmps) = true) (ty : TypeId) (x y : Operand) (ho : o.op = .store ty x y)
    (g i : Nat) (vs : List Value) (hx : a.eval x = .pointer (some ⟨g, i, none⟩)) (hv : (a.eval y).cells = vs.toArray) (h1 : ∀ u ∈ vs, u.oneCell' = true)
    (t : TypeId) (cur new : Array Value) (hg : w.heap[g]? = some (.cells cur t (0, 0))) (hfit : i + vs.length ≤ cur.size) (hi : (P.info? ty).map (·.size) = some vs.length) (hnew : (cur.toList.take i ++ vs ++ cur.toList.drop (i + vs.length)).toArray = new)
    (h : ∀ w', w'.heap[g]? = some (.cells new t (0, 0)) → StoreTo g w w' → K (a.put o.dst undef) w') :
    if Region.wanted o (yielded ops a.tmps) = true then Oper.wp P o a w K Q else K (a.put o.dst undef) w := by
  rw [if_pos hw]
  unfold Oper.wp execOp
  simp only [ho, hx, Instr.storeAt, Instr.sureAddr, Sem.run_bind, Sem.run_pure, Result.andThen_ok, run_storeVar_F w g i t ty cur _ vs hv hg hi hfit h1]
  rw [hnew]
  exact h _ (setRow_heap w g cur _ t _ hg) (StoreTo.row w g new)
theorem own_some {w : World} {base n size : Nat} {e : TypeId} {v : Value} {xs : List Value} (h : w.ownsRow base e size v n xs) (hn : n ≠ 0) : ∃ g cap, v = .slice (some ⟨g, 0, none⟩) n cap := by
  rcases h.2 with ⟨rfl, h0⟩ | ⟨g, cap, cur, rfl, _⟩
  · exact absurd h0 hn
  · exact ⟨g, cap, rfl⟩
theorem own_up {w w1 : World} {base n size : Nat} {e : TypeId} {v : Value} {xs : List Value} (h : w.ownsRow base e size v n xs) (hb : Below w.heap.size w w1) : w1.ownsRow base e size v n xs := own_move h (fun k hk => hb.block k (own_lt h k hk))
theorem own_one {w : World} {base n size : Nat} {e : TypeId} {v : Value} {xs : List Value} (h : w.ownsRow base e size v n xs) : v.oneCell' = true := by
  rcases h.2 with ⟨rfl, _⟩ | ⟨g, cap, cur, rfl, _⟩ <;> rfl
theorem own_apart {w : World} {base n size : Nat} {e : TypeId} {v : Value} {xs : List Value} (h : w.ownsRow base e size v n xs) {k : Nat} (hk : k < base) : some k ≠ v.ownBlock := fun e => absurd (own_base h _ e.symm) (by omega)
end Go.Proofs.YtfljijpkeckeaaaGreatDoor.X
namespace Go.Proofs.YtfljijpkeckeaaaGreatDoor.X
open Go.RowKit Go.Proofs.YtfljijpkeckeaaaGreatDoorW.PrintWords Go.Proofs.YtfljijpkeckeaaaGreatDoorW.PrintMore
set_option linter.unusedVariables false
set_option linter.unusedSimpArgs false
set_option maxRecDepth 100000 in
set_option maxHeartbeats 1000000 in
theorem gets_no (x : TextinLine) (cx : List Value) (op : Int) (A : Option Addr) (c : Nat) (F : Nat → Prop) (w : World) (hx : kTextinLine.K w x cx) :
    Calls Tryz.prog 41 #[.agg cx.toArray, .agg (cmdC op 0 ⟨#[]⟩).toArray, .slice A 0 c] w (StepR F w (stepF x.used (⟨#[69, 82, 82, 79, 82]⟩ : ByteArray))) := by
  have HB := Aside0.mk (Below.refl w.heap.size w)
  have HX := Aside0.mk hx
  obtain ⟨A1, c1, A4, c4, rfl, hl1, hg1, hl4, hg4⟩ := kTextinLine_open hx
  have HO : Aside0 (∀ w', Below w.heap.size w w' → Calls Tryz.prog 18 #[.agg #[.string x.verb, .slice A1 x.words.length c1, .bool x.quiet, .int .i64 x.used, .slice A4 x.rest.length c4], .string (⟨#[69, 82, 82, 79, 82]⟩ : ByteArray)] w' (StepR (fun k => k < w.heap.size ∧ F k) w' (stepF x.used (⟨#[69, 82, 82, 79, 82]⟩ : ByteArray)))) := ⟨fun w' hb => fault_calls x _ _ _ w' (kTextinLine.K_below hb HX.out) (by decide)⟩
  clear hx hg1 hg4
  unfold cmdC
  go_enter Tryz.func41, Tryz.ntmps41
  go_wp2_with (first | (refine wpList_store_K HK.out.now rfl 34 _ _ rfl (w.heap.size + 1 + 1) rfl rfl 34 _ BK.out (by kernel_rfl) rfl ?_; intro w2 hbk hlow hfar; have HK2 := Aside0.mk (hfar _ _ (fun h => absurd (h (by simp <;> omega)).1 (by omega)) HK.out); clear BK; have BK := Aside0.mk hbk; have HL := Aside0.mk hlow; clear hbk hlow hfar) | go_at_call 18; (with_reducible refine (HO.out _ (by repeat (first | (with_reducible first | exact HB.out | apply below_alloc | apply pw_below_drewN | apply below_drew1) | exact HB.out))).mono ?_); rintro e w1 ⟨⟨cs, rfl, hk⟩, hb⟩; have BK := Aside0.mk (blk_below (g := w.heap.size + 1 + 1) (by repeat (first | exact blk_at_new _ _ _ (by simp; done) | exact blk_at_new _ _ _ rfl | refine blk_alloc ?_ _ | refine blk_drew ?_ | refine blk_drewN ?_ _)) hb); have HBn := Aside0.mk (below_step (by repeat (first | (with_reducible first | exact HB.out | apply below_alloc | apply pw_below_drewN | apply below_drew1) | exact HB.out)) hb); clear HB; have HB := HBn; clear HBn; have HK := Aside0.mk hk; clear hb hk)
  ((try simp only [Exit.inBlock, Exit.then]); refine bodyPost_ret (results_cell_row rfl _ _ (w.heap.size + 1 + 1) 34 _ (0, 0) _ rfl BK.out Tryz.underlying34 rfl (by rw [List.size_toArray, kStep.K_len HK.out.now]; kernel_rfl)) rfl ?_)
  exact ⟨⟨_, rfl, HK2.out.mono (fun k hk h3 => (hk (by simp; omega)).2)⟩, HB.out.trans (HL.out _ (by omega))⟩
set_option maxRecDepth 100000 in
set_option maxHeartbeats 1000000 in
theorem gets_bad (x : TextinLine) (cx : List Value) (op : Int) (keys : List ByteArray) (A : Option Addr) (c : Nat) (F : Nat → Prop) (w : World) (hx : kTextinLine.K w x cx) (h0 : keys.length ≠ 0) (hl : keys.length ≤ 1000000) (hs : ∀ k ∈ keys, k.size ≤ 1000000)
    (hC : Kd.string.C w A keys.length keys) (hc : keys.length ≤ c) (hk : keysS keys = false) :
    Calls Tryz.prog 41 #[.agg cx.toArray, .agg (cmdC op 0 ⟨#[]⟩).toArray, .slice A keys.length c] w (StepR F w (stepF x.used badT)) := by
  have HB := Aside0.mk (Below.refl w.heap.size w)
  have HX := Aside0.mk hx
  have HC := Aside0.mk hC
  obtain ⟨A1, c1, A4, c4, rfl, hl1, hg1, hl4, hg4⟩ := kTextinLine_open hx
  have HO : Aside0 (∀ w', Below w.heap.size w w' → Calls Tryz.prog 18 #[.agg #[.string x.verb, .slice A1 x.words.length c1, .bool x.quiet, .int .i64 x.used, .slice A4 x.rest.length c4], .string (⟨#[67, 76, 73, 69, 78, 84, 95, 69, 82, 82, 79, 82, 32, 98, 97, 100, 32, 99, 111, 109, 109, 97, 110, 100, 32, 108, 105, 110, 101, 32, 102, 111, 114, 109, 97, 116]⟩ : ByteArray)] w' (StepR (fun k => k < w.heap.size ∧ F k) w' (stepF x.used badT))) := ⟨fun w' hb => fault_calls x _ _ _ w' (kTextinLine.K_below hb HX.out) (by decide)⟩
  have HCF : Aside0 (∀ w', Below w.heap.size w w' → Calls Tryz.prog 65 #[.slice A keys.length c, .func (.func 66) #[] #[]] w' fun e w'' => e = .returned (.bool (keys.any badK)) ∧ Below w'.heap.size w' w'') := ⟨fun w' hb => cfnS_calls keys A c w' (Kd.C_below HC.out hb) hc hl hs⟩
  clear hx hg1 hg4 hC hs
  have hkn : 0 < (keys.length : Int) := by omega
  by_cases hlt : 16 < keys.length
  · unfold cmdC
    clear hk
    go_enter Tryz.func41, Tryz.ntmps41
    go_wp2_with (first | (refine wpList_store_K HK.out.now rfl 34 _ _ rfl (w.heap.size + 1 + 1) rfl rfl 34 _ BK.out (by kernel_rfl) rfl ?_; intro w2 hbk hlow hfar; have HK2 := Aside0.mk (hfar _ _ (fun h => absurd (h (by simp <;> omega)).1 (by omega)) HK.out); clear BK; have BK := Aside0.mk hbk; have HL := Aside0.mk hlow; clear hbk hlow hfar) | go_at_call 18; (with_reducible refine (HO.out _ (by repeat (first | (with_reducible first | exact HB.out | apply below_alloc | apply pw_below_drewN | apply below_drew1) | exact HB.out))).mono ?_); rintro e w1 ⟨⟨cs, rfl, hk⟩, hb⟩; have BK := Aside0.mk (blk_below (g := w.heap.size + 1 + 1) (by repeat (first | exact blk_at_new _ _ _ (by simp; done) | exact blk_at_new _ _ _ rfl | refine blk_alloc ?_ _ | refine blk_drew ?_ | refine blk_drewN ?_ _)) hb); have HBn := Aside0.mk (below_step (by repeat (first | (with_reducible first | exact HB.out | apply below_alloc | apply pw_below_drewN | apply below_drew1) | exact HB.out)) hb); clear HB; have HB := HBn; clear HBn; have HK := Aside0.mk hk; clear hb hk)
    ((try simp only [Exit.inBlock, Exit.then]); refine bodyPost_ret (results_cell_row rfl _ _ (w.heap.size + 1 + 1) 34 _ (0, 0) _ rfl BK.out Tryz.underlying34 rfl (by rw [List.size_toArray, kStep.K_len HK.out.now]; kernel_rfl)) rfl ?_)
    exact ⟨⟨_, rfl, HK2.out.mono (fun k hk h3 => (hk (by simp; omega)).2)⟩, HB.out.trans (HL.out _ (by omega))⟩
  · have hany : keys.any badK = true := by
      unfold keysS at hk
      rw [decide_eq_true (by omega), Bool.true_and] at hk
      cases h : keys.any badK
      · rw [h] at hk; cases hk
      · rfl
    rw [hany] at HCF
    clear hk hany
    unfold cmdC
    go_enter Tryz.func41, Tryz.ntmps41
    go_wp2_with (first | (go_at_call 65; (with_reducible refine (HCF.out _ (by repeat (first | (with_reducible first | exact HB.out | apply below_alloc | apply pw_below_drewN | apply below_drew1) | exact HB.out))).mono ?_); rintro e w1 ⟨rfl, hb⟩; have BX := Aside0.mk (blk_below (g := w.heap.size) (o := .cells #[.string x.verb, .slice A1 x.words.length c1, .bool x.quiet, .int .i64 x.used, .slice A4 x.rest.length c4] 50 (0, 0)) (by repeat (first | exact blk_at_new _ _ _ (by simp; done) | exact blk_at_new _ _ _ rfl | refine blk_alloc ?_ _ | refine blk_drew ?_ | refine blk_drewN ?_ _)) hb); have BC := Aside0.mk (blk_below (g := w.heap.size + 1) (o := .cells (cmdC op 0 ⟨#[]⟩).toArray 40 (0, 0)) (by repeat (first | exact blk_at_new _ _ _ (by simp; done) | exact blk_at_new _ _ _ rfl | refine blk_alloc ?_ _ | refine blk_drew ?_ | refine blk_drewN ?_ _)) hb); have BR := Aside0.mk (blk_below (g := w.heap.size + 1 + 1) (by repeat (first | exact blk_at_new _ _ _ (by simp; done) | exact blk_at_new _ _ _ rfl | refine blk_alloc ?_ _ | refine blk_drew ?_ | refine blk_drewN ?_ _)) hb); have GLT := Aside0.mk (blk_lt BR.out); have HBn := Aside0.mk (below_step (by repeat (first | (with_reducible first | exact HB.out | apply below_alloc | apply pw_below_drewN | apply below_drew1) | exact HB.out)) hb); clear HB; have HB := HBn; clear HBn; clear hb; have t0 : w1.cell? ⟨w.heap.size, 0, none⟩ = some (.string x.verb) := (blk_cell BX.out 0).trans rfl; have t1 : w1.cell? ⟨w.heap.size, 1, none⟩ = some (.slice A1 x.words.length c1) := (blk_cell BX.out 1).trans rfl; have t2 : w1.cell? ⟨w.heap.size, 2, none⟩ = some (.bool x.quiet) := (blk_cell BX.out 2).trans rfl; have t3 : w1.cell? ⟨w.heap.size, 3, none⟩ = some (.int .i64 x.used) := (blk_cell BX.out 3).trans rfl; have t4 : w1.cell? ⟨w.heap.size, 4, none⟩ = some (.slice A4 x.rest.length c4) := (blk_cell BX.out 4).trans rfl; have hx1 : w.heap.size < w1.heap.size := blk_lt BX.out) | (refine wpList_store_K HK.out.now rfl 34 _ _ rfl (w.heap.size + 1 + 1) rfl rfl 34 _ BK.out (by kernel_rfl) rfl ?_; intro w2 hbk hlow hfar; have HK2 := Aside0.mk (hfar _ _ (fun h => absurd (h GLT.out).1 (by omega)) HK.out); clear BK; have BK := Aside0.mk hbk; have HL := Aside0.mk hlow; clear hbk hlow hfar) | go_at_call 18; (with_reducible refine (HO.out _ (by repeat (first | (with_reducible first | exact HB.out | apply below_alloc | apply pw_below_drewN | apply below_drew1) | exact HB.out))).mono ?_); rintro e w1 ⟨⟨cs, rfl, hk⟩, hb⟩; have BK := Aside0.mk (blk_below BR.out hb); have HBn := Aside0.mk (below_step (by repeat (first | (with_reducible first | exact HB.out | apply below_alloc | apply pw_below_drewN | apply below_drew1) | exact HB.out)) hb); clear HB; have HB := HBn; clear HBn; have HK := Aside0.mk hk; clear hb hk)
    ((try simp only [Exit.inBlock, Exit.then]); refine bodyPost_ret (results_cell_row rfl _ _ (w.heap.size + 1 + 1) 34 _ (0, 0) _ rfl BK.out Tryz.underlying34 rfl (by rw [List.size_toArray, kStep.K_len HK.out.now]; kernel_rfl)) rfl ?_)
    exact ⟨⟨_, rfl, HK2.out.mono (fun k hk h3 => (hk (by have := GLT.out; omega)).2)⟩, HB.out.trans (HL.out _ (by omega))⟩
def reqC (V : Value) (verb : ByteArray) (q : Bool) (A : Option Addr) (n c : Nat) : Array Value := #[V, .int .i64 1, .string verb, .int .i64 0, .int .u32 0, .bool false, .bool q, .string ⟨#[]⟩, .slice none 0 0, .slice A n c, .bool false]
def zStepC : Array Value := #[.slice none 0 0, .int .i64 0, .string ⟨#[]⟩, .int .i64 0, .int .u32 0, .bool false, .bool false, .string ⟨#[]⟩, .slice none 0 0, .slice none 0 0, .bool false, .string ⟨#[]⟩, .int .i64 0, .int .i64 0, .bool false, .int .i64 0]
set_option maxRecDepth 100000 in
set_option maxHeartbeats 1000000 in
theorem gets_ok (x : TextinLine) (cx : List Value) (op : Int) (keys : List ByteArray) (A : Option Addr) (c : Nat) (w : World) (hx : kTextinLine.K w x cx) (h0 : keys.length ≠ 0) (hs : ∀ k ∈ keys, k.size ≤ 1000000) (hv : x.verb.size ≤ 1000000)
    (hC : Kd.string.C w A keys.length keys) (hc : keys.length ≤ c) (hk : keysS keys = true) :
    Calls Tryz.prog 41 #[.agg cx.toArray, .agg (cmdC op 0 ⟨#[]⟩).toArray, .slice A keys.length c] w fun e w' => ∃ v, e = .returned (.agg #[v, .int .i64 1, .string x.verb, .int .i64 0, .int .u32 0, .bool false, .bool (Lib.hasSuffix x.verb.data.toList [115]), .string ⟨#[]⟩, .slice none 0 0, .slice A keys.length c, .bool false, .string ⟨#[]⟩, .int .i64 x.used, .int .i64 0, .bool false, .int .i64 0])
      ∧ w'.ownsRow w.heap.size 40 10 v keys.length (rowsC op 0 keys) ∧ Below w.heap.size w w' := by
  have HB := Aside0.mk (Below.refl w.heap.size w)
  have HC := Aside0.mk hC
  obtain ⟨A1, c1, A4, c4, rfl, hl1, hg1, hl4, hg4⟩ := kTextinLine_open hx
  have hl16 : keys.length ≤ 16 := by
    unfold keysS at hk
    rw [Bool.and_eq_true] at hk
    exact of_decide_eq_true hk.1
  have hany : keys.any badK = false := by
    unfold keysS at hk
    rw [Bool.and_eq_true] at hk
    cases h : keys.any badK
    · rfl
    · rw [h] at hk; cases hk.2
  have HCF : Aside0 (∀ w', Below w.heap.size w w' → Calls Tryz.prog 65 #[.slice A keys.length c, .func (.func 66) #[] #[]] w' fun e w'' => e = .returned (.bool (keys.any badK)) ∧ Below w'.heap.size w' w'') := ⟨fun w' hb => cfnS_calls keys A c w' (Kd.C_below HC.out hb) hc (by omega) hs⟩
  have HHS : Aside0 (∀ w', Calls Tryz.prog 68 #[.string x.verb, .string (⟨#[115]⟩ : ByteArray)] w' fun e w'' => e = .returned (.bool (Lib.hasSuffix x.verb.data.toList [115])) ∧ w'' = w') := ⟨fun w' => Tryz.strings_HasSuffix x.verb _ w' (by omega)⟩
  rw [hany] at HCF
  obtain ⟨q, hq⟩ : ∃ q, Lib.hasSuffix x.verb.data.toList [115] = q := ⟨_, rfl⟩
  rw [hq] at HHS ⊢
  clear hx hg1 hg4 hC hs hk hany hq
  have hkn : 0 < (keys.length : Int) := by omega
  unfold cmdC
  go_enter Tryz.func41, Tryz.ntmps41
  go_wp2_with (first | (go_at_call 65; (with_reducible refine (HCF.out _ (by repeat (first | (with_reducible first | exact HB.out | apply below_alloc | apply pw_below_drewN | apply below_drew1) | exact HB.out))).mono ?_); rintro e w1 ⟨rfl, hb⟩; have BX := Aside0.mk (blk_below (g := w.heap.size) (o := .cells #[.string x.verb, .slice A1 x.words.length c1, .bool x.quiet, .int .i64 x.used, .slice A4 x.rest.length c4] 50 (0, 0)) (by repeat (first | exact blk_at_new _ _ _ (by simp; done) | exact blk_at_new _ _ _ rfl | refine blk_alloc ?_ _ | refine blk_drew ?_ | refine blk_drewN ?_ _)) hb); have BC := Aside0.mk (blk_below (g := w.heap.size + 1) (o := .cells (cmdC op 0 ⟨#[]⟩).toArray 40 (0, 0)) (by repeat (first | exact blk_at_new _ _ _ (by simp; done) | exact blk_at_new _ _ _ rfl | refine blk_alloc ?_ _ | refine blk_drew ?_ | refine blk_drewN ?_ _)) hb); have BR := Aside0.mk (blk_below (g := w.heap.size + 1 + 1) (by repeat (first | exact blk_at_new _ _ _ (by simp; done) | exact blk_at_new _ _ _ rfl | refine blk_alloc ?_ _ | refine blk_drew ?_ | refine blk_drewN ?_ _)) hb); have GLT := Aside0.mk (blk_lt BR.out); have HBn := Aside0.mk (below_step (by repeat (first | (with_reducible first | exact HB.out | apply below_alloc | apply pw_below_drewN | apply below_drew1) | exact HB.out)) hb); clear HB; have HB := HBn; clear HBn; clear hb; have t0 : w1.cell? ⟨w.heap.size, 0, none⟩ = some (.string x.verb) := (blk_cell BX.out 0).trans rfl; have t1 : w1.cell? ⟨w.heap.size, 1, none⟩ = some (.slice A1 x.words.length c1) := (blk_cell BX.out 1).trans rfl; have t2 : w1.cell? ⟨w.heap.size, 2, none⟩ = some (.bool x.quiet) := (blk_cell BX.out 2).trans rfl; have t3 : w1.cell? ⟨w.heap.size, 3, none⟩ = some (.int .i64 x.used) := (blk_cell BX.out 3).trans rfl; have t4 : w1.cell? ⟨w.heap.size, 4, none⟩ = some (.slice A4 x.rest.length c4) := (blk_cell BX.out 4).trans rfl; have hx1 : w.heap.size < w1.heap.size := blk_lt BX.out))
  go_region_held3 (fun w' => w'.cell? ⟨w.heap.size, 0, none⟩ = some (.string x.verb)) (go_keep) (first | (go_at_call 68; (with_reducible refine (HHS.out _).mono ?_); rintro e w' ⟨rfl, rfl⟩))
  all_goals
    obtain ⟨W, hW⟩ : ∃ W, (w1.alloc (.cells (reqC (.slice none 0 0) x.verb q A keys.length c) 31 (0, 0))).drew = W := ⟨_, rfl⟩
    have hW2 := hW
    unfold reqC at hW2
    rw [hW2]
    have BQ0 := Aside0.mk (show W.heap[w1.heap.size]? = _ from hW ▸ blk_drew (blk_at_new _ _ _ rfl))
    have BX0 := Aside0.mk (show W.heap[w.heap.size]? = _ from hW ▸ blk_drew (blk_alloc BX.out _))
    have BC0 := Aside0.mk (show W.heap[w.heap.size + 1]? = _ from hW ▸ blk_drew (blk_alloc BC.out _))
    have BR0 := Aside0.mk (show W.heap[w.heap.size + 1 + 1]? = _ from hW ▸ blk_drew (blk_alloc BR.out _))
    have HB0 : Aside0 (Below w.heap.size w W) := ⟨hW ▸ (by repeat (first | (with_reducible first | exact HB.out | apply below_alloc | apply pw_below_drewN | apply below_drew1) | exact HB.out))⟩
    have hgl : w.heap.size + 1 + 1 < w1.heap.size := GLT.out
    clear BX BC BR GLT HB t0 t1 t2 t3 t4 hx1 hW hW2 HCF HHS
    obtain ⟨g, hg⟩ : ∃ g, w1.heap.size = g := ⟨_, rfl⟩
    rw [hg] at BQ0 hgl
    rw [hg]
    clear hg
    go_wp2
    go_loopw [34] (fun v wr => ∃ k : Nat, v = .int .i64 k ∧ k ≤ keys.length ∧ Aside0 (∃ V kk, wr.heap[g]? = some (.cells (reqC V x.verb q A keys.length c) 31 (0, 0)) ∧ wr.heap[w.heap.size + 1]? = some (.cells (cmdC op 0 kk).toArray 40 (0, 0)) ∧ wr.ownsRow (g + 1) 40 10 V k (rowsC op 0 (keys.take k)) ∧ wr.heap[w.heap.size]? = some (.cells #[.string x.verb, .slice A1 x.words.length c1, .bool x.quiet, .int .i64 x.used, .slice A4 x.rest.length c4] 50 (0, 0)) ∧ wr.heap[w.heap.size + 1 + 1]? = some (.cells zStepC 34 (0, 0)) ∧ Below w.heap.size w wr ∧ g < wr.heap.size)) (fun v _ => keys.length - (intOf v).toNat)
    case atStart => exact ⟨0, rfl, by omega, ⟨⟨_, _, BQ0.out, BC0.out, World.ownsRow_nil _ _ _ _, BX0.out, BR0.out, HB0.out, blk_lt BQ0.out⟩⟩⟩
    case round =>
      obtain ⟨k, rfl, hk, HI⟩ := hrel
      obtain ⟨V, kk, hq, hc0, ho, hx0, hr0, hB, hgr⟩ := HI.out
      have BQ := Aside0.mk hq
      have BC := Aside0.mk hc0
      have HOw := Aside0.mk ho
      have BX := Aside0.mk hx0
      have BR := Aside0.mk hr0
      have HB := Aside0.mk hB
      clear hq hc0 ho hx0 hr0 hB HI BQ0 BX0 BC0 BR0 HB0
      by_cases hlt : k < keys.length
      · obtain ⟨b, o, rfl, hb0, hcell⟩ := S_cell (Kd.C_below HC.out HB.out) k hlt
        have htk : keys.take (k + 1) = keys.take k ++ [keys.getD k ⟨#[]⟩] := by
          rw [List.take_succ_eq_append_getElem hlt, List.getD_eq_getElem?_getD, List.getElem?_eq_getElem hlt]; rfl
        obtain ⟨kv, hkv⟩ : ∃ v, keys.getD k ⟨#[]⟩ = v := ⟨_, rfl⟩
        rw [hkv] at hcell htk
        have HTK := Aside0.mk htk
        clear htk hkv
        go_wp2_with (first | (refine wpList_store_1 rfl 9 _ _ rfl (w.heap.size + 1) 1 (.string kv) rfl rfl rfl 40 _ (cmdC op 0 kv).toArray BC.out (by simp [cmdC]) (by kernel_rfl) rfl ?_; intro w2 hbk hst; have BC2 := Aside0.mk hbk; have BQ2 := Aside0.mk (hst.blk BQ.out (by omega)); have BX2 := Aside0.mk (hst.blk BX.out (by omega)); have BR2 := Aside0.mk (hst.blk BR.out (by omega)); have HO2 := Aside0.mk (hst.own HOw.out (by omega)); have HB2 := Aside0.mk (hst.up HB.out (by omega)); have hg2 : g < w2.heap.size := blk_lt BQ2.out; clear hbk hst; have e0 : w2.cell? ⟨g, 0, none⟩ = some V := (blk_cell BQ2.out 0).trans rfl; have d0 : w2.cell? ⟨w.heap.size + 1, 0, none⟩ = some (.int .i64 op) := (blk_cell BC2.out 0).trans rfl; have d1 : w2.cell? ⟨w.heap.size + 1, 1, none⟩ = some (.string kv) := (blk_cell BC2.out 1).trans rfl; have d2 : w2.cell? ⟨w.heap.size + 1, 2, none⟩ = some (.slice none 0 0) := (blk_cell BC2.out 2).trans rfl; have d3 : w2.cell? ⟨w.heap.size + 1, 3, none⟩ = some (.int .u32 0) := (blk_cell BC2.out 3).trans rfl; have d4 : w2.cell? ⟨w.heap.size + 1, 4, none⟩ = some (.int .i64 0) := (blk_cell BC2.out 4).trans rfl; have d5 : w2.cell? ⟨w.heap.size + 1, 5, none⟩ = some (.int .u64 0) := (blk_cell BC2.out 5).trans rfl; have d6 : w2.cell? ⟨w.heap.size + 1, 6, none⟩ = some (.int .u64 0) := (blk_cell BC2.out 6).trans rfl; have d7 : w2.cell? ⟨w.heap.size + 1, 7, none⟩ = some (.int .u64 0) := (blk_cell BC2.out 7).trans rfl; have d8 : w2.cell? ⟨w.heap.size + 1, 8, none⟩ = some (.bool false) := (blk_cell BC2.out 8).trans rfl; have d9 : w2.cell? ⟨w.heap.size + 1, 9, none⟩ = some (.bool false) := (blk_cell BC2.out 9).trans rfl) | ((with_reducible refine gate_builtin (b := .append) (xs := #[.tmp 40, .tmp 42]) rfl ?_); at_builtin; refine print_append_cells (w0 := w2) (W := w2) (g + 1) rfl (.tmp 40) (.tmp 42) 25 40 _ 10 96 rfl Tryz.underlying25 info40 rfl (by decide) (by decide) V k (rowsC op 0 (keys.take k)) (cmdC op 0 kv) rfl rfl rfl (cmdC_one _ _ _) HO2.out (Below.refl _ _) (by omega) (by omega) ?_; intro v1 w3 ho3 hb3 hg3 hat3; have BQ3 := Aside0.mk (blk_grown BQ2.out hg3 (own_apart HO2.out (by omega))); have BX3 := Aside0.mk (blk_grown BX2.out hg3 (own_apart HO2.out (by omega))); have BC3 := Aside0.mk (blk_grown BC2.out hg3 (own_apart HO2.out (by omega))); have BR3 := Aside0.mk (blk_grown BR2.out hg3 (own_apart HO2.out (by omega))); have HO3 := Aside0.mk ho3; have HB3 := Aside0.mk (HB2.out.trans (hb3.mono (by omega))); clear ho3 hb3 hg3 hat3) | (refine wpList_store_1 rfl 25 _ _ rfl g 0 v1 rfl rfl (own_one HO3.out) 31 _ (reqC v1 x.verb q _ keys.length c) BQ3.out (by simp [reqC]) (by kernel_rfl) rfl ?_; intro w4 hbk hst; have BQ4 := Aside0.mk hbk; have BC4 := Aside0.mk (hst.blk BC3.out (by omega)); have BX4 := Aside0.mk (hst.blk BX3.out (by omega)); have BR4 := Aside0.mk (hst.blk BR3.out (by omega)); have HO4 := Aside0.mk (hst.own HO3.out (by omega)); have HB4 := Aside0.mk (hst.up HB3.out (by omega)); clear hbk hst))
        go_round
        case rel => exact ⟨k + 1, by first | rfl | simp, by omega, ⟨⟨v1, kv, BQ4.out, BC4.out, by rw [HTK.out, rowsC_snoc]; exact HO4.out, BX4.out, BR4.out, HB4.out, by have := blk_lt BQ4.out; exact this⟩⟩⟩
        case measure => simp [intOf]; omega
      · have hkl : k = keys.length := by omega
        subst hkl
        have HO1 := HOw.out
        rw [List.take_of_length_le (Nat.le_refl _)] at HO1
        obtain ⟨A', c', rfl, hc', -⟩ := own_C HO1
        have HO2 := Aside0.mk HO1
        clear HO1 HOw
        have e0 : wr.cell? ⟨g, 0, none⟩ = some (.slice A' keys.length c') := (blk_cell BQ.out 0).trans rfl; have e1 : wr.cell? ⟨g, 1, none⟩ = some (.int .i64 1) := (blk_cell BQ.out 1).trans rfl; have e2 : wr.cell? ⟨g, 2, none⟩ = some (.string x.verb) := (blk_cell BQ.out 2).trans rfl; have e3 : wr.cell? ⟨g, 3, none⟩ = some (.int .i64 0) := (blk_cell BQ.out 3).trans rfl; have e4 : wr.cell? ⟨g, 4, none⟩ = some (.int .u32 0) := (blk_cell BQ.out 4).trans rfl; have e5 : wr.cell? ⟨g, 5, none⟩ = some (.bool false) := (blk_cell BQ.out 5).trans rfl; have e6 : wr.cell? ⟨g, 6, none⟩ = some (.bool q) := (blk_cell BQ.out 6).trans rfl; have e7 : wr.cell? ⟨g, 7, none⟩ = some (.string ⟨#[]⟩) := (blk_cell BQ.out 7).trans rfl; have e8 : wr.cell? ⟨g, 8, none⟩ = some (.slice none 0 0) := (blk_cell BQ.out 8).trans rfl; have e9 : wr.cell? ⟨g, 9, none⟩ = some (.slice A keys.length c) := (blk_cell BQ.out 9).trans rfl; have e10 : wr.cell? ⟨g, 10, none⟩ = some (.bool false) := (blk_cell BQ.out 10).trans rfl
        have t3 : wr.cell? ⟨w.heap.size, 3, none⟩ = some (.int .i64 x.used) := (blk_cell BX.out 3).trans rfl
        go_wp2_with (first | (refine wpList_store_F rfl 34 _ _ rfl (w.heap.size + 1 + 1) 0 _ rfl rfl (by simp [Value.oneCell']) 34 _ _ BR.out (by simp [zStepC]) (by kernel_rfl) rfl ?_; intro w5 hbk hst; have BR5 := Aside0.mk hbk; have HO5 := Aside0.mk (hst.own HO2.out (by omega)); have HB5 := Aside0.mk (hst.up HB.out (by omega)); clear hbk hst))
        (try simp only [Exit.inBlock, Exit.then]); refine bodyPost_ret (results_cell_row rfl _ _ (w.heap.size + 1 + 1) 34 _ (0, 0) _ rfl BR5.out Tryz.underlying34 rfl (by kernel_rfl)) rfl ?_
        exact ⟨_, rfl, own_weaken HO5.out (by omega), HB5.out⟩
end Go.Proofs.YtfljijpkeckeaaaGreatDoor.X
