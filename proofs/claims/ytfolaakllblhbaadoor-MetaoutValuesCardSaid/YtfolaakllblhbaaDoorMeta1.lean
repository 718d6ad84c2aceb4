/- Package metaout, first part: what a status is called, what a result has, what a letter tells. -/
import Derived.Test.YtfolaakllblhbaaDoorShow
namespace Go.Proofs.YtfolaakllblhbaaDoor.X
open Go.RowKit Go.Proofs.YtfolaakllblhbaaDoorW.PrintWords
set_option linter.unusedVariables false
set_option linter.unusedSimpArgs false

def mWord (s : Int) : ByteArray :=
  if s = 0 ∨ s = 2 ∨ s = 5 ∨ s = 6 ∨ s = 7 then (⟨#[72, 68]⟩ : ByteArray) else if s = 1 then (⟨#[78, 70]⟩ : ByteArray) else if s = 3 then (⟨#[78, 83]⟩ : ByteArray) else if s = 4 then (⟨#[69, 88]⟩ : ByteArray) else if s = 10 then (⟨#[77, 78]⟩ : ByteArray)
  else if s = 8 then (⟨#[67, 76, 73, 69, 78, 84, 95, 69, 82, 82, 79, 82, 32, 99, 97, 110, 110, 111, 116, 32, 105, 110, 99, 114, 101, 109, 101, 110, 116, 32, 111, 114, 32, 100, 101, 99, 114, 101, 109, 101, 110, 116, 32, 110, 111, 110, 45, 110, 117, 109, 101, 114, 105, 99, 32, 118, 97, 108, 117, 101]⟩ : ByteArray) else if s = 9 then (⟨#[83, 69, 82, 86, 69, 82, 95, 69, 82, 82, 79, 82, 32, 111, 117, 116, 32, 111, 102, 32, 109, 101, 109, 111, 114, 121, 32, 115, 116, 111, 114, 105, 110, 103, 32, 111, 98, 106, 101, 99, 116]⟩ : ByteArray) else (⟨#[]⟩ : ByteArray)
set_option maxRecDepth 100000 in
theorem mWord_calls (s : Int) (w : World) : Calls Tryd.prog 14 #[.int .i64 s] w fun e w' => e = .returned (.string (mWord s)) ∧ w = w' := by
  go_enter Tryd.func14, Tryd.ntmps14
  go_wp2
  all_goals go_ret
  all_goals exact ⟨by simp_all [mWord], rfl⟩
def mGood (s : Int) : Bool := decide (s = 0 ∨ s = 2 ∨ s = 5 ∨ s = 6 ∨ s = 7)
set_option maxRecDepth 100000 in
theorem mGood_calls (s : Int) (w : World) : Calls Tryd.prog 28 #[.int .i64 s] w fun e w' => e = .returned (.bool (mGood s)) ∧ w = w' := by
  go_enter Tryd.func28, Tryd.ntmps28
  go_wp2_with (go_at_call 14; (with_reducible refine (mWord_calls s _).mono ?_); rintro e w1 ⟨rfl, rfl⟩)
  go_ret
  refine ⟨?_, rfl⟩
  unfold mWord mGood
  repeat' split
  all_goals simp_all
def mSilent (op s : Int) : Bool := if op = 12 then s == 1 else if op = 8 ∨ op = 9 then mGood s || s == 1 else mGood s
set_option maxRecDepth 100000 in
theorem mSilent_calls (op s : Int) (w : World) : Calls Tryd.prog 18 #[.int .i64 op, .int .i64 s] w fun e w' => e = .returned (.bool (mSilent op s)) ∧ w = w' := by
  cases hg : mGood s
  all_goals
    have HG := Aside0.mk hg
    clear hg
    go_enter Tryd.func18, Tryd.ntmps18
    go_wp2_with (go_at_call 28; (with_reducible refine (mGood_calls s _).mono ?_); rintro e w1 ⟨rfl, rfl⟩; rw [HG.out])
    all_goals go_ret
    all_goals exact ⟨by have hg := HG.out; simp_all [mSilent], rfl⟩
def mValue (x : Result) : ByteArray := if x.status = 7 then showI x.number else strOfNums x.value
set_option maxRecDepth 100000 in
theorem mValue_calls (x : Result) (cx : List Value) (w : World) (hx : kResult.K w x cx) (hw : x.Wf) (hT : Tabs w) :
    Calls Tryd.prog 19 #[.agg cx.toArray] w fun e w' => e = .returned (.string (mValue x)) ∧ Below w.heap.size w w' := by
  obtain ⟨A, c, rfl, hl, hC⟩ := kResult_open hx
  have h5 := hw.number
  obtain ⟨f0, f1, f2, f3, f4, f5, f6, f7, f8⟩ := x
  have HT := Aside0.mk hT; have HC := Aside0.mk hC; have HB := Aside0.mk (Below.refl w.heap.size w)
  clear hT hC hx hw hl
  go_enter Tryd.func19, Tryd.ntmps19
  go_wp2_with (first | (go_at_call 21; (with_reducible refine (show_calls _ _ (h5.1) (h5.2) (Tabs.below HT.out (by repeat (first | (with_reducible first | exact HB.out | apply below_alloc | apply pw_below_drewN | apply below_drew1) | exact HB.out)))).mono ?_); rintro e w1 ⟨rfl, hb⟩; have HBn := Aside0.mk (below_step (by repeat (first | (with_reducible first | exact HB.out | apply below_alloc | apply pw_below_drewN | apply below_drew1) | exact HB.out)) hb); clear HB; have HB := HBn; clear HBn) | ((with_reducible refine gate_dst (N := 11) rfl ?_); refine wp_strof rfl _ _ _ _ rfl _ _ _ _ rfl Tryd.underlying30 Tryd.underlying5 Tryd.underlying9 (Kd.C_below HC.out (by repeat (first | (with_reducible first | exact HB.out | apply below_alloc | apply pw_below_drewN | apply below_drew1) | exact HB.out))) ?_))
  all_goals go_ret
  all_goals exact ⟨by simp_all [mValue], (by repeat (first | (with_reducible first | exact HB.out | apply below_alloc | apply pw_below_drewN | apply below_drew1) | exact HB.out))⟩
def atS (l : List ByteArray) (i : Int) : ByteArray := l.getD i.toNat (⟨#[]⟩ : ByteArray)
set_option maxRecDepth 100000 in
theorem atS_calls (l : List ByteArray) (A : Option Addr) (c : Nat) (i : Int) (w : World) (hl : l.length ≤ c) (hC : Kd.string.C w A l.length l) (h0 : 0 ≤ i) :
    Calls Tryd.prog 31 #[.slice A l.length c, .int .i64 i] w fun e w' => e = .returned (.string (atS l i)) ∧ w = w' := by
  have hm := hC.2.1
  by_cases hi : i < (l.length : Int)
  · obtain ⟨ad, cs, rfl, _, hK, hcell⟩ := Kd.C_get hC (⟨#[]⟩ : ByteArray) i h0 hi
    obtain rfl := hK
    have hc := hcell 0 _ rfl
    rw [show i.toNat * Kd.string.sz + 0 = i.toNat by show i.toNat * 1 + 0 = _; omega] at hc
    clear hcell hC
    go_enter Tryd.func31, Tryd.ntmps31
    go_wp2
    go_ret
    exact ⟨by simp [atS, List.getD_eq_getElem?_getD, List.getElem?_eq_getElem (show i.toNat < l.length by omega)], rfl⟩
  · clear hC
    go_enter Tryd.func31, Tryd.ntmps31
    go_wp2
    go_ret
    exact ⟨by unfold atS; rw [List.getD_eq_getElem?_getD, List.getElem?_eq_none (by omega)]; rfl, rfl⟩
end Go.Proofs.YtfolaakllblhbaaDoor.X
