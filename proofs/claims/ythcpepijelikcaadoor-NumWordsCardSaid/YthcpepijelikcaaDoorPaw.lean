/- Chapter 01's example says yes. -/
import Derived.Test.YthcpepijelikcaaDoorAw
import Derived.Test.YthcpepijelikcaaDoorPf1
namespace Go.Proofs.YthcpepijelikcaaDoor.X
open Go.RowKit Go.Proofs.YthcpepijelikcaaDoorW.PrintWords Go.Proofs.YthcpepijelikcaaDoorW.PrintMore
set_option linter.unusedVariables false
set_option linter.unusedSimpArgs false

theorem dec_007 : decS (⟨#[48, 48, 55]⟩ : ByteArray) = (7, true) := by decide +kernel
theorem dec_big : decS (⟨#[49, 56, 52, 52, 54, 55, 52, 52, 48, 55, 51, 55, 48, 57, 53, 53, 49, 54, 49, 54]⟩ : ByteArray) = (0, false) := by decide +kernel
theorem dec_nil : decS (⟨#[]⟩ : ByteArray) = (0, false) := by decide +kernel
theorem show_10 : num_Show.f 10 = some (⟨#[49, 48]⟩ : ByteArray) := by
  have e : showI 10 = (⟨#[49, 48]⟩ : ByteArray) := by
    unfold showI
    rw [show (10 : Int).toNat = 10 from rfl, Lib.decDigits_two (by omega) (by omega)]
    rfl
  unfold num_Show.f
  rw [if_pos (by omega), e]
theorem awake_f : Ev (fun k => butterylaw01_awake.f k) true := by
  unfold butterylaw01_awake.f
  refine Ev.bind (g := fun _ => num_Decimal.f _) (Ev.some (r := (7, true)) (by unfold num_Decimal.f; rw [dec_007]; rfl)) ?_
  refine Ev.bind (g := fun _ => num_Decimal.f _) (Ev.some (r := (0, false)) (by unfold num_Decimal.f; rw [dec_big]; rfl)) ?_
  refine Ev.bind (g := fun _ => num_Decimal.f _) (Ev.some (r := (0, false)) (by unfold num_Decimal.f; rw [dec_nil]; rfl)) ?_
  refine Ev.bind (g := fun k => num_Put16.f k 258) (r := pI 258 2) (put16_f 258 (by omega)) ?_
  have e : (strOfNums (pI 258 2)).toList = ([1, 2] : List UInt8) := by rw [ByteArray.toList_eq]; rfl
  simp only [if_pos e]
  refine Ev.bind (g := fun _ => num_Show.f 10) (Ev.some show_10) ?_
  refine Ev.some ?_
  rw [ByteArray.toList_eq]
  rfl
theorem bool_calls {P : Program} {f : Nat} {args : Array Value} {w : World} {g : Nat → Option Bool} (h : Ev g true) (hc : ∀ k r, g k = some r → Calls P f args w fun e w' => e = .returned (.bool r) ∧ Below w.heap.size w w') :
    Calls P f args w fun e w' => e = .returned (.bool true) ∧ Below w.heap.size w w' := by
  obtain ⟨K, hK⟩ := h
  exact hc K true (hK K (Nat.le_refl _))
end Go.Proofs.YthcpepijelikcaaDoor.X
