/- NumOrders: plain Lean on the printed law. -/
import Derived.Test.YthcpepijelikcaaDoorLOrders
import Derived.Test.YthcpepijelikcaaDoorPBack
namespace Go.Proofs.YthcpepijelikcaaDoor.X
open Go.RowKit Go.Proofs.YthcpepijelikcaaDoorW.PrintWords Go.Proofs.YthcpepijelikcaaDoorW.PrintMore
set_option linter.unusedVariables false
set_option linter.unusedSimpArgs false

theorem put_less (a b : Nat) (ha : a < 18446744073709551616) (hb : b < 18446744073709551616) : Op.bytesLess (strOfNums (pI a 8)).toList (strOfNums (pI b 8)).toList = decide (a < b) := by
  have e : ∀ n : Nat, (strOfNums (pI n 8)).toList = putB n 8 := fun n => by
    rw [ByteArray.toList_eq]
    exact pI_putB 8 n
  have e8 : (256 : Nat) ^ 8 = 18446744073709551616 := by decide
  rw [e, e, Go.Proofs.bytesLess_eq, Bool.eq_iff_iff, decide_eq_true_eq, decide_eq_true_eq]
  exact putB_lt 8 a b (by omega) (by omega)
theorem orders_f (a b : Nat) (ha : a < 18446744073709551616) (hb : b < 18446744073709551616) : Ev (fun k => butterylaw01_NumOrders.f k a b) true := by
  unfold butterylaw01_NumOrders.f
  refine Ev.bind awake_f ?_
  refine Ev.bind (g := fun k => num_Put64.f k a) (put64_f a) ?_
  refine Ev.bind (g := fun k => num_Put64.f k b) (put64_f b) ?_
  have e : (decide ((a : Int) < b) == decide (a < b)) = true := by
    rw [beq_iff_eq, Bool.eq_iff_iff, decide_eq_true_eq, decide_eq_true_eq]
    omega
  simp only [if_pos, put_less a b ha hb, e]
  by_cases h : (a : Int) > b
  · simp only [if_pos h]
    exact Ev.pure
  · simp only [if_neg h]
    refine Ev.bind (g := fun _ => num_Show.f a) (Ev.some (show_f a ha)) ?_
    refine Ev.bind (g := fun _ => num_Show.f b) (Ev.some (show_f b hb)) ?_
    refine Ev.some ?_
    have hs : ∀ n : Nat, (showI n).size = (Lib.decDigits n).length := fun n => by simp [showI, ByteArray.size]
    rw [hs, hs]
    have := decDigits_mono b a (by omega)
    exact congrArg some (decide_eq_true (by omega))
theorem orders_calls (m n : Int) (w : World) (m0 : 0 ≤ m) (m1 : m ≤ 18446744073709551615) (h0 : 0 ≤ n) (h1 : n ≤ 18446744073709551615) (hT : Tabs w) :
    Calls Tryd.prog 3 #[.int .u64 m, .int .u64 n] w fun e w' => e = .returned (.bool true) ∧ Below w.heap.size w w' := by
  obtain ⟨a, rfl⟩ : ∃ u : Nat, m = u := ⟨m.toNat, by omega⟩
  obtain ⟨b, rfl⟩ : ∃ u : Nat, n = u := ⟨n.toNat, by omega⟩
  exact bool_calls (orders_f a b (by omega) (by omega)) (fun k r h => butterylaw01_NumOrders.calls k a b r w hT h)
end Go.Proofs.YthcpepijelikcaaDoor.X
