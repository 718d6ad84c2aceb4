/- NumBack: plain Lean on the printed law. -/
import Derived.Test.YthcpepijelikcaaDoorLBack
import Derived.Test.YthcpepijelikcaaDoorPaw
namespace Go.Proofs.YthcpepijelikcaaDoor.X
open Go.RowKit Go.Proofs.YthcpepijelikcaaDoorW.PrintWords Go.Proofs.YthcpepijelikcaaDoorW.PrintMore
set_option linter.unusedVariables false
set_option linter.unusedSimpArgs false

theorem show_f (u : Nat) (hu : u < 18446744073709551616) : num_Show.f u = some (showI u) := by
  unfold num_Show.f
  rw [if_pos (by omega)]
theorem dec_show (u : Nat) (hu : u < 18446744073709551616) : decS (showI u) = (u, true) := by
  unfold decS showI
  rw [Int.toNat_natCast]
  have hl : (⟨(Lib.decDigits u).toArray⟩ : ByteArray).size = Lib.nDigits u := by
    rw [← Lib.decDigits_length]
    simp [ByteArray.size]
  have h1 : (⟨(Lib.decDigits u).toArray⟩ : ByteArray).data.toList = Lib.decDigits u := rfl
  have h0 : 1 ≤ (Lib.decDigits u).length := by
    have := decDigits_mono u 0 (by omega)
    rw [Lib.decDigits_one (show 0 < 10 by omega)] at this
    exact this
  have h2 : (Lib.decDigits u).length ≤ 20 := by
    have := decDigits_mono 18446744073709551615 u (by omega)
    have e : (Lib.decDigits 18446744073709551615).length = 20 := by decide +kernel
    omega
  rw [Lib.decDigits_length] at h0 h2
  rw [if_neg (by omega), h1, rDecL_dec u hu]
theorem decimal_show (u : Nat) (hu : u < 18446744073709551616) : num_Decimal.f (showI u) = some ((u : Int), true) := by
  unfold num_Decimal.f
  rw [dec_show u hu]
theorem back_f (u : Nat) (hu : u < 18446744073709551616) : Ev (fun k => butterylaw01_NumBack.f k u) true := by
  unfold butterylaw01_NumBack.f
  refine Ev.bind awake_f ?_
  refine Ev.bind (g := fun _ => num_Show.f u) (Ev.some (show_f u hu)) ?_
  refine Ev.bind (g := fun _ => num_Decimal.f _) (Ev.some (decimal_show u hu)) ?_
  simp only [if_pos]
  refine Ev.bind (g := fun k => num_Put64.f k u) (put64_f u) ?_
  have g : ∀ (n k : Nat), k ≤ 8 → Ev (fun K => num_Get.f K (pI n k)) (((n % 256 ^ k % 18446744073709551616 : Nat) : Int)) := fun n k hk => by
    have := get_f (pI n k) (by rw [pI_len]; omega) (pI_bytes k n)
    rw [raw_pI] at this
    exact this
  have e8 : ((u % 256 ^ 8 % 18446744073709551616 : Nat) : Int) = u := by have : 256 ^ 8 = 18446744073709551616 := by decide
                                                                         omega
  refine Ev.bind (g := fun k => num_Get.f k (pI u 8)) (g u 8 (by omega)) ?_
  simp only [if_pos e8]
  have e1 : (u : Int) % 4294967296 = ((u % 4294967296 : Nat) : Int) := by omega
  have e2 : Int.tmod (u : Int) 4294967296 = ((u % 4294967296 : Nat) : Int) := by rw [Int.tmod_eq_emod_of_nonneg (by omega)]; omega
  have e3 : IntKind.u16.wrap (u : Int) = ((u % 65536 : Nat) : Int) := by
    have : IntKind.u16.wrap (u : Int) = (u : Int) % 65536 := by simp [IntKind.wrap, IntKind.bits, IntKind.signed]
    omega
  have e4 : Int.tmod (u : Int) 65536 = ((u % 65536 : Nat) : Int) := by rw [Int.tmod_eq_emod_of_nonneg (by omega)]; omega
  rw [e1, e2, e3, e4]
  refine Ev.bind (g := fun k => num_Put32.f k ((u % 4294967296 : Nat) : Int)) (put32_f _ (by omega)) ?_
  refine Ev.bind (g := fun k => num_Get.f k _) (g _ 4 (by omega)) ?_
  have e5 : ((u % 4294967296 % 256 ^ 4 % 18446744073709551616 : Nat) : Int) = ((u % 4294967296 : Nat) : Int) := by have : 256 ^ 4 = 4294967296 := by decide
                                                                                                                   omega
  simp only [if_pos e5]
  refine Ev.bind (g := fun k => num_Put16.f k ((u % 65536 : Nat) : Int)) (put16_f _ (by omega)) ?_
  refine Ev.bind (g := fun k => num_Get.f k _) (g _ 2 (by omega)) ?_
  refine Ev.some ?_
  have e6 : ((u % 65536 % 256 ^ 2 % 18446744073709551616 : Nat) : Int) = ((u % 65536 : Nat) : Int) := by have : 256 ^ 2 = 65536 := by decide
                                                                                                         omega
  rw [e6, beq_self_eq_true]
theorem back_calls (n : Int) (w : World) (h0 : 0 ≤ n) (h1 : n ≤ 18446744073709551615) (hT : Tabs w) :
    Calls Tryd.prog 6 #[.int .u64 n] w fun e w' => e = .returned (.bool true) ∧ Below w.heap.size w w' := by
  obtain ⟨u, rfl⟩ : ∃ u : Nat, n = u := ⟨n.toNat, by omega⟩
  exact bool_calls (back_f u (by omega)) (fun k r h => butterylaw01_NumBack.calls k u r w hT h)
end Go.Proofs.YthcpepijelikcaaDoor.X
