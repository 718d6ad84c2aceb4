/- NumDecimals: plain Lean on the printed law. -/
import Derived.Test.YthcpepijelikcaaDoorLDecimals
import Derived.Test.YthcpepijelikcaaDoorPBack
import Derived.Test.YthcpepijelikcaaDoorPf2
namespace Go.Proofs.YthcpepijelikcaaDoor.X
open Go.RowKit Go.Proofs.YthcpepijelikcaaDoorW.PrintWords Go.Proofs.YthcpepijelikcaaDoorW.PrintMore
set_option linter.unusedVariables false
set_option linter.unusedSimpArgs false

theorem decimals_f (s : ByteArray) (u : Nat) (hs : s.size ≤ 9223372036854775807) (hu : u < 18446744073709551616) : Ev (fun k => butterylaw01_NumDecimals.f k s u) true := by
  unfold butterylaw01_NumDecimals.f
  refine Ev.bind awake_f ?_
  refine Ev.bind (g := fun _ => num_Decimal.f s) (r := ((decS s).1, (decS s).2)) (Ev.some rfl) ?_
  refine Ev.bind (g := fun k => butteryref01_Decimal.f k s) (rdec_f s) ?_
  refine Ev.bind (g := fun k => num_Signed.f k s) (sgn_f s) ?_
  refine Ev.bind (g := fun k => butteryref01_Signed.f k s) (rsgn_f s hs) ?_
  simp only [if_pos, beq_self_eq_true]
  refine Ev.bind (g := fun _ => num_Show.f u) (Ev.some (show_f u hu)) ?_
  obtain ⟨K, hK⟩ := rShow_f u (by omega) (by omega)
  refine Ev.bind (g := fun k => butteryref01_Show.f k u) (Ev.of (butteryref01_Show.mono u) (k := K) hK) ?_
  exact Ev.some (by rw [beq_self_eq_true])
theorem decimals_calls (s : ByteArray) (n : Int) (w : World) (hs : s.size ≤ 9223372036854775807) (h0 : 0 ≤ n) (h1 : n ≤ 18446744073709551615) (hT : Tabs w) :
    Calls Tryd.prog 7 #[.string s, .int .u64 n] w fun e w' => e = .returned (.bool true) ∧ Below w.heap.size w w' := by
  obtain ⟨u, rfl⟩ : ∃ u : Nat, n = u := ⟨n.toNat, by omega⟩
  exact bool_calls (decimals_f s u hs (by omega)) (fun k r h => butterylaw01_NumDecimals.calls k s u r w hT h)
end Go.Proofs.YthcpepijelikcaaDoor.X
