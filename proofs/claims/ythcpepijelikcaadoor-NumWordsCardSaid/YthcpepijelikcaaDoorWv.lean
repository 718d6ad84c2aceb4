/- The law's words: what it computes, as the printed functions take it. -/
import Derived.Test.YthcpepijelikcaaDoorWw
import Derived.Test.YthcpepijelikcaaDoorWMore
namespace Go.Proofs.YthcpepijelikcaaDoor.X
open Go.RowKit Go.Proofs.YthcpepijelikcaaDoorW.PrintWords Go.Proofs.YthcpepijelikcaaDoorW.PrintMore
set_option linter.unusedVariables false
set_option linter.unusedSimpArgs false

def butterylaw01_words.f (s : ByteArray) (most : Int) : Option (List ByteArray) := if s.size ≤ 10000 ∧ most ≤ 9223372036854775807 then some ((wordsB s).take most.toNat) else none
theorem own_ge {w : World} {base : Nat} {e : TypeId} {z : Nat} {v : Value} {n : Nat} {xs : List Value} (h : w.ownsRow base e z v n xs) : ∀ k, v.ownBlock = some k → base ≤ k := fun k hk => by
  rcases h.2 with ⟨rfl, _⟩ | ⟨g, cap, cur, rfl, hb, _⟩
  · simp [Value.ownBlock] at hk
  · have : g = k := by simpa [Value.ownBlock] using hk
    omega
set_option maxRecDepth 100000 in
theorem lwords_none (s : ByteArray) (most : Int) (h : most < 1) (w : World) :
    Calls Tryd.prog 26 #[.string s, .int .i64 most] w fun e W' => e = .returned (.slice none 0 0) ∧ Below w.heap.size w W' := by
  go_enter Tryd.func26, Tryd.ntmps26
  go_wp2
  go_ret
  exact ⟨rfl, (by repeat (first | exact Below.refl _ _ | apply below_drew1 | apply pw_below_drewN | apply below_alloc))⟩
theorem butterylaw01_words.calls (s : ByteArray) (most : Int) (r : List ByteArray) (w : World) (h : butterylaw01_words.f s most = some r) :
    Calls Tryd.prog 26 #[.string s, .int .i64 most] w fun e w' => ∃ v0_ : Value, e = .returned (v0_) ∧ Kd.V Kd.string 9 w' w.heap.size (fun k_ => (w.heap.size ≤ k_)) v0_ r ∧ Below w.heap.size w w' := by
  unfold butterylaw01_words.f at h
  split at h
  · next hn =>
    obtain rfl := Option.some.inj h
    by_cases hm : most < 1
    · refine (lwords_none s most hm w).mono ?_
      rintro e w' ⟨rfl, hb⟩
      refine ⟨_, rfl, ?_, hb⟩
      rw [show most.toNat = 0 by omega, List.take_zero]
      exact Kd.V_nil _ _ _ _ _
    · refine (callsIn_wide.1 (lwords_in 3 (Nat.le_refl _) s hn.1 most (by omega) hn.2 w)).mono ?_
      rintro e w' ⟨v, rfl, hrow, hb⟩
      exact ⟨v, rfl, Kd.R_V (Kd.R_of_own hrow (own_ge hrow)), hb⟩
  · cases h
end Go.Proofs.YthcpepijelikcaaDoor.X
