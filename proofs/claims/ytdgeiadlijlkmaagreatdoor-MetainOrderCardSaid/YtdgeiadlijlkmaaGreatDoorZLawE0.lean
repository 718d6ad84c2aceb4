/- What the laws over a line's text share. -/
import Derived.Test.YtdgeiadlijlkmaaGreatDoorZ4
namespace Go.Proofs.YtdgeiadlijlkmaaGreatDoor.X
open Go.RowKit Go.Proofs.YtdgeiadlijlkmaaGreatDoorW.PrintWords Go.Proofs.YtdgeiadlijlkmaaGreatDoorW.PrintMore Go.Proofs.YtdgeiadlijlkmaaGreatDoorW.PrintLast
set_option linter.unusedVariables false
set_option linter.unusedSimpArgs false
theorem bytes_app (s : ByteArray) (l : List UInt8) : bytesOf (s ++ ⟨l.toArray⟩) = numsL s.data.toList ++ numsL l := by
  have e : (s ++ ⟨l.toArray⟩ : ByteArray).data.toList = s.data.toList ++ l := by simp
  unfold bytesOf numsL
  rw [e, List.map_append]
theorem size_app (s t : ByteArray) : (s ++ t).size = s.size + t.size := ByteArray.size_append
/-- No byte ends a line among the first ones. -/
def CleanB (s : ByteArray) (k : Nat) : Prop := ∀ j (h : j < s.size), j < k → s[j] ≠ 10 ∧ s[j] ≠ 13
theorem clean_nl {s : ByteArray} (h : CleanB s s.size) : NoNl s.data.toList := fun b hb => by
  obtain ⟨j, hj, rfl⟩ := List.mem_iff_getElem.1 hb
  exact h j hj hj
theorem clean_step {s : ByteArray} {k : Nat} (h : CleanB s k) (hk : k < s.size) (h1 : ¬ (s[k].toNat : Int) = 10) (h2 : ¬ (s[k].toNat : Int) = 13) : CleanB s (k + 1) := fun j hj hjk => by
  by_cases e : j = k
  · subst e
    exact ⟨fun e => h1 (by rw [e]; rfl), fun e => h2 (by rw [e]; rfl)⟩
  · exact h j hj (by omega)
end Go.Proofs.YtdgeiadlijlkmaaGreatDoor.X
