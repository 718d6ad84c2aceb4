/- The words of a line: plain Lean. -/
import Derived.Test.YthcpepijelikcaaDoorWWords
import Derived.Lib.TrimByte
import Derived.Lib.Bytealg
namespace Go.Proofs.YthcpepijelikcaaDoor.X
set_option linter.unusedVariables false
set_option linter.unusedSimpArgs false

def trimL (l : List UInt8) : List UInt8 := Lib.trimLeftB l 32
def headW (l : List UInt8) : List UInt8 := l.takeWhile (· != 32)
def tailW (l : List UInt8) : List UInt8 := l.drop ((headW l).length + 1)
theorem trimL_len (l : List UInt8) : (trimL l).length ≤ l.length := by
  unfold trimL Lib.trimLeftB
  exact (List.dropWhile_suffix _).length_le
theorem tailW_lt (l : List UInt8) (h : trimL l ≠ []) : (tailW (trimL l)).length < l.length := by
  have h1 := trimL_len l
  have h2 : 0 < (trimL l).length := List.length_pos_iff.2 h
  unfold tailW
  rw [List.length_drop]
  omega
def wordsL (l : List UInt8) : List (List UInt8) := if h : trimL l = [] then [] else headW (trimL l) :: wordsL (tailW (trimL l))
termination_by l.length
decreasing_by exact tailW_lt l h
theorem wordsL_nil (l : List UInt8) (h : trimL l = []) : wordsL l = [] := by rw [wordsL, dif_pos h]
theorem wordsL_cons (l : List UInt8) (h : trimL l ≠ []) : wordsL l = headW (trimL l) :: wordsL (tailW (trimL l)) := by rw [wordsL, dif_neg h]
def baOf (l : List UInt8) : ByteArray := ⟨l.toArray⟩
def wordsB (s : ByteArray) : List ByteArray := (wordsL s.data.toList).map baOf
theorem headW_len (l : List UInt8) : (headW l).length ≤ l.length := by
  unfold headW
  exact (List.takeWhile_sublist _).length_le
theorem idx_none (l : List UInt8) : Lib.indexByte l 32 = -1 → headW l = l ∧ tailW l = [] := by
  have key : Lib.indexByte l 32 = -1 → headW l = l := by
    induction l with
    | nil => intro _; rfl
    | cons b l ih =>
      intro h
      unfold Lib.indexByte at h
      by_cases hb : b = 32
      · simp [hb] at h
      · have hb2 : (b == 32) = false := beq_eq_false_iff_ne.2 hb
        rw [hb2] at h
        by_cases h2 : Lib.indexByte l 32 = -1
        · unfold headW at ih ⊢
          simp [hb, ih h2]
        · exfalso
          have h3 : (Lib.indexByte l 32 == -1) = false := beq_eq_false_iff_ne.2 h2
          rw [h3] at h
          have : Lib.indexByte l 32 + 1 = -1 := by simpa using h
          have hn := idx_ge l
          omega
  intro h
  refine ⟨key h, ?_⟩
  unfold tailW
  rw [key h]
  exact List.drop_eq_nil_of_le (by omega)
where
  idx_ge : ∀ l : List UInt8, -1 ≤ Lib.indexByte l 32
    | [] => by simp [Lib.indexByte]
    | b :: l => by
      have ih := idx_ge l
      unfold Lib.indexByte
      split
      · omega
      · split <;> omega
theorem idx_some (l : List UInt8) : Lib.indexByte l 32 ≠ -1 → Lib.indexByte l 32 = ((headW l).length : Int) ∧ (headW l).length < l.length := by
  induction l with
  | nil => intro h; exact absurd rfl h
  | cons b l ih =>
    intro h
    unfold Lib.indexByte at h ⊢
    by_cases hb : b = 32
    · have hb2 : (b == 32) = true := beq_iff_eq.2 hb
      rw [if_pos hb2]
      unfold headW
      simp [hb]
    · have hb2 : (b == 32) = false := beq_eq_false_iff_ne.2 hb
      rw [hb2] at h ⊢
      by_cases h2 : Lib.indexByte l 32 = -1
      · simp [h2] at h
      · have h3 : (Lib.indexByte l 32 == -1) = false := beq_eq_false_iff_ne.2 h2
        rw [h3]
        obtain ⟨e1, e2⟩ := ih h2
        unfold headW at e1 e2 ⊢
        simp [hb, e1]
        omega
theorem headW_take (l : List UInt8) : l.take (headW l).length = headW l := by
  unfold headW
  have := List.takeWhile_append_dropWhile (p := (· != (32 : UInt8))) (l := l)
  conv => lhs; arg 2; rw [← this]
  rw [List.take_left' rfl]
end Go.Proofs.YthcpepijelikcaaDoor.X
