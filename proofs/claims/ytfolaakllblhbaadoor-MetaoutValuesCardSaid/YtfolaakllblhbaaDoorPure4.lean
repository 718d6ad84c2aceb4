/- What the answer of the meta dialect says, as 'MetaoutSilent' asks it: plain Lean. -/
import Derived.Test.YtfolaakllblhbaaDoorMeta4
namespace Go.Proofs.YtfolaakllblhbaaDoor.X
open Go.RowKit Go.Proofs.YtfolaakllblhbaaDoorW.PrintWords
set_option linter.unusedVariables false
set_option linter.unusedSimpArgs false

theorem mTail_nil4 (q : Request) (x : Result) : mTail q x = (⟨#[]⟩ : ByteArray) ↔ mWord x.status = (⟨#[]⟩ : ByteArray) := by
  unfold mTail
  split
  · next h =>
    constructor
    · intro h2
      have := congrArg ByteArray.size h2
      rw [ByteArray.size_append] at this
      have h3 : (mWord x.status).size ≠ 0 := by
        rcases h with h | h | h | h | h | h | h | h <;> rw [h] <;> decide
      exact absurd this (by show ¬ (_ + _ = 0); omega)
    · intro h2
      exfalso
      rcases h with h | h | h | h | h | h | h | h <;> rw [h] at h2 <;> exact absurd (congrArg ByteArray.size h2) (by decide)
  · exact Iff.rfl
def crlf : ByteArray := (⟨#[13, 10]⟩ : ByteArray)
theorem strOfNums_bytesOf (s : ByteArray) : strOfNums (bytesOf s) = s := by
  obtain ⟨⟨l⟩⟩ := s
  show (⟨((bytesOf ⟨⟨l⟩⟩).map _).toArray⟩ : ByteArray) = _
  unfold bytesOf
  simp only [List.map_map]
  congr 2
  conv => rhs; rw [← List.map_id l]
  apply List.map_congr_left
  intro b _
  simp
theorem mWord_some {s : Int} (h : ¬ mWord s = (⟨#[]⟩ : ByteArray)) : 0 < (mWord s).size := by
  unfold mWord at h ⊢
  repeat' split
  all_goals first | decide | (exfalso; simp_all)
/-- The law's 'silent'. -/
def lawSilent (op s : Int) : Bool := (mWord s == (⟨#[72, 68]⟩ : ByteArray) && !(op == 12)) || (s == 1 && ((op == 12 || op == 8) || op == 9))
theorem mSilent_law (op s : Int) : (mSilent op s = true → mWord s = (⟨#[]⟩ : ByteArray) ∨ lawSilent op s = true) ∧ (lawSilent op s = true → mSilent op s = true) := by
  have hd : mGood s = true → (mWord s == (⟨#[72, 68]⟩ : ByteArray)) = true := fun h => by
    unfold mGood at h
    unfold mWord
    rw [if_pos (of_decide_eq_true h)]
    decide
  have hg : (mWord s == (⟨#[72, 68]⟩ : ByteArray)) = true → mGood s = true := fun h => by
    unfold mGood
    unfold mWord at h
    split at h
    · exact decide_eq_true (by assumption)
    · exfalso
      revert h
      repeat' split
      all_goals decide
  unfold mSilent lawSilent
  refine ⟨fun h => Or.inr ?_, fun h => ?_⟩
  · split at h
    · simp_all
    · split at h <;> simp_all
      all_goals (rcases h with h | h <;> simp_all)
  · by_cases h1 : op = 12
    · simp_all
    · rw [if_neg h1]
      by_cases h2 : op = 8 ∨ op = 9
      · rw [if_pos h2]
        simp_all
        rcases h with h | h <;> simp_all
      · rw [if_neg h2]
        simp_all
theorem mOne_says (q : Request) (op : Int) (x : Result) :
    (mWord x.status = (⟨#[]⟩ : ByteArray) → mOne q op x = []) ∧ ((q.form.quiet && lawSilent op x.status) = true → mOne q op x = []) ∧
    (¬ mWord x.status = (⟨#[]⟩ : ByteArray) → (q.form.quiet && lawSilent op x.status) = false → ∃ p : ByteArray, 0 < p.size ∧ mOne q op x = bytesOf (p ++ crlf)) := by
  have hsl := mSilent_law op x.status
  refine ⟨fun h => ?_, fun h => ?_, fun h h2 => ?_⟩
  · have h0 : ¬ (x.status = 0 ∨ x.status = 2 ∨ x.status = 5 ∨ x.status = 6 ∨ x.status = 7) := fun hc => by
      unfold mWord at h; rw [if_pos hc] at h; exact absurd h (by decide)
    have h1 : ¬ x.status = 1 := fun hc => by
      unfold mWord at h; rw [if_neg h0, if_pos hc] at h; exact absurd h (by decide)
    unfold mOne
    split
    · rfl
    · rw [if_neg (fun hc => h1 hc.2), if_neg (fun hc => h0 (by rcases hc.1 with a | a <;> simp [a])), if_pos ((mTail_nil4 q x).2 h)]
  · unfold mOne
    rw [if_pos]
    rw [Bool.and_eq_true] at h ⊢
    exact ⟨h.1, hsl.2 h.2⟩
  · unfold mOne
    rw [if_neg]
    · split
      · exact ⟨(⟨#[69, 78]⟩ : ByteArray), by decide, by rfl⟩
      · split
        · refine ⟨(⟨#[86, 65, 32]⟩ : ByteArray) ++ showI (mValue x).size ++ mFlags q x ++ (⟨#[13, 10]⟩ : ByteArray) ++ mValue x, ?_, rfl⟩
          simp only [ByteArray.size_append]
          show 0 < 3 + _ + _ + 2 + _
          omega
        · rw [if_neg (fun hc => h ((mTail_nil4 q x).1 hc))]
          refine ⟨mTail q x, ?_, rfl⟩
          have := mWord_some h
          unfold mTail
          split
          · rw [ByteArray.size_append]; omega
          · exact this
    · intro hc
      rw [Bool.and_eq_true] at hc
      rw [Bool.and_eq_false_iff] at h2
      rcases h2 with h2 | h2
      · rw [h2] at hc; exact absurd hc.1 (by decide)
      · rcases hsl.1 hc.2 with h3 | h3
        · exact h h3
        · rw [h2] at h3; exact absurd h3 (by decide)
theorem list_beq (a : ByteArray) (l : List UInt8) : (a.toList == l) = (a == ⟨l.toArray⟩) := by
  rw [ByteArray.toList_eq]
  obtain ⟨⟨k⟩⟩ := a
  rw [Bool.eq_iff_iff, bs_beq]
  simp
theorem crlf_list : (crlf.toList == [13, 10]) = true := by rw [list_beq, bs_beq]; rfl
theorem ends_crlf (p : ByteArray) : (p ++ crlf).extract p.size (p.size + 2) = crlf := by
  obtain ⟨⟨l⟩⟩ := p
  apply ByteArray.ext
  have e : (⟨⟨l⟩⟩ : ByteArray).size = l.length := by simp [ByteArray.size]
  simp [ByteArray.data_extract, ByteArray.data_append, crlf, e]
end Go.Proofs.YtfolaakllblhbaaDoor.X
