/- Chapter 15's example, and TextoutWords: plain Lean on the printed functions. -/
import Derived.Test.YtkolleohenjhmaaDoorLWords
namespace Go.Proofs.YtkolleohenjhmaaDoor.X
open Go.RowKit Go.Proofs.YtkolleohenjhmaaDoorW.PrintWords Go.Proofs.YtkolleohenjhmaaDoorW.PrintMore
set_option linter.unusedVariables false
set_option linter.unusedSimpArgs false

theorem Ev.bind {α β : Type} {g : Nat → Option α} {f : Nat → α → Option β} {r : α} {q : β} (h : Ev g r) (h2 : Ev (fun k => f k r) q) : Ev (fun k => (g k).bind (f k)) q := by
  obtain ⟨K, hK⟩ := h
  obtain ⟨K2, hK2⟩ := h2
  refine ⟨K + K2, fun k hk => ?_⟩
  show (g k).bind (f k) = _
  rw [hK k (by omega)]
  exact hK2 k (by omega)
theorem Ev.pure {α : Type} {r : α} : Ev (fun _ => some r) r := ⟨0, fun _ _ => rfl⟩
theorem Ev.some {α : Type} {o : Option α} {r : α} (h : o = some r) : Ev (fun _ => o) r := ⟨0, fun _ _ => h⟩
theorem bool_calls {P : Program} {f : Nat} {args : Array Value} {w : World} {g : Nat → Option Bool} (h : Ev g true) (hc : ∀ k r, g k = some r → Calls P f args w fun e w' => e = .returned (.bool r) ∧ Below w.heap.size w w') :
    Calls P f args w fun e w' => e = .returned (.bool true) ∧ Below w.heap.size w w' := by
  obtain ⟨K, hK⟩ := h
  exact hc K true (hK K (Nat.le_refl _))
theorem aw_show1 : showI 1 = (⟨#[49]⟩ : ByteArray) := by
  unfold showI
  rw [show (1 : Int).toNat = 1 from rfl, Lib.decDigits_one (by omega)]
  rfl
theorem aw_show2 : showI 2 = (⟨#[50]⟩ : ByteArray) := by
  unfold showI
  rw [show (2 : Int).toNat = 2 from rfl, Lib.decDigits_one (by omega)]
  rfl
theorem aw_vals : valP false [awC] [awX] ++ bytesOf (lineB [(⟨#[69, 78, 68]⟩ : ByteArray)]) = [86, 65, 76, 85, 69, 32, 97, 32, 49, 32, 50, 13, 10, 120, 121, 13, 10, 69, 78, 68, 13, 10] := by
  show ((bytesOf (lineB ([(⟨#[86, 65, 76, 85, 69]⟩ : ByteArray), (⟨#[97]⟩ : ByteArray), showI 1, showI 2] ++ [])) ++ ([120, 121] ++ bytesOf (⟨#[13, 10]⟩ : ByteArray))) ++ []) ++ bytesOf (lineB [(⟨#[69, 78, 68]⟩ : ByteArray)]) = _
  rw [aw_show1, aw_show2]
  decide
theorem awake_f : Ev (fun k => butterylaw15_awake.f k) true := by
  unfold butterylaw15_awake.f
  refine Ev.bind (g := fun k => textout_Encode.f k [awC] 0 ⟨#[]⟩ 0 0 false false ⟨#[]⟩ [] [] false [awX]) (r := [86, 65, 76, 85, 69, 32, 97, 32, 49, 32, 50, 13, 10, 120, 121, 13, 10, 69, 78, 68, 13, 10]) ⟨1, fun k hk => ?_⟩ ?_
  · obtain ⟨j, rfl⟩ : ∃ j, k = j + 1 := ⟨k - 1, by omega⟩
    have hv : textout_values.f [awC] 0 ⟨#[]⟩ 0 0 false false ⟨#[]⟩ [] [] false [awX] = some [86, 65, 76, 85, 69, 32, 97, 32, 49, 32, 50, 13, 10, 120, 121, 13, 10, 69, 78, 68, 13, 10] := by
      unfold textout_values.f
      rw [if_pos (by decide), aw_vals]
    show ((textout_values.f [awC] 0 ⟨#[]⟩ 0 0 false false ⟨#[]⟩ [] [] false [awX]).bind fun t143 => (some t143)) = _
    rw [hv]
    rfl
  · have e : (strOfNums [86, 65, 76, 85, 69, 32, 97, 32, 49, 32, 50, 13, 10, 120, 121, 13, 10, 69, 78, 68, 13, 10]).toList = ([86, 65, 76, 85, 69, 32, 97, 32, 49, 32, 50, 13, 10, 120, 121, 13, 10, 69, 78, 68, 13, 10] : List UInt8) := by rw [ByteArray.toList_eq]; rfl
    simp only [if_pos e]
    refine Ev.bind (g := fun _ => textout_Word.f 10) (r := (⟨#[79, 75]⟩ : ByteArray)) (Ev.some (by unfold textout_Word.f; rfl)) ?_
    refine Ev.some ?_
    rw [ByteArray.toList_eq]
    rfl
theorem word_f (s : Int) : textout_Word.f s = some (tWord s) := rfl
theorem rword_f (s : Int) : butteryref15_Word.f s = some (tWord s) := by
  by_cases h1 : s = 1
  · subst h1; rfl
  by_cases h2 : s = 2
  · subst h2; rfl
  by_cases h3 : s = 3
  · subst h3; rfl
  by_cases h4 : s = 4
  · subst h4; rfl
  by_cases h5 : s = 5
  · subst h5; rfl
  by_cases h6 : s = 6
  · subst h6; rfl
  by_cases h7 : s = 7
  · subst h7; rfl
  by_cases h8 : s = 8
  · subst h8; rfl
  by_cases h9 : s = 9
  · subst h9; rfl
  by_cases h10 : s = 10
  · subst h10; rfl
  by_cases h11 : s = 11
  · subst h11; rfl
  by_cases h12 : s = 12
  · subst h12; rfl
  simp [butteryref15_Word.f, tWord, h1, h2, h3, h4, h5, h6, h7, h8, h9, h10, h11, h12]
def wNum (w : ByteArray) : Int :=
  if w = (⟨#[78, 79, 84, 95, 70, 79, 85, 78, 68]⟩ : ByteArray) then 1 else if w = (⟨#[83, 84, 79, 82, 69, 68]⟩ : ByteArray) then 2 else if w = (⟨#[78, 79, 84, 95, 83, 84, 79, 82, 69, 68]⟩ : ByteArray) then 3 else if w = (⟨#[69, 88, 73, 83, 84, 83]⟩ : ByteArray) then 4 else if w = (⟨#[68, 69, 76, 69, 84, 69, 68]⟩ : ByteArray) then 5 else if w = (⟨#[84, 79, 85, 67, 72, 69, 68]⟩ : ByteArray) then 6
  else if w = (⟨#[67, 76, 73, 69, 78, 84, 95, 69, 82, 82, 79, 82, 32, 99, 97, 110, 110, 111, 116, 32, 105, 110, 99, 114, 101, 109, 101, 110, 116, 32, 111, 114, 32, 100, 101, 99, 114, 101, 109, 101, 110, 116, 32, 110, 111, 110, 45, 110, 117, 109, 101, 114, 105, 99, 32, 118, 97, 108, 117, 101]⟩ : ByteArray) then 8 else if w = (⟨#[83, 69, 82, 86, 69, 82, 95, 69, 82, 82, 79, 82, 32, 111, 117, 116, 32, 111, 102, 32, 109, 101, 109, 111, 114, 121, 32, 115, 116, 111, 114, 105, 110, 103, 32, 111, 98, 106, 101, 99, 116]⟩ : ByteArray) then 9 else if w = (⟨#[79, 75]⟩ : ByteArray) then 10 else 11
theorem wNum_word (s : Int) (h : tWord s ≠ (⟨#[]⟩ : ByteArray)) : wNum (tWord s) = s := by
  unfold tWord at h ⊢
  repeat' split
  all_goals first
    | (next e => rw [e]; decide)
    | (exfalso; simp_all)
theorem words_f (a b : Int) : Ev (fun k => butterylaw15_TextoutWords.f k a b) true := by
  unfold butterylaw15_TextoutWords.f
  refine Ev.bind awake_f ?_
  refine Ev.bind (g := fun _ => textout_Word.f a) (Ev.some (word_f a)) ?_
  refine Ev.bind (g := fun _ => textout_Word.f b) (Ev.some (word_f b)) ?_
  have fin : Ev (fun _ : Nat => (butteryref15_Word.f a).bind fun t167 => (some (((tWord a).toList == ([] : List UInt8)) == (t167.toList == ([] : List UInt8))))) true := by
    rw [rword_f]
    exact Ev.some (by simp)
  simp only [if_true]
  by_cases h1 : (tWord a).toList = (tWord b).toList
  · simp only [if_pos h1]
    by_cases h2 : (tWord a).toList = ([] : List UInt8)
    · simp only [if_pos h2]
      exact fin
    · simp only [if_neg h2]
      have he : tWord a = tWord b := by
        rw [ByteArray.toList_eq, ByteArray.toList_eq] at h1
        apply ByteArray.ext
        exact Array.toList_inj.1 h1
      have hn : tWord a ≠ (⟨#[]⟩ : ByteArray) := fun e => h2 (by rw [e, ByteArray.toList_eq])
      have hab : a = b := by
        have e1 := wNum_word a hn
        have e2 := wNum_word b (by rw [← he]; exact hn)
        rw [← e1, he, e2]
      simp only [if_pos hab]
      exact fin
  · simp only [if_neg h1]
    exact fin
theorem words_calls (a b : Int) (w : World) (hT : Tabs w) :
    Calls Tryd.prog 7 #[.int .i64 a, .int .i64 b] w fun e w' => e = .returned (.bool true) ∧ Below w.heap.size w w' :=
  bool_calls (words_f a b) (fun k r h => butterylaw15_TextoutWords.calls k a b r w hT h)
end Go.Proofs.YtkolleohenjhmaaDoor.X
