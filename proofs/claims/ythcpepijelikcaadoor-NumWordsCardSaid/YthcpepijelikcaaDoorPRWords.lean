/- The reference's words are the words of a line: plain Lean on the printed function. -/
import Derived.Test.YthcpepijelikcaaDoorLRWords
import Derived.Test.YthcpepijelikcaaDoorPJoins
namespace Go.Proofs.YthcpepijelikcaaDoor.X
open Go.RowKit Go.Proofs.YthcpepijelikcaaDoorW.PrintWords Go.Proofs.YthcpepijelikcaaDoorW.PrintMore
set_option linter.unusedVariables false
set_option linter.unusedSimpArgs false

theorem bt_l (s : ByteArray) (j : Nat) (h : j < s.data.toList.length) : bt s (j : Nat) = ((s.data.toList[j]).toNat : Int) := by
  have h2 : j < s.size := h
  rw [← bt_at s j (by simpa using h2)]
  rfl
theorem headW_stop (m : List UInt8) (h : (headW m).length < m.length) : m[(headW m).length] = 32 := by
  induction m with
  | nil => simp at h
  | cons b m ih =>
    by_cases hb : b = 32
    · subst hb
      simp [headW]
    · have e : headW (b :: m) = b :: headW m := by unfold headW; simp [hb]
      have h2 : (headW m).length < m.length := by rw [e] at h; simpa using h
      have := ih h2
      simp only [e, List.length_cons, List.getElem_cons_succ]
      exact this
theorem headW_in (m : List UInt8) (i : Nat) (h : i < (headW m).length) : m[i]'(by have := headW_len m; omega) ≠ 32 := by
  have h1 := headW_ne m (headW m)[i] (List.getElem_mem _)
  have h2 : (headW m)[i] = m[i]'(by have := headW_len m; omega) := by
    have e := headW_take m
    have h3 : (m.take (headW m).length)[i]? = (headW m)[i]? := by rw [e]
    rw [List.getElem?_take_of_lt h, List.getElem?_eq_getElem h, List.getElem?_eq_getElem (by have := headW_len m; omega)] at h3
    exact (Option.some.inj h3).symm
  rw [← h2]
  exact h1
theorem wordsL_blank (r : List UInt8) : wordsL (32 :: r) = wordsL r := by
  have e : trimL (32 :: r) = trimL r := by unfold trimL Lib.trimLeftB; simp
  by_cases h : trimL r = []
  · rw [wordsL_nil _ h, wordsL_nil _ (by rw [e]; exact h)]
  · rw [wordsL_cons _ h, wordsL_cons _ (by rw [e]; exact h), e]
theorem wordsL_step (m : List UInt8) (hm : m ≠ []) : wordsL m = (if 0 < (headW m).length then [headW m] else []) ++ wordsL (tailW m) := by
  obtain ⟨b, r, rfl⟩ := List.exists_cons_of_ne_nil hm
  by_cases hb : b = 32
  · subst hb
    have e : headW (32 :: r) = [] := by simp [headW]
    have e2 : tailW (32 :: r) = r := by unfold tailW; rw [e]; rfl
    rw [wordsL_blank, e, e2]
    simp
  · have e : headW (b :: r) = b :: headW r := by unfold headW; simp [hb]
    have ht := trimL_head b r hb
    rw [wordsL_cons _ (by rw [ht]; simp), ht, if_pos (by rw [e]; simp)]
    rfl
section
variable (s : ByteArray) (hs : s.size ≤ 5000)
include hs
theorem rl1 (i : Nat) (acc r : List ByteArray) (hi : i ≤ s.size) (h : Nat) (hh : (headW (s.data.toList.drop i)).length = h) (ha : acc.length ≤ 5000)
    (hres : Ev (fun k => if 0 < h then butteryref01_Words.l0 k s (acc ++ [s.extract i (i + h)]) ((i + h + 1 : Nat) : Int) else butteryref01_Words.l0 k s acc ((i + h + 1 : Nat) : Int)) r) :
    ∀ (d j : Nat), j + d = i + h → i ≤ j → Ev (fun k => butteryref01_Words.l1 k s acc i j) r
  | 0, j, hd, hij => by
    have hm : s.data.toList.length = s.size := rfl
    have hle := headW_len (s.data.toList.drop i)
    rw [hh, List.length_drop] at hle
    obtain rfl : j = i + h := by omega
    refine Ev.step (fun k => by rw [butteryref01_Words.l1]) ?_
    have hw : wrap64 (((i + h : Nat) : Int) + 1) = ((i + h + 1 : Nat) : Int) := by rw [w64j _ (by omega) (by omega)]; omega
    have tl : Ev (fun k => (if ((i + h : Nat) : Int) > (i : Int) then (if 0 ≤ (i : Int) then (if (i : Int) ≤ ((i + h : Nat) : Int) then (if ((i + h : Nat) : Int) ≤ (s.size : Int) then (if acc.length < 8796093022208 then (butteryref01_Words.l0 k s (acc ++ [s.extract (i : Int).toNat ((i + h : Nat) : Int).toNat]) (wrap64 (((i + h : Nat) : Int) + 1))) else (none)) else (none)) else (none)) else (none)) else (butteryref01_Words.l0 k s acc (wrap64 (((i + h : Nat) : Int) + 1))))) r := by
      rw [hw, Int.toNat_natCast, Int.toNat_natCast]
      by_cases h0 : 0 < h
      · simp only [if_pos h0] at hres
        exact Ev.pos (by omega) (Ev.pos (by omega) (Ev.pos (by omega) (Ev.pos (by omega) (Ev.pos (by omega) hres))))
      · simp only [if_neg h0] at hres
        exact Ev.neg (by omega) hres
    by_cases hlt : i + h < s.size
    · refine Ev.pos (by omega) (Ev.pos (by omega) (Ev.pos ?_ tl))
      rw [bt_l s (i + h) (by omega)]
      have h3 := headW_stop (s.data.toList.drop i) (by rw [hh, List.length_drop]; omega)
      rw [List.getElem_drop] at h3
      have h4 : s.data.toList[i + h]'(by omega) = 32 := by
        rw [← h3]
        congr 1
        rw [hh]
      rw [h4]
      rfl
    · exact Ev.neg (by omega) tl
  | d + 1, j, hd, hij => by
    have hm : s.data.toList.length = s.size := rfl
    have hle := headW_len (s.data.toList.drop i)
    rw [hh, List.length_drop] at hle
    refine Ev.step (fun k => by rw [butteryref01_Words.l1]) ?_
    refine Ev.pos (by omega) (Ev.pos (by omega) (Ev.neg ?_ ?_))
    · rw [bt_l s j (by omega)]
      have h3 := headW_in (s.data.toList.drop i) (j - i) (by rw [hh]; omega)
      rw [List.getElem_drop] at h3
      have h4 : s.data.toList[j]'(by omega) ≠ 32 := fun e => h3 (by
        rw [← e]
        congr 1
        omega)
      intro e
      apply h4
      apply UInt8.toNat_inj.1
      have : ((s.data.toList[j]'(by omega)).toNat : Int) = 32 := e
      show (s.data.toList[j]'(by omega)).toNat = 32
      omega
    · rw [w64j _ (by omega) (by omega)]
      exact rl1 i acc r hi h hh ha hres d (j + 1) (by omega) (by omega)
theorem rl0 : ∀ (d i : Nat) (acc : List ByteArray), s.size + 1 - i ≤ d → i ≤ s.size + 1 → acc.length ≤ i → Ev (fun k => butteryref01_Words.l0 k s acc i) (acc ++ (wordsL (s.data.toList.drop i)).map baOf)
  | 0, i, acc, hd, hi, ha => by
    refine Ev.step (fun k => by rw [butteryref01_Words.l0]) (Ev.neg (by omega) ?_)
    have hm : s.data.toList.length = s.size := rfl
    rw [List.drop_eq_nil_of_le (by omega), wordsL_nil _ rfl]
    exact ev_to (Ev.now _) (by simp)
  | d + 1, i, acc, hd, hi, ha => by
    have hm : s.data.toList.length = s.size := rfl
    refine Ev.step (fun k => by rw [butteryref01_Words.l0]) ?_
    by_cases hlt : i < s.size
    · refine Ev.pos (by omega) ?_
      obtain ⟨h, hh⟩ : ∃ h, (headW (s.data.toList.drop i)).length = h := ⟨_, rfl⟩
      have hle := headW_len (s.data.toList.drop i)
      rw [hh, List.length_drop] at hle
      refine rl1 s hs i acc _ (by omega) h hh (by omega) ?_ h i (by omega) (Nat.le_refl _)
      have hst := wordsL_step (s.data.toList.drop i) (fun e => by
        have := congrArg List.length e
        rw [List.length_drop, List.length_nil] at this
        omega)
      have ht : tailW (s.data.toList.drop i) = s.data.toList.drop (i + h + 1) := by
        unfold tailW
        rw [hh, List.drop_drop]
        rfl
      rw [hh, ht] at hst
      by_cases h0 : 0 < h
      · simp only [if_pos h0] at hst ⊢
        refine ev_to (rl0 d (i + h + 1) _ (by omega) (by omega) (by rw [List.length_append, List.length_cons, List.length_nil]; omega)) ?_
        rw [hst]
        have e : s.extract i (i + h) = baOf (headW (s.data.toList.drop i)) := by
          rw [← headW_take, hh]
          obtain ⟨⟨l⟩⟩ := s
          apply ByteArray.ext
          simp [ByteArray.data_extract, baOf]
        rw [e]
        simp
      · simp only [if_neg h0] at hst ⊢
        refine ev_to (rl0 d (i + h + 1) _ (by omega) (by omega) (by omega)) ?_
        rw [hst]
        rfl
    · refine Ev.neg (by omega) ?_
      rw [List.drop_eq_nil_of_le (by omega), wordsL_nil _ rfl]
      exact ev_to (Ev.now _) (by simp)
theorem rwords_ev : Ev (fun k => butteryref01_Words.f k s) (wordsB s) := by
  unfold butteryref01_Words.f
  exact ev_to (rl0 s hs (s.size + 1) 0 [] (by omega) (by omega) (by simp)) (by simp [wordsB])
end
def RS (w : World) (l : List ByteArray) (e : Ending) (w' : World) : Prop := ∃ A c, e = .returned (.slice A l.length c) ∧ l.length ≤ c ∧ Kd.string.C w' A l.length l ∧ Below w.heap.size w w'
theorem rwords_w (s : ByteArray) (hs : s.size ≤ 5000) (w : World) : Calls Tryd.prog 24 #[.string s] w (RS w (wordsB s)) := by
  obtain ⟨K, hK⟩ := rwords_ev s hs
  refine (butteryref01_Words.calls K s _ w (hK K (Nat.le_refl _))).mono ?_
  rintro e w' ⟨v, rfl, hR, hb⟩
  obtain ⟨A, c, rfl, hl, hC⟩ := Kd.R_reads hR
  exact ⟨A, c, rfl, hl, hC, hb⟩
theorem lwords_w (s : ByteArray) (hs : s.size ≤ 10000) (most : Int) (hm : most ≤ 9223372036854775807) (w : World) : Calls Tryd.prog 26 #[.string s, .int .i64 most] w (RS w ((wordsB s).take most.toNat)) := by
  refine (butterylaw01_words.calls s most _ w (by unfold butterylaw01_words.f; rw [if_pos ⟨hs, hm⟩])).mono ?_
  rintro e w' ⟨v, rfl, ⟨A, c, rfl, hl, hf⟩, hb⟩
  exact ⟨A, c, rfl, hl, Kd.F_now hf, hb⟩
theorem same_w (a b : List ByteArray) (e : a = b) (n m : Nat) (hn : a.length = n) (hm2 : b.length = m) (hm : a.length ≤ 100000) (A B : Option Addr) (c d : Nat) (w : World) (hA : Kd.string.C w A a.length a) (hc : a.length ≤ c) (hB : Kd.string.C w B b.length b) (hd : b.length ≤ d) :
    Calls Tryd.prog 25 #[.slice A n c, .slice B m d] w fun e w' => e = .returned (.bool true) ∧ Below w.heap.size w w' := by
  subst hn; subst hm2; subst e
  obtain ⟨K, hK⟩ := same_ev a hm
  exact (butterylaw01_same.calls K A c a B d a true w hA hc hB hd (hK K (Nat.le_refl _))).mono fun e w' ⟨he, hd⟩ => ⟨he, hd.below⟩
end Go.Proofs.YthcpepijelikcaaDoor.X
