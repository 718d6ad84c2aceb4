/- TextoutSilent: plain Lean on the printed law. -/
import Derived.Test.YtkolleohenjhmaaDoorLSilent
import Derived.Test.YtkolleohenjhmaaDoorPWords
import Derived.Test.YtkolleohenjhmaaDoorOpensK
import Derived.Test.YtkolleohenjhmaaDoorRNum
namespace Go.Proofs.YtkolleohenjhmaaDoor.X
open Go.RowKit Go.Proofs.YtkolleohenjhmaaDoorW.PrintWords Go.Proofs.YtkolleohenjhmaaDoorW.PrintMore
set_option linter.unusedVariables false
set_option linter.unusedSimpArgs false

def crlf : ByteArray := (⟨#[13, 10]⟩ : ByteArray)
theorem strOfNums_app (a b : List Int) : strOfNums (a ++ b) = strOfNums a ++ strOfNums b := by
  apply ByteArray.ext
  apply Array.toList_inj.1
  rw [ByteArray.data_append, Array.toList_append]
  unfold strOfNums
  simp
theorem strOfNums_bytesOf (s : ByteArray) : strOfNums (bytesOf s) = s := by
  obtain ⟨⟨l⟩⟩ := s
  show (⟨((bytesOf ⟨⟨l⟩⟩).map _).toArray⟩ : ByteArray) = _
  unfold bytesOf
  simp only [List.map_map]
  congr 2
  conv => rhs; rw [← List.map_id l]
  apply List.map_congr_left
  intro b _
  simp
theorem rdR_mem {l : List S40} {x : S40} (h : x ∈ l) : ∃ j : Nat, j < l.length ∧ rd_T40 l (j : Nat) = x := by
  obtain ⟨j, hj, rfl⟩ := List.mem_iff_getElem.1 h
  refine ⟨j, hj, ?_⟩
  unfold rd_T40
  rw [Int.toNat_natCast, List.getD_eq_getElem?_getD, List.getElem?_eq_getElem hj]
  rfl
theorem rdC_mem {l : List S38} {x : S38} (h : x ∈ l) : ∃ j : Nat, j < l.length ∧ rd_T38 l (j : Nat) = x := by
  obtain ⟨j, hj, rfl⟩ := List.mem_iff_getElem.1 h
  refine ⟨j, hj, ?_⟩
  unfold rd_T38
  rw [Int.toNat_natCast, List.getD_eq_getElem?_getD, List.getElem?_eq_getElem hj]
  rfl
section
variable (l0 : List S38) (a1 : Int) (a2 : ByteArray) (a3 a4 : Int) (a5 a6 : Bool) (a7 : ByteArray) (l8 l9 : List ByteArray) (a10 : Bool) (l1 : List S40)
def FewP (b : Bool) : Prop := b = true → l0.length ≤ 40 ∧ l1.length ≤ 40 ∧ (∀ c ∈ l0, c.f1.size ≤ 300) ∧ ∀ x ∈ l1, x.f1.length ≤ 2000
theorem few_l2 (h0 : l0.length ≤ 40) (h1 : l1.length ≤ 40) (hc : ∀ c ∈ l0, c.f1.size ≤ 300) : ∀ (d i : Nat), i + d = l1.length → (∀ j : Nat, j < i → (rd_T40 l1 (j : Nat)).f1.length ≤ 2000) → ∃ K b, butterylaw15_Few.l2 K l1 i = some b ∧ FewP l0 l1 b
  | 0, i, hd, ha => by
    refine ⟨1, true, ?_, fun _ => ⟨h0, h1, hc, fun x hx => ?_⟩⟩
    · unfold butterylaw15_Few.l2
      rw [if_neg (by omega)]
    · obtain ⟨j, hj, rfl⟩ := rdR_mem hx
      exact ha j (by omega)
  | d + 1, i, hd, ha => by
    by_cases hb : ((rd_T40 l1 (i : Nat)).f1.length : Int) > 2000
    · refine ⟨1, false, ?_, fun h => by cases h⟩
      unfold butterylaw15_Few.l2
      rw [if_pos (by omega), if_pos (by omega), if_pos hb]
    · obtain ⟨K, b, hK, h2⟩ := few_l2 h0 h1 hc d (i + 1) (by omega) (fun j hj => by
        rcases Nat.lt_or_ge j i with h | h
        · exact ha j h
        · obtain rfl : j = i := by omega
          omega)
      refine ⟨K + 1, b, ?_, h2⟩
      unfold butterylaw15_Few.l2
      rw [if_pos (by omega), if_pos (by omega), if_neg hb, w64 _ (by omega) (by omega)]
      exact hK
theorem few_l1 (h0 : l0.length ≤ 40) (h1 : l1.length ≤ 40) : ∀ (d i : Nat), i + d = l0.length → (∀ j : Nat, j < i → (rd_T38 l0 (j : Nat)).f1.size ≤ 300) → ∃ K b, butterylaw15_Few.l1 K l1 i l0 a1 a2 a3 a4 a5 a6 a7 l8 l9 a10 = some b ∧ FewP l0 l1 b
  | 0, i, hd, ha => by
    obtain ⟨K, b, hK, h2⟩ := few_l2 l0 l1 h0 h1 (fun c hc => by
      obtain ⟨j, hj, rfl⟩ := rdC_mem hc
      exact ha j (by omega)) l1.length 0 (by omega) (fun j hj => by omega)
    refine ⟨K + 1, b, ?_, h2⟩
    unfold butterylaw15_Few.l1
    rw [if_neg (by omega)]
    exact hK
  | d + 1, i, hd, ha => by
    by_cases hb : ((rd_T38 l0 (i : Nat)).f1.size : Int) > 300
    · refine ⟨1, false, ?_, fun h => by cases h⟩
      unfold butterylaw15_Few.l1
      rw [if_pos (by omega), if_pos (by omega), if_pos hb]
    · obtain ⟨K, b, hK, h2⟩ := few_l1 h0 h1 d (i + 1) (by omega) (fun j hj => by
        rcases Nat.lt_or_ge j i with h | h
        · exact ha j h
        · obtain rfl : j = i := by omega
          omega)
      refine ⟨K + 1, b, ?_, h2⟩
      unfold butterylaw15_Few.l1
      rw [if_pos (by omega), if_pos (by omega), if_neg hb, w64 _ (by omega) (by omega)]
      exact hK
theorem few_l0 (h0 : l0.length ≤ 40) (h1 : l1.length ≤ 40) (h8 : l8.length ≤ 100) : ∀ (d i : Nat), i + d = l8.length → ∃ K b, butterylaw15_Few.l0 K l1 i l0 a1 a2 a3 a4 a5 a6 a7 l8 l9 a10 = some b ∧ FewP l0 l1 b
  | 0, i, hd => by
    obtain ⟨K, b, hK, h2⟩ := few_l1 l0 a1 a2 a3 a4 a5 a6 a7 l8 l9 a10 l1 h0 h1 l0.length 0 (by omega) (fun j hj => by omega)
    refine ⟨K + 1, b, ?_, h2⟩
    unfold butterylaw15_Few.l0
    rw [if_neg (by omega)]
    exact hK
  | d + 1, i, hd => by
    by_cases hb : ((rdOf ByteArray.empty l8 (i : Nat)).size : Int) > 300
    · refine ⟨1, false, ?_, fun h => by cases h⟩
      unfold butterylaw15_Few.l0
      rw [if_pos (by omega), if_pos (by omega), if_pos hb]
    · obtain ⟨K, b, hK, h2⟩ := few_l0 h0 h1 h8 d (i + 1) (by omega)
      refine ⟨K + 1, b, ?_, h2⟩
      unfold butterylaw15_Few.l0
      rw [if_pos (by omega), if_pos (by omega), if_neg hb, w64 _ (by omega) (by omega)]
      exact hK
theorem few_f : ∃ b, Ev (fun k => butterylaw15_Few.f k l0 a1 a2 a3 a4 a5 a6 a7 l8 l9 a10 l1) b ∧ FewP l0 l1 b := by
  have hm := butterylaw15_Few.mono l0 a1 a2 a3 a4 a5 a6 a7 l8 l9 a10 l1
  have no : FewP l0 l1 false := fun h => by cases h
  by_cases h0 : (l0.length : Int) > 40
  · refine ⟨false, Ev.of hm (k := 1) ?_, no⟩
    show butterylaw15_Few.f 1 l0 a1 a2 a3 a4 a5 a6 a7 l8 l9 a10 l1 = _
    unfold butterylaw15_Few.f
    rw [if_pos h0]
    rfl
  · by_cases h1 : (l1.length : Int) > 40
    · refine ⟨false, Ev.of hm (k := 1) ?_, no⟩
      show butterylaw15_Few.f 1 l0 a1 a2 a3 a4 a5 a6 a7 l8 l9 a10 l1 = _
      unfold butterylaw15_Few.f
      rw [if_neg h0, if_pos h1]
      rfl
    · by_cases h7 : (a7.size : Int) > 100
      · refine ⟨false, Ev.of hm (k := 1) ?_, no⟩
        show butterylaw15_Few.f 1 l0 a1 a2 a3 a4 a5 a6 a7 l8 l9 a10 l1 = _
        unfold butterylaw15_Few.f
        rw [if_neg h0, if_neg h1, if_pos h7]
        rfl
      · by_cases h8 : (l8.length : Int) > 100
        · refine ⟨false, Ev.of hm (k := 1) ?_, no⟩
          show butterylaw15_Few.f 1 l0 a1 a2 a3 a4 a5 a6 a7 l8 l9 a10 l1 = _
          unfold butterylaw15_Few.f
          rw [if_neg h0, if_neg h1, if_neg h7, decide_eq_true h8]
          rfl
        · obtain ⟨K, b, hK, h2⟩ := few_l0 l0 a1 a2 a3 a4 a5 a6 a7 l8 l9 a10 l1 (by omega) (by omega) (by omega) l8.length 0 (by omega)
          refine ⟨b, Ev.of hm (k := K + 1) ?_, h2⟩
          show butterylaw15_Few.f (K + 1) l0 a1 a2 a3 a4 a5 a6 a7 l8 l9 a10 l1 = _
          unfold butterylaw15_Few.f
          rw [if_neg h0, if_neg h1, if_neg h7, decide_eq_false h8]
          show butterylaw15_Few.l0 K l1 0 l0 a1 a2 a3 a4 a5 a6 a7 l8 l9 a10 = _
          exact hK
def encI : List Int :=
  match l0, l1 with
  | [], _ => []
  | c :: cs, l1 => if c.f0 = 0 ∨ c.f0 = 1 then valP a6 (c :: cs) l1 ++ bytesOf (lineB [(⟨#[69, 78, 68]⟩ : ByteArray)]) else if c.f0 = 16 then [] else if a5 = true then [] else match l1 with
    | [] => []
    | x :: _ => oneI x.f0 x.f5
end
theorem encI_cons (c : S38) (cs : List S38) (a5 a6 : Bool) (l1 : List S40) : encI (c :: cs) a5 a6 l1 =
    if c.f0 = 0 ∨ c.f0 = 1 then valP a6 (c :: cs) l1 ++ bytesOf (lineB [(⟨#[69, 78, 68]⟩ : ByteArray)]) else if c.f0 = 16 then [] else if a5 = true then [] else match l1 with
    | [] => []
    | x :: _ => oneI x.f0 x.f5 := rfl
theorem enc_f (c : S38) (cs : List S38) (a1 : Int) (a2 : ByteArray) (a3 a4 : Int) (a5 a6 : Bool) (a7 : ByteArray) (l8 l9 : List ByteArray) (a10 : Bool) (l1 : List S40) (hok : okV (c :: cs) l1 = true) (h5 : ∀ x ∈ l1, 0 ≤ x.f5 ∧ x.f5 ≤ 18446744073709551615) :
    Ev (fun k => textout_Encode.f k (c :: cs) a1 a2 a3 a4 a5 a6 a7 l8 l9 a10 l1) (encI (c :: cs) a5 a6 l1) := by
  have hm := textout_Encode.mono (c :: cs) a1 a2 a3 a4 a5 a6 a7 l8 l9 a10 l1
  have hv : textout_values.f (c :: cs) a1 a2 a3 a4 a5 a6 a7 l8 l9 a10 l1 = some (valP a6 (c :: cs) l1 ++ bytesOf (lineB [(⟨#[69, 78, 68]⟩ : ByteArray)])) := by
    unfold textout_values.f
    rw [if_pos hok]
  have hl : ((c :: cs).length : Int) = ((cs.length + 1 : Nat) : Int) := rfl
  have hr : rd_T38 (c :: cs) 0 = c := rfl
  refine Ev.of hm (k := 1) ?_
  show textout_Encode.f 1 (c :: cs) a1 a2 a3 a4 a5 a6 a7 l8 l9 a10 l1 = _
  unfold textout_Encode.f
  rw [encI_cons]
  rw [if_neg (by omega), if_pos (by omega), hr]
  by_cases e0 : c.f0 = 0
  · rw [if_pos e0, if_pos (Or.inl e0), beq_iff_eq.2 e0]
    show ((textout_values.f (c :: cs) a1 a2 a3 a4 a5 a6 a7 l8 l9 a10 l1).bind fun t143 => (some t143)) = _
    rw [hv]
    rfl
  · rw [if_neg e0]
    by_cases e1 : c.f0 = 1
    · rw [if_pos (Or.inr e1), beq_iff_eq.2 e1]
      show ((textout_values.f (c :: cs) a1 a2 a3 a4 a5 a6 a7 l8 l9 a10 l1).bind fun t143 => (some t143)) = _
      rw [hv]
      rfl
    · rw [if_neg (fun h => h.elim e0 e1), beq_eq_false_iff_ne.2 e1]
      show (if c.f0 = 16 then (some ([] : List Int)) else (if a5 = true then (some ([] : List Int)) else (if (l1.length : Int) = 0 then (some ([] : List Int)) else (if 0 < (l1.length : Int) then ((textout_one.f ((rd_T40 l1 0).f0) ((rd_T40 l1 0).f1) ((rd_T40 l1 0).f2) ((rd_T40 l1 0).f3) ((rd_T40 l1 0).f4) ((rd_T40 l1 0).f5) ((rd_T40 l1 0).f6) ((rd_T40 l1 0).f7) ((rd_T40 l1 0).f8)).bind fun t147 => (some t147)) else (none))))) = _
      by_cases e16 : c.f0 = 16
      · rw [if_pos e16, if_pos e16]
      · rw [if_neg e16, if_neg e16]
        cases a5
        · rw [if_neg (by decide : ¬ (false = true)), if_neg (by decide : ¬ (false = true))]
          cases l1 with
          | nil => rfl
          | cons x xs =>
            have hx := h5 x (by simp)
            have h1 : textout_one.f x.f0 x.f1 x.f2 x.f3 x.f4 x.f5 x.f6 x.f7 x.f8 = some (oneI x.f0 x.f5) := by
              unfold textout_one.f
              rw [if_pos hx]
            have hl1 : ((x :: xs).length : Int) = ((xs.length + 1 : Nat) : Int) := rfl
            have hr1 : rd_T40 (x :: xs) 0 = x := rfl
            rw [if_neg (by omega), if_pos (by omega), hr1, h1]
            rfl
        · rw [if_pos rfl, if_pos rfl]
theorem line_end (ws : List ByteArray) (L : List Int) (h : 0 < (joinB ws).size) : ∃ p : ByteArray, 0 < p.size ∧ strOfNums (L ++ bytesOf (lineB ws)) = p ++ crlf := by
  refine ⟨strOfNums L ++ joinB ws, ?_, ?_⟩
  · rw [ByteArray.size_append]; omega
  · rw [strOfNums_app, strOfNums_bytesOf]
    unfold lineB crlf
    rw [ByteArray.append_assoc]
theorem joinB_one (s : ByteArray) : joinB [s] = s := by
  unfold joinB
  rw [List.map_cons, List.map_nil, Lib.join_one]
theorem one_ends (s n : Int) (h : s = 7 ∨ (1 ≤ s ∧ s ≤ 11)) : ∃ p : ByteArray, 0 < p.size ∧ strOfNums (oneI s n) = p ++ crlf := by
  have hs : 0 < (showI n).size := by
    rcases Nat.eq_zero_or_pos (showI n).size with h0 | h0
    · exfalso
      have h1 := show_ne n
      have h2 : showI n = ⟨#[]⟩ := by
        apply ByteArray.ext
        exact Array.eq_empty_of_size_eq_zero h0
      rw [(bs_nil _).2 h2] at h1
      cases h1
    · exact h0
  unfold oneI
  by_cases h7 : s = 7
  · rw [if_pos h7]
    exact line_end [showI n] [] (by rw [joinB_one]; exact hs)
  · rw [if_neg h7]
    have hw : 0 < (tWord s).size := by
      unfold tWord
      repeat' split
      all_goals first | decide | (exfalso; omega)
    rw [if_neg (fun e => by rw [e] at hw; exact absurd hw (by decide))]
    exact line_end [tWord s] [] (by rw [joinB_one]; exact hw)
theorem one_none (s n : Int) (h : ¬ (s = 7 ∨ (1 ≤ s ∧ s ≤ 11))) : oneI s n = [] := by
  unfold oneI
  rw [if_neg (fun e => h (Or.inl e)), if_pos]
  unfold tWord
  rw [if_neg (by omega), if_neg (by omega), if_neg (by omega), if_neg (by omega), if_neg (by omega), if_neg (by omega), if_neg (by omega), if_neg (by omega), if_neg (by omega), if_neg (by omega)]
theorem ends_eq (B p : ByteArray) (hp : 0 < p.size) (h : B = p ++ crlf) (hb : B.size ≤ 9223372036854775807) :
    (if (B.size : Int) > 2 then (if 0 ≤ (wrap64 ((B.size : Int) - 2)) then (if (wrap64 ((B.size : Int) - 2)) ≤ (B.size : Int) then (some ((B.extract ((wrap64 ((B.size : Int) - 2)) : Int).toNat B.size).toList == ([13, 10] : List UInt8))) else (none)) else (none)) else (some false)) = some true := by
  have hs : B.size = p.size + 2 := by rw [h, ByteArray.size_append]; rfl
  have e : wrap64 ((B.size : Int) - 2) = (p.size : Int) := by rw [w64 _ (by omega) (by omega)]; omega
  rw [if_pos (by omega), e, if_pos (by omega), if_pos (by omega), Int.toNat_natCast, hs, h]
  have hx : (p ++ crlf).extract p.size (p.size + 2) = crlf := by
    obtain ⟨⟨l⟩⟩ := p
    apply ByteArray.ext
    have e2 : (⟨⟨l⟩⟩ : ByteArray).size = l.length := by simp [ByteArray.size]
    simp [ByteArray.data_extract, ByteArray.data_append, crlf, e2]
  rw [hx, ByteArray.toList_eq]
  rfl
theorem bytesOf_len (s : ByteArray) : (bytesOf s).length = s.size := by
  unfold bytesOf
  rw [List.length_map]
  rfl
theorem strOfNums_size (l : List Int) : (strOfNums l).size = l.length := by
  unfold strOfNums
  simp [ByteArray.size]
theorem valP_len (cas : Bool) : ∀ (l0 : List S38) (l1 : List S40), (∀ c ∈ l0, c.f1.size ≤ 3000) → (∀ x ∈ l1, x.f1.length ≤ 3000 ∧ 0 ≤ x.f2 ∧ x.f2 ≤ 4294967295 ∧ 0 ≤ x.f3 ∧ x.f3 ≤ 18446744073709551615) → (valP cas l0 l1).length ≤ l1.length * 60000
  | [], l1, _, _ => by
    have : valP cas [] l1 = [] := by cases l1 <;> rfl
    rw [this]
    exact Nat.zero_le _
  | _ :: _, [], _, _ => Nat.zero_le _
  | c :: cs, x :: xs, hc, hx => by
    have ih := valP_len cas cs xs (fun d hd => hc d (by simp [hd])) (fun d hd => hx d (by simp [hd]))
    have h1 : (if x.f0 = 0 then pieceI cas c x else []).length ≤ 60000 := by
      split
      · have h2 := lineB_size _ (wordsOf_ok cas c x (hc c (by simp)) (hx x (by simp)))
        have h3 := (hx x (by simp)).1
        have h4 : (⟨#[13, 10]⟩ : ByteArray).size = 2 := rfl
        unfold pieceI
        rw [List.length_append, List.length_append, bytesOf_len, bytesOf_len, h4]
        omega
      · exact Nat.zero_le _
    rw [show valP cas (c :: cs) (x :: xs) = (if x.f0 = 0 then pieceI cas c x else []) ++ valP cas cs xs from rfl, List.length_append, List.length_cons]
    omega
theorem one_len (s n : Int) (hn : n ≤ 18446744073709551615) : (oneI s n).length ≤ 60000 := by
  unfold oneI
  split
  · rw [bytesOf_len]
    have h1 := showI_size n hn
    have h2 := lineB_size [showI n] (by unfold okW; simp; omega)
    omega
  · split
    · exact Nat.zero_le _
    · rw [bytesOf_len]
      have h1 : (tWord s).size ≤ 4000 := by
        unfold tWord
        repeat' split
        all_goals decide
      have h2 := lineB_size [tWord s] (by unfold okW; simp; omega)
      omega
def EndsB (B : ByteArray) : Prop := ∃ p : ByteArray, 0 < p.size ∧ B = p ++ crlf
theorem j2_f (k : Nat) (l1 : List S40) (B : ByteArray) (asks y : Bool) (hb : B.size ≤ 9223372036854775807) (hy : y = true → B = ⟨#[]⟩)
    (hn : y = false → 0 < l1.length ∧ (asks = true → EndsB B) ∧ (asks = false → ((rd_T40 l1 0).f0 = 7 ∨ (1 ≤ (rd_T40 l1 0).f0 ∧ (rd_T40 l1 0).f0 ≤ 11)) → EndsB B) ∧
      (asks = false → ¬ ((rd_T40 l1 0).f0 = 7 ∨ (1 ≤ (rd_T40 l1 0).f0 ∧ (rd_T40 l1 0).f0 ≤ 11)) → B = ⟨#[]⟩)) :
    butterylaw15_TextoutSilent.j2 (k + 1) l1 B asks y = some true := by
  rw [butterylaw15_TextoutSilent.j2]
  have nil : B = ⟨#[]⟩ → (some (B.toList == ([] : List UInt8))) = some true := fun h => by
    rw [h, ByteArray.toList_eq]
    rfl
  cases y with
  | true =>
    rw [if_pos rfl]
    exact nil (hy rfl)
  | false =>
    obtain ⟨h0, ha, hs, hz⟩ := hn rfl
    rw [if_neg (by decide), if_pos (by omega)]
    cases asks with
    | true =>
      rw [if_pos rfl]
      obtain ⟨p, hp, e⟩ := ha rfl
      exact ends_eq B p hp e hb
    | false =>
      rw [if_neg (by decide)]
      by_cases e7 : (rd_T40 l1 0).f0 = 7
      · rw [if_pos e7]
        obtain ⟨p, hp, e⟩ := hs rfl (Or.inl e7)
        exact ends_eq B p hp e hb
      · rw [if_neg e7]
        by_cases e1 : (rd_T40 l1 0).f0 ≥ 1
        · rw [if_pos e1]
          by_cases e11 : (rd_T40 l1 0).f0 ≤ 11
          · rw [if_pos e11]
            obtain ⟨p, hp, e⟩ := hs rfl (Or.inr ⟨e1, e11⟩)
            exact ends_eq B p hp e hb
          · rw [if_neg e11]
            exact nil (hz rfl (fun h => h.elim e7 (fun h => e11 h.2)))
        · rw [if_neg e1]
          exact nil (hz rfl (fun h => h.elim e7 (fun h => e1 h.1)))
section
variable (c : S38) (cs : List S38) (a1 : Int) (a2 : ByteArray) (a3 a4 : Int) (a5 a6 : Bool) (a7 : ByteArray) (l8 l9 : List ByteArray) (a10 : Bool) (x : S40) (xs : List S40)
theorem j1_f (k : Nat) (B : ByteArray) (asks : Bool) (hJ : butterylaw15_TextoutSilent.j2 (k + 1) (x :: xs) B asks (if a5 = true ∧ asks = false then true else (c.f0 == 16)) = some true) :
    butterylaw15_TextoutSilent.j1 (k + 2) (x :: xs) B asks (c :: cs) a1 a2 a3 a4 a5 a6 a7 l8 l9 a10 = some true := by
  rw [butterylaw15_TextoutSilent.j1]
  have hl : 0 < ((c :: cs).length : Int) := by rw [List.length_cons]; omega
  rw [show rd_T38 (c :: cs) 0 = c from rfl]
  cases a5 with
  | false =>
    rw [if_neg (by simp)] at hJ
    rw [if_neg (by decide), if_pos hl]
    exact hJ
  | true =>
    cases asks with
    | true =>
      rw [if_neg (by simp)] at hJ
      rw [if_pos rfl, if_pos rfl, if_pos hl]
      exact hJ
    | false =>
      rw [if_pos ⟨rfl, rfl⟩] at hJ
      rw [if_pos rfl, if_neg (by decide)]
      exact hJ
theorem silent_fin (k : Nat) (asks : Bool) (ha : asks = true ↔ (c.f0 = 0 ∨ c.f0 = 1)) (hok : okV (c :: cs) (x :: xs) = true) (h5 : x.f5 ≤ 18446744073709551615) :
    butterylaw15_TextoutSilent.j1 (k + 2) (x :: xs) (strOfNums (encI (c :: cs) a5 a6 (x :: xs))) asks (c :: cs) a1 a2 a3 a4 a5 a6 a7 l8 l9 a10 = some true := by
  obtain ⟨o1, o2, o3⟩ := okV_at hok
  have e1 : asks = true → encI (c :: cs) a5 a6 (x :: xs) = valP a6 (c :: cs) (x :: xs) ++ bytesOf (lineB [(⟨#[69, 78, 68]⟩ : ByteArray)]) := fun h => by
    rw [encI_cons]
    rw [if_pos (ha.1 h)]
  have na : asks = false → ¬ (c.f0 = 0 ∨ c.f0 = 1) := fun h h2 => by
    rw [ha.2 h2] at h
    cases h
  have e2 : asks = false → c.f0 = 16 → encI (c :: cs) a5 a6 (x :: xs) = [] := fun h h2 => by
    rw [encI_cons]
    rw [if_neg (na h), if_pos h2]
  have e3 : asks = false → c.f0 ≠ 16 → a5 = true → encI (c :: cs) a5 a6 (x :: xs) = [] := fun h h2 h3 => by
    rw [encI_cons]
    rw [if_neg (na h), if_neg h2, if_pos h3]
  have e4 : asks = false → c.f0 ≠ 16 → a5 = false → encI (c :: cs) a5 a6 (x :: xs) = oneI x.f0 x.f5 := fun h h2 h3 => by
    rw [encI_cons]
    rw [if_neg (na h), if_neg h2, if_neg (by rw [h3]; decide)]
  have nil : strOfNums [] = ⟨#[]⟩ := rfl
  refine j1_f c cs a1 a2 a3 a4 a5 a6 a7 l8 l9 a10 x xs k _ asks (j2_f k _ _ _ _ ?_ ?_ ?_)
  · rw [strOfNums_size]
    cases asks with
    | true =>
      rw [e1 rfl, List.length_append, bytesOf_len]
      have h1 := valP_len a6 (c :: cs) (x :: xs) o2 o3
      have h2 := lineB_size [(⟨#[69, 78, 68]⟩ : ByteArray)] (by decide)
      omega
    | false =>
      by_cases h16 : c.f0 = 16
      · rw [e2 rfl h16]
        exact Nat.zero_le _
      · cases ha5 : a5 with
        | true =>
          have := e3 rfl h16 ha5
          rw [ha5] at this
          rw [this]
          exact Nat.zero_le _
        | false =>
          have := e4 rfl h16 ha5
          rw [ha5] at this
          rw [this]
          exact Nat.le_trans (one_len _ _ h5) (by omega)
  · intro hy
    cases asks with
    | true =>
      rw [if_neg (by simp)] at hy
      have h16 : c.f0 = 16 := beq_iff_eq.1 hy
      exact absurd (ha.1 rfl) (by omega)
    | false =>
      by_cases h16 : c.f0 = 16
      · rw [e2 rfl h16, nil]
      · have h5t : a5 = true := by
          cases h : a5 with
          | true => rfl
          | false =>
            rw [h, if_neg (by simp)] at hy
            exact absurd (beq_iff_eq.1 hy) h16
        rw [e3 rfl h16 h5t, nil]
  · intro hy
    refine ⟨by simp, fun h => ?_, fun h hs => ?_, fun h hs => ?_⟩
    · rw [e1 h]
      exact line_end _ _ (by rw [joinB_one]; decide)
    all_goals
      have h5f : a5 = false := by
        cases h5 : a5 with
        | false => rfl
        | true =>
          rw [h5, if_pos ⟨rfl, h⟩] at hy
          cases hy
      have h16 : c.f0 ≠ 16 := fun h16 => by
        rw [h5f, if_neg (by simp), h16] at hy
        cases hy
      rw [e4 h h16 h5f]
    · exact one_ends _ _ hs
    · rw [one_none x.f0 x.f5 hs, nil]
end
theorem silent_f (l0 : List S38) (a1 : Int) (a2 : ByteArray) (a3 a4 : Int) (a5 a6 : Bool) (a7 : ByteArray) (l8 l9 : List ByteArray) (a10 : Bool) (l1 : List S40) (hw : ∀ x ∈ l1, RWf x) :
    Ev (fun k => butterylaw15_TextoutSilent.f k l0 a1 a2 a3 a4 a5 a6 a7 l8 l9 a10 l1) true := by
  unfold butterylaw15_TextoutSilent.f
  refine Ev.bind awake_f ?_
  obtain ⟨b, hb, hP⟩ := few_f l0 a1 a2 a3 a4 a5 a6 a7 l8 l9 a10 l1
  refine Ev.bind hb ?_
  simp only [if_true]
  have skip : Ev (fun k => butterylaw15_TextoutSilent.j0 k l1 true true l0 a1 a2 a3 a4 a5 a6 a7 l8 l9 a10) true := ⟨1, fun k hk => by
    obtain ⟨j, rfl⟩ : ∃ j, k = j + 1 := ⟨k - 1, by omega⟩
    show butterylaw15_TextoutSilent.j0 (j + 1) l1 true true l0 a1 a2 a3 a4 a5 a6 a7 l8 l9 a10 = _
    rw [butterylaw15_TextoutSilent.j0]
    rw [if_pos rfl]⟩
  cases b with
  | false =>
    simp only [Bool.false_eq_true, if_false]
    exact skip
  | true =>
    simp only [if_true]
    obtain ⟨h0, h1, hc, hv⟩ := hP rfl
    cases l0 with
    | nil =>
      simp only [if_pos (show (([] : List S38).length : Int) = 0 from rfl)]
      exact skip
    | cons c cs =>
      have hn : ¬ (((c :: cs).length : Int) = 0) := by rw [List.length_cons]; omega
      simp only [if_neg hn]
      by_cases hl : ((l1.length : Int) != ((c :: cs).length : Int)) = true
      · simp only [hl]
        exact skip
      · have hl2 : ((l1.length : Int) != ((c :: cs).length : Int)) = false := Bool.eq_false_iff.2 hl
        have hlen : (l1.length : Int) = ((c :: cs).length : Int) := bne_eq_false_iff_eq.1 hl2
        simp only [hl2]
        obtain ⟨x, xs, rfl⟩ : ∃ x xs, l1 = x :: xs := by
          cases l1 with
          | nil => rw [List.length_cons] at hlen; simp at hlen; omega
          | cons x xs => exact ⟨x, xs, rfl⟩
        have hok : okV (c :: cs) (x :: xs) = true := by
          unfold okV
          simp only [Bool.and_eq_true, decide_eq_true_eq, List.all_eq_true]
          refine ⟨by omega, fun d hd => ?_, fun d hd => ?_⟩
          · have := hc d hd
            omega
          · have h1 := hv d hd
            obtain ⟨_, h2, h3, _⟩ := hw d hd
            exact ⟨by omega, h2.1, h2.2, h3.1, h3.2⟩
        obtain ⟨K, hK⟩ := enc_f c cs a1 a2 a3 a4 a5 a6 a7 l8 l9 a10 (x :: xs) hok (fun d hd => (hw d hd).2.2.2.1)
        refine ⟨K + 3, fun k hk => ?_⟩
        obtain ⟨j, rfl⟩ : ∃ j, k = j + 3 := ⟨k - 3, by omega⟩
        show butterylaw15_TextoutSilent.j0 (j + 3) (x :: xs) true false (c :: cs) a1 a2 a3 a4 a5 a6 a7 l8 l9 a10 = _
        rw [butterylaw15_TextoutSilent.j0]
        have hK2 : textout_Encode.f (j + 2) (c :: cs) a1 a2 a3 a4 a5 a6 a7 l8 l9 a10 (x :: xs) = some (encI (c :: cs) a5 a6 (x :: xs)) := hK (j + 2) (by omega)
        rw [if_neg (by decide), hK2]
        have hp : 0 < ((c :: cs).length : Int) := by rw [List.length_cons]; omega
        show (if 0 < ((c :: cs).length : Int) then _ else _) = some true
        rw [if_pos hp, show rd_T38 (c :: cs) 0 = c from rfl]
        have hx5 := (hw x (by simp)).2.2.2.1.2
        by_cases e0 : c.f0 = 0
        · rw [if_pos e0]
          exact silent_fin c cs a1 a2 a3 a4 a5 a6 a7 l8 l9 a10 x xs j true ⟨fun _ => Or.inl e0, fun _ => rfl⟩ hok hx5
        · rw [if_neg e0]
          refine silent_fin c cs a1 a2 a3 a4 a5 a6 a7 l8 l9 a10 x xs j (c.f0 == 1) ⟨fun h => Or.inr (beq_iff_eq.1 h), fun h => beq_iff_eq.2 (h.resolve_left e0)⟩ hok hx5
theorem silent_calls (q : S28) (l1 : List S40) (cs : List Value) (A1 : Option Addr) (k1 : Nat) (w : World) (hq : k28.K w q cs) (hk : l1.length ≤ k1) (hC : Kd.C k40 w A1 l1.length l1) (hw : ∀ x ∈ l1, RWf x) (hT : Tabs w) :
    Calls Tryd.prog 4 #[.agg cs.toArray, .slice A1 l1.length k1] w fun e w' => e = .returned (.bool true) ∧ Below w.heap.size w w' := by
  obtain ⟨A0, c0, A8, c8, A9, c9, rfl, h1, h2, h3, h4, h5, h6⟩ := k28_open hq
  exact bool_calls (silent_f q.f0 _ _ _ _ _ _ _ _ _ _ l1 hw) (fun k r h => butterylaw15_TextoutSilent.calls k A0 c0 _ _ _ _ _ _ _ _ A8 c8 _ A9 c9 _ _ A1 k1 l1 r w h2 h1 h4 h3 h6 h5 hC hk hT h)
end Go.Proofs.YtkolleohenjhmaaDoor.X
