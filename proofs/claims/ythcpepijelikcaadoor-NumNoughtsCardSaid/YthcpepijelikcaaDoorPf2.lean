/- What the reference's numbers compute (Show, Decimal, Signed) and num.Signed: plain Lean on the printed functions. -/
import Derived.Test.YthcpepijelikcaaDoorFn2
import Derived.Test.YthcpepijelikcaaDoorPf1
namespace Go.Proofs.YthcpepijelikcaaDoor.X
open Go.RowKit Go.Proofs.YthcpepijelikcaaDoorW.PrintWords Go.Proofs.YthcpepijelikcaaDoorW.PrintMore
set_option linter.unusedVariables false
set_option linter.unusedSimpArgs false

def rdigs (n : Nat) : List Int := if h : n = 0 then [] else ((48 + n % 10 : Nat) : Int) :: rdigs (n / 10)
termination_by n
decreasing_by omega
theorem rdigs_len : ∀ (k n : Nat), n < 10 ^ k → (rdigs n).length ≤ k
  | 0, n, h => by
    have : n = 0 := by simpa using h
    subst this; unfold rdigs; simp
  | k + 1, n, h => by
    unfold rdigs
    by_cases h0 : n = 0
    · rw [dif_pos h0]; simp
    · rw [dif_neg h0, List.length_cons]
      have := rdigs_len k (n / 10) (by rw [Nat.pow_succ] at h; omega)
      omega
theorem rdigs_dec (n : Nat) (h : n ≠ 0) : (rdigs n).reverse.map (fun i => UInt8.ofNat i.toNat) = Lib.decDigits n := by
  induction n using Nat.strongRecOn with
  | _ n ih =>
    rw [rdigs, dif_neg h, Lib.decDigits]
    by_cases h10 : n < 10
    · rw [dif_pos h10, show n / 10 = 0 by omega, rdigs, dif_pos rfl]
      simp only [List.reverse_cons, List.reverse_nil, List.nil_append, List.map_cons, List.map_nil]
      rw [Int.toNat_natCast, Nat.mod_eq_of_lt h10]
    · rw [dif_neg h10, List.reverse_cons, List.map_append, ih (n / 10) (by omega) (by omega)]
      simp only [List.map_cons, List.map_nil]
      rw [Int.toNat_natCast]
/-- The list that the second loop has made behind i rounds. -/
def swp (L : List Int) (i : Nat) : List Int := (List.range L.length).map fun j => if j < i ∨ L.length ≤ j + i then L.getD (L.length - 1 - j) 0 else L.getD j 0
theorem swp_len (L : List Int) (i : Nat) : (swp L i).length = L.length := by simp [swp]
theorem swp_at (L : List Int) (i j : Nat) (h : j < L.length) : (swp L i).getD j 0 = if j < i ∨ L.length ≤ j + i then L.getD (L.length - 1 - j) 0 else L.getD j 0 := by
  simp [swp, List.getD_eq_getElem?_getD, h]
theorem getD_ext {a b : List Int} (h : a.length = b.length) (h2 : ∀ j, j < a.length → a.getD j 0 = b.getD j 0) : a = b := by
  apply List.ext_getElem h
  intro j h1 h3
  have := h2 j h1
  simpa [List.getD_eq_getElem?_getD, h1, h3] using this
theorem getD_set (l : List Int) (i j : Nat) (v : Int) (h : j < l.length) : (l.set i v).getD j 0 = if i = j then v else l.getD j 0 := by
  simp only [List.getD_eq_getElem?_getD, List.getElem?_set]
  split
  · next e => subst e; simp [h]
  · rfl
theorem swp_zero (L : List Int) : swp L 0 = L := by
  apply getD_ext (swp_len _ _)
  intro j hj
  rw [swp_len] at hj
  rw [swp_at _ _ _ hj, if_neg (by omega)]
theorem swp_end (L : List Int) (i : Nat) (h : L.length ≤ 2 * i + 1) : swp L i = L.reverse := by
  apply getD_ext (by rw [swp_len, List.length_reverse])
  intro j hj
  rw [swp_len] at hj
  rw [swp_at _ _ _ hj]
  have e : L.reverse.getD j 0 = L.getD (L.length - 1 - j) 0 := by
    simp only [List.getD_eq_getElem?_getD]
    rw [List.getElem?_reverse hj]
  rw [e]
  split
  · rfl
  · rw [show L.length - 1 - j = j by omega]
theorem swp_step (L : List Int) (i : Nat) (h : 2 * i + 1 < L.length) : ((swp L i).set i ((swp L i).getD (L.length - 1 - i) 0)).set (L.length - 1 - i) ((swp L i).getD i 0) = swp L (i + 1) := by
  apply getD_ext (by simp [swp_len])
  intro j hj
  rw [List.length_set, List.length_set, swp_len] at hj
  have ha : (swp L i).getD (L.length - 1 - i) 0 = L.getD (L.length - 1 - i) 0 := by rw [swp_at _ _ _ (by omega), if_neg (by omega)]
  have hb : (swp L i).getD i 0 = L.getD i 0 := by rw [swp_at _ _ _ (by omega), if_neg (by omega)]
  rw [ha, hb, getD_set _ _ _ _ (by rw [List.length_set, swp_len]; exact hj), getD_set _ _ _ _ (by rw [swp_len]; exact hj), swp_at _ _ _ hj, swp_at _ _ _ hj]
  by_cases h1 : L.length - 1 - i = j
  · rw [if_pos h1, if_pos (by omega), show L.length - 1 - j = i by omega]
  · rw [if_neg h1]
    by_cases h2 : i = j
    · rw [if_pos h2, if_pos (by omega), h2]
    · rw [if_neg h2]
      by_cases h3 : j < i ∨ L.length ≤ j + i
      · rw [if_pos h3, if_pos (by omega)]
      · rw [if_neg h3, if_neg (by omega)]
theorem rShow_l1 (L : List Int) (hL : L.length ≤ 1000) : ∀ (d i : Nat), L.length / 2 - i = d → i ≤ L.length / 2 → ∃ k, butteryref01_Show.l1 k (swp L i) i = some (strOfNums L.reverse)
  | 0, i, hd, hi => by
    refine ⟨1, ?_⟩
    unfold butteryref01_Show.l1
    rw [swp_len, w64 _ (by omega) (by omega), if_neg (by omega), swp_end L i (by omega)]
  | d + 1, i, hd, hi => by
    obtain ⟨k, hk⟩ := rShow_l1 L hL d (i + 1) (by omega) (by omega)
    refine ⟨k + 1, ?_⟩
    unfold butteryref01_Show.l1
    have e : ((L.length : Int) - 1 - i).toNat = L.length - 1 - i := by omega
    rw [swp_len, w64 _ (by omega) (by omega), if_pos (by omega), if_pos (by omega), if_pos (by omega), w64 ((L.length : Int) - 1) (by omega) (by omega), w64 ((L.length : Int) - 1 - i) (by omega) (by omega), if_pos (by omega), if_pos (by omega), w64 ((i : Int) + 1) (by omega) (by omega)]
    have h2 := swp_step L i (by omega)
    unfold rd
    rw [e, Int.toNat_natCast, h2]
    exact hk
theorem rShow_l0 (L : List Int) (hL : L.length ≤ 1000) : ∀ (n : Nat) (acc : List Int), n ≤ 18446744073709551615 → acc ++ rdigs n = L → ∃ k, butteryref01_Show.l0 k n acc = some (strOfNums L.reverse) := by
  intro n
  induction n using Nat.strongRecOn with
  | _ n ih =>
    intro acc hn ha
    by_cases h0 : n = 0
    · subst h0
      rw [rdigs, dif_pos rfl, List.append_nil] at ha
      subst ha
      obtain ⟨k, hk⟩ := rShow_l1 acc hL _ 0 rfl (by omega)
      rw [swp_zero] at hk
      refine ⟨k + 1, ?_⟩
      unfold butteryref01_Show.l0
      rw [if_neg (by simp)]
      exact hk
    · rw [rdigs, dif_neg h0] at ha
      obtain ⟨k, hk⟩ := ih (n / 10) (by omega) (acc ++ [((48 + n % 10 : Nat) : Int)]) (by omega) (by rw [← ha]; simp)
      refine ⟨k + 1, ?_⟩
      have hlen : acc.length < 140737488355328 := by rw [← ha, List.length_append] at hL; omega
      unfold butteryref01_Show.l0
      rw [if_pos (by omega), if_pos hlen]
      have e1 : IntKind.u64.wrap (Int.tdiv (n : Int) 10) = ((n / 10 : Nat) : Int) := by
        rw [IntKind.wrap_u64, Int.tdiv_eq_ediv_of_nonneg (by omega)]; omega
      have e2 : (IntKind.u64.wrap (48 + Int.tmod (n : Int) 10)) % 256 = ((48 + n % 10 : Nat) : Int) := by
        rw [IntKind.wrap_u64, Int.tmod_eq_emod_of_nonneg (by omega)]; omega
      rw [e1, e2]
      exact hk
theorem rShow_f (n : Int) (h0 : 0 ≤ n) (h1 : n ≤ 18446744073709551615) : ∃ k, butteryref01_Show.f k n = some (showI n) := by
  obtain ⟨u, rfl⟩ : ∃ u : Nat, n = u := ⟨n.toNat, by omega⟩
  unfold butteryref01_Show.f showI
  rw [Int.toNat_natCast]
  by_cases hu : u = 0
  · subst hu
    refine ⟨0, ?_⟩
    rw [if_pos (by rfl), Lib.decDigits, dif_pos (by omega)]
    rfl
  · have hl := rdigs_len 20 u (by omega)
    obtain ⟨k, hk⟩ := rShow_l0 (rdigs u) (by omega) u [] (by omega) (by simp)
    refine ⟨k, ?_⟩
    rw [if_neg (by omega), hk, ← rdigs_dec u hu]
    rfl

theorem bt_list (s : ByteArray) (i : Nat) (h : i < s.size) (hl : i < s.data.toList.length) : bt s (i : Int) = ((s.data.toList[i]).toNat : Int) := by
  unfold bt
  rw [Int.toNat_natCast, dif_pos h]
  rw [Array.getElem_toList]
  rfl
def resOf : Option Nat → Int × Bool
  | some u => (u, true)
  | none => (0, false)
theorem rdec_l0 (s : ByteArray) (hs : s.size ≤ 40) : ∀ (d i n : Nat), i + d = s.size → n < 18446744073709551616 → ∃ K, butteryref01_Decimal.l0 K s n i = some (resOf (rDecL n (s.data.toList.drop i)))
  | 0, i, n, hd, hn => by
    refine ⟨1, ?_⟩
    unfold butteryref01_Decimal.l0
    have hl : s.data.toList.length = s.size := Array.length_toList
    rw [if_neg (by omega), List.drop_eq_nil_of_le (by omega)]
    rfl
  | d + 1, i, n, hd, hn => by
    have hl : s.data.toList.length = s.size := Array.length_toList
    have hi : i < s.size := by omega
    have hb := bt_list s i hi (by omega)
    have hc : (s.data.toList[i]'(by omega)).toNat < 256 := UInt8.toNat_lt _
    have hdr := List.drop_eq_getElem_cons (l := s.data.toList) (i := i) (by omega)
    generalize (s.data.toList[i]'(by omega)) = c at *
    rw [hdr]
    by_cases h1 : c.toNat < 48
    · refine ⟨2, ?_⟩
      unfold butteryref01_Decimal.l0
      rw [if_pos (by omega), if_pos (by omega), if_pos (by omega)]
      unfold butteryref01_Decimal.j2
      rw [if_pos rfl, rDecL, if_pos (Or.inl h1)]
      rfl
    · by_cases h2 : 57 < c.toNat
      · refine ⟨2, ?_⟩
        unfold butteryref01_Decimal.l0
        rw [if_pos (by omega), if_pos (by omega), if_neg (by omega)]
        unfold butteryref01_Decimal.j2
        rw [if_pos (decide_eq_true (by omega)), rDecL, if_pos (Or.inr h2)]
        rfl
      · have e8 : (bt s (i : Int) - 48) % 256 = ((c.toNat - 48 : Nat) : Int) := by omega
        by_cases h3 : (18446744073709551615 - (c.toNat - 48)) / 10 < n
        · refine ⟨2, ?_⟩
          unfold butteryref01_Decimal.l0
          rw [if_pos (by omega), if_pos (by omega), if_neg (by omega)]
          unfold butteryref01_Decimal.j2
          rw [if_neg (by rw [decide_eq_true_eq]; omega), if_pos (by omega), if_pos (by omega), e8, if_pos (by omega), rDecL, if_neg (by omega), if_pos h3]
          rfl
        · obtain ⟨K, hK⟩ := rdec_l0 s hs d (i + 1) (10 * n + (c.toNat - 48)) (by omega) (by omega)
          refine ⟨K + 2, ?_⟩
          unfold butteryref01_Decimal.l0
          rw [if_pos (by omega), if_pos (by omega), if_neg (by omega)]
          unfold butteryref01_Decimal.j2
          have e9 : IntKind.u64.wrap (IntKind.u64.wrap (10 * (n : Int)) + ((c.toNat - 48 : Nat) : Int)) = ((10 * n + (c.toNat - 48) : Nat) : Int) := by rw [IntKind.wrap_u64, IntKind.wrap_u64]; omega
          rw [if_neg (by rw [decide_eq_true_eq]; omega), if_pos (by omega), if_pos (by omega), e8, if_neg (by omega), e9, w64 _ (by omega) (by omega), rDecL, if_neg (by omega), if_neg h3]
          exact hK
theorem rdec_f (s : ByteArray) : Ev (fun k => butteryref01_Decimal.f k s) ((decS s).1, (decS s).2) := by
  have hm := butteryref01_Decimal.mono s
  by_cases h0 : s.size = 0
  · refine Ev.of hm (k := 1) ?_
    show butteryref01_Decimal.f 1 s = _
    unfold butteryref01_Decimal.f decS
    rw [if_pos (by omega), if_pos (Or.inl h0)]
    rfl
  · by_cases h40 : 40 < s.size
    · refine Ev.of hm (k := 1) ?_
      show butteryref01_Decimal.f 1 s = _
      unfold butteryref01_Decimal.f decS
      rw [if_neg (by omega), if_pos (Or.inr h40), decide_eq_true (by omega)]
      rfl
    · obtain ⟨K, hK⟩ := rdec_l0 s (by omega) s.size 0 0 (by omega) (by omega)
      refine Ev.of hm (k := K + 1) ?_
      show butteryref01_Decimal.f (K + 1) s = _
      unfold butteryref01_Decimal.f decS
      rw [if_neg (by omega), if_neg (by omega), decide_eq_false (by omega)]
      show butteryref01_Decimal.l0 K s ((0 : Nat) : Int) ((0 : Nat) : Int) = _
      rw [hK, List.drop_zero]
      cases rDecL 0 s.data.toList <;> rfl
/-- A number with or without a sign. -/
def sgnOf (neg : Bool) (p : Nat × Bool) : Int × Bool := if p.2 = true ∧ p.1 ≤ 1099511627776 then ((if neg then -(p.1 : Int) else p.1), true) else (0, false)
def isNeg (s : ByteArray) : Bool := Lib.hasPrefix s.data.toList [45]
def unsigned (s : ByteArray) : ByteArray := ⟨(Lib.trimPrefix s.data.toList [45]).toArray⟩
def sgnS (s : ByteArray) : Int × Bool := sgnOf (isNeg s) (decS (unsigned s))
theorem sgn_f (s : ByteArray) : Ev (fun k => num_Signed.f k s) (sgnS s) := by
  have hm := num_Signed.mono s
  refine Ev.of hm (k := 1) ?_
  show num_Signed.f 1 s = _
  unfold num_Signed.f
  show ((num_Decimal.f (unsigned s)).bind fun bt228 => (if bt228.2 = true then (num_Signed.j0 1 (isNeg s) bt228.1 (decide (bt228.1 > 1099511627776))) else (num_Signed.j0 1 (isNeg s) bt228.1 true))) = _
  unfold num_Decimal.f sgnS
  generalize decS (unsigned s) = p
  obtain ⟨u, b⟩ := p
  show (if b = true then (num_Signed.j0 1 (isNeg s) (u : Int) (decide ((u : Int) > 1099511627776))) else (num_Signed.j0 1 (isNeg s) (u : Int) true)) = _
  unfold sgnOf
  cases b
  · rw [if_neg (by decide)]
    show some (0, false) = _
    rw [if_neg (by simp)]
  · rw [if_pos rfl]
    by_cases h : (u : Int) > 1099511627776
    · rw [decide_eq_true h]
      show some (0, false) = _
      rw [if_neg (by simp; omega)]
    · rw [decide_eq_false h]
      have hu : u ≤ 1099511627776 := by omega
      show (if isNeg s = true then (some (wrap64 (-(wrap64 (u : Int))), true)) else (some (wrap64 (u : Int), true))) = _
      rw [w64 (u : Int) (by omega) (by omega), w64 (-(u : Int)) (by omega) (by omega)]
      cases isNeg s
      · show some ((u : Int), true) = some (if true = true ∧ u ≤ 1099511627776 then ((u : Int), true) else (0, false))
        rw [if_pos ⟨rfl, hu⟩]
      · show some (-(u : Int), true) = some (if true = true ∧ u ≤ 1099511627776 then (-(u : Int), true) else (0, false))
        rw [if_pos ⟨rfl, hu⟩]
theorem rsgn_j1 (s : ByteArray) (neg : Bool) : ∃ K, butteryref01_Signed.j1 K s neg = some (sgnOf neg (decS s)) := by
  obtain ⟨K, hK⟩ := rdec_f s
  refine ⟨K + 2, ?_⟩
  have h1 : butteryref01_Decimal.f (K + 1) s = some (((decS s).1 : Int), (decS s).2) := hK (K + 1) (by omega)
  show ((butteryref01_Decimal.f (K + 1) s).bind fun bt230 => (if bt230.2 = true then (butteryref01_Signed.j2 (K + 1) neg bt230.1 (decide (bt230.1 > 1099511627776))) else (butteryref01_Signed.j2 (K + 1) neg bt230.1 true))) = _
  rw [h1]
  generalize decS s = p
  obtain ⟨u, b⟩ := p
  show (if b = true then (butteryref01_Signed.j2 (K + 1) neg (u : Int) (decide ((u : Int) > 1099511627776))) else (butteryref01_Signed.j2 (K + 1) neg (u : Int) true)) = _
  unfold sgnOf
  cases b
  · rw [if_neg (by decide)]
    show some (0, false) = _
    rw [if_neg (by simp)]
  · rw [if_pos rfl]
    by_cases h : (u : Int) > 1099511627776
    · rw [decide_eq_true h]
      show some (0, false) = _
      rw [if_neg (by simp; omega)]
    · rw [decide_eq_false h]
      have hu : u ≤ 1099511627776 := by omega
      show (if neg = true then (some (wrap64 (-(wrap64 (u : Int))), true)) else (some (wrap64 (u : Int), true))) = _
      rw [w64 (u : Int) (by omega) (by omega), w64 (-(u : Int)) (by omega) (by omega)]
      cases neg
      · show some ((u : Int), true) = some (if true = true ∧ u ≤ 1099511627776 then ((u : Int), true) else (0, false))
        rw [if_pos ⟨rfl, hu⟩]
      · show some (-(u : Int), true) = some (if true = true ∧ u ≤ 1099511627776 then (-(u : Int), true) else (0, false))
        rw [if_pos ⟨rfl, hu⟩]
theorem neg_cases (s : ByteArray) : (s.size = 0 ∧ isNeg s = false ∧ unsigned s = s) ∨ (0 < s.size ∧ isNeg s = (bt s 0 == 45) ∧ unsigned s = if isNeg s then s.extract 1 s.size else s) := by
  obtain ⟨⟨l⟩⟩ := s
  cases l with
  | nil => exact Or.inl ⟨rfl, rfl, rfl⟩
  | cons c r =>
    right
    have e : isNeg ⟨⟨c :: r⟩⟩ = (c == 45) := by
      unfold isNeg
      rw [Bool.eq_iff_iff]
      simp [Lib.hasPrefix]
      exact eq_comm
    have e2 : bt ⟨⟨c :: r⟩⟩ 0 = (c.toNat : Int) := by
      have := bt_list ⟨⟨c :: r⟩⟩ 0 (by simp [ByteArray.size]) (by simp)
      simpa using this
    refine ⟨by simp [ByteArray.size], ?_, ?_⟩
    · rw [e, e2, Bool.eq_iff_iff, beq_iff_eq, beq_iff_eq]
      constructor
      · rintro rfl; rfl
      · intro h
        exact UInt8.toNat_inj.1 (by have : (45 : UInt8).toNat = 45 := rfl
                                    omega)
    · rw [e]
      unfold unsigned
      cases hc : (c == 45)
      · have : Lib.hasPrefix (c :: r) [45] = false := by have := e; unfold isNeg at this; rw [hc] at this; exact this
        show (⟨(Lib.trimPrefix (c :: r) [45]).toArray⟩ : ByteArray) = _
        unfold Lib.trimPrefix
        rw [this]
        rfl
      · have : Lib.hasPrefix (c :: r) [45] = true := by have := e; unfold isNeg at this; rw [hc] at this; exact this
        show (⟨(Lib.trimPrefix (c :: r) [45]).toArray⟩ : ByteArray) = _
        unfold Lib.trimPrefix
        rw [this]
        apply ByteArray.ext
        simp [ByteArray.data_extract, ByteArray.size]
theorem rsgn_f (s : ByteArray) (hs : s.size ≤ 9223372036854775807) : Ev (fun k => butteryref01_Signed.f k s) (sgnS s) := by
  have hm := butteryref01_Signed.mono s
  unfold sgnS
  rcases neg_cases s with ⟨h0, h1, h2⟩ | ⟨h0, h1, h2⟩
  · rw [h1, h2]
    obtain ⟨K, hK⟩ := rsgn_j1 s false
    refine Ev.of hm (k := K + 1) ?_
    show butteryref01_Signed.f (K + 1) s = _
    unfold butteryref01_Signed.f
    rw [if_neg (by omega)]
    exact hK
  · obtain ⟨K, hK⟩ := rsgn_j1 (unsigned s) (isNeg s)
    refine Ev.of hm (k := K + 1) ?_
    show butteryref01_Signed.f (K + 1) s = _
    unfold butteryref01_Signed.f
    rw [if_pos (by omega), if_pos (by omega), ← h1]
    rw [h2] at hK
    rw [h2]
    cases hn : isNeg s
    · rw [hn] at hK
      rw [if_neg (by decide)] at hK ⊢
      exact hK
    · rw [hn] at hK
      rw [if_pos rfl] at hK ⊢
      show (if 1 ≤ (s.size : Int) then (butteryref01_Signed.j1 K (s.extract 1 s.size) true) else (none)) = _
      rw [if_pos (by omega)]
      exact hK
end Go.Proofs.YthcpepijelikcaaDoor.X
