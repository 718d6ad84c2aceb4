/- What the reference's Show computes: plain Lean on the printed functions. -/
import Derived.Test.YtkolleohenjhmaaDoorRShow
import Derived.Test.YtkolleohenjhmaaDoorShow
namespace Go.Proofs.YtkolleohenjhmaaDoor.X
open Go.RowKit Go.Proofs.YtkolleohenjhmaaDoorW.PrintWords
set_option linter.unusedVariables false
set_option linter.unusedSimpArgs false

def rdigs (n : Nat) : List Int := if h : n = 0 then [] else ((48 + n % 10 : Nat) : Int) :: rdigs (n / 10)
termination_by n
decreasing_by omega
theorem rdigs_len : ∀ (k n : Nat), n < 10 ^ k → (rdigs n).length ≤ k
  | 0, n, h => by
    have : n = 0 := by simpa using h
    subst this; unfold rdigs; simp
  | k + 1, n, h => by
    unfold rdigs
    by_cases h0 : n = 0
    · rw [dif_pos h0]; simp
    · rw [dif_neg h0, List.length_cons]
      have := rdigs_len k (n / 10) (by rw [Nat.pow_succ] at h; omega)
      omega
theorem rdigs_dec (n : Nat) (h : n ≠ 0) : (rdigs n).reverse.map (fun i => UInt8.ofNat i.toNat) = Lib.decDigits n := by
  induction n using Nat.strongRecOn with
  | _ n ih =>
    rw [rdigs, dif_neg h, Lib.decDigits]
    by_cases h10 : n < 10
    · rw [dif_pos h10, show n / 10 = 0 by omega, rdigs, dif_pos rfl]
      simp only [List.reverse_cons, List.reverse_nil, List.nil_append, List.map_cons, List.map_nil]
      rw [Int.toNat_natCast, Nat.mod_eq_of_lt h10]
    · rw [dif_neg h10, List.reverse_cons, List.map_append, ih (n / 10) (by omega) (by omega)]
      simp only [List.map_cons, List.map_nil]
      rw [Int.toNat_natCast]
/-- The list that the second loop has made behind i rounds. -/
def swp (L : List Int) (i : Nat) : List Int := (List.range L.length).map fun j => if j < i ∨ L.length ≤ j + i then L.getD (L.length - 1 - j) 0 else L.getD j 0
theorem swp_len (L : List Int) (i : Nat) : (swp L i).length = L.length := by simp [swp]
theorem swp_at (L : List Int) (i j : Nat) (h : j < L.length) : (swp L i).getD j 0 = if j < i ∨ L.length ≤ j + i then L.getD (L.length - 1 - j) 0 else L.getD j 0 := by
  simp [swp, List.getD_eq_getElem?_getD, h]
theorem getD_ext {a b : List Int} (h : a.length = b.length) (h2 : ∀ j, j < a.length → a.getD j 0 = b.getD j 0) : a = b := by
  apply List.ext_getElem h
  intro j h1 h3
  have := h2 j h1
  simpa [List.getD_eq_getElem?_getD, h1, h3] using this
theorem getD_set (l : List Int) (i j : Nat) (v : Int) (h : j < l.length) : (l.set i v).getD j 0 = if i = j then v else l.getD j 0 := by
  simp only [List.getD_eq_getElem?_getD, List.getElem?_set]
  split
  · next e => subst e; simp [h]
  · rfl
theorem swp_zero (L : List Int) : swp L 0 = L := by
  apply getD_ext (swp_len _ _)
  intro j hj
  rw [swp_len] at hj
  rw [swp_at _ _ _ hj, if_neg (by omega)]
theorem swp_end (L : List Int) (i : Nat) (h : L.length ≤ 2 * i + 1) : swp L i = L.reverse := by
  apply getD_ext (by rw [swp_len, List.length_reverse])
  intro j hj
  rw [swp_len] at hj
  rw [swp_at _ _ _ hj]
  have e : L.reverse.getD j 0 = L.getD (L.length - 1 - j) 0 := by
    simp only [List.getD_eq_getElem?_getD]
    rw [List.getElem?_reverse hj]
  rw [e]
  split
  · rfl
  · rw [show L.length - 1 - j = j by omega]
theorem swp_step (L : List Int) (i : Nat) (h : 2 * i + 1 < L.length) : ((swp L i).set i ((swp L i).getD (L.length - 1 - i) 0)).set (L.length - 1 - i) ((swp L i).getD i 0) = swp L (i + 1) := by
  apply getD_ext (by simp [swp_len])
  intro j hj
  rw [List.length_set, List.length_set, swp_len] at hj
  have ha : (swp L i).getD (L.length - 1 - i) 0 = L.getD (L.length - 1 - i) 0 := by rw [swp_at _ _ _ (by omega), if_neg (by omega)]
  have hb : (swp L i).getD i 0 = L.getD i 0 := by rw [swp_at _ _ _ (by omega), if_neg (by omega)]
  rw [ha, hb, getD_set _ _ _ _ (by rw [List.length_set, swp_len]; exact hj), getD_set _ _ _ _ (by rw [swp_len]; exact hj), swp_at _ _ _ hj, swp_at _ _ _ hj]
  by_cases h1 : L.length - 1 - i = j
  · rw [if_pos h1, if_pos (by omega), show L.length - 1 - j = i by omega]
  · rw [if_neg h1]
    by_cases h2 : i = j
    · rw [if_pos h2, if_pos (by omega), h2]
    · rw [if_neg h2]
      by_cases h3 : j < i ∨ L.length ≤ j + i
      · rw [if_pos h3, if_pos (by omega)]
      · rw [if_neg h3, if_neg (by omega)]
theorem w64 (n : Int) (h0 : -9223372036854775808 ≤ n) (h1 : n ≤ 9223372036854775807) : wrap64 n = n := by unfold wrap64; omega
theorem rShow_l1 (L : List Int) (hL : L.length ≤ 1000) : ∀ (d i : Nat), L.length / 2 - i = d → i ≤ L.length / 2 → ∃ k, butteryref01_Show.l1 k (swp L i) i = some (strOfNums L.reverse)
  | 0, i, hd, hi => by
    refine ⟨1, ?_⟩
    unfold butteryref01_Show.l1
    rw [swp_len, w64 _ (by omega) (by omega), if_neg (by omega), swp_end L i (by omega)]
  | d + 1, i, hd, hi => by
    obtain ⟨k, hk⟩ := rShow_l1 L hL d (i + 1) (by omega) (by omega)
    refine ⟨k + 1, ?_⟩
    unfold butteryref01_Show.l1
    have e : ((L.length : Int) - 1 - i).toNat = L.length - 1 - i := by omega
    rw [swp_len, w64 _ (by omega) (by omega), if_pos (by omega), if_pos (by omega), if_pos (by omega), w64 ((L.length : Int) - 1) (by omega) (by omega), w64 ((L.length : Int) - 1 - i) (by omega) (by omega), if_pos (by omega), if_pos (by omega), w64 ((i : Int) + 1) (by omega) (by omega)]
    have h2 := swp_step L i (by omega)
    unfold rd
    rw [e, Int.toNat_natCast, h2]
    exact hk
theorem rShow_l0 (L : List Int) (hL : L.length ≤ 1000) : ∀ (n : Nat) (acc : List Int), n ≤ 18446744073709551615 → acc ++ rdigs n = L → ∃ k, butteryref01_Show.l0 k n acc = some (strOfNums L.reverse) := by
  intro n
  induction n using Nat.strongRecOn with
  | _ n ih =>
    intro acc hn ha
    by_cases h0 : n = 0
    · subst h0
      rw [rdigs, dif_pos rfl, List.append_nil] at ha
      subst ha
      obtain ⟨k, hk⟩ := rShow_l1 acc hL _ 0 rfl (by omega)
      rw [swp_zero] at hk
      refine ⟨k + 1, ?_⟩
      unfold butteryref01_Show.l0
      rw [if_neg (by simp)]
      exact hk
    · rw [rdigs, dif_neg h0] at ha
      obtain ⟨k, hk⟩ := ih (n / 10) (by omega) (acc ++ [((48 + n % 10 : Nat) : Int)]) (by omega) (by rw [← ha]; simp)
      refine ⟨k + 1, ?_⟩
      have hlen : acc.length < 140737488355328 := by rw [← ha, List.length_append] at hL; omega
      unfold butteryref01_Show.l0
      rw [if_pos (by omega), if_pos hlen]
      have e1 : IntKind.u64.wrap (Int.tdiv (n : Int) 10) = ((n / 10 : Nat) : Int) := by
        rw [IntKind.wrap_u64, Int.tdiv_eq_ediv_of_nonneg (by omega)]; omega
      have e2 : (IntKind.u64.wrap (48 + Int.tmod (n : Int) 10)) % 256 = ((48 + n % 10 : Nat) : Int) := by
        rw [IntKind.wrap_u64, Int.tmod_eq_emod_of_nonneg (by omega)]; omega
      rw [e1, e2]
      exact hk
theorem rShow_f (n : Int) (h0 : 0 ≤ n) (h1 : n ≤ 18446744073709551615) : ∃ k, butteryref01_Show.f k n = some (showI n) := by
  obtain ⟨u, rfl⟩ : ∃ u : Nat, n = u := ⟨n.toNat, by omega⟩
  unfold butteryref01_Show.f showI
  rw [Int.toNat_natCast]
  by_cases hu : u = 0
  · subst hu
    refine ⟨0, ?_⟩
    rw [if_pos (by rfl), Lib.decDigits, dif_pos (by omega)]
    rfl
  · have hl := rdigs_len 20 u (by omega)
    obtain ⟨k, hk⟩ := rShow_l0 (rdigs u) (by omega) u [] (by omega) (by simp)
    refine ⟨k, ?_⟩
    rw [if_neg (by omega), hk, ← rdigs_dec u hu]
    rfl
theorem rShow_calls (n : Int) (w : World) (h0 : 0 ≤ n) (h1 : n ≤ 18446744073709551615) :
    Calls Tryd.prog 14 #[.int .u64 n] w fun e w' => e = .returned (.string (showI n)) ∧ Below w.heap.size w w' := by
  obtain ⟨k, hk⟩ := rShow_f n h0 h1
  exact butteryref01_Show.calls k n _ w hk
end Go.Proofs.YtkolleohenjhmaaDoor.X
