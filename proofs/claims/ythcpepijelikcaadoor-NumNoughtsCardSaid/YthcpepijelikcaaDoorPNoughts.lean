/- NumNoughts: plain Lean on the printed law. -/
import Derived.Test.YthcpepijelikcaaDoorLNoughts
import Derived.Test.YthcpepijelikcaaDoorPBack
import Derived.Test.YthcpepijelikcaaDoorPf2
namespace Go.Proofs.YthcpepijelikcaaDoor.X
open Go.RowKit Go.Proofs.YthcpepijelikcaaDoorW.PrintWords Go.Proofs.YthcpepijelikcaaDoorW.PrintMore
set_option linter.unusedVariables false
set_option linter.unusedSimpArgs false

theorem decDigits_digit : ∀ (n : Nat), ∀ d ∈ Lib.decDigits n, 48 ≤ d.toNat := by
  intro n
  induction n using Nat.strongRecOn with
  | _ n ih =>
    intro d hd
    rw [Lib.decDigits] at hd
    split at hd
    · obtain rfl := List.mem_singleton.1 hd
      simp
      omega
    · rcases List.mem_append.1 hd with h | h
      · exact ih (n / 10) (by omega) d h
      · obtain rfl := List.mem_singleton.1 h
        simp
        omega
def zs (i u : Nat) : ByteArray := ⟨(List.replicate i 48 ++ Lib.decDigits u).toArray⟩
theorem zs_size (i u : Nat) : (zs i u).size = i + (Lib.decDigits u).length := by simp [zs, ByteArray.size]
theorem dec_len (u : Nat) (hu : u < 18446744073709551616) : 1 ≤ (Lib.decDigits u).length ∧ (Lib.decDigits u).length ≤ 20 := by
  have h0 := decDigits_mono u 0 (by omega)
  rw [Lib.decDigits_one (show 0 < 10 by omega)] at h0
  have h2 := decDigits_mono 18446744073709551615 u (by omega)
  have e : (Lib.decDigits 18446744073709551615).length = 20 := by decide +kernel
  exact ⟨h0, by omega⟩
theorem decS_zs (i u : Nat) (hi : i ≤ 20) (hu : u < 18446744073709551616) : decS (zs i u) = (u, true) := by
  have hl := dec_len u hu
  have hz := zs_size i u
  unfold decS
  rw [if_neg (by omega)]
  show (match rDecL 0 (List.replicate i 48 ++ Lib.decDigits u) with | some u => (u, true) | none => (0, false)) = _
  rw [rDecL_zeros, rDecL_dec u hu]
theorem digits_sign (s : ByteArray) (h : ∀ d ∈ s.data.toList, 48 ≤ d.toNat) : isNeg s = false ∧ unsigned s = s := by
  have e : isNeg s = false := by
    obtain ⟨⟨l⟩⟩ := s
    cases l with
    | nil => rfl
    | cons c r =>
      have hc : 48 ≤ c.toNat := h c (by simp)
      cases hn : isNeg ⟨⟨c :: r⟩⟩
      · rfl
      · exfalso
        unfold isNeg at hn
        simp [Lib.hasPrefix] at hn
        subst hn
        exact absurd hc (by decide)
  refine ⟨e, ?_⟩
  unfold unsigned Lib.trimPrefix
  unfold isNeg at e
  rw [e]
  rfl
theorem minus_sign (s : ByteArray) : isNeg ((⟨#[45]⟩ : ByteArray) ++ s) = true ∧ unsigned ((⟨#[45]⟩ : ByteArray) ++ s) = s := by
  obtain ⟨⟨l⟩⟩ := s
  have e : ((⟨#[45]⟩ : ByteArray) ++ (⟨⟨l⟩⟩ : ByteArray)) = ⟨⟨45 :: l⟩⟩ := by
    apply ByteArray.ext
    simp [ByteArray.data_append]
  rw [e]
  have h : isNeg ⟨⟨45 :: l⟩⟩ = true := by
    unfold isNeg
    simp [Lib.hasPrefix]
  refine ⟨h, ?_⟩
  unfold unsigned Lib.trimPrefix
  unfold isNeg at h
  rw [h]
  rfl
theorem zs_digits (i u : Nat) : ∀ d ∈ (zs i u).data.toList, 48 ≤ d.toNat := fun d hd => by
  have hd' : d ∈ List.replicate i (48 : UInt8) ++ Lib.decDigits u := hd
  rcases List.mem_append.1 hd' with h | h
  · rw [List.eq_of_mem_replicate h]
    decide
  · exact decDigits_digit u d h
theorem zs_succ (i u : Nat) : (⟨#[48]⟩ : ByteArray) ++ zs i u = zs (i + 1) u := by
  apply ByteArray.ext
  unfold zs
  rw [ByteArray.data_append, List.replicate_succ]
  simp
theorem noughts_end (u i : Nat) (hi : i ≤ 20) (hu : u ≤ 1099511627776) : ∃ K, butterylaw01_NumNoughts.l0 K u i true (zs i u) i = some true := by
  have hu64 : u < 18446744073709551616 := by omega
  have hl := dec_len u hu64
  have hz := zs_size i u
  obtain ⟨K1, h1⟩ := sgn_f (zs i u)
  obtain ⟨K2, h2⟩ := sgn_f ((⟨#[45]⟩ : ByteArray) ++ zs i u)
  have h1' : num_Signed.f (K1 + K2) (zs i u) = some ((u : Int), true) := by
    have := h1 (K1 + K2) (by omega)
    refine Eq.trans this ?_
    obtain ⟨a, b⟩ := digits_sign (zs i u) (zs_digits i u)
    unfold sgnS
    rw [a, b, decS_zs i u (by omega) hu64]
    show some (if true = true ∧ u ≤ 1099511627776 then ((u : Int), true) else (0, false)) = _
    rw [if_pos ⟨rfl, hu⟩]
  have h2' : num_Signed.f (K1 + K2) ((⟨#[45]⟩ : ByteArray) ++ zs i u) = some (-(u : Int), true) := by
    have := h2 (K1 + K2) (by omega)
    refine Eq.trans this ?_
    obtain ⟨a, b⟩ := minus_sign (zs i u)
    unfold sgnS
    rw [a, b, decS_zs i u (by omega) hu64]
    show some (if true = true ∧ u ≤ 1099511627776 then (-(u : Int), true) else (0, false)) = _
    rw [if_pos ⟨rfl, hu⟩]
  have h3 : num_Decimal.f (zs i u) = some ((u : Int), true) := by
    unfold num_Decimal.f
    rw [decS_zs i u (by omega) hu64]
  obtain ⟨K, hK⟩ : ∃ K, K1 + K2 = K := ⟨_, rfl⟩
  rw [hK] at h1' h2'
  have hsz : 1 + (zs i u).size ≤ 9223372036854775807 := by omega
  have hw1 : wrap64 (u : Int) = u := w64 _ (by omega) (by omega)
  have hw2 : wrap64 (-(u : Int)) = -(u : Int) := w64 _ (by omega) (by omega)
  generalize zs i u = z at *
  refine ⟨K + 1, ?_⟩
  rw [butterylaw01_NumNoughts.l0, if_neg (by omega), h3]
  simp only [Option.bind_some, h1']
  rw [if_pos hsz]
  simp only [Option.bind_some, h2', hw1, hw2, if_true]
theorem noughts_l0 (u m : Nat) (hm : m ≤ 20) (hu : u ≤ 1099511627776) (d : Nat) : ∀ (i : Nat), i + d = m → ∃ K, butterylaw01_NumNoughts.l0 K u m true (zs i u) i = some true := by
  induction d with
  | zero =>
    intro i hd
    obtain rfl : i = m := by omega
    exact noughts_end u i hm hu
  | succ d ih =>
    intro i hd
    obtain ⟨K, hK⟩ := ih (i + 1) (by omega)
    have hl := dec_len u (by omega)
    have hz := zs_size i u
    refine ⟨K + 1, ?_⟩
    unfold butterylaw01_NumNoughts.l0
    rw [if_pos (by omega), if_pos (by omega), w64 _ (by omega) (by omega), zs_succ]
    exact hK
theorem noughts_f (u : Nat) (m : Int) (hu : u < 18446744073709551616) : Ev (fun k => butterylaw01_NumNoughts.f k u m) true := by
  have hm := butterylaw01_NumNoughts.mono u m
  obtain ⟨KA, hA⟩ := awake_f
  have up : ∀ K, KA ≤ K → butterylaw01_awake.f K = some true := fun K h => hA K h
  by_cases h1 : (u : Int) > 1099511627776
  · refine Ev.of hm (k := KA + 1) ?_
    show butterylaw01_NumNoughts.f (KA + 1) u m = _
    unfold butterylaw01_NumNoughts.f
    rw [up _ (by omega)]
    simp only [Option.bind_some]
    rw [if_pos h1]
    rfl
  · by_cases h2 : m < 0
    · refine Ev.of hm (k := KA + 1) ?_
      show butterylaw01_NumNoughts.f (KA + 1) u m = _
      unfold butterylaw01_NumNoughts.f
      rw [up _ (by omega)]
      simp only [Option.bind_some]
      rw [if_neg h1, if_pos h2]
      rfl
    · by_cases h3 : m > 20
      · refine Ev.of hm (k := KA + 1) ?_
        show butterylaw01_NumNoughts.f (KA + 1) u m = _
        unfold butterylaw01_NumNoughts.f
        rw [up _ (by omega)]
        simp only [Option.bind_some]
        rw [if_neg h1, if_neg h2, decide_eq_true h3]
        rfl
      · obtain ⟨p, rfl⟩ : ∃ p : Nat, m = p := ⟨m.toNat, by omega⟩
        obtain ⟨K, hK⟩ := noughts_l0 u p (by omega) (by omega) p 0 (by omega)
        obtain ⟨K2, hK2⟩ : ∃ K2, K + KA = K2 := ⟨_, rfl⟩
        refine Ev.of hm (k := K2 + 1) ?_
        show butterylaw01_NumNoughts.f (K2 + 1) u p = _
        unfold butterylaw01_NumNoughts.f
        rw [up _ (by omega)]
        simp only [Option.bind_some]
        rw [if_neg h1, if_neg h2, decide_eq_false h3]
        show ((num_Show.f (u : Int)).bind fun t251 => (butterylaw01_NumNoughts.l0 K2 u p true t251 0)) = _
        rw [show_f u hu]
        have e : showI (u : Int) = zs 0 u := by
          unfold showI zs
          rw [Int.toNat_natCast]
          rfl
        show butterylaw01_NumNoughts.l0 K2 u p true (showI (u : Int)) ((0 : Nat) : Int) = _
        rw [e]
        exact at_rounds (fun k => (butterylaw01_NumNoughts.mono_l k).2 _ _ _ _ _) (by omega) hK
theorem noughts_calls (n m : Int) (w : World) (h0 : 0 ≤ n) (h1 : n ≤ 18446744073709551615) (hT : Tabs w) :
    Calls Tryd.prog 8 #[.int .u64 n, .int .i64 m] w fun e w' => e = .returned (.bool true) ∧ Below w.heap.size w w' := by
  obtain ⟨u, rfl⟩ : ∃ u : Nat, n = u := ⟨n.toNat, by omega⟩
  exact bool_calls (noughts_f u m (by omega)) (fun k r h => butterylaw01_NumNoughts.calls k u m r w hT h)
end Go.Proofs.YthcpepijelikcaaDoor.X
