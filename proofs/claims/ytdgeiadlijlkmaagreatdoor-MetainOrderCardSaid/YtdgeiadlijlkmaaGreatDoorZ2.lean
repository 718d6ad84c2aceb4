/- Texts of this work, merged in build order: Pf2, Key3, Body, Body2, Api, K, Nums, Step0, Ml, FnM, Idx, Ln, Mode, RegL. -/
import Derived.Test.YtdgeiadlijlkmaaGreatDoorZ1
import Derived.WalkSpells
import Derived.Test.YtdgeiadlijlkmaaGreatDoorProg
import Derived.Laws.CopyOwn
import Derived.Below
import Derived.Deep.Draws
import Derived.Deep.AppendLies
import Derived.Maps.AppendAt
import Derived.OwnWalk
import Derived.Laws.BytesArg
import Derived.Laws.MakeOwn
import Derived.Laws.OwnMore
import Derived.Deep.OwnRows
import Derived.Tactics
import Derived.Lib.ConvBytes
import Derived.Laws.Slices
import Derived.WalkKit
import Derived.KernelRfl
import Derived.RowKit3
import Derived.Deep.LoopGhost
import Derived.Deep.QuietTactic
import Derived.BigQuiet
import Derived.WideLaws
import Derived.Deep.DeepCutAuto
import Derived.Deep.CutBlock
import Derived.Deep.RegionHeld3
import Derived.Laws.Rows
import Derived.Lib.AppendStr
import Derived.ArgAppend
import Derived.Laws.IdiomCopy
import Derived.OrdersHeld
import Derived.Laws.BitsLemmas
import Derived.RowKit
namespace Go.Proofs.YtdgeiadlijlkmaaGreatDoor.X
open Go.RowKit Go.Proofs.YtdgeiadlijlkmaaGreatDoorW.PrintWords Go.Proofs.YtdgeiadlijlkmaaGreatDoorW.PrintMore
set_option linter.unusedVariables false
set_option linter.unusedSimpArgs false

def rdigs (n : Nat) : List Int := if h : n = 0 then [] else ((48 + n % 10 : Nat) : Int) :: rdigs (n / 10)
termination_by n
decreasing_by omega
theorem rdigs_len : ∀ (k n : Nat), n < 10 ^ k → (rdigs n).length ≤ k
  | 0, n, h => by
    have : n = 0 := by simpa using h
    subst this; unfold rdigs; simp
  | k + 1, n, h => by
    unfold rdigs
    by_cases h0 : n = 0
    · rw [dif_pos h0]; simp
    · rw [dif_neg h0, List.length_cons]
      have := rdigs_len k (n / 10) (by rw [Nat.pow_succ] at h; omega)
      omega
theorem rdigs_dec (n : Nat) (h : n ≠ 0) : (rdigs n).reverse.map (fun i => UInt8.ofNat i.toNat) = Lib.decDigits n := by
  induction n using Nat.strongRecOn with
  | _ n ih =>
    rw [rdigs, dif_neg h, Lib.decDigits]
    by_cases h10 : n < 10
    · rw [dif_pos h10, show n / 10 = 0 by omega, rdigs, dif_pos rfl]
      simp only [List.reverse_cons, List.reverse_nil, List.nil_append, List.map_cons, List.map_nil]
      rw [Int.toNat_natCast, Nat.mod_eq_of_lt h10]
    · rw [dif_neg h10, List.reverse_cons, List.map_append, ih (n / 10) (by omega) (by omega)]
      simp only [List.map_cons, List.map_nil]
      rw [Int.toNat_natCast]
/-- The list that the second loop has made behind i rounds. -/
def swp (L : List Int) (i : Nat) : List Int := (List.range L.length).map fun j => if j < i ∨ L.length ≤ j + i then L.getD (L.length - 1 - j) 0 else L.getD j 0
theorem swp_len (L : List Int) (i : Nat) : (swp L i).length = L.length := by simp [swp]
theorem swp_at (L : List Int) (i j : Nat) (h : j < L.length) : (swp L i).getD j 0 = if j < i ∨ L.length ≤ j + i then L.getD (L.length - 1 - j) 0 else L.getD j 0 := by
  simp [swp, List.getD_eq_getElem?_getD, h]
theorem getD_ext {a b : List Int} (h : a.length = b.length) (h2 : ∀ j, j < a.length → a.getD j 0 = b.getD j 0) : a = b := by
  apply List.ext_getElem h
  intro j h1 h3
  have := h2 j h1
  simpa [List.getD_eq_getElem?_getD, h1, h3] using this
theorem getD_set (l : List Int) (i j : Nat) (v : Int) (h : j < l.length) : (l.set i v).getD j 0 = if i = j then v else l.getD j 0 := by
  simp only [List.getD_eq_getElem?_getD, List.getElem?_set]
  split
  · next e => subst e; simp [h]
  · rfl
theorem swp_zero (L : List Int) : swp L 0 = L := by
  apply getD_ext (swp_len _ _)
  intro j hj
  rw [swp_len] at hj
  rw [swp_at _ _ _ hj, if_neg (by omega)]
theorem swp_end (L : List Int) (i : Nat) (h : L.length ≤ 2 * i + 1) : swp L i = L.reverse := by
  apply getD_ext (by rw [swp_len, List.length_reverse])
  intro j hj
  rw [swp_len] at hj
  rw [swp_at _ _ _ hj]
  have e : L.reverse.getD j 0 = L.getD (L.length - 1 - j) 0 := by
    simp only [List.getD_eq_getElem?_getD]
    rw [List.getElem?_reverse hj]
  rw [e]
  split
  · rfl
  · rw [show L.length - 1 - j = j by omega]
theorem swp_step (L : List Int) (i : Nat) (h : 2 * i + 1 < L.length) : ((swp L i).set i ((swp L i).getD (L.length - 1 - i) 0)).set (L.length - 1 - i) ((swp L i).getD i 0) = swp L (i + 1) := by
  apply getD_ext (by simp [swp_len])
  intro j hj
  rw [List.length_set, List.length_set, swp_len] at hj
  have ha : (swp L i).getD (L.length - 1 - i) 0 = L.getD (L.length - 1 - i) 0 := by rw [swp_at _ _ _ (by omega), if_neg (by omega)]
  have hb : (swp L i).getD i 0 = L.getD i 0 := by rw [swp_at _ _ _ (by omega), if_neg (by omega)]
  rw [ha, hb, getD_set _ _ _ _ (by rw [List.length_set, swp_len]; exact hj), getD_set _ _ _ _ (by rw [swp_len]; exact hj), swp_at _ _ _ hj, swp_at _ _ _ hj]
  by_cases h1 : L.length - 1 - i = j
  · rw [if_pos h1, if_pos (by omega), show L.length - 1 - j = i by omega]
  · rw [if_neg h1]
    by_cases h2 : i = j
    · rw [if_pos h2, if_pos (by omega), h2]
    · rw [if_neg h2]
      by_cases h3 : j < i ∨ L.length ≤ j + i
      · rw [if_pos h3, if_pos (by omega)]
      · rw [if_neg h3, if_neg (by omega)]
theorem bt_list (s : ByteArray) (i : Nat) (h : i < s.size) (hl : i < s.data.toList.length) : bt s (i : Int) = ((s.data.toList[i]).toNat : Int) := by
  unfold bt
  rw [Int.toNat_natCast, dif_pos h]
  rw [Array.getElem_toList]
  rfl
def resOf : Option Nat → Int × Bool
  | some u => (u, true)
  | none => (0, false)
theorem rdec_l0 (s : ByteArray) (hs : s.size ≤ 40) : ∀ (d i n : Nat), i + d = s.size → n < 18446744073709551616 → ∃ K, butteryref01_Decimal.l0 K s n i = some (resOf (rDecL n (s.data.toList.drop i)))
  | 0, i, n, hd, hn => by
    refine ⟨1, ?_⟩
    unfold butteryref01_Decimal.l0
    have hl : s.data.toList.length = s.size := Array.length_toList
    rw [if_neg (by omega), List.drop_eq_nil_of_le (by omega)]
    rfl
  | d + 1, i, n, hd, hn => by
    have hl : s.data.toList.length = s.size := Array.length_toList
    have hi : i < s.size := by omega
    have hb := bt_list s i hi (by omega)
    have hc : (s.data.toList[i]'(by omega)).toNat < 256 := UInt8.toNat_lt _
    have hdr := List.drop_eq_getElem_cons (l := s.data.toList) (i := i) (by omega)
    generalize (s.data.toList[i]'(by omega)) = c at *
    rw [hdr]
    by_cases h1 : c.toNat < 48
    · refine ⟨2, ?_⟩
      unfold butteryref01_Decimal.l0
      rw [if_pos (by omega), if_pos (by omega), if_pos (by omega)]
      unfold butteryref01_Decimal.j2
      rw [if_pos rfl, rDecL, if_pos (Or.inl h1)]
      rfl
    · by_cases h2 : 57 < c.toNat
      · refine ⟨2, ?_⟩
        unfold butteryref01_Decimal.l0
        rw [if_pos (by omega), if_pos (by omega), if_neg (by omega)]
        unfold butteryref01_Decimal.j2
        rw [if_pos (decide_eq_true (by omega)), rDecL, if_pos (Or.inr h2)]
        rfl
      · have e8 : (bt s (i : Int) - 48) % 256 = ((c.toNat - 48 : Nat) : Int) := by omega
        by_cases h3 : (18446744073709551615 - (c.toNat - 48)) / 10 < n
        · refine ⟨2, ?_⟩
          unfold butteryref01_Decimal.l0
          rw [if_pos (by omega), if_pos (by omega), if_neg (by omega)]
          unfold butteryref01_Decimal.j2
          rw [if_neg (by rw [decide_eq_true_eq]; omega), if_pos (by omega), if_pos (by omega), e8, if_pos (by omega), rDecL, if_neg (by omega), if_pos h3]
          rfl
        · obtain ⟨K, hK⟩ := rdec_l0 s hs d (i + 1) (10 * n + (c.toNat - 48)) (by omega) (by omega)
          refine ⟨K + 2, ?_⟩
          unfold butteryref01_Decimal.l0
          rw [if_pos (by omega), if_pos (by omega), if_neg (by omega)]
          unfold butteryref01_Decimal.j2
          have e9 : IntKind.u64.wrap (IntKind.u64.wrap (10 * (n : Int)) + ((c.toNat - 48 : Nat) : Int)) = ((10 * n + (c.toNat - 48) : Nat) : Int) := by rw [IntKind.wrap_u64, IntKind.wrap_u64]; omega
          rw [if_neg (by rw [decide_eq_true_eq]; omega), if_pos (by omega), if_pos (by omega), e8, if_neg (by omega), e9, w64 _ (by omega) (by omega), rDecL, if_neg (by omega), if_neg h3]
          exact hK
theorem rdec_f (s : ByteArray) : Ev (fun k => butteryref01_Decimal.f k s) ((decS s).1, (decS s).2) := by
  have hm := butteryref01_Decimal.mono s
  by_cases h0 : s.size = 0
  · refine Ev.of hm (k := 1) ?_
    show butteryref01_Decimal.f 1 s = _
    unfold butteryref01_Decimal.f decS
    rw [if_pos (by omega), if_pos (Or.inl h0)]
    rfl
  · by_cases h40 : 40 < s.size
    · refine Ev.of hm (k := 1) ?_
      show butteryref01_Decimal.f 1 s = _
      unfold butteryref01_Decimal.f decS
      rw [if_neg (by omega), if_pos (Or.inr h40), decide_eq_true (by omega)]
      rfl
    · obtain ⟨K, hK⟩ := rdec_l0 s (by omega) s.size 0 0 (by omega) (by omega)
      refine Ev.of hm (k := K + 1) ?_
      show butteryref01_Decimal.f (K + 1) s = _
      unfold butteryref01_Decimal.f decS
      rw [if_neg (by omega), if_neg (by omega), decide_eq_false (by omega)]
      show butteryref01_Decimal.l0 K s ((0 : Nat) : Int) ((0 : Nat) : Int) = _
      rw [hK, List.drop_zero]
      cases rDecL 0 s.data.toList <;> rfl
/-- A number with or without a sign. -/
def sgnOf (neg : Bool) (p : Nat × Bool) : Int × Bool := if p.2 = true ∧ p.1 ≤ 1099511627776 then ((if neg then -(p.1 : Int) else p.1), true) else (0, false)
def isNeg (s : ByteArray) : Bool := Lib.hasPrefix s.data.toList [45]
def unsigned (s : ByteArray) : ByteArray := ⟨(Lib.trimPrefix s.data.toList [45]).toArray⟩
def sgnS (s : ByteArray) : Int × Bool := sgnOf (isNeg s) (decS (unsigned s))
theorem sgn_f (s : ByteArray) : Ev (fun k => num_Signed.f k s) (sgnS s) := by
  have hm := num_Signed.mono s
  refine Ev.of hm (k := 1) ?_
  show num_Signed.f 1 s = _
  unfold num_Signed.f
  show ((num_Decimal.f (unsigned s)).bind fun bt228 => (if bt228.2 = true then (num_Signed.j0 1 (isNeg s) bt228.1 (decide (bt228.1 > 1099511627776))) else (num_Signed.j0 1 (isNeg s) bt228.1 true))) = _
  unfold num_Decimal.f sgnS
  generalize decS (unsigned s) = p
  obtain ⟨u, b⟩ := p
  show (if b = true then (num_Signed.j0 1 (isNeg s) (u : Int) (decide ((u : Int) > 1099511627776))) else (num_Signed.j0 1 (isNeg s) (u : Int) true)) = _
  unfold sgnOf
  cases b
  · rw [if_neg (by decide)]
    show some (0, false) = _
    rw [if_neg (by simp)]
  · rw [if_pos rfl]
    by_cases h : (u : Int) > 1099511627776
    · rw [decide_eq_true h]
      show some (0, false) = _
      rw [if_neg (by simp; omega)]
    · rw [decide_eq_false h]
      have hu : u ≤ 1099511627776 := by omega
      show (if isNeg s = true then (some (wrap64 (-(wrap64 (u : Int))), true)) else (some (wrap64 (u : Int), true))) = _
      rw [w64 (u : Int) (by omega) (by omega), w64 (-(u : Int)) (by omega) (by omega)]
      cases isNeg s
      · show some ((u : Int), true) = some (if true = true ∧ u ≤ 1099511627776 then ((u : Int), true) else (0, false))
        rw [if_pos ⟨rfl, hu⟩]
      · show some (-(u : Int), true) = some (if true = true ∧ u ≤ 1099511627776 then (-(u : Int), true) else (0, false))
        rw [if_pos ⟨rfl, hu⟩]
theorem rsgn_j1 (s : ByteArray) (neg : Bool) : ∃ K, butteryref01_Signed.j1 K s neg = some (sgnOf neg (decS s)) := by
  obtain ⟨K, hK⟩ := rdec_f s
  refine ⟨K + 2, ?_⟩
  have h1 : butteryref01_Decimal.f (K + 1) s = some (((decS s).1 : Int), (decS s).2) := hK (K + 1) (by omega)
  show ((butteryref01_Decimal.f (K + 1) s).bind fun bt230 => (if bt230.2 = true then (butteryref01_Signed.j2 (K + 1) neg bt230.1 (decide (bt230.1 > 1099511627776))) else (butteryref01_Signed.j2 (K + 1) neg bt230.1 true))) = _
  rw [h1]
  generalize decS s = p
  obtain ⟨u, b⟩ := p
  show (if b = true then (butteryref01_Signed.j2 (K + 1) neg (u : Int) (decide ((u : Int) > 1099511627776))) else (butteryref01_Signed.j2 (K + 1) neg (u : Int) true)) = _
  unfold sgnOf
  cases b
  · rw [if_neg (by decide)]
    show some (0, false) = _
    rw [if_neg (by simp)]
  · rw [if_pos rfl]
    by_cases h : (u : Int) > 1099511627776
    · rw [decide_eq_true h]
      show some (0, false) = _
      rw [if_neg (by simp; omega)]
    · rw [decide_eq_false h]
      have hu : u ≤ 1099511627776 := by omega
      show (if neg = true then (some (wrap64 (-(wrap64 (u : Int))), true)) else (some (wrap64 (u : Int), true))) = _
      rw [w64 (u : Int) (by omega) (by omega), w64 (-(u : Int)) (by omega) (by omega)]
      cases neg
      · show some ((u : Int), true) = some (if true = true ∧ u ≤ 1099511627776 then ((u : Int), true) else (0, false))
        rw [if_pos ⟨rfl, hu⟩]
      · show some (-(u : Int), true) = some (if true = true ∧ u ≤ 1099511627776 then (-(u : Int), true) else (0, false))
        rw [if_pos ⟨rfl, hu⟩]
theorem neg_cases (s : ByteArray) : (s.size = 0 ∧ isNeg s = false ∧ unsigned s = s) ∨ (0 < s.size ∧ isNeg s = (bt s 0 == 45) ∧ unsigned s = if isNeg s then s.extract 1 s.size else s) := by
  obtain ⟨⟨l⟩⟩ := s
  cases l with
  | nil => exact Or.inl ⟨rfl, rfl, rfl⟩
  | cons c r =>
    right
    have e : isNeg ⟨⟨c :: r⟩⟩ = (c == 45) := by
      unfold isNeg
      rw [Bool.eq_iff_iff]
      simp [Lib.hasPrefix]
      exact eq_comm
    have e2 : bt ⟨⟨c :: r⟩⟩ 0 = (c.toNat : Int) := by
      have := bt_list ⟨⟨c :: r⟩⟩ 0 (by simp [ByteArray.size]) (by simp)
      simpa using this
    refine ⟨by simp [ByteArray.size], ?_, ?_⟩
    · rw [e, e2, Bool.eq_iff_iff, beq_iff_eq, beq_iff_eq]
      constructor
      · rintro rfl; rfl
      · intro h
        exact UInt8.toNat_inj.1 (by have : (45 : UInt8).toNat = 45 := rfl
                                    omega)
    · rw [e]
      unfold unsigned
      cases hc : (c == 45)
      · have : Lib.hasPrefix (c :: r) [45] = false := by have := e; unfold isNeg at this; rw [hc] at this; exact this
        show (⟨(Lib.trimPrefix (c :: r) [45]).toArray⟩ : ByteArray) = _
        unfold Lib.trimPrefix
        rw [this]
        rfl
      · have : Lib.hasPrefix (c :: r) [45] = true := by have := e; unfold isNeg at this; rw [hc] at this; exact this
        show (⟨(Lib.trimPrefix (c :: r) [45]).toArray⟩ : ByteArray) = _
        unfold Lib.trimPrefix
        rw [this]
        apply ByteArray.ext
        simp [ByteArray.data_extract, ByteArray.size]
theorem rsgn_f (s : ByteArray) (hs : s.size ≤ 9223372036854775807) : Ev (fun k => butteryref01_Signed.f k s) (sgnS s) := by
  have hm := butteryref01_Signed.mono s
  unfold sgnS
  rcases neg_cases s with ⟨h0, h1, h2⟩ | ⟨h0, h1, h2⟩
  · rw [h1, h2]
    obtain ⟨K, hK⟩ := rsgn_j1 s false
    refine Ev.of hm (k := K + 1) ?_
    show butteryref01_Signed.f (K + 1) s = _
    unfold butteryref01_Signed.f
    rw [if_neg (by omega)]
    exact hK
  · obtain ⟨K, hK⟩ := rsgn_j1 (unsigned s) (isNeg s)
    refine Ev.of hm (k := K + 1) ?_
    show butteryref01_Signed.f (K + 1) s = _
    unfold butteryref01_Signed.f
    rw [if_pos (by omega), if_pos (by omega), ← h1]
    rw [h2] at hK
    rw [h2]
    cases hn : isNeg s
    · rw [hn] at hK
      rw [if_neg (by decide)] at hK ⊢
      exact hK
    · rw [hn] at hK
      rw [if_pos rfl] at hK ⊢
      show (if 1 ≤ (s.size : Int) then (butteryref01_Signed.j1 K (s.extract 1 s.size) true) else (none)) = _
      rw [if_pos (by omega)]
      exact hK
end Go.Proofs.YtdgeiadlijlkmaaGreatDoor.X
namespace Go.Proofs.YtdgeiadlijlkmaaGreatDoor.X
open Go.RowKit Go.Proofs.YtdgeiadlijlkmaaGreatDoorW.PrintWords
set_option linter.unusedVariables false
set_option linter.unusedSimpArgs false

theorem rkey_l0 (s : ByteArray) (hl : s.size ≤ 1000000) : ∀ (d i : Nat), i + d = s.size → Ev (fun k => butteryref13_Key.l0 k s (i : Int)) (!((bytesOf s).drop i).any oddB)
  | 0, i, hd => by
    refine Ev.step (fun k => by rw [butteryref13_Key.l0]) (Ev.neg (by omega) ?_)
    rw [List.drop_eq_nil_of_le (by rw [bytesOf_length]; omega)]
    exact Ev.now _
  | d + 1, i, hd => by
    have hi : i < s.size := by omega
    have hil : i < s.data.toList.length := hi
    have hib : i < (bytesOf s).length := by rw [bytesOf_length]; exact hi
    have e : (bytesOf s).drop i = (bytesOf s)[i] :: (bytesOf s).drop (i + 1) := List.drop_eq_getElem_cons hib
    have hr : bt s (i : Int) = (bytesOf s)[i] := by
      rw [bt_list s i hi hil]
      simp [bytesOf]
    refine Ev.step (fun k => by rw [butteryref13_Key.l0]) (Ev.pos (by omega) (Ev.pos (by omega) ?_))
    rw [hr, e, List.any_cons]
    generalize (bytesOf s)[i] = v
    by_cases h1 : v ≤ 32
    · refine Ev.pos h1 (ev_to (Ev.now _) ?_)
      simp [oddB, h1]
    · refine Ev.neg h1 ?_
      by_cases h2 : v = 127
      · refine Ev.pos h2 (ev_to (Ev.now _) ?_)
        simp [oddB, h2]
      · refine Ev.neg h2 ?_
        rw [w64 _ (by omega) (by omega)]
        refine ev_to (rkey_l0 s hl d (i + 1) (by omega)) ?_
        simp [oddB, h1, h2]
theorem rkey_ev (s : ByteArray) (hl : s.size ≤ 1000000) : Ev (fun k => butteryref13_Key.f k s) (keyS s) := by
  rw [keyS_eq]
  unfold butteryref13_Key.f
  by_cases h : (s.size : Int) < 1
  · refine Ev.pos h (Ev.step (fun k => by rw [butteryref13_Key.j0]) (Ev.pos rfl (ev_to (Ev.now _) ?_)))
    have : ¬ 1 ≤ s.size := by omega
    simp [keyedS, this]
  · refine Ev.neg h ?_
    by_cases h2 : (s.size : Int) > 250
    · rw [decide_eq_true h2]
      refine Ev.step (fun k => by rw [butteryref13_Key.j0]) (Ev.pos rfl (ev_to (Ev.now _) ?_))
      have : ¬ s.size ≤ 250 := by omega
      simp [keyedS, this]
    · rw [decide_eq_false h2]
      refine Ev.step (fun k => by rw [butteryref13_Key.j0]) (Ev.neg (by decide) ?_)
      refine ev_to (rkey_l0 s hl s.size 0 (by omega)) ?_
      have h3 : 1 ≤ s.size := by omega
      have h4 : s.size ≤ 250 := by omega
      simp [keyedS, h3, h4]
theorem rkey_calls (s : ByteArray) (w : World) (hl : s.size ≤ 1000000) : Calls Tryz.prog 27 #[.string s] w fun e w' => e = .returned (.bool (keyS s)) ∧ Below w.heap.size w w' := by
  obtain ⟨K, hK⟩ := rkey_ev s hl
  exact (butteryref13_Key.calls K s _ w (hK K (Nat.le_refl _))).mono fun e w' ⟨he, hd⟩ => ⟨he, hd.below⟩
end Go.Proofs.YtdgeiadlijlkmaaGreatDoor.X
namespace Go.Proofs.YtdgeiadlijlkmaaGreatDoor.X
open Go.RowKit Go.Proofs.YtdgeiadlijlkmaaGreatDoorW.PrintWords Go.Proofs.YtdgeiadlijlkmaaGreatDoorW.PrintMore
set_option linter.unusedVariables false
set_option linter.unusedSimpArgs false
/-- A row of bytes of the call's own. -/
def RowB (l : List Int) (w : World) (v : Value) (w' : World) : Prop := w'.ownsRow w.heap.size 5 1 v l.length (encs (Value.int .u8) l) ∧ Below w.heap.size w w'
theorem C_news {W : World} {A : Addr} {l : List Int} (h : (Kd.int .u8).C W (some A) l.length l) : ∀ j u, (encs (Value.int .u8) l)[j]? = some u → W.cell? (A.add j) = some u := by
  intro j u hj
  have hlt : j < l.length := by
    obtain ⟨h1, -⟩ := List.getElem?_eq_some_iff.1 hj
    rwa [encs_length] at h1
  obtain ⟨b, o, e, -, hc⟩ := C_cell h j hlt
  obtain rfl := Option.some.inj e
  have e2 : (encs (Value.int .u8) l)[j]? = some (Value.int .u8 (l.getD j 0)) := encs_get _ _ hlt
  rw [e2] at hj
  obtain rfl := Option.some.inj hj
  have e3 : (⟨b, o, none⟩ : Addr).add j = ⟨b, o + j, none⟩ := by
    unfold Addr.add
    split <;> simp_all
  rw [e3]
  exact hc
theorem rowB_own {l : List Int} {w w' : World} {v : Value} (h : w'.ownsRow w.heap.size 5 1 v l.length (encs (Value.int .u8) l)) (hb : Below w.heap.size w w') : RowB l w v w' := ⟨h, hb⟩
theorem RowB.C {l : List Int} {w w' : World} {v : Value} (h : RowB l w v w') : ∃ A c, v = .slice A l.length c ∧ l.length ≤ c ∧ (Kd.int .u8).C w' A l.length l := Kd.R_reads (Kd.R_of_own (h1 := fun _ => rfl) (ok := fun _ => True) h.1 (fun _ _ => trivial))
theorem own_empty (W : World) (base : Nat) (e : TypeId) (h : base ≤ W.heap.size) : (W.alloc (.cells #[] e)).ownsRow base e 1 (.slice (some ⟨W.heap.size, 0, none⟩) 0 0) 0 [] :=
  ⟨rfl, .inr ⟨W.heap.size, 0, #[], rfl, h, by rw [← World.alloc_eq]; exact Array.getElem?_push_size, by omega, by decide, rfl, rfl⟩⟩
set_option maxRecDepth 100000 in
set_option maxHeartbeats 1000000 in
theorem clone_calls (l : List Int) (A : Option Addr) (c : Nat) (w : World) (hC : (Kd.int .u8).C w A l.length l) (hc : l.length ≤ c) (hl : l.length ≤ 1000000) :
    Calls Tryz.prog 56 #[.slice A l.length c] w fun e w' => ∃ v, e = .returned v ∧ RowB l w v w' := by
  have HC := Aside0.mk hC
  clear hC
  have HB := Aside0.mk (Below.refl w.heap.size w)
  obtain ⟨i0, hi, hz0, hz1, hz2⟩ := info_parts info5
  cases A with
  | none =>
    obtain rfl : l = [] := by
      cases l with
      | nil => rfl
      | cons x xs => obtain ⟨b, o, e, -⟩ := C_cell HC.out 0 (by simp); cases e
    go_enter Tryz.func56, Tryz.ntmps56
    go_wp2
    rw [Lib.run_eql_slice_nil (h := Tryz.underlying22)]
    go_wp2
    go_ret
    exact ⟨_, rfl, World.ownsRow_nil _ _ _ _, HB.out⟩
  | some a =>
    go_enter Tryz.func56, Tryz.ntmps56
    go_wp2
    rw [Lib.run_eql_slice_nil (h := Tryz.underlying22)]
    go_wp2_with (at_builtin; refine wpList_append_own _ rfl _ _ 22 rfl w.heap.size 5 i0 (.int .u8 0) 1 1 Tryz.underlying22 hi hz0 hz1 hz2 rfl (by decide) _ _ _ rfl (own_empty w _ _ (Nat.le_refl _)) a l.length c (encs (Value.int .u8) l) rfl (by rw [encs_length, Nat.mul_one]) (C_news (Kd.C_below HC.out (by repeat (first | (with_reducible first | exact HB.out | apply below_alloc | apply pw_below_drewN | apply below_drew1) | exact HB.out)))) (by intro u hu; obtain ⟨z, -, rfl⟩ := List.mem_map.1 hu; rfl) (by unfold maxLen; omega) (by omega) (by simp) ?_; intro v' w1 hown' hgrow _; have HO := Aside0.mk hown'; have HG := Aside0.mk hgrow; clear hown' hgrow)
    go_ret
    refine ⟨_, rfl, rowB_own (by have := HO.out; simpa using this) ?_⟩
    exact Below.grown ((Below.refl _ w).alloc (Nat.le_refl _) _) HG.out (by simp) (fun k hk => by cases hk; exact Nat.le_refl _)
def BL (w : World) (r : List Int × Int × Int) (e : Ending) (w' : World) : Prop := ∃ v, e = .returned (.tuple #[v, .int .i64 r.2.1, .int .i64 r.2.2]) ∧ RowB r.1 w v w'
theorem rowB_nil (w : World) (w' : World) (h : Below w.heap.size w w') : RowB [] w (.slice none 0 0) w' := ⟨World.ownsRow_nil _ _ _ _, h⟩
theorem crlf_iff (l : List Int) (k : Nat) (h : k + 2 ≤ l.length) (h8 : B8 l) : strOfNums ((l.drop k).take 2) = ⟨#[13, 10]⟩ ↔ (l.getD k 0 = 13 ∧ l.getD (k + 1) 0 = 10) := by
  have e1 : (l.drop k).take 2 = [l.getD k 0, l.getD (k + 1) 0] := by
    rw [List.drop_eq_getElem_cons (by omega), List.drop_eq_getElem_cons (by omega), List.getD_eq_getElem?_getD, List.getD_eq_getElem?_getD, List.getElem?_eq_getElem (by omega), List.getElem?_eq_getElem (by omega)]
    rfl
  have hx := h8 (l.getD k 0) (by rw [List.getD_eq_getElem?_getD, List.getElem?_eq_getElem (by omega)]; exact List.getElem_mem _)
  have hy := h8 (l.getD (k + 1) 0) (by rw [List.getD_eq_getElem?_getD, List.getElem?_eq_getElem (by omega)]; exact List.getElem_mem _)
  rw [e1]
  generalize l.getD k 0 = x at *
  generalize l.getD (k + 1) 0 = y at *
  have e2 : ∀ z : Int, 0 ≤ z ∧ z < 256 → ∀ n : Nat, n < 256 → (UInt8.ofNat z.toNat = UInt8.ofNat n ↔ z = n) := by
    intro z hz n hn
    constructor
    · intro h
      have h2 := congrArg UInt8.toNat h
      rw [UInt8.toNat_ofNat', UInt8.toNat_ofNat'] at h2
      omega
    · rintro rfl
      rfl
  have e3 : strOfNums [x, y] = ⟨#[UInt8.ofNat x.toNat, UInt8.ofNat y.toNat]⟩ := rfl
  rw [e3]
  constructor
  · intro h
    injection h with h
    have h2 := congrArg Array.toList h
    simp only [List.cons.injEq, and_true] at h2
    exact ⟨(e2 x hx 13 (by omega)).1 h2.1, (e2 y hy 10 (by omega)).1 h2.2⟩
  · rintro ⟨rfl, rfl⟩
    rfl
set_option maxRecDepth 100000 in
set_option maxHeartbeats 1000000 in
theorem fbody_calls (l : List Int) (A : Option Addr) (c : Nat) (n : Int) (w : World) (hC : (Kd.int .u8).C w A l.length l) (hc : l.length ≤ c) (hl : l.length ≤ 1000000) (h8 : B8 l) :
    Calls Tryz.prog 37 #[.slice A l.length c, .int .i64 n] w (BL w (bodyS l n)) := by
  have HC := Aside0.mk hC
  have H8 := Aside0.mk h8
  clear hC h8
  have HB := Aside0.mk (Below.refl w.heap.size w)
  obtain ⟨r, hr⟩ : ∃ r, bodyS l n = r := ⟨_, rfl⟩
  rw [hr]
  unfold bodyS at hr
  by_cases h1 : n < 0
  · rw [if_pos (Or.inl h1)] at hr
    subst hr
    have h1d : decide (n < 0) = true := decide_eq_true h1
    go_enter Tryz.func37, Tryz.ntmps37
    go_wp2
    go_ret3
    exact ⟨_, rfl, rowB_nil _ _ HB.out⟩
  by_cases h2 : n > 1000
  · rw [if_pos (Or.inr h2)] at hr
    subst hr
    have h1d : decide (n < 0) = false := decide_eq_false h1
    have h2d : decide (n > 1000) = true := decide_eq_true h2
    go_enter Tryz.func37, Tryz.ntmps37
    go_wp2
    go_ret3
    exact ⟨_, rfl, rowB_nil _ _ HB.out⟩
  rw [if_neg (by omega)] at hr
  obtain ⟨k, rfl⟩ : ∃ k : Nat, n = k := ⟨n.toNat, by omega⟩
  have hw : IntKind.i64.wrap ((k : Int) + 2) = (k : Int) + 2 := IntWalk.i64_in _ (by omega)
  by_cases h3 : (l.length : Int) < (k : Int) + 2
  · rw [if_pos h3] at hr
    subst hr
    go_enter Tryz.func37, Tryz.ntmps37
    go_wp2
    go_ret3
    exact ⟨_, rfl, rowB_nil _ _ HB.out⟩
  rw [if_neg h3] at hr
  have hp1 : (0 : Int) ≤ (k : Int) + 2 := by omega
  have hn1 : ((k : Int) + 2).toNat = k + 2 := by omega
  have hk1 : (k : Int) + 2 ≤ l.length := by omega
  have hk2 : (k : Int) ≤ l.length := by omega
  have hk3 : (k : Int) ≤ c := by omega
  have hk4 : k ≤ c := by omega
  have hk5 : (l.length : Int) ≤ c := by omega
  have hk6 : (k : Int) + 2 ≤ c := by omega
  have HD : Aside0 ((Kd.int .u8).C w (Option.map (fun x => x.add k) A) 2 ((l.drop k).take 2)) := ⟨by
    have h5 := Kd.C_drop (c := c) (m := k) HC.out (by omega) hc
    rw [if_neg (by omega), show k * (Kd.int .u8).sz = k from Nat.mul_one k] at h5
    have h6 := Kd.C_take (m := 2) h5 (by rw [List.length_drop]; omega)
    rw [show ((l.drop k).take 2).length = 2 from by rw [List.length_take, List.length_drop]; omega] at h6
    exact h6⟩
  have hs2 : strOfNums ((l.drop k).take 2) = ⟨#[13, 10]⟩ ↔ (l.getD k 0 = 13 ∧ l.getD (k + 1) 0 = 10) := crlf_iff l k (by omega) H8.out
  obtain ⟨s2, he2⟩ : ∃ s2, strOfNums ((l.drop k).take 2) = s2 := ⟨_, rfl⟩
  have HE2 := Aside0.mk he2
  rw [he2] at hs2
  rw [show ((k : Int)).toNat = k from by omega] at hr
  clear he2
  go_enter Tryz.func37, Tryz.ntmps37
  go_wp2
  rw [Kd.C_string (xs := (l.drop k).take 2) Tryz.underlying22 Tryz.underlying5 Tryz.underlying9 HD.out, HE2.out]
  by_cases h4 : l.getD k 0 = 13 ∧ l.getD (k + 1) 0 = 10
  · rw [if_pos h4] at hr
    obtain rfl := hs2.2 h4
    clear hs2
    subst hr
    have HT : Aside0 ((Kd.int .u8).C w A (l.take k).length (l.take k)) := ⟨Kd.C_take (m := k) HC.out (by omega)⟩
    have hlk : (l.take k).length = k := by rw [List.length_take]; omega
    obtain ⟨T, hT⟩ : ∃ T, l.take k = T := ⟨_, rfl⟩
    rw [hT] at HT hlk
    have HTK := Aside0.mk hT
    clear hT
    have HCL := Aside0.mk (clone_calls T A k w HT.out (by omega) (by omega))
    rw [hlk] at HCL
    go_wp2_with (go_at_call 56; (with_reducible refine HCL.out.mono ?_); rintro e w1 ⟨v, rfl, hrow⟩; have HR := Aside0.mk hrow; clear hrow)
    go_ret3
    have HR2 := HR.out
    rw [← HTK.out] at HR2
    exact ⟨_, rfl, HR2⟩
  · rw [if_neg h4] at hr
    subst hr
    have hne : (s2.toList == [13, 10]) = false := by
      rw [Bool.eq_false_iff]
      intro h
      have h5 := beq_iff_eq.1 h
      rw [ByteArray.toList_eq] at h5
      refine h4 (hs2.1 ?_)
      rcases s2 with ⟨⟨q⟩⟩
      have h6 : q = [13, 10] := h5
      subst h6
      rfl
    clear hs2
    go_wp2
    go_ret3
    exact ⟨_, rfl, rowB_nil _ _ HB.out⟩
end Go.Proofs.YtdgeiadlijlkmaaGreatDoor.X
namespace Go.Proofs.YtdgeiadlijlkmaaGreatDoor.X
open Go.RowKit Go.Proofs.YtdgeiadlijlkmaaGreatDoorW.PrintWords Go.Proofs.YtdgeiadlijlkmaaGreatDoorW.PrintMore
set_option linter.unusedVariables false
set_option linter.unusedSimpArgs false
set_option maxRecDepth 100000 in
set_option maxHeartbeats 1000000 in
theorem rbody_calls (l : List Int) (A : Option Addr) (c : Nat) (n : Int) (w : World) (hC : (Kd.int .u8).C w A l.length l) (hc : l.length ≤ c) (hl : l.length ≤ 1000000) :
    Calls Tryz.prog 44 #[.slice A l.length c, .int .i64 n] w (BL w (bodyS l n)) := by
  have HC := Aside0.mk hC
  clear hC
  have HB := Aside0.mk (Below.refl w.heap.size w)
  obtain ⟨i0, hi, hz0, hz1, hz2⟩ := info_parts info5
  obtain ⟨r, hr⟩ : ∃ r, bodyS l n = r := ⟨_, rfl⟩
  rw [hr]
  unfold bodyS at hr
  by_cases h1 : n < 0
  · rw [if_pos (Or.inl h1)] at hr
    subst hr
    have h1d : decide (n < 0) = true := decide_eq_true h1
    go_enter Tryz.func44, Tryz.ntmps44
    go_wp2
    go_ret3
    exact ⟨_, rfl, rowB_nil _ _ HB.out⟩
  by_cases h2 : n > 1000
  · rw [if_pos (Or.inr h2)] at hr
    subst hr
    have h1d : decide (n < 0) = false := decide_eq_false h1
    have h2d : decide (n > 1000) = true := decide_eq_true h2
    go_enter Tryz.func44, Tryz.ntmps44
    go_wp2
    go_ret3
    exact ⟨_, rfl, rowB_nil _ _ HB.out⟩
  rw [if_neg (by omega)] at hr
  obtain ⟨k, rfl⟩ : ∃ k : Nat, n = k := ⟨n.toNat, by omega⟩
  have hw : IntKind.i64.wrap ((k : Int) + 2) = (k : Int) + 2 := IntWalk.i64_in _ (by omega)
  have hwa : IntKind.i64.wrap ((k : Int) + 1) = (k : Int) + 1 := IntWalk.i64_in _ (by omega)
  by_cases h3 : (l.length : Int) < (k : Int) + 2
  · rw [if_pos h3] at hr
    subst hr
    go_enter Tryz.func44, Tryz.ntmps44
    go_wp2
    go_ret3
    exact ⟨_, rfl, rowB_nil _ _ HB.out⟩
  rw [if_neg h3] at hr
  have hp1 : (0 : Int) ≤ (k : Int) + 2 := by omega
  have hn1 : ((k : Int) + 2).toNat = k + 2 := by omega
  have hpa : (0 : Int) ≤ (k : Int) + 1 := by omega
  have hna : ((k : Int) + 1).toNat = k + 1 := by omega
  have hk1 : (k : Int) + 2 ≤ l.length := by omega
  have hka : (k : Int) + 1 < l.length := by omega
  have hkb : (k : Int) < l.length := by omega
  have hk2 : (k : Int) ≤ l.length := by omega
  have hk3 : (k : Int) ≤ c := by omega
  have hk4 : k ≤ c := by omega
  have hk5 : (l.length : Int) ≤ c := by omega
  have hk6 : (k : Int) + 2 ≤ c := by omega
  obtain ⟨b, o, rfl, hb0, t1⟩ := C_cell HC.out k (by omega)
  obtain ⟨b', o', e', -, t2⟩ := C_cell HC.out (k + 1) (by omega)
  obtain ⟨rfl, rfl⟩ : b = b' ∧ o = o' := by simpa using e'
  rw [show ((k : Int)).toNat = k from by omega] at hr
  obtain ⟨x, hx⟩ : ∃ x, l.getD k 0 = x := ⟨_, rfl⟩
  obtain ⟨y, hy⟩ : ∃ y, l.getD (k + 1) 0 = y := ⟨_, rfl⟩
  rw [hx] at hr t1
  rw [hy] at hr t2
  clear hx hy e'
  by_cases hx : x = 13
  · by_cases hy : y = 10
    · rw [if_pos ⟨hx, hy⟩] at hr
      subst hx hy hr
      have HT : Aside0 ((Kd.int .u8).C w (some ⟨b, o, none⟩) (l.take k).length (l.take k)) := ⟨Kd.C_take (m := k) HC.out (by omega)⟩
      have hlk : (l.take k).length = k := by rw [List.length_take]; omega
      obtain ⟨T, hT⟩ : ∃ T, l.take k = T := ⟨_, rfl⟩
      rw [hT] at HT hlk
      have HTK := Aside0.mk hT
      clear hT
      go_enter Tryz.func44, Tryz.ntmps44
      go_wp2_with (at_builtin; refine wpList_append_own _ rfl _ _ 22 rfl w.heap.size 5 i0 (.int .u8 0) 1 1 Tryz.underlying22 hi hz0 hz1 hz2 rfl (by decide) _ _ _ rfl (own_nil w _ _ _) ⟨b, o, none⟩ k c (encs (Value.int .u8) T) rfl (by rw [encs_length, hlk, Nat.mul_one]) (C_news HT.out) (by intro u hu; obtain ⟨z, -, rfl⟩ := List.mem_map.1 hu; rfl) (by unfold maxLen; omega) (by omega) (by simp) ?_; intro v' w1 hown' hgrow _; have HO := Aside0.mk hown'; have HG := Aside0.mk hgrow; clear hown' hgrow)
      go_ret3
      refine ⟨_, rfl, ?_⟩
      have HO2 := HO.out
      rw [Nat.zero_add, List.nil_append, ← hlk] at HO2
      have HR := rowB_own HO2 (Below.grown (Below.refl _ w) HG.out (Nat.le_refl _) (fun k hk => by cases hk))
      rw [← HTK.out] at HR
      exact HR
    · rw [if_neg (fun h => hy h.2)] at hr
      subst hx hr
      have hyb : (y == 10) = false := beq_eq_false_iff_ne.2 hy
      go_enter Tryz.func44, Tryz.ntmps44
      go_wp2
      go_ret3
      exact ⟨_, rfl, rowB_nil _ _ HB.out⟩
  · rw [if_neg (fun h => hx h.1)] at hr
    subst hr
    have hxb : (x == 13) = false := beq_eq_false_iff_ne.2 hx
    go_enter Tryz.func44, Tryz.ntmps44
    go_wp2
    go_ret3
    exact ⟨_, rfl, rowB_nil _ _ HB.out⟩
end Go.Proofs.YtdgeiadlijlkmaaGreatDoor.X
namespace Go.Proofs.YtdgeiadlijlkmaaGreatDoor.X
structure Cmd where
  op : Int
  key : ByteArray
  value : List Int
  flags : Int
  exp : Int
  cas : Int
  delta : Int
  initial : Int
  makes : Bool
  sets : Bool
structure Cmd.Wf (x : Cmd) : Prop where
  op : -9223372036854775808 ≤ x.op ∧ x.op ≤ 9223372036854775807
  key : x.key.size ≤ 9223372036854775807
  value : x.value.length ≤ 9223372036854775807 ∧ ∀ y ∈ x.value, 0 ≤ y ∧ y ≤ 255
  flags : 0 ≤ x.flags ∧ x.flags ≤ 4294967295
  exp : -9223372036854775808 ≤ x.exp ∧ x.exp ≤ 9223372036854775807
  cas : 0 ≤ x.cas ∧ x.cas ≤ 18446744073709551615
  delta : 0 ≤ x.delta ∧ x.delta ≤ 18446744073709551615
  initial : 0 ≤ x.initial ∧ x.initial ≤ 18446744073709551615
structure Form where
  dialect : Int
  verb : ByteArray
  code : Int
  opq : Int
  quiet : Bool
  withcas : Bool
  flags : ByteArray
  tokens : List ByteArray
  keys : List ByteArray
  base64 : Bool
structure Form.Wf (x : Form) : Prop where
  dialect : -9223372036854775808 ≤ x.dialect ∧ x.dialect ≤ 9223372036854775807
  verb : x.verb.size ≤ 9223372036854775807
  code : -9223372036854775808 ≤ x.code ∧ x.code ≤ 9223372036854775807
  opq : 0 ≤ x.opq ∧ x.opq ≤ 4294967295
  flags : x.flags.size ≤ 9223372036854775807
  tokens : x.tokens.length ≤ 9223372036854775807 ∧ ∀ y ∈ x.tokens, y.size ≤ 9223372036854775807
  keys : x.keys.length ≤ 9223372036854775807 ∧ ∀ y ∈ x.keys, y.size ≤ 9223372036854775807
structure Request where
  cmds : List Cmd
  form : Form
structure Request.Wf (x : Request) : Prop where
  cmds : x.cmds.length ≤ 9223372036854775807 ∧ ∀ y ∈ x.cmds, y.Wf
  form : x.form.Wf
structure Step where
  req : Request
  reply : ByteArray
  used : Int
  skip : Int
  line : Bool
  e : Int
structure Step.Wf (x : Step) : Prop where
  req : x.req.Wf
  reply : x.reply.size ≤ 9223372036854775807
  used : -9223372036854775808 ≤ x.used ∧ x.used ≤ 9223372036854775807
  skip : -9223372036854775808 ≤ x.skip ∧ x.skip ≤ 9223372036854775807
  e : -9223372036854775808 ≤ x.e ∧ x.e ≤ 9223372036854775807
structure Butteryref18Line where
  c : Cmd
  f : Form
  error : ByteArray
structure Butteryref18Line.Wf (x : Butteryref18Line) : Prop where
  c : x.c.Wf
  f : x.f.Wf
  error : x.error.size ≤ 9223372036854775807
end Go.Proofs.YtdgeiadlijlkmaaGreatDoor.X
namespace Go.Proofs.YtdgeiadlijlkmaaGreatDoor.X
open Go.RowKit Go.Proofs.YtdgeiadlijlkmaaGreatDoorW.PrintWords
set_option linter.unusedVariables false
set_option linter.unusedSimpArgs false

def rd_L3 (xs : List (List Int)) (i : Int) : (List Int) := xs.getD i.toNat ([] : List Int)
theorem at_L3 {w : World} {A : Option Addr} {n : Nat} {xs : List (List Int)} (h : Kd.C (Kd.slice 5 (Kd.int .u8)) w A n xs) (i : Int) (h0 : 0 ≤ i) (h1 : i < n) : ∃ ad A0 c0, A = some ad ∧ w.cell? (ad.add i.toNat) = some (.slice A0 (rd_L3 xs i).length c0) ∧ (rd_L3 xs i).length ≤ c0 ∧ (Kd.int .u8).C w A0 (rd_L3 xs i).length (rd_L3 xs i) := by
  obtain ⟨ad, c, e, _, hK, hc0⟩ := Kd.C_get h ([] : List Int) i h0 h1
  have hc : ∀ j u, c[j]? = some u → w.cell? (ad.add (i.toNat * 1 + j)) = some u := hc0
  obtain ⟨A0, c0, rfl, l0, g0⟩ := hK
  exact ⟨ad, A0, c0, e, by have hq := hc 0 _ rfl; rwa [Nat.mul_one, Nat.add_zero] at hq, l0, g0⟩


/-! #### struct type 40 -/
def zCmd : Cmd := ⟨(0 : Int), (⟨#[]⟩ : ByteArray), ([] : List Int), (0 : Int), (0 : Int), (0 : Int), (0 : Int), (0 : Int), false, false⟩
def kCmd : Kd Cmd := Kd.iso (Kd.pair (Kd.int .i64) (Kd.pair Kd.string (Kd.pair (Kd.slice 5 (Kd.int .u8)) (Kd.pair (Kd.int .u32) (Kd.pair (Kd.int .i64) (Kd.pair (Kd.int .u64) (Kd.pair (Kd.int .u64) (Kd.pair (Kd.int .u64) (Kd.pair Kd.bool Kd.bool))))))))) (fun x : Cmd => (x.op, x.key, x.value, x.flags, x.exp, x.cas, x.delta, x.initial, x.makes, x.sets))
theorem kCmd_open {w : World} {x : Cmd} {cs : List Value} (h : kCmd.K w x cs) : ∃ A2 c2, cs = [.int .i64 x.op, .string x.key, .slice A2 x.value.length c2, .int .u32 x.flags, .int .i64 x.exp, .int .u64 x.cas, .int .u64 x.delta, .int .u64 x.initial, .bool x.makes, .bool x.sets] ∧ x.value.length ≤ c2 ∧ (Kd.int .u8).C w A2 x.value.length x.value := by
  obtain ⟨_, _, rfl, rfl, ⟨_, _, rfl, rfl, ⟨_, _, rfl, ⟨A2, c2, rfl, l2, g2⟩, ⟨_, _, rfl, rfl, ⟨_, _, rfl, rfl, ⟨_, _, rfl, rfl, ⟨_, _, rfl, rfl, ⟨_, _, rfl, rfl, ⟨_, _, rfl, rfl, rfl⟩⟩⟩⟩⟩⟩⟩⟩⟩ := h
  exact ⟨A2, c2, rfl, l2, g2⟩
theorem kCmd_openM {w : World} {base : Nat} {ok : Nat → Prop} {x : Cmd} {cs : List Value} (h : kCmd.M w base ok x cs) : ∃ v2, cs = [.int .i64 x.op, .string x.key, v2, .int .u32 x.flags, .int .i64 x.exp, .int .u64 x.cas, .int .u64 x.delta, .int .u64 x.initial, .bool x.makes, .bool x.sets] ∧ (Kd.int .u8).R 5 w base ok v2 x.value := by
  obtain ⟨_, _, rfl, rfl, ⟨_, _, rfl, rfl, ⟨_, _, rfl, ⟨v2, rfl, g2⟩, ⟨_, _, rfl, rfl, ⟨_, _, rfl, rfl, ⟨_, _, rfl, rfl, ⟨_, _, rfl, rfl, ⟨_, _, rfl, rfl, ⟨_, _, rfl, rfl, rfl⟩⟩⟩⟩⟩⟩⟩⟩⟩ := h
  exact ⟨v2, rfl, g2⟩
theorem kCmd_mk (w : World) (x : Cmd) {A2 : Option Addr} {c2 : Nat} (l2 : x.value.length ≤ c2) (g2 : (Kd.int .u8).C w A2 x.value.length x.value) : kCmd.K w x [.int .i64 x.op, .string x.key, .slice A2 x.value.length c2, .int .u32 x.flags, .int .i64 x.exp, .int .u64 x.cas, .int .u64 x.delta, .int .u64 x.initial, .bool x.makes, .bool x.sets] := ⟨[.int .i64 x.op], [.string x.key, .slice A2 x.value.length c2, .int .u32 x.flags, .int .i64 x.exp, .int .u64 x.cas, .int .u64 x.delta, .int .u64 x.initial, .bool x.makes, .bool x.sets], rfl, rfl, ⟨[.string x.key], [.slice A2 x.value.length c2, .int .u32 x.flags, .int .i64 x.exp, .int .u64 x.cas, .int .u64 x.delta, .int .u64 x.initial, .bool x.makes, .bool x.sets], rfl, rfl, ⟨[.slice A2 x.value.length c2], [.int .u32 x.flags, .int .i64 x.exp, .int .u64 x.cas, .int .u64 x.delta, .int .u64 x.initial, .bool x.makes, .bool x.sets], rfl, ⟨A2, c2, rfl, l2, g2⟩, ⟨[.int .u32 x.flags], [.int .i64 x.exp, .int .u64 x.cas, .int .u64 x.delta, .int .u64 x.initial, .bool x.makes, .bool x.sets], rfl, rfl, ⟨[.int .i64 x.exp], [.int .u64 x.cas, .int .u64 x.delta, .int .u64 x.initial, .bool x.makes, .bool x.sets], rfl, rfl, ⟨[.int .u64 x.cas], [.int .u64 x.delta, .int .u64 x.initial, .bool x.makes, .bool x.sets], rfl, rfl, ⟨[.int .u64 x.delta], [.int .u64 x.initial, .bool x.makes, .bool x.sets], rfl, rfl, ⟨[.int .u64 x.initial], [.bool x.makes, .bool x.sets], rfl, rfl, ⟨[.bool x.makes], [.bool x.sets], rfl, rfl, rfl⟩⟩⟩⟩⟩⟩⟩⟩⟩
theorem kCmd_mkM (w : World) (base : Nat) (ok : Nat → Prop) (x : Cmd) {v2 : Value} (g2 : (Kd.int .u8).R 5 w base ok v2 x.value) : kCmd.M w base ok x [.int .i64 x.op, .string x.key, v2, .int .u32 x.flags, .int .i64 x.exp, .int .u64 x.cas, .int .u64 x.delta, .int .u64 x.initial, .bool x.makes, .bool x.sets] := ⟨[.int .i64 x.op], [.string x.key, v2, .int .u32 x.flags, .int .i64 x.exp, .int .u64 x.cas, .int .u64 x.delta, .int .u64 x.initial, .bool x.makes, .bool x.sets], rfl, rfl, ⟨[.string x.key], [v2, .int .u32 x.flags, .int .i64 x.exp, .int .u64 x.cas, .int .u64 x.delta, .int .u64 x.initial, .bool x.makes, .bool x.sets], rfl, rfl, ⟨[v2], [.int .u32 x.flags, .int .i64 x.exp, .int .u64 x.cas, .int .u64 x.delta, .int .u64 x.initial, .bool x.makes, .bool x.sets], rfl, ⟨v2, rfl, g2⟩, ⟨[.int .u32 x.flags], [.int .i64 x.exp, .int .u64 x.cas, .int .u64 x.delta, .int .u64 x.initial, .bool x.makes, .bool x.sets], rfl, rfl, ⟨[.int .i64 x.exp], [.int .u64 x.cas, .int .u64 x.delta, .int .u64 x.initial, .bool x.makes, .bool x.sets], rfl, rfl, ⟨[.int .u64 x.cas], [.int .u64 x.delta, .int .u64 x.initial, .bool x.makes, .bool x.sets], rfl, rfl, ⟨[.int .u64 x.delta], [.int .u64 x.initial, .bool x.makes, .bool x.sets], rfl, rfl, ⟨[.int .u64 x.initial], [.bool x.makes, .bool x.sets], rfl, rfl, ⟨[.bool x.makes], [.bool x.sets], rfl, rfl, rfl⟩⟩⟩⟩⟩⟩⟩⟩⟩
def rd_Cmd (xs : List Cmd) (i : Int) : Cmd := xs.getD i.toNat zCmd
theorem at_Cmd {w : World} {A : Option Addr} {n : Nat} {xs : List Cmd} (h : Kd.C kCmd w A n xs) (i : Int) (h0 : 0 ≤ i) (h1 : i < n) : ∃ ad A2 c2, A = some ad ∧ w.cell? (ad.add (i.toNat * 10)) = some (.int .i64 (rd_Cmd xs i).op) ∧ w.cell? ⟨(ad.add (i.toNat * 10)).block, (ad.add (i.toNat * 10)).off + 1, none⟩ = some (.string (rd_Cmd xs i).key) ∧ w.cell? ⟨(ad.add (i.toNat * 10)).block, (ad.add (i.toNat * 10)).off + 2, none⟩ = some (.slice A2 (rd_Cmd xs i).value.length c2) ∧ w.cell? ⟨(ad.add (i.toNat * 10)).block, (ad.add (i.toNat * 10)).off + 3, none⟩ = some (.int .u32 (rd_Cmd xs i).flags) ∧ w.cell? ⟨(ad.add (i.toNat * 10)).block, (ad.add (i.toNat * 10)).off + 4, none⟩ = some (.int .i64 (rd_Cmd xs i).exp) ∧ w.cell? ⟨(ad.add (i.toNat * 10)).block, (ad.add (i.toNat * 10)).off + 5, none⟩ = some (.int .u64 (rd_Cmd xs i).cas) ∧ w.cell? ⟨(ad.add (i.toNat * 10)).block, (ad.add (i.toNat * 10)).off + 6, none⟩ = some (.int .u64 (rd_Cmd xs i).delta) ∧ w.cell? ⟨(ad.add (i.toNat * 10)).block, (ad.add (i.toNat * 10)).off + 7, none⟩ = some (.int .u64 (rd_Cmd xs i).initial) ∧ w.cell? ⟨(ad.add (i.toNat * 10)).block, (ad.add (i.toNat * 10)).off + 8, none⟩ = some (.bool (rd_Cmd xs i).makes) ∧ w.cell? ⟨(ad.add (i.toNat * 10)).block, (ad.add (i.toNat * 10)).off + 9, none⟩ = some (.bool (rd_Cmd xs i).sets) ∧ (rd_Cmd xs i).value.length ≤ c2 ∧ (Kd.int .u8).C w A2 (rd_Cmd xs i).value.length (rd_Cmd xs i).value := by
  obtain ⟨ad, c, e, _, hK, hc0⟩ := Kd.C_get h zCmd i h0 h1
  have hc : ∀ j u, c[j]? = some u → w.cell? (ad.add (i.toNat * 10 + j)) = some u := hc0
  obtain ⟨A2, c2, rfl, l2, g2⟩ := kCmd_open hK
  exact ⟨ad, A2, c2, e, hc 0 _ rfl, by rw [← add_field _ _ 1 (by omega)]; exact hc 1 _ rfl, by rw [← add_field _ _ 2 (by omega)]; exact hc 2 _ rfl, by rw [← add_field _ _ 3 (by omega)]; exact hc 3 _ rfl, by rw [← add_field _ _ 4 (by omega)]; exact hc 4 _ rfl, by rw [← add_field _ _ 5 (by omega)]; exact hc 5 _ rfl, by rw [← add_field _ _ 6 (by omega)]; exact hc 6 _ rfl, by rw [← add_field _ _ 7 (by omega)]; exact hc 7 _ rfl, by rw [← add_field _ _ 8 (by omega)]; exact hc 8 _ rfl, by rw [← add_field _ _ 9 (by omega)]; exact hc 9 _ rfl, l2, g2⟩


def rd_L8 (xs : List (List Cmd)) (i : Int) : (List Cmd) := xs.getD i.toNat ([] : List Cmd)
theorem at_L8 {w : World} {A : Option Addr} {n : Nat} {xs : List (List Cmd)} (h : Kd.C (Kd.slice 40 kCmd) w A n xs) (i : Int) (h0 : 0 ≤ i) (h1 : i < n) : ∃ ad A0 c0, A = some ad ∧ w.cell? (ad.add i.toNat) = some (.slice A0 (rd_L8 xs i).length c0) ∧ (rd_L8 xs i).length ≤ c0 ∧ kCmd.C w A0 (rd_L8 xs i).length (rd_L8 xs i) := by
  obtain ⟨ad, c, e, _, hK, hc0⟩ := Kd.C_get h ([] : List Cmd) i h0 h1
  have hc : ∀ j u, c[j]? = some u → w.cell? (ad.add (i.toNat * 1 + j)) = some u := hc0
  obtain ⟨A0, c0, rfl, l0, g0⟩ := hK
  exact ⟨ad, A0, c0, e, by have hq := hc 0 _ rfl; rwa [Nat.mul_one, Nat.add_zero] at hq, l0, g0⟩


def rd_L9 (xs : List (List ByteArray)) (i : Int) : (List ByteArray) := xs.getD i.toNat ([] : List ByteArray)
theorem at_L9 {w : World} {A : Option Addr} {n : Nat} {xs : List (List ByteArray)} (h : Kd.C (Kd.slice 9 Kd.string) w A n xs) (i : Int) (h0 : 0 ≤ i) (h1 : i < n) : ∃ ad A0 c0, A = some ad ∧ w.cell? (ad.add i.toNat) = some (.slice A0 (rd_L9 xs i).length c0) ∧ (rd_L9 xs i).length ≤ c0 ∧ Kd.string.C w A0 (rd_L9 xs i).length (rd_L9 xs i) := by
  obtain ⟨ad, c, e, _, hK, hc0⟩ := Kd.C_get h ([] : List ByteArray) i h0 h1
  have hc : ∀ j u, c[j]? = some u → w.cell? (ad.add (i.toNat * 1 + j)) = some u := hc0
  obtain ⟨A0, c0, rfl, l0, g0⟩ := hK
  exact ⟨ad, A0, c0, e, by have hq := hc 0 _ rfl; rwa [Nat.mul_one, Nat.add_zero] at hq, l0, g0⟩


/-! #### struct type 29 -/
def zForm : Form := ⟨(0 : Int), (⟨#[]⟩ : ByteArray), (0 : Int), (0 : Int), false, false, (⟨#[]⟩ : ByteArray), ([] : List ByteArray), ([] : List ByteArray), false⟩
def kForm : Kd Form := Kd.iso (Kd.pair (Kd.int .i64) (Kd.pair Kd.string (Kd.pair (Kd.int .i64) (Kd.pair (Kd.int .u32) (Kd.pair Kd.bool (Kd.pair Kd.bool (Kd.pair Kd.string (Kd.pair (Kd.slice 9 Kd.string) (Kd.pair (Kd.slice 9 Kd.string) Kd.bool))))))))) (fun x : Form => (x.dialect, x.verb, x.code, x.opq, x.quiet, x.withcas, x.flags, x.tokens, x.keys, x.base64))
theorem kForm_open {w : World} {x : Form} {cs : List Value} (h : kForm.K w x cs) : ∃ A7 c7 A8 c8, cs = [.int .i64 x.dialect, .string x.verb, .int .i64 x.code, .int .u32 x.opq, .bool x.quiet, .bool x.withcas, .string x.flags, .slice A7 x.tokens.length c7, .slice A8 x.keys.length c8, .bool x.base64] ∧ x.tokens.length ≤ c7 ∧ Kd.string.C w A7 x.tokens.length x.tokens ∧ x.keys.length ≤ c8 ∧ Kd.string.C w A8 x.keys.length x.keys := by
  obtain ⟨_, _, rfl, rfl, ⟨_, _, rfl, rfl, ⟨_, _, rfl, rfl, ⟨_, _, rfl, rfl, ⟨_, _, rfl, rfl, ⟨_, _, rfl, rfl, ⟨_, _, rfl, rfl, ⟨_, _, rfl, ⟨A7, c7, rfl, l7, g7⟩, ⟨_, _, rfl, ⟨A8, c8, rfl, l8, g8⟩, rfl⟩⟩⟩⟩⟩⟩⟩⟩⟩ := h
  exact ⟨A7, c7, A8, c8, rfl, l7, g7, l8, g8⟩
theorem kForm_openM {w : World} {base : Nat} {ok : Nat → Prop} {x : Form} {cs : List Value} (h : kForm.M w base ok x cs) : ∃ v7 v8, cs = [.int .i64 x.dialect, .string x.verb, .int .i64 x.code, .int .u32 x.opq, .bool x.quiet, .bool x.withcas, .string x.flags, v7, v8, .bool x.base64] ∧ Kd.string.R 9 w base ok v7 x.tokens ∧ Kd.string.R 9 w base ok v8 x.keys := by
  obtain ⟨_, _, rfl, rfl, ⟨_, _, rfl, rfl, ⟨_, _, rfl, rfl, ⟨_, _, rfl, rfl, ⟨_, _, rfl, rfl, ⟨_, _, rfl, rfl, ⟨_, _, rfl, rfl, ⟨_, _, rfl, ⟨v7, rfl, g7⟩, ⟨_, _, rfl, ⟨v8, rfl, g8⟩, rfl⟩⟩⟩⟩⟩⟩⟩⟩⟩ := h
  exact ⟨v7, v8, rfl, g7, g8⟩
theorem kForm_mk (w : World) (x : Form) {A7 : Option Addr} {c7 : Nat} (l7 : x.tokens.length ≤ c7) (g7 : Kd.string.C w A7 x.tokens.length x.tokens) {A8 : Option Addr} {c8 : Nat} (l8 : x.keys.length ≤ c8) (g8 : Kd.string.C w A8 x.keys.length x.keys) : kForm.K w x [.int .i64 x.dialect, .string x.verb, .int .i64 x.code, .int .u32 x.opq, .bool x.quiet, .bool x.withcas, .string x.flags, .slice A7 x.tokens.length c7, .slice A8 x.keys.length c8, .bool x.base64] := ⟨[.int .i64 x.dialect], [.string x.verb, .int .i64 x.code, .int .u32 x.opq, .bool x.quiet, .bool x.withcas, .string x.flags, .slice A7 x.tokens.length c7, .slice A8 x.keys.length c8, .bool x.base64], rfl, rfl, ⟨[.string x.verb], [.int .i64 x.code, .int .u32 x.opq, .bool x.quiet, .bool x.withcas, .string x.flags, .slice A7 x.tokens.length c7, .slice A8 x.keys.length c8, .bool x.base64], rfl, rfl, ⟨[.int .i64 x.code], [.int .u32 x.opq, .bool x.quiet, .bool x.withcas, .string x.flags, .slice A7 x.tokens.length c7, .slice A8 x.keys.length c8, .bool x.base64], rfl, rfl, ⟨[.int .u32 x.opq], [.bool x.quiet, .bool x.withcas, .string x.flags, .slice A7 x.tokens.length c7, .slice A8 x.keys.length c8, .bool x.base64], rfl, rfl, ⟨[.bool x.quiet], [.bool x.withcas, .string x.flags, .slice A7 x.tokens.length c7, .slice A8 x.keys.length c8, .bool x.base64], rfl, rfl, ⟨[.bool x.withcas], [.string x.flags, .slice A7 x.tokens.length c7, .slice A8 x.keys.length c8, .bool x.base64], rfl, rfl, ⟨[.string x.flags], [.slice A7 x.tokens.length c7, .slice A8 x.keys.length c8, .bool x.base64], rfl, rfl, ⟨[.slice A7 x.tokens.length c7], [.slice A8 x.keys.length c8, .bool x.base64], rfl, ⟨A7, c7, rfl, l7, g7⟩, ⟨[.slice A8 x.keys.length c8], [.bool x.base64], rfl, ⟨A8, c8, rfl, l8, g8⟩, rfl⟩⟩⟩⟩⟩⟩⟩⟩⟩
theorem kForm_mkM (w : World) (base : Nat) (ok : Nat → Prop) (x : Form) {v7 : Value} (g7 : Kd.string.R 9 w base ok v7 x.tokens) {v8 : Value} (g8 : Kd.string.R 9 w base ok v8 x.keys) : kForm.M w base ok x [.int .i64 x.dialect, .string x.verb, .int .i64 x.code, .int .u32 x.opq, .bool x.quiet, .bool x.withcas, .string x.flags, v7, v8, .bool x.base64] := ⟨[.int .i64 x.dialect], [.string x.verb, .int .i64 x.code, .int .u32 x.opq, .bool x.quiet, .bool x.withcas, .string x.flags, v7, v8, .bool x.base64], rfl, rfl, ⟨[.string x.verb], [.int .i64 x.code, .int .u32 x.opq, .bool x.quiet, .bool x.withcas, .string x.flags, v7, v8, .bool x.base64], rfl, rfl, ⟨[.int .i64 x.code], [.int .u32 x.opq, .bool x.quiet, .bool x.withcas, .string x.flags, v7, v8, .bool x.base64], rfl, rfl, ⟨[.int .u32 x.opq], [.bool x.quiet, .bool x.withcas, .string x.flags, v7, v8, .bool x.base64], rfl, rfl, ⟨[.bool x.quiet], [.bool x.withcas, .string x.flags, v7, v8, .bool x.base64], rfl, rfl, ⟨[.bool x.withcas], [.string x.flags, v7, v8, .bool x.base64], rfl, rfl, ⟨[.string x.flags], [v7, v8, .bool x.base64], rfl, rfl, ⟨[v7], [v8, .bool x.base64], rfl, ⟨v7, rfl, g7⟩, ⟨[v8], [.bool x.base64], rfl, ⟨v8, rfl, g8⟩, rfl⟩⟩⟩⟩⟩⟩⟩⟩⟩
def rd_Form (xs : List Form) (i : Int) : Form := xs.getD i.toNat zForm
theorem at_Form {w : World} {A : Option Addr} {n : Nat} {xs : List Form} (h : Kd.C kForm w A n xs) (i : Int) (h0 : 0 ≤ i) (h1 : i < n) : ∃ ad A7 c7 A8 c8, A = some ad ∧ w.cell? (ad.add (i.toNat * 10)) = some (.int .i64 (rd_Form xs i).dialect) ∧ w.cell? ⟨(ad.add (i.toNat * 10)).block, (ad.add (i.toNat * 10)).off + 1, none⟩ = some (.string (rd_Form xs i).verb) ∧ w.cell? ⟨(ad.add (i.toNat * 10)).block, (ad.add (i.toNat * 10)).off + 2, none⟩ = some (.int .i64 (rd_Form xs i).code) ∧ w.cell? ⟨(ad.add (i.toNat * 10)).block, (ad.add (i.toNat * 10)).off + 3, none⟩ = some (.int .u32 (rd_Form xs i).opq) ∧ w.cell? ⟨(ad.add (i.toNat * 10)).block, (ad.add (i.toNat * 10)).off + 4, none⟩ = some (.bool (rd_Form xs i).quiet) ∧ w.cell? ⟨(ad.add (i.toNat * 10)).block, (ad.add (i.toNat * 10)).off + 5, none⟩ = some (.bool (rd_Form xs i).withcas) ∧ w.cell? ⟨(ad.add (i.toNat * 10)).block, (ad.add (i.toNat * 10)).off + 6, none⟩ = some (.string (rd_Form xs i).flags) ∧ w.cell? ⟨(ad.add (i.toNat * 10)).block, (ad.add (i.toNat * 10)).off + 7, none⟩ = some (.slice A7 (rd_Form xs i).tokens.length c7) ∧ w.cell? ⟨(ad.add (i.toNat * 10)).block, (ad.add (i.toNat * 10)).off + 8, none⟩ = some (.slice A8 (rd_Form xs i).keys.length c8) ∧ w.cell? ⟨(ad.add (i.toNat * 10)).block, (ad.add (i.toNat * 10)).off + 9, none⟩ = some (.bool (rd_Form xs i).base64) ∧ (rd_Form xs i).tokens.length ≤ c7 ∧ Kd.string.C w A7 (rd_Form xs i).tokens.length (rd_Form xs i).tokens ∧ (rd_Form xs i).keys.length ≤ c8 ∧ Kd.string.C w A8 (rd_Form xs i).keys.length (rd_Form xs i).keys := by
  obtain ⟨ad, c, e, _, hK, hc0⟩ := Kd.C_get h zForm i h0 h1
  have hc : ∀ j u, c[j]? = some u → w.cell? (ad.add (i.toNat * 10 + j)) = some u := hc0
  obtain ⟨A7, c7, A8, c8, rfl, l7, g7, l8, g8⟩ := kForm_open hK
  exact ⟨ad, A7, c7, A8, c8, e, hc 0 _ rfl, by rw [← add_field _ _ 1 (by omega)]; exact hc 1 _ rfl, by rw [← add_field _ _ 2 (by omega)]; exact hc 2 _ rfl, by rw [← add_field _ _ 3 (by omega)]; exact hc 3 _ rfl, by rw [← add_field _ _ 4 (by omega)]; exact hc 4 _ rfl, by rw [← add_field _ _ 5 (by omega)]; exact hc 5 _ rfl, by rw [← add_field _ _ 6 (by omega)]; exact hc 6 _ rfl, by rw [← add_field _ _ 7 (by omega)]; exact hc 7 _ rfl, by rw [← add_field _ _ 8 (by omega)]; exact hc 8 _ rfl, by rw [← add_field _ _ 9 (by omega)]; exact hc 9 _ rfl, l7, g7, l8, g8⟩


/-! #### struct type 31 -/
def zRequest : Request := ⟨([] : List Cmd), zForm⟩
def kRequest : Kd Request := Kd.iso (Kd.pair (Kd.slice 40 kCmd) kForm) (fun x : Request => (x.cmds, x.form))
theorem kRequest_open {w : World} {x : Request} {cs : List Value} (h : kRequest.K w x cs) : ∃ A0 c0 A8 c8 A9 c9, cs = [.slice A0 x.cmds.length c0, .int .i64 x.form.dialect, .string x.form.verb, .int .i64 x.form.code, .int .u32 x.form.opq, .bool x.form.quiet, .bool x.form.withcas, .string x.form.flags, .slice A8 x.form.tokens.length c8, .slice A9 x.form.keys.length c9, .bool x.form.base64] ∧ x.cmds.length ≤ c0 ∧ kCmd.C w A0 x.cmds.length x.cmds ∧ x.form.tokens.length ≤ c8 ∧ Kd.string.C w A8 x.form.tokens.length x.form.tokens ∧ x.form.keys.length ≤ c9 ∧ Kd.string.C w A9 x.form.keys.length x.form.keys := by
  obtain ⟨_, _, rfl, ⟨A0, c0, rfl, l0, g0⟩, s1⟩ := h
  obtain ⟨A8, c8, A9, c9, rfl, l8, g8, l9, g9⟩ := kForm_open s1
  exact ⟨A0, c0, A8, c8, A9, c9, rfl, l0, g0, l8, g8, l9, g9⟩
theorem kRequest_openM {w : World} {base : Nat} {ok : Nat → Prop} {x : Request} {cs : List Value} (h : kRequest.M w base ok x cs) : ∃ v0 v8 v9, cs = [v0, .int .i64 x.form.dialect, .string x.form.verb, .int .i64 x.form.code, .int .u32 x.form.opq, .bool x.form.quiet, .bool x.form.withcas, .string x.form.flags, v8, v9, .bool x.form.base64] ∧ kCmd.R 40 w base ok v0 x.cmds ∧ Kd.string.R 9 w base ok v8 x.form.tokens ∧ Kd.string.R 9 w base ok v9 x.form.keys := by
  obtain ⟨_, _, rfl, ⟨v0, rfl, g0⟩, s1⟩ := h
  obtain ⟨v8, v9, rfl, g8, g9⟩ := kForm_openM s1
  exact ⟨v0, v8, v9, rfl, g0, g8, g9⟩
theorem kRequest_mk (w : World) (x : Request) {A0 : Option Addr} {c0 : Nat} (l0 : x.cmds.length ≤ c0) (g0 : kCmd.C w A0 x.cmds.length x.cmds) {A8 : Option Addr} {c8 : Nat} (l8 : x.form.tokens.length ≤ c8) (g8 : Kd.string.C w A8 x.form.tokens.length x.form.tokens) {A9 : Option Addr} {c9 : Nat} (l9 : x.form.keys.length ≤ c9) (g9 : Kd.string.C w A9 x.form.keys.length x.form.keys) : kRequest.K w x [.slice A0 x.cmds.length c0, .int .i64 x.form.dialect, .string x.form.verb, .int .i64 x.form.code, .int .u32 x.form.opq, .bool x.form.quiet, .bool x.form.withcas, .string x.form.flags, .slice A8 x.form.tokens.length c8, .slice A9 x.form.keys.length c9, .bool x.form.base64] := ⟨[.slice A0 x.cmds.length c0], [.int .i64 x.form.dialect, .string x.form.verb, .int .i64 x.form.code, .int .u32 x.form.opq, .bool x.form.quiet, .bool x.form.withcas, .string x.form.flags, .slice A8 x.form.tokens.length c8, .slice A9 x.form.keys.length c9, .bool x.form.base64], rfl, ⟨A0, c0, rfl, l0, g0⟩, (kForm_mk w x.form l8 g8 l9 g9)⟩
theorem kRequest_mkM (w : World) (base : Nat) (ok : Nat → Prop) (x : Request) {v0 : Value} (g0 : kCmd.R 40 w base ok v0 x.cmds) {v8 : Value} (g8 : Kd.string.R 9 w base ok v8 x.form.tokens) {v9 : Value} (g9 : Kd.string.R 9 w base ok v9 x.form.keys) : kRequest.M w base ok x [v0, .int .i64 x.form.dialect, .string x.form.verb, .int .i64 x.form.code, .int .u32 x.form.opq, .bool x.form.quiet, .bool x.form.withcas, .string x.form.flags, v8, v9, .bool x.form.base64] := ⟨[v0], [.int .i64 x.form.dialect, .string x.form.verb, .int .i64 x.form.code, .int .u32 x.form.opq, .bool x.form.quiet, .bool x.form.withcas, .string x.form.flags, v8, v9, .bool x.form.base64], rfl, ⟨v0, rfl, g0⟩, (kForm_mkM w base ok x.form g8 g9)⟩
def rd_Request (xs : List Request) (i : Int) : Request := xs.getD i.toNat zRequest
theorem at_Request {w : World} {A : Option Addr} {n : Nat} {xs : List Request} (h : Kd.C kRequest w A n xs) (i : Int) (h0 : 0 ≤ i) (h1 : i < n) : ∃ ad A0 c0 A8 c8 A9 c9, A = some ad ∧ w.cell? (ad.add (i.toNat * 11)) = some (.slice A0 (rd_Request xs i).cmds.length c0) ∧ w.cell? ⟨(ad.add (i.toNat * 11)).block, (ad.add (i.toNat * 11)).off + 1, none⟩ = some (.int .i64 (rd_Request xs i).form.dialect) ∧ w.cell? ⟨(ad.add (i.toNat * 11)).block, (ad.add (i.toNat * 11)).off + 2, none⟩ = some (.string (rd_Request xs i).form.verb) ∧ w.cell? ⟨(ad.add (i.toNat * 11)).block, (ad.add (i.toNat * 11)).off + 3, none⟩ = some (.int .i64 (rd_Request xs i).form.code) ∧ w.cell? ⟨(ad.add (i.toNat * 11)).block, (ad.add (i.toNat * 11)).off + 4, none⟩ = some (.int .u32 (rd_Request xs i).form.opq) ∧ w.cell? ⟨(ad.add (i.toNat * 11)).block, (ad.add (i.toNat * 11)).off + 5, none⟩ = some (.bool (rd_Request xs i).form.quiet) ∧ w.cell? ⟨(ad.add (i.toNat * 11)).block, (ad.add (i.toNat * 11)).off + 6, none⟩ = some (.bool (rd_Request xs i).form.withcas) ∧ w.cell? ⟨(ad.add (i.toNat * 11)).block, (ad.add (i.toNat * 11)).off + 7, none⟩ = some (.string (rd_Request xs i).form.flags) ∧ w.cell? ⟨(ad.add (i.toNat * 11)).block, (ad.add (i.toNat * 11)).off + 8, none⟩ = some (.slice A8 (rd_Request xs i).form.tokens.length c8) ∧ w.cell? ⟨(ad.add (i.toNat * 11)).block, (ad.add (i.toNat * 11)).off + 9, none⟩ = some (.slice A9 (rd_Request xs i).form.keys.length c9) ∧ w.cell? ⟨(ad.add (i.toNat * 11)).block, (ad.add (i.toNat * 11)).off + 10, none⟩ = some (.bool (rd_Request xs i).form.base64) ∧ (rd_Request xs i).cmds.length ≤ c0 ∧ kCmd.C w A0 (rd_Request xs i).cmds.length (rd_Request xs i).cmds ∧ (rd_Request xs i).form.tokens.length ≤ c8 ∧ Kd.string.C w A8 (rd_Request xs i).form.tokens.length (rd_Request xs i).form.tokens ∧ (rd_Request xs i).form.keys.length ≤ c9 ∧ Kd.string.C w A9 (rd_Request xs i).form.keys.length (rd_Request xs i).form.keys := by
  obtain ⟨ad, c, e, _, hK, hc0⟩ := Kd.C_get h zRequest i h0 h1
  have hc : ∀ j u, c[j]? = some u → w.cell? (ad.add (i.toNat * 11 + j)) = some u := hc0
  obtain ⟨A0, c0, A8, c8, A9, c9, rfl, l0, g0, l8, g8, l9, g9⟩ := kRequest_open hK
  exact ⟨ad, A0, c0, A8, c8, A9, c9, e, hc 0 _ rfl, by rw [← add_field _ _ 1 (by omega)]; exact hc 1 _ rfl, by rw [← add_field _ _ 2 (by omega)]; exact hc 2 _ rfl, by rw [← add_field _ _ 3 (by omega)]; exact hc 3 _ rfl, by rw [← add_field _ _ 4 (by omega)]; exact hc 4 _ rfl, by rw [← add_field _ _ 5 (by omega)]; exact hc 5 _ rfl, by rw [← add_field _ _ 6 (by omega)]; exact hc 6 _ rfl, by rw [← add_field _ _ 7 (by omega)]; exact hc 7 _ rfl, by rw [← add_field _ _ 8 (by omega)]; exact hc 8 _ rfl, by rw [← add_field _ _ 9 (by omega)]; exact hc 9 _ rfl, by rw [← add_field _ _ 10 (by omega)]; exact hc 10 _ rfl, l0, g0, l8, g8, l9, g9⟩


/-! #### struct type 34 -/
def zStep : Step := ⟨zRequest, (⟨#[]⟩ : ByteArray), (0 : Int), (0 : Int), false, (0 : Int)⟩
def kStep : Kd Step := Kd.iso (Kd.pair kRequest (Kd.pair Kd.string (Kd.pair (Kd.int .i64) (Kd.pair (Kd.int .i64) (Kd.pair Kd.bool (Kd.int .i64)))))) (fun x : Step => (x.req, x.reply, x.used, x.skip, x.line, x.e))
theorem kStep_open {w : World} {x : Step} {cs : List Value} (h : kStep.K w x cs) : ∃ A0 c0 A8 c8 A9 c9, cs = [.slice A0 x.req.cmds.length c0, .int .i64 x.req.form.dialect, .string x.req.form.verb, .int .i64 x.req.form.code, .int .u32 x.req.form.opq, .bool x.req.form.quiet, .bool x.req.form.withcas, .string x.req.form.flags, .slice A8 x.req.form.tokens.length c8, .slice A9 x.req.form.keys.length c9, .bool x.req.form.base64, .string x.reply, .int .i64 x.used, .int .i64 x.skip, .bool x.line, .int .i64 x.e] ∧ x.req.cmds.length ≤ c0 ∧ kCmd.C w A0 x.req.cmds.length x.req.cmds ∧ x.req.form.tokens.length ≤ c8 ∧ Kd.string.C w A8 x.req.form.tokens.length x.req.form.tokens ∧ x.req.form.keys.length ≤ c9 ∧ Kd.string.C w A9 x.req.form.keys.length x.req.form.keys := by
  obtain ⟨_, _, rfl, s0, ⟨_, _, rfl, rfl, ⟨_, _, rfl, rfl, ⟨_, _, rfl, rfl, ⟨_, _, rfl, rfl, rfl⟩⟩⟩⟩⟩ := h
  obtain ⟨A0, c0, A8, c8, A9, c9, rfl, l0, g0, l8, g8, l9, g9⟩ := kRequest_open s0
  exact ⟨A0, c0, A8, c8, A9, c9, rfl, l0, g0, l8, g8, l9, g9⟩
theorem kStep_openM {w : World} {base : Nat} {ok : Nat → Prop} {x : Step} {cs : List Value} (h : kStep.M w base ok x cs) : ∃ v0 v8 v9, cs = [v0, .int .i64 x.req.form.dialect, .string x.req.form.verb, .int .i64 x.req.form.code, .int .u32 x.req.form.opq, .bool x.req.form.quiet, .bool x.req.form.withcas, .string x.req.form.flags, v8, v9, .bool x.req.form.base64, .string x.reply, .int .i64 x.used, .int .i64 x.skip, .bool x.line, .int .i64 x.e] ∧ kCmd.R 40 w base ok v0 x.req.cmds ∧ Kd.string.R 9 w base ok v8 x.req.form.tokens ∧ Kd.string.R 9 w base ok v9 x.req.form.keys := by
  obtain ⟨_, _, rfl, s0, ⟨_, _, rfl, rfl, ⟨_, _, rfl, rfl, ⟨_, _, rfl, rfl, ⟨_, _, rfl, rfl, rfl⟩⟩⟩⟩⟩ := h
  obtain ⟨v0, v8, v9, rfl, g0, g8, g9⟩ := kRequest_openM s0
  exact ⟨v0, v8, v9, rfl, g0, g8, g9⟩
theorem kStep_mk (w : World) (x : Step) {A0 : Option Addr} {c0 : Nat} (l0 : x.req.cmds.length ≤ c0) (g0 : kCmd.C w A0 x.req.cmds.length x.req.cmds) {A8 : Option Addr} {c8 : Nat} (l8 : x.req.form.tokens.length ≤ c8) (g8 : Kd.string.C w A8 x.req.form.tokens.length x.req.form.tokens) {A9 : Option Addr} {c9 : Nat} (l9 : x.req.form.keys.length ≤ c9) (g9 : Kd.string.C w A9 x.req.form.keys.length x.req.form.keys) : kStep.K w x [.slice A0 x.req.cmds.length c0, .int .i64 x.req.form.dialect, .string x.req.form.verb, .int .i64 x.req.form.code, .int .u32 x.req.form.opq, .bool x.req.form.quiet, .bool x.req.form.withcas, .string x.req.form.flags, .slice A8 x.req.form.tokens.length c8, .slice A9 x.req.form.keys.length c9, .bool x.req.form.base64, .string x.reply, .int .i64 x.used, .int .i64 x.skip, .bool x.line, .int .i64 x.e] := ⟨[.slice A0 x.req.cmds.length c0, .int .i64 x.req.form.dialect, .string x.req.form.verb, .int .i64 x.req.form.code, .int .u32 x.req.form.opq, .bool x.req.form.quiet, .bool x.req.form.withcas, .string x.req.form.flags, .slice A8 x.req.form.tokens.length c8, .slice A9 x.req.form.keys.length c9, .bool x.req.form.base64], [.string x.reply, .int .i64 x.used, .int .i64 x.skip, .bool x.line, .int .i64 x.e], rfl, (kRequest_mk w x.req l0 g0 l8 g8 l9 g9), ⟨[.string x.reply], [.int .i64 x.used, .int .i64 x.skip, .bool x.line, .int .i64 x.e], rfl, rfl, ⟨[.int .i64 x.used], [.int .i64 x.skip, .bool x.line, .int .i64 x.e], rfl, rfl, ⟨[.int .i64 x.skip], [.bool x.line, .int .i64 x.e], rfl, rfl, ⟨[.bool x.line], [.int .i64 x.e], rfl, rfl, rfl⟩⟩⟩⟩⟩
theorem kStep_mkM (w : World) (base : Nat) (ok : Nat → Prop) (x : Step) {v0 : Value} (g0 : kCmd.R 40 w base ok v0 x.req.cmds) {v8 : Value} (g8 : Kd.string.R 9 w base ok v8 x.req.form.tokens) {v9 : Value} (g9 : Kd.string.R 9 w base ok v9 x.req.form.keys) : kStep.M w base ok x [v0, .int .i64 x.req.form.dialect, .string x.req.form.verb, .int .i64 x.req.form.code, .int .u32 x.req.form.opq, .bool x.req.form.quiet, .bool x.req.form.withcas, .string x.req.form.flags, v8, v9, .bool x.req.form.base64, .string x.reply, .int .i64 x.used, .int .i64 x.skip, .bool x.line, .int .i64 x.e] := ⟨[v0, .int .i64 x.req.form.dialect, .string x.req.form.verb, .int .i64 x.req.form.code, .int .u32 x.req.form.opq, .bool x.req.form.quiet, .bool x.req.form.withcas, .string x.req.form.flags, v8, v9, .bool x.req.form.base64], [.string x.reply, .int .i64 x.used, .int .i64 x.skip, .bool x.line, .int .i64 x.e], rfl, (kRequest_mkM w base ok x.req g0 g8 g9), ⟨[.string x.reply], [.int .i64 x.used, .int .i64 x.skip, .bool x.line, .int .i64 x.e], rfl, rfl, ⟨[.int .i64 x.used], [.int .i64 x.skip, .bool x.line, .int .i64 x.e], rfl, rfl, ⟨[.int .i64 x.skip], [.bool x.line, .int .i64 x.e], rfl, rfl, ⟨[.bool x.line], [.int .i64 x.e], rfl, rfl, rfl⟩⟩⟩⟩⟩
def rd_Step (xs : List Step) (i : Int) : Step := xs.getD i.toNat zStep
theorem at_Step {w : World} {A : Option Addr} {n : Nat} {xs : List Step} (h : Kd.C kStep w A n xs) (i : Int) (h0 : 0 ≤ i) (h1 : i < n) : ∃ ad A0 c0 A8 c8 A9 c9, A = some ad ∧ w.cell? (ad.add (i.toNat * 16)) = some (.slice A0 (rd_Step xs i).req.cmds.length c0) ∧ w.cell? ⟨(ad.add (i.toNat * 16)).block, (ad.add (i.toNat * 16)).off + 1, none⟩ = some (.int .i64 (rd_Step xs i).req.form.dialect) ∧ w.cell? ⟨(ad.add (i.toNat * 16)).block, (ad.add (i.toNat * 16)).off + 2, none⟩ = some (.string (rd_Step xs i).req.form.verb) ∧ w.cell? ⟨(ad.add (i.toNat * 16)).block, (ad.add (i.toNat * 16)).off + 3, none⟩ = some (.int .i64 (rd_Step xs i).req.form.code) ∧ w.cell? ⟨(ad.add (i.toNat * 16)).block, (ad.add (i.toNat * 16)).off + 4, none⟩ = some (.int .u32 (rd_Step xs i).req.form.opq) ∧ w.cell? ⟨(ad.add (i.toNat * 16)).block, (ad.add (i.toNat * 16)).off + 5, none⟩ = some (.bool (rd_Step xs i).req.form.quiet) ∧ w.cell? ⟨(ad.add (i.toNat * 16)).block, (ad.add (i.toNat * 16)).off + 6, none⟩ = some (.bool (rd_Step xs i).req.form.withcas) ∧ w.cell? ⟨(ad.add (i.toNat * 16)).block, (ad.add (i.toNat * 16)).off + 7, none⟩ = some (.string (rd_Step xs i).req.form.flags) ∧ w.cell? ⟨(ad.add (i.toNat * 16)).block, (ad.add (i.toNat * 16)).off + 8, none⟩ = some (.slice A8 (rd_Step xs i).req.form.tokens.length c8) ∧ w.cell? ⟨(ad.add (i.toNat * 16)).block, (ad.add (i.toNat * 16)).off + 9, none⟩ = some (.slice A9 (rd_Step xs i).req.form.keys.length c9) ∧ w.cell? ⟨(ad.add (i.toNat * 16)).block, (ad.add (i.toNat * 16)).off + 10, none⟩ = some (.bool (rd_Step xs i).req.form.base64) ∧ w.cell? ⟨(ad.add (i.toNat * 16)).block, (ad.add (i.toNat * 16)).off + 11, none⟩ = some (.string (rd_Step xs i).reply) ∧ w.cell? ⟨(ad.add (i.toNat * 16)).block, (ad.add (i.toNat * 16)).off + 12, none⟩ = some (.int .i64 (rd_Step xs i).used) ∧ w.cell? ⟨(ad.add (i.toNat * 16)).block, (ad.add (i.toNat * 16)).off + 13, none⟩ = some (.int .i64 (rd_Step xs i).skip) ∧ w.cell? ⟨(ad.add (i.toNat * 16)).block, (ad.add (i.toNat * 16)).off + 14, none⟩ = some (.bool (rd_Step xs i).line) ∧ w.cell? ⟨(ad.add (i.toNat * 16)).block, (ad.add (i.toNat * 16)).off + 15, none⟩ = some (.int .i64 (rd_Step xs i).e) ∧ (rd_Step xs i).req.cmds.length ≤ c0 ∧ kCmd.C w A0 (rd_Step xs i).req.cmds.length (rd_Step xs i).req.cmds ∧ (rd_Step xs i).req.form.tokens.length ≤ c8 ∧ Kd.string.C w A8 (rd_Step xs i).req.form.tokens.length (rd_Step xs i).req.form.tokens ∧ (rd_Step xs i).req.form.keys.length ≤ c9 ∧ Kd.string.C w A9 (rd_Step xs i).req.form.keys.length (rd_Step xs i).req.form.keys := by
  obtain ⟨ad, c, e, _, hK, hc0⟩ := Kd.C_get h zStep i h0 h1
  have hc : ∀ j u, c[j]? = some u → w.cell? (ad.add (i.toNat * 16 + j)) = some u := hc0
  obtain ⟨A0, c0, A8, c8, A9, c9, rfl, l0, g0, l8, g8, l9, g9⟩ := kStep_open hK
  exact ⟨ad, A0, c0, A8, c8, A9, c9, e, hc 0 _ rfl, by rw [← add_field _ _ 1 (by omega)]; exact hc 1 _ rfl, by rw [← add_field _ _ 2 (by omega)]; exact hc 2 _ rfl, by rw [← add_field _ _ 3 (by omega)]; exact hc 3 _ rfl, by rw [← add_field _ _ 4 (by omega)]; exact hc 4 _ rfl, by rw [← add_field _ _ 5 (by omega)]; exact hc 5 _ rfl, by rw [← add_field _ _ 6 (by omega)]; exact hc 6 _ rfl, by rw [← add_field _ _ 7 (by omega)]; exact hc 7 _ rfl, by rw [← add_field _ _ 8 (by omega)]; exact hc 8 _ rfl, by rw [← add_field _ _ 9 (by omega)]; exact hc 9 _ rfl, by rw [← add_field _ _ 10 (by omega)]; exact hc 10 _ rfl, by rw [← add_field _ _ 11 (by omega)]; exact hc 11 _ rfl, by rw [← add_field _ _ 12 (by omega)]; exact hc 12 _ rfl, by rw [← add_field _ _ 13 (by omega)]; exact hc 13 _ rfl, by rw [← add_field _ _ 14 (by omega)]; exact hc 14 _ rfl, by rw [← add_field _ _ 15 (by omega)]; exact hc 15 _ rfl, l0, g0, l8, g8, l9, g9⟩


/-! #### struct type 63 -/
def zButteryref18Line : Butteryref18Line := ⟨zCmd, zForm, (⟨#[]⟩ : ByteArray)⟩
def kButteryref18Line : Kd Butteryref18Line := Kd.iso (Kd.pair kCmd (Kd.pair kForm Kd.string)) (fun x : Butteryref18Line => (x.c, x.f, x.error))
theorem kButteryref18Line_open {w : World} {x : Butteryref18Line} {cs : List Value} (h : kButteryref18Line.K w x cs) : ∃ A2 c2 A17 c17 A18 c18, cs = [.int .i64 x.c.op, .string x.c.key, .slice A2 x.c.value.length c2, .int .u32 x.c.flags, .int .i64 x.c.exp, .int .u64 x.c.cas, .int .u64 x.c.delta, .int .u64 x.c.initial, .bool x.c.makes, .bool x.c.sets, .int .i64 x.f.dialect, .string x.f.verb, .int .i64 x.f.code, .int .u32 x.f.opq, .bool x.f.quiet, .bool x.f.withcas, .string x.f.flags, .slice A17 x.f.tokens.length c17, .slice A18 x.f.keys.length c18, .bool x.f.base64, .string x.error] ∧ x.c.value.length ≤ c2 ∧ (Kd.int .u8).C w A2 x.c.value.length x.c.value ∧ x.f.tokens.length ≤ c17 ∧ Kd.string.C w A17 x.f.tokens.length x.f.tokens ∧ x.f.keys.length ≤ c18 ∧ Kd.string.C w A18 x.f.keys.length x.f.keys := by
  obtain ⟨_, _, rfl, s0, ⟨_, _, rfl, s10, rfl⟩⟩ := h
  obtain ⟨A2, c2, rfl, l2, g2⟩ := kCmd_open s0
  obtain ⟨A17, c17, A18, c18, rfl, l17, g17, l18, g18⟩ := kForm_open s10
  exact ⟨A2, c2, A17, c17, A18, c18, rfl, l2, g2, l17, g17, l18, g18⟩
theorem kButteryref18Line_openM {w : World} {base : Nat} {ok : Nat → Prop} {x : Butteryref18Line} {cs : List Value} (h : kButteryref18Line.M w base ok x cs) : ∃ v2 v17 v18, cs = [.int .i64 x.c.op, .string x.c.key, v2, .int .u32 x.c.flags, .int .i64 x.c.exp, .int .u64 x.c.cas, .int .u64 x.c.delta, .int .u64 x.c.initial, .bool x.c.makes, .bool x.c.sets, .int .i64 x.f.dialect, .string x.f.verb, .int .i64 x.f.code, .int .u32 x.f.opq, .bool x.f.quiet, .bool x.f.withcas, .string x.f.flags, v17, v18, .bool x.f.base64, .string x.error] ∧ (Kd.int .u8).R 5 w base ok v2 x.c.value ∧ Kd.string.R 9 w base ok v17 x.f.tokens ∧ Kd.string.R 9 w base ok v18 x.f.keys := by
  obtain ⟨_, _, rfl, s0, ⟨_, _, rfl, s10, rfl⟩⟩ := h
  obtain ⟨v2, rfl, g2⟩ := kCmd_openM s0
  obtain ⟨v17, v18, rfl, g17, g18⟩ := kForm_openM s10
  exact ⟨v2, v17, v18, rfl, g2, g17, g18⟩
theorem kButteryref18Line_mk (w : World) (x : Butteryref18Line) {A2 : Option Addr} {c2 : Nat} (l2 : x.c.value.length ≤ c2) (g2 : (Kd.int .u8).C w A2 x.c.value.length x.c.value) {A17 : Option Addr} {c17 : Nat} (l17 : x.f.tokens.length ≤ c17) (g17 : Kd.string.C w A17 x.f.tokens.length x.f.tokens) {A18 : Option Addr} {c18 : Nat} (l18 : x.f.keys.length ≤ c18) (g18 : Kd.string.C w A18 x.f.keys.length x.f.keys) : kButteryref18Line.K w x [.int .i64 x.c.op, .string x.c.key, .slice A2 x.c.value.length c2, .int .u32 x.c.flags, .int .i64 x.c.exp, .int .u64 x.c.cas, .int .u64 x.c.delta, .int .u64 x.c.initial, .bool x.c.makes, .bool x.c.sets, .int .i64 x.f.dialect, .string x.f.verb, .int .i64 x.f.code, .int .u32 x.f.opq, .bool x.f.quiet, .bool x.f.withcas, .string x.f.flags, .slice A17 x.f.tokens.length c17, .slice A18 x.f.keys.length c18, .bool x.f.base64, .string x.error] := ⟨[.int .i64 x.c.op, .string x.c.key, .slice A2 x.c.value.length c2, .int .u32 x.c.flags, .int .i64 x.c.exp, .int .u64 x.c.cas, .int .u64 x.c.delta, .int .u64 x.c.initial, .bool x.c.makes, .bool x.c.sets], [.int .i64 x.f.dialect, .string x.f.verb, .int .i64 x.f.code, .int .u32 x.f.opq, .bool x.f.quiet, .bool x.f.withcas, .string x.f.flags, .slice A17 x.f.tokens.length c17, .slice A18 x.f.keys.length c18, .bool x.f.base64, .string x.error], rfl, (kCmd_mk w x.c l2 g2), ⟨[.int .i64 x.f.dialect, .string x.f.verb, .int .i64 x.f.code, .int .u32 x.f.opq, .bool x.f.quiet, .bool x.f.withcas, .string x.f.flags, .slice A17 x.f.tokens.length c17, .slice A18 x.f.keys.length c18, .bool x.f.base64], [.string x.error], rfl, (kForm_mk w x.f l17 g17 l18 g18), rfl⟩⟩
theorem kButteryref18Line_mkM (w : World) (base : Nat) (ok : Nat → Prop) (x : Butteryref18Line) {v2 : Value} (g2 : (Kd.int .u8).R 5 w base ok v2 x.c.value) {v17 : Value} (g17 : Kd.string.R 9 w base ok v17 x.f.tokens) {v18 : Value} (g18 : Kd.string.R 9 w base ok v18 x.f.keys) : kButteryref18Line.M w base ok x [.int .i64 x.c.op, .string x.c.key, v2, .int .u32 x.c.flags, .int .i64 x.c.exp, .int .u64 x.c.cas, .int .u64 x.c.delta, .int .u64 x.c.initial, .bool x.c.makes, .bool x.c.sets, .int .i64 x.f.dialect, .string x.f.verb, .int .i64 x.f.code, .int .u32 x.f.opq, .bool x.f.quiet, .bool x.f.withcas, .string x.f.flags, v17, v18, .bool x.f.base64, .string x.error] := ⟨[.int .i64 x.c.op, .string x.c.key, v2, .int .u32 x.c.flags, .int .i64 x.c.exp, .int .u64 x.c.cas, .int .u64 x.c.delta, .int .u64 x.c.initial, .bool x.c.makes, .bool x.c.sets], [.int .i64 x.f.dialect, .string x.f.verb, .int .i64 x.f.code, .int .u32 x.f.opq, .bool x.f.quiet, .bool x.f.withcas, .string x.f.flags, v17, v18, .bool x.f.base64, .string x.error], rfl, (kCmd_mkM w base ok x.c g2), ⟨[.int .i64 x.f.dialect, .string x.f.verb, .int .i64 x.f.code, .int .u32 x.f.opq, .bool x.f.quiet, .bool x.f.withcas, .string x.f.flags, v17, v18, .bool x.f.base64], [.string x.error], rfl, (kForm_mkM w base ok x.f g17 g18), rfl⟩⟩
def rd_Butteryref18Line (xs : List Butteryref18Line) (i : Int) : Butteryref18Line := xs.getD i.toNat zButteryref18Line
theorem at_Butteryref18Line {w : World} {A : Option Addr} {n : Nat} {xs : List Butteryref18Line} (h : Kd.C kButteryref18Line w A n xs) (i : Int) (h0 : 0 ≤ i) (h1 : i < n) : ∃ ad A2 c2 A17 c17 A18 c18, A = some ad ∧ w.cell? (ad.add (i.toNat * 21)) = some (.int .i64 (rd_Butteryref18Line xs i).c.op) ∧ w.cell? ⟨(ad.add (i.toNat * 21)).block, (ad.add (i.toNat * 21)).off + 1, none⟩ = some (.string (rd_Butteryref18Line xs i).c.key) ∧ w.cell? ⟨(ad.add (i.toNat * 21)).block, (ad.add (i.toNat * 21)).off + 2, none⟩ = some (.slice A2 (rd_Butteryref18Line xs i).c.value.length c2) ∧ w.cell? ⟨(ad.add (i.toNat * 21)).block, (ad.add (i.toNat * 21)).off + 3, none⟩ = some (.int .u32 (rd_Butteryref18Line xs i).c.flags) ∧ w.cell? ⟨(ad.add (i.toNat * 21)).block, (ad.add (i.toNat * 21)).off + 4, none⟩ = some (.int .i64 (rd_Butteryref18Line xs i).c.exp) ∧ w.cell? ⟨(ad.add (i.toNat * 21)).block, (ad.add (i.toNat * 21)).off + 5, none⟩ = some (.int .u64 (rd_Butteryref18Line xs i).c.cas) ∧ w.cell? ⟨(ad.add (i.toNat * 21)).block, (ad.add (i.toNat * 21)).off + 6, none⟩ = some (.int .u64 (rd_Butteryref18Line xs i).c.delta) ∧ w.cell? ⟨(ad.add (i.toNat * 21)).block, (ad.add (i.toNat * 21)).off + 7, none⟩ = some (.int .u64 (rd_Butteryref18Line xs i).c.initial) ∧ w.cell? ⟨(ad.add (i.toNat * 21)).block, (ad.add (i.toNat * 21)).off + 8, none⟩ = some (.bool (rd_Butteryref18Line xs i).c.makes) ∧ w.cell? ⟨(ad.add (i.toNat * 21)).block, (ad.add (i.toNat * 21)).off + 9, none⟩ = some (.bool (rd_Butteryref18Line xs i).c.sets) ∧ w.cell? ⟨(ad.add (i.toNat * 21)).block, (ad.add (i.toNat * 21)).off + 10, none⟩ = some (.int .i64 (rd_Butteryref18Line xs i).f.dialect) ∧ w.cell? ⟨(ad.add (i.toNat * 21)).block, (ad.add (i.toNat * 21)).off + 11, none⟩ = some (.string (rd_Butteryref18Line xs i).f.verb) ∧ w.cell? ⟨(ad.add (i.toNat * 21)).block, (ad.add (i.toNat * 21)).off + 12, none⟩ = some (.int .i64 (rd_Butteryref18Line xs i).f.code) ∧ w.cell? ⟨(ad.add (i.toNat * 21)).block, (ad.add (i.toNat * 21)).off + 13, none⟩ = some (.int .u32 (rd_Butteryref18Line xs i).f.opq) ∧ w.cell? ⟨(ad.add (i.toNat * 21)).block, (ad.add (i.toNat * 21)).off + 14, none⟩ = some (.bool (rd_Butteryref18Line xs i).f.quiet) ∧ w.cell? ⟨(ad.add (i.toNat * 21)).block, (ad.add (i.toNat * 21)).off + 15, none⟩ = some (.bool (rd_Butteryref18Line xs i).f.withcas) ∧ w.cell? ⟨(ad.add (i.toNat * 21)).block, (ad.add (i.toNat * 21)).off + 16, none⟩ = some (.string (rd_Butteryref18Line xs i).f.flags) ∧ w.cell? ⟨(ad.add (i.toNat * 21)).block, (ad.add (i.toNat * 21)).off + 17, none⟩ = some (.slice A17 (rd_Butteryref18Line xs i).f.tokens.length c17) ∧ w.cell? ⟨(ad.add (i.toNat * 21)).block, (ad.add (i.toNat * 21)).off + 18, none⟩ = some (.slice A18 (rd_Butteryref18Line xs i).f.keys.length c18) ∧ w.cell? ⟨(ad.add (i.toNat * 21)).block, (ad.add (i.toNat * 21)).off + 19, none⟩ = some (.bool (rd_Butteryref18Line xs i).f.base64) ∧ w.cell? ⟨(ad.add (i.toNat * 21)).block, (ad.add (i.toNat * 21)).off + 20, none⟩ = some (.string (rd_Butteryref18Line xs i).error) ∧ (rd_Butteryref18Line xs i).c.value.length ≤ c2 ∧ (Kd.int .u8).C w A2 (rd_Butteryref18Line xs i).c.value.length (rd_Butteryref18Line xs i).c.value ∧ (rd_Butteryref18Line xs i).f.tokens.length ≤ c17 ∧ Kd.string.C w A17 (rd_Butteryref18Line xs i).f.tokens.length (rd_Butteryref18Line xs i).f.tokens ∧ (rd_Butteryref18Line xs i).f.keys.length ≤ c18 ∧ Kd.string.C w A18 (rd_Butteryref18Line xs i).f.keys.length (rd_Butteryref18Line xs i).f.keys := by
  obtain ⟨ad, c, e, _, hK, hc0⟩ := Kd.C_get h zButteryref18Line i h0 h1
  have hc : ∀ j u, c[j]? = some u → w.cell? (ad.add (i.toNat * 21 + j)) = some u := hc0
  obtain ⟨A2, c2, A17, c17, A18, c18, rfl, l2, g2, l17, g17, l18, g18⟩ := kButteryref18Line_open hK
  exact ⟨ad, A2, c2, A17, c17, A18, c18, e, hc 0 _ rfl, by rw [← add_field _ _ 1 (by omega)]; exact hc 1 _ rfl, by rw [← add_field _ _ 2 (by omega)]; exact hc 2 _ rfl, by rw [← add_field _ _ 3 (by omega)]; exact hc 3 _ rfl, by rw [← add_field _ _ 4 (by omega)]; exact hc 4 _ rfl, by rw [← add_field _ _ 5 (by omega)]; exact hc 5 _ rfl, by rw [← add_field _ _ 6 (by omega)]; exact hc 6 _ rfl, by rw [← add_field _ _ 7 (by omega)]; exact hc 7 _ rfl, by rw [← add_field _ _ 8 (by omega)]; exact hc 8 _ rfl, by rw [← add_field _ _ 9 (by omega)]; exact hc 9 _ rfl, by rw [← add_field _ _ 10 (by omega)]; exact hc 10 _ rfl, by rw [← add_field _ _ 11 (by omega)]; exact hc 11 _ rfl, by rw [← add_field _ _ 12 (by omega)]; exact hc 12 _ rfl, by rw [← add_field _ _ 13 (by omega)]; exact hc 13 _ rfl, by rw [← add_field _ _ 14 (by omega)]; exact hc 14 _ rfl, by rw [← add_field _ _ 15 (by omega)]; exact hc 15 _ rfl, by rw [← add_field _ _ 16 (by omega)]; exact hc 16 _ rfl, by rw [← add_field _ _ 17 (by omega)]; exact hc 17 _ rfl, by rw [← add_field _ _ 18 (by omega)]; exact hc 18 _ rfl, by rw [← add_field _ _ 19 (by omega)]; exact hc 19 _ rfl, by rw [← add_field _ _ 20 (by omega)]; exact hc 20 _ rfl, l2, g2, l17, g17, l18, g18⟩

end Go.Proofs.YtdgeiadlijlkmaaGreatDoor.X
namespace Go.Proofs.YtdgeiadlijlkmaaGreatDoor.X
open Go.RowKit Go.Proofs.YtdgeiadlijlkmaaGreatDoorW.PrintWords Go.Proofs.YtdgeiadlijlkmaaGreatDoorW.PrintMore
set_option linter.unusedVariables false
theorem dec_w (s : ByteArray) (w : World) (hT : Tabs w) : Calls Tryz.prog 36 #[.string s] w fun e w' => e = .returned (.tuple #[.int .u64 ((decS s).1 : Int), .bool (decS s).2]) ∧ Below w.heap.size w w' :=
  num_Decimal.calls s _ _ w hT rfl
theorem sgn_w (s : ByteArray) (w : World) (hT : Tabs w) : Calls Tryz.prog 102 #[.string s] w fun e w' => e = .returned (.tuple #[.int .i64 (sgnS s).1, .bool (sgnS s).2]) ∧ Below w.heap.size w w' := by
  obtain ⟨K, hK⟩ := sgn_f s
  exact num_Signed.calls K s _ _ w hT (hK K (Nat.le_refl _))
theorem rdec_w (s : ByteArray) (w : World) : Calls Tryz.prog 42 #[.string s] w fun e w' => e = .returned (.tuple #[.int .u64 ((decS s).1 : Int), .bool (decS s).2]) ∧ Below w.heap.size w w' := by
  obtain ⟨K, hK⟩ := rdec_f s
  exact (butteryref01_Decimal.calls K s _ _ w (hK K (Nat.le_refl _))).mono fun e w' ⟨he, hd⟩ => ⟨he, hd.below⟩
theorem rsgn_w (s : ByteArray) (w : World) (hs : s.size ≤ 1000000) : Calls Tryz.prog 106 #[.string s] w fun e w' => e = .returned (.tuple #[.int .i64 (sgnS s).1, .bool (sgnS s).2]) ∧ Below w.heap.size w w' := by
  obtain ⟨K, hK⟩ := rsgn_f s (by omega)
  exact (butteryref01_Signed.calls K s _ _ w (hK K (Nat.le_refl _))).mono fun e w' ⟨he, hd⟩ => ⟨he, hd.below⟩
/-- How many words a verb asks for that may be quiet. -/
def asksS (v : ByteArray) : Int := if v = (⟨#[115, 101, 116]⟩ : ByteArray) ∨ v = (⟨#[97, 100, 100]⟩ : ByteArray) ∨ v = (⟨#[114, 101, 112, 108, 97, 99, 101]⟩ : ByteArray) ∨ v = (⟨#[97, 112, 112, 101, 110, 100]⟩ : ByteArray) ∨ v = (⟨#[112, 114, 101, 112, 101, 110, 100]⟩ : ByteArray) then 4 else if v = (⟨#[99, 97, 115]⟩ : ByteArray) then 5 else if v = (⟨#[100, 101, 108, 101, 116, 101]⟩ : ByteArray) then 1 else if v = (⟨#[105, 110, 99, 114]⟩ : ByteArray) ∨ v = (⟨#[100, 101, 99, 114]⟩ : ByteArray) ∨ v = (⟨#[116, 111, 117, 99, 104]⟩ : ByteArray) then 2 else -1
end Go.Proofs.YtdgeiadlijlkmaaGreatDoor.X
namespace Go.Proofs.YtdgeiadlijlkmaaGreatDoor.X
open Go.RowKit Go.Proofs.YtdgeiadlijlkmaaGreatDoorW.PrintWords Go.Proofs.YtdgeiadlijlkmaaGreatDoorW.PrintMore
set_option linter.unusedVariables false
set_option linter.unusedSimpArgs false
def stepF (used : Int) (reply : ByteArray) : Step := { zStep with e := 2, reply := reply ++ (⟨#[13, 10]⟩ : ByteArray), used := used }
def stepO (used : Int) (f : Form) (c : Cmd) : Step := { zStep with req := ⟨[c], f⟩, used := used }
/-- Φ holds in each later world in which the blocks of F are as they were. -/
def HolF (F : Nat → Prop) (w : World) (Φ : World → Prop) : Prop := ∀ w2, Below 0 w w2 → (∀ k, k < w.heap.size → F k → w2.heap[k]? = w.heap[k]?) → Φ w2
theorem below_zero {B : Nat} {w w2 : World} (h : Below B w w2) : Below 0 w w2 := ⟨h.os, h.tape, h.output, h.size, fun k hk => absurd hk (by omega)⟩
theorem HolF.now {F : Nat → Prop} {w : World} {Φ : World → Prop} (h : HolF F w Φ) : Φ w := h w (Below.refl _ _) (fun _ _ _ => rfl)
theorem HolF.kept {F : Nat → Prop} {w w1 : World} {Φ : World → Prop} (h : HolF F w Φ) (hb : Below 0 w w1) (hk : ∀ k, k < w.heap.size → F k → w1.heap[k]? = w.heap[k]?) : HolF F w1 Φ := fun w2 h2 hk2 =>
  h w2 ((below_zero hb).trans (below_zero h2)) (fun k h3 h4 => (hk2 k (by have := hb.size; omega) h4).trans (hk k h3 h4))
theorem HolF.below {F : Nat → Prop} {w w1 : World} {Φ : World → Prop} (h : HolF F w Φ) (hb : Below w.heap.size w w1) : HolF F w1 Φ := h.kept (below_zero hb) (fun k h3 _ => hb.block k h3)
theorem HolF.mono {F F' : Nat → Prop} {w : World} {Φ : World → Prop} (h : HolF F w Φ) (hF : ∀ k, F k → F' k) : HolF F' w Φ := fun w2 h2 hk => h w2 h2 (fun k h3 h4 => hk k h3 (hF k h4))
theorem HolF.imp {F : Nat → Prop} {w : World} {Φ Ψ : World → Prop} (h : HolF F w Φ) (hi : ∀ w2, Φ w2 → Ψ w2) : HolF F w Ψ := fun w2 h2 hk => hi _ (h w2 h2 hk)
theorem HolF.deep {F : Nat → Prop} {w w1 : World} {Φ : World → Prop} (h : HolF F w Φ) (hb : Below w.heap.size w w1) : HolF (fun k => k < w.heap.size ∧ F k) w1 Φ := fun w2 h2 hk =>
  h w2 ((below_zero hb).trans (below_zero h2)) (fun k h3 h4 => (hk k (by have := hb.size; omega) ⟨h3, h4⟩).trans (hb.block k h3))
/-- What held at the start, seen from the end. -/
theorem HolF.back {F : Nat → Prop} {w w1 w2 : World} {Φ : World → Prop} (h : HolF F w Φ) (hb : Below w.heap.size w w1) (h2 : Below 0 w1 w2) (hk : ∀ k, k < w1.heap.size → (k < w.heap.size → F k) → w2.heap[k]? = w1.heap[k]?) : Φ w2 :=
  h w2 ((below_zero hb).trans (below_zero h2)) (fun k h3 h4 => (hk k (by have := hb.size; omega) (fun _ => h4)).trans (hb.block k h3))
theorem HolF.ofK {α : Type} {d : Kd α} {w : World} {x : α} {cs : List Value} (h : d.K w x cs) : HolF (fun _ => True) w (fun w2 => d.K w2 x cs) := fun w2 h2 hk => d.K_below ⟨h2.os, h2.tape, h2.output, h2.size, fun k h3 => hk k h3 trivial⟩ h
theorem HolF.ofC {α : Type} {d : Kd α} {w : World} {A : Option Addr} {n : Nat} {xs : List α} (h : d.C w A n xs) : HolF (fun _ => True) w (fun w2 => d.C w2 A n xs) := fun w2 h2 hk => Kd.C_below h ⟨h2.os, h2.tape, h2.output, h2.size, fun k h3 => hk k h3 trivial⟩
def StepR (F : Nat → Prop) (w : World) (st : Step) (e : Ending) (w' : World) : Prop := (∃ cs, e = .returned (.agg cs.toArray) ∧ HolF (fun k => k < w.heap.size → F k) w' (fun w2 => kStep.K w2 st cs)) ∧ Below w.heap.size w w'
theorem blk_at_new (W : World) (o : Obj) (g : Nat) (hg : g = W.heap.size) : (W.alloc o).heap[g]? = some o := by subst hg; exact heap_alloc_new W o
theorem C_blk1 {α : Type} {d : Kd α} {W : World} {g t : Nat} {x : α} {cs : List Value} (hK : d.K W x cs) (hb : W.heap[g]? = some (.cells cs.toArray t (0, 0))) : d.C W (some ⟨g, 0, none⟩) 1 [x] := by
  refine ⟨rfl, by decide, fun _ => ⟨_, rfl, fun j p hj => ?_⟩⟩
  cases j with
  | succ j => cases hj
  | zero =>
    obtain rfl := Option.some.inj hj
    refine ⟨cs, d.K_len hK, hK, fun i u hu => ?_⟩
    have e3 : (⟨g, 0, none⟩ : Addr).add (0 * d.sz + i) = ⟨g, i, none⟩ := by
      rw [Nat.zero_mul, Nat.zero_add]
      unfold Addr.add
      split <;> simp_all
    rw [e3, blk_cell hb, List.getElem?_toArray]
    exact hu
theorem C_str1 {W : World} {g t : Nat} {k : ByteArray} (hb : W.heap[g]? = some (.cells #[.string k] t (0, 0))) : Kd.string.C W (some ⟨g, 0, none⟩) 1 [k] := C_blk1 (d := Kd.string) (cs := [.string k]) rfl hb
theorem C_nil {α : Type} (d : Kd α) (w : World) : d.C w none 0 [] := ⟨rfl, by decide, fun h => absurd h (by decide)⟩
theorem wpList_store_K {P : Program} {ops : Array Oper} {rest : List Oper} {o : Oper} {a : Act} {w : World} {Q : Exit → Act → World → Prop} {α : Type} {d : Kd α} {x0 : α} {cs : List Value} (hK : d.K w x0 cs)
    (hgd : o.guard = none) (ty : TypeId) (x y : Operand) (ho : o.op = .store ty x y)
    (g : Nat) (hx : a.eval x = .pointer (some ⟨g, 0, none⟩)) (hy : a.eval y = .agg cs.toArray)
    (t : TypeId) (old : Array Value) (hg : w.heap[g]? = some (.cells old t (0, 0))) (hi : (P.info? ty).map (·.size) = some d.sz) (hold : old.size = d.sz)
    (h : ∀ w', w'.heap[g]? = some (.cells cs.toArray t (0, 0)) → (∀ B, B ≤ g → Below B w w') → (∀ (F : Nat → Prop) (Φ : World → Prop), ¬ F g → HolF F w Φ → HolF F w' Φ) → wpList P ops Q rest (a.put o.dst undef) w') : wpList P ops Q (o :: rest) a w := by
  have hl := d.K_len hK
  refine wpList_store_row hgd ty x y ho g cs.toArray hx hy t old hg (by rw [hi, List.size_toArray, hl]) (by rw [hold, List.size_toArray, hl]) (by rw [Array.all_eq_true_iff_forall_mem]; intro u hu; exact d.K_one hK u (by simpa using hu)) ?_
  exact h _ (setRow_heap w g old _ t _ hg) (fun B hB => below_setRow (Below.refl _ _) hB _) (fun F Φ hF hh => hh.kept (below_setRow (Below.refl _ _) (Nat.zero_le _) _) (fun k hk hFk => setRow_other _ _ _ _ (fun e => hF (e ▸ hFk))))
theorem S_cell {W : World} {A : Option Addr} {l : List ByteArray} (h : Kd.string.C W A l.length l) (i : Nat) (hi : i < l.length) : ∃ b o, A = some ⟨b, o, none⟩ ∧ b < W.heap.size ∧ W.cell? ⟨b, o + i, none⟩ = some (.string (l.getD i ⟨#[]⟩)) := by
  obtain ⟨ad, rfl, hc⟩ := h.2.2 (by omega)
  obtain ⟨cs, hlen, hK, hcell⟩ := hc 0 _ (List.getElem?_eq_getElem (show 0 < l.length by omega))
  have h0 := hcell 0 _ (List.getElem?_eq_getElem (show 0 < cs.length by rw [hlen]; decide))
  rw [Nat.zero_mul, Nat.zero_add, Addr.add_zero'] at h0
  obtain ⟨b, o, rfl, hb⟩ := addr_plain h0
  obtain ⟨cs2, hlen2, hK2, hcell2⟩ := hc i _ (List.getElem?_eq_getElem hi)
  obtain rfl : cs2 = [Value.string l[i]] := hK2
  have h1 := hcell2 0 _ rfl
  refine ⟨b, o, rfl, hb, ?_⟩
  have e : (⟨b, o, none⟩ : Addr).add (i * Kd.string.sz + 0) = ⟨b, o + i, none⟩ := by
    rw [show i * Kd.string.sz + 0 = i from by show i * 1 + 0 = i; omega]
    unfold Addr.add
    split <;> simp_all
  rw [e] at h1
  rw [h1, List.getD_eq_getElem?_getD, List.getElem?_eq_getElem hi]
  rfl
theorem wpList_store_A {P : Program} {ops : Array Oper} {rest : List Oper} {o : Oper} {a : Act} {w : World} {Q : Exit → Act → World → Prop}
    (hgd : o.guard = none) (ty : TypeId) (x y : Operand) (ho : o.op = .store ty x y)
    (g : Nat) (cells : Array Value) (hx : a.eval x = .pointer (some ⟨g, 0, none⟩)) (hy : a.eval y = .agg cells)
    (t : TypeId) (old : Array Value) (hg : w.heap[g]? = some (.cells old t (0, 0))) (hi : (P.info? ty).map (·.size) = some cells.size) (hold : old.size = cells.size) (h1 : cells.all (·.oneCell') = true)
    (h : ∀ w', w'.heap[g]? = some (.cells cells t (0, 0)) → (∀ B, B ≤ g → Below B w w') → wpList P ops Q rest (a.put o.dst undef) w') : wpList P ops Q (o :: rest) a w :=
  wpList_store_row hgd ty x y ho g cells hx hy t old hg hi hold h1 (h _ (setRow_heap w g old _ t _ hg) (fun B hB => below_setRow (Below.refl _ _) hB _))
theorem own_keep {w w1 : World} {base : Nat} {e : TypeId} {size n : Nat} {v : Value} {xs : List Value} (h : w.ownsRow base e size v n xs) (hm : ∀ k, base ≤ k → k < w.heap.size → w1.heap[k]? = w.heap[k]?) : w1.ownsRow base e size v n xs :=
  own_move h (fun k hk => hm k (own_base h k hk) (own_lt h k hk))
theorem HolF.up {F : Nat → Prop} {w W : World} {Φ : World → Prop} (h : HolF F w Φ) (hb : Below w.heap.size w W) {g : Nat} (hg : w.heap.size ≤ g) : HolF (fun k => k ≠ g ∧ (k < w.heap.size → F k)) W Φ := fun w2 h2 hk2 =>
  h w2 ((below_zero hb).trans h2) (fun k h3 h4 => (hk2 k (Nat.lt_of_lt_of_le h3 hb.size) ⟨by omega, fun _ => h4⟩).trans (hb.block k h3))
/-- w' is w but for block g. -/
structure StoreTo (g : Nat) (w w' : World) : Prop where
  below : ∀ B, B ≤ g → Below B w w'
  block : ∀ k, k ≠ g → w'.heap[k]? = w.heap[k]?
  size : w'.heap.size = w.heap.size
theorem StoreTo.row (w : World) (g : Nat) (cs : Array Value) : StoreTo g w (w.setRow g cs) :=
  ⟨fun _ hB => below_setRow (Below.refl _ _) hB _, fun k hk => setRow_other _ _ _ _ hk, by simp [World.setRow]⟩
theorem StoreTo.zero {g : Nat} {w w' : World} (h : StoreTo g w w') : Below 0 w w' := h.below 0 (Nat.zero_le _)
theorem StoreTo.blk {g k : Nat} {w w' : World} {o : Obj} (h : StoreTo g w w') (hb : w.heap[k]? = some o) (hk : k ≠ g) : w'.heap[k]? = some o := (h.block k hk).trans hb
theorem StoreTo.up {g B : Nat} {w0 w w' : World} (h : StoreTo g w w') (hb : Below B w0 w) (hg : B ≤ g) : Below B w0 w' := hb.trans (h.below B hg)
theorem StoreTo.hol {g : Nat} {w w' : World} {F : Nat → Prop} {Φ : World → Prop} (h : StoreTo g w w') (hh : HolF F w Φ) (hg : ¬ F g) : HolF F w' Φ := hh.kept h.zero (fun k _ hF => h.block k (fun e => hg (e ▸ hF)))
theorem StoreTo.own {g : Nat} {w w' : World} {base n size : Nat} {e : TypeId} {v : Value} {xs : List Value} (h : StoreTo g w w') (ho : w.ownsRow base e size v n xs) (hg : g < base) : w'.ownsRow base e size v n xs :=
  own_keep ho (fun k hk _ => h.block k (by omega))
theorem StoreTo.own' {g : Nat} {w w' : World} {base n size : Nat} {e : TypeId} {v : Value} {xs : List Value} (h : StoreTo g w w') (ho : w.ownsRow base e size v n xs) (hg : some g ≠ v.ownBlock) : w'.ownsRow base e size v n xs :=
  own_move ho (fun k hk => h.block k (fun e => hg (by rw [← e]; exact hk.symm)))
theorem own_not {w : World} {base n size g : Nat} {e : TypeId} {v : Value} {xs : List Value} (ho : w.ownsRow base e size v n xs) (hg : w.heap.size ≤ g) : some g ≠ v.ownBlock := fun e => absurd (own_lt ho _ e.symm) (by omega)
theorem cells_one {u : Value} (h1 : u.oneCell' = true) : u.cells = #[u] := by cases u <;> first | rfl | cases h1
theorem run_storeVar_F {P : Program} (w : World) (g i : Nat) (t ty : TypeId) (cur : Array Value) (v : Value) (vs : List Value) (hv : v.cells = vs.toArray) (hg : w.heap[g]? = some (.cells cur t (0, 0))) (hi : (P.info? ty).map (·.size) = some vs.length)
    (hfit : i + vs.length ≤ cur.size) (h1 : ∀ u ∈ vs, u.oneCell' = true) : (storeVar ty ⟨g, i, none⟩ v).run P w = .ok () (w.setRow g (cur.toList.take i ++ vs ++ cur.toList.drop (i + vs.length)).toArray) := by
  have := run_storeCells_at (P := P) g i t vs 0 cur w hg (by omega) h1
  cases hq : P.info? ty with
  | none => simp [hq] at hi
  | some j =>
    have hs : j.size = vs.length := by simpa [hq] using hi
    simp only [Nat.add_zero] at this
    simp [storeVar, sizeOf, typeInfo, hq, hv, hs, this]
theorem wpList_store_F {P : Program} {ops : Array Oper} {rest : List Oper} {o : Oper} {a : Act} {w : World} {Q : Exit → Act → World → Prop} (hgd : o.guard = none) (ty : TypeId) (x y : Operand) (ho : o.op = .store ty x y)
    (g i : Nat) (vs : List Value) (hx : a.eval x = .pointer (some ⟨g, i, none⟩)) (hv : (a.eval y).cells = vs.toArray) (h1 : ∀ u ∈ vs, u.oneCell' = true)
    (t : TypeId) (cur new : Array Value) (hg : w.heap[g]? = some (.cells cur t (0, 0))) (hfit : i + vs.length ≤ cur.size) (hi : (P.info? ty).map (·.size) = some vs.length) (hnew : (cur.toList.take i ++ vs ++ cur.toList.drop (i + vs.length)).toArray = new)
    (h : ∀ w', w'.heap[g]? = some (.cells new t (0, 0)) → StoreTo g w w' → wpList P ops Q rest (a.put o.dst undef) w') : wpList P ops Q (o :: rest) a w :=
  wpList_plain hgd fun _ hK => by
    unfold Oper.wp execOp
    simp only [ho, hx, Instr.storeAt, Instr.sureAddr, Sem.run_bind, Sem.run_pure, Result.andThen_ok, run_storeVar_F w g i t ty cur _ vs hv hg hi hfit h1]
    rw [hnew]
    exact hK _ _ (h _ (setRow_heap w g cur _ t _ hg) (StoreTo.row w g new))
theorem wpList_store_1 {P : Program} {ops : Array Oper} {rest : List Oper} {o : Oper} {a : Act} {w : World} {Q : Exit → Act → World → Prop} (hgd : o.guard = none) (ty : TypeId) (x y : Operand) (ho : o.op = .store ty x y)
    (g i : Nat) (v : Value) (hx : a.eval x = .pointer (some ⟨g, i, none⟩)) (hv : a.eval y = v) (h1 : v.oneCell' = true)
    (t : TypeId) (cur new : Array Value) (hg : w.heap[g]? = some (.cells cur t (0, 0))) (hfit : i + 1 ≤ cur.size) (hi : (P.info? ty).map (·.size) = some 1) (hnew : (cur.toList.take i ++ [v] ++ cur.toList.drop (i + 1)).toArray = new)
    (h : ∀ w', w'.heap[g]? = some (.cells new t (0, 0)) → StoreTo g w w' → wpList P ops Q rest (a.put o.dst undef) w') : wpList P ops Q (o :: rest) a w :=
  wpList_store_F hgd ty x y ho g i [v] hx (by rw [hv]; exact cells_one h1) (by intro u hu; simp only [List.mem_singleton] at hu; subst hu; exact h1) t cur new hg hfit hi hnew h
theorem step_store_F {P : Program} {ops : Array Oper} {o : Oper} {a : Act} {w : World} {K : Act → World → Prop} {Q : Exit → Act → World → Prop} (hw : Region.wanted o (yielded ops a.tmps) = true) (ty : TypeId) (x y : Operand) (ho : o.op = .store ty x y)
    (g i : Nat) (vs : List Value) (hx : a.eval x = .pointer (some ⟨g, i, none⟩)) (hv : (a.eval y).cells = vs.toArray) (h1 : ∀ u ∈ vs, u.oneCell' = true)
    (t : TypeId) (cur new : Array Value) (hg : w.heap[g]? = some (.cells cur t (0, 0))) (hfit : i + vs.length ≤ cur.size) (hi : (P.info? ty).map (·.size) = some vs.length) (hnew : (cur.toList.take i ++ vs ++ cur.toList.drop (i + vs.length)).toArray = new)
    (h : ∀ w', w'.heap[g]? = some (.cells new t (0, 0)) → StoreTo g w w' → K (a.put o.dst undef) w') :
    if Region.wanted o (yielded ops a.tmps) = true then Oper.wp P o a w K Q else K (a.put o.dst undef) w := by
  rw [if_pos hw]
  unfold Oper.wp execOp
  simp only [ho, hx, Instr.storeAt, Instr.sureAddr, Sem.run_bind, Sem.run_pure, Result.andThen_ok, run_storeVar_F w g i t ty cur _ vs hv hg hi hfit h1]
  rw [hnew]
  exact h _ (setRow_heap w g cur _ t _ hg) (StoreTo.row w g new)
theorem own_some {w : World} {base n size : Nat} {e : TypeId} {v : Value} {xs : List Value} (h : w.ownsRow base e size v n xs) (hn : n ≠ 0) : ∃ g cap, v = .slice (some ⟨g, 0, none⟩) n cap := by
  rcases h.2 with ⟨rfl, h0⟩ | ⟨g, cap, cur, rfl, _⟩
  · exact absurd h0 hn
  · exact ⟨g, cap, rfl⟩
theorem own_up {w w1 : World} {base n size : Nat} {e : TypeId} {v : Value} {xs : List Value} (h : w.ownsRow base e size v n xs) (hb : Below w.heap.size w w1) : w1.ownsRow base e size v n xs := own_move h (fun k hk => hb.block k (own_lt h k hk))
theorem own_one {w : World} {base n size : Nat} {e : TypeId} {v : Value} {xs : List Value} (h : w.ownsRow base e size v n xs) : v.oneCell' = true := by
  rcases h.2 with ⟨rfl, _⟩ | ⟨g, cap, cur, rfl, _⟩ <;> rfl
theorem own_apart {w : World} {base n size : Nat} {e : TypeId} {v : Value} {xs : List Value} (h : w.ownsRow base e size v n xs) {k : Nat} (hk : k < base) : some k ≠ v.ownBlock := fun e => absurd (own_base h _ e.symm) (by omega)
theorem own_set {w : World} {base e size n g cap : Nat} {xs : List Value} (h : w.ownsRow base e size (.slice (some ⟨g, 0, none⟩) n cap) n xs) (j : Nat) (hj : j < xs.length) :
    ∃ cur, w.heap[g]? = some (.cells cur e (0, 0)) ∧ j + 1 ≤ cur.size ∧ base ≤ g ∧ ∀ (u : Value) (w' : World), w'.heap[g]? = some (.cells (cur.toList.take j ++ [u] ++ cur.toList.drop (j + 1)).toArray e (0, 0)) → w'.ownsRow base e size (.slice (some ⟨g, 0, none⟩) n cap) n (xs.set j u) := by
  obtain ⟨hl, h2⟩ := h
  rcases h2 with ⟨h2, _⟩ | ⟨g', cap', cur, he, hb, hh, hn, hcm, hcs, htake⟩
  · cases h2
  obtain ⟨rfl, rfl⟩ : g = g' ∧ cap = cap' := by simpa using he
  have hjc : j < cur.toList.length := by
    rw [← htake, List.length_take] at hj
    omega
  refine ⟨cur, hh, by rw [Array.length_toList] at hjc; omega, hb, fun u w' hw => ?_⟩
  have e1 : cur.toList.take j ++ [u] ++ cur.toList.drop (j + 1) = cur.toList.set j u := by
    rw [List.set_eq_take_append_cons_drop, if_pos hjc]
    simp
  rw [e1] at hw
  refine ⟨by rw [List.length_set]; exact hl, .inr ⟨g, cap, _, rfl, hb, hw, hn, hcm, ?_, ?_⟩⟩
  · rw [List.size_toArray, List.length_set, Array.length_toList]; exact hcs
  · show (cur.toList.set j u).take _ = _
    rw [← htake, List.take_set]
theorem add_plain (b o k : Nat) : (⟨b, o, none⟩ : Addr).add k = ⟨b, o + k, none⟩ := by
  unfold Addr.add
  split <;> simp_all
theorem C_tail {w : World} {b o n : Nat} {v : ByteArray} {l : List ByteArray} (h : Kd.string.C w (some ⟨b, o, none⟩) (n + 1) (v :: l)) (hn : l.length = n) : Kd.string.C w (some ⟨b, o + 1, none⟩) n l := by
  obtain ⟨h1, h2, h3⟩ := h
  refine ⟨hn, by omega, fun h0 => ⟨_, rfl, fun j p hj => ?_⟩⟩
  obtain ⟨ad, ha, hc⟩ := h3 (by omega)
  obtain rfl := Option.some.inj ha
  obtain ⟨cs, hlen, hK, hcell⟩ := hc (j + 1) p hj
  refine ⟨cs, hlen, hK, fun i u hu => ?_⟩
  rw [← hcell i u hu]
  obtain rfl : cs = [Value.string p] := hK
  have hi : i = 0 := by
    have := (List.getElem?_eq_some_iff.1 hu).1
    simpa using this
  subst hi
  rw [add_plain, add_plain]
  congr 2
  show o + 1 + (j * 1 + 0) = o + ((j + 1) * 1 + 0)
  omega
theorem own_Cu8 {W : World} {base : Nat} {A : Option Addr} {c : Nat} {l : List Int} (h : W.ownsRow base 5 1 (.slice A l.length c) l.length (encs (Value.int .u8) l)) : (Kd.int .u8).C W A l.length l := by
  obtain ⟨A', c', e, -, hC⟩ := Kd.R_reads (Kd.R_of_own (h1 := fun _ => rfl) (ok := fun _ => True) h (fun _ _ => trivial))
  obtain ⟨rfl, -, rfl⟩ := Value.slice.inj e
  exact hC
theorem bodyS_e (l : List Int) (n : Int) (h0 : 0 ≤ n) (hn : n ≤ 1000) : (bodyS l n).2.2 = 3 ∧ (bodyS l n).2.1 = 0 ∨ (bodyS l n).2.2 = 2 ∧ (bodyS l n).2.1 = n ∨ (bodyS l n).2.2 = 0 ∧ (bodyS l n).2.1 = n + 2 := by
  unfold bodyS
  rw [if_neg (by omega)]
  split
  · exact .inl ⟨rfl, rfl⟩
  split
  · exact .inr (.inr ⟨rfl, rfl⟩)
  · exact .inr (.inl ⟨rfl, rfl⟩)
theorem C_zero {α : Type} (d : Kd α) (w : World) (A : Option Addr) : d.C w A 0 [] := ⟨rfl, by decide, fun h => absurd h (by decide)⟩
theorem own_Cs {W : World} {base : Nat} {v : Value} {l : List ByteArray} (h : W.ownsRow base 9 1 v l.length (l.map Value.string)) (hl : l.length ≤ 1000000) : ∃ A c, v = .slice A l.length c ∧ l.length ≤ c ∧ Kd.string.C W A l.length l := by
  rcases h.2 with ⟨rfl, h0⟩ | ⟨g, cap, cur, rfl, hb, hh, hn, hcm, hcs, htake⟩
  · obtain rfl : l = [] := List.eq_nil_of_length_eq_zero h0
    exact ⟨none, 0, rfl, Nat.le_refl _, C_nil _ _⟩
  · refine ⟨some ⟨g, 0, none⟩, cap, rfl, hn, rfl, by omega, fun _ => ⟨_, rfl, fun j p hj => ⟨[.string p], rfl, rfl, fun i u hu => ?_⟩⟩⟩
    have hi : i = 0 := by
      have := (List.getElem?_eq_some_iff.1 hu).1
      simpa using this
    subst hi
    obtain rfl : Value.string p = u := by simpa using hu
    refine h.cells (g := g) rfl (j * 1 + 0) _ ?_
    rw [Nat.mul_one, Nat.add_zero, List.getElem?_map, hj]
    rfl
theorem C_dropk {w : World} {b o : Nat} {l : List Int} (h : (Kd.int .u8).C w (some ⟨b, o, none⟩) l.length l) (k : Nat) : (Kd.int .u8).C w (some ⟨b, o + k, none⟩) (l.drop k).length (l.drop k) := by
  obtain ⟨h1, h2, h3⟩ := h
  refine ⟨rfl, by rw [List.length_drop]; omega, fun h0 => ⟨_, rfl, fun j p hj => ?_⟩⟩
  rw [List.getElem?_drop] at hj
  obtain ⟨ad, ha, hc⟩ := h3 (by have := (List.getElem?_eq_some_iff.1 hj).1; omega)
  obtain rfl := Option.some.inj ha
  obtain ⟨cs, hlen, hK, hcell⟩ := hc (k + j) p hj
  refine ⟨cs, hlen, hK, fun i u hu => ?_⟩
  rw [← hcell i u hu, add_plain, add_plain]
  congr 2
  show o + k + (j * 1 + i) = o + ((k + j) * 1 + i)
  omega
theorem own_CsA {W : World} {base : Nat} {A : Option Addr} {c : Nat} {l : List ByteArray} (h : W.ownsRow base 9 1 (.slice A l.length c) l.length (l.map Value.string)) (hl : l.length ≤ 1000000) : Kd.string.C W A l.length l := by
  obtain ⟨A', c', e, -, hC⟩ := own_Cs h hl
  obtain ⟨rfl, -, rfl⟩ := Value.slice.inj e
  exact hC
theorem wordsL_size (l : List UInt8) : ∀ x ∈ wordsL l, x.length ≤ l.length := by
  induction h : l.length using Nat.strongRecOn generalizing l with
  | _ n ih =>
    intro x hx
    by_cases h0 : trimL l = []
    · rw [wordsL_nil _ h0] at hx; cases hx
    · rw [wordsL_cons _ h0] at hx
      have h1 := trimL_len l
      rcases List.mem_cons.1 hx with rfl | hx
      · have := headW_len (trimL l)
        omega
      · have h2 := tailW_lt l h0
        have := ih _ (by omega) (tailW (trimL l)) rfl x hx
        omega
theorem wordsB_size (s : ByteArray) : ∀ x ∈ wordsB s, x.size ≤ s.size := by
  intro x hx
  unfold wordsB at hx
  obtain ⟨y, hy, rfl⟩ := List.mem_map.1 hx
  exact wordsL_size _ y hy
theorem C_tailI {w : World} {b o c n : Nat} {v : ByteArray} {l : List ByteArray} (h : Kd.string.C w (some ⟨b, o, none⟩) (n + 1) (v :: l)) (hn : l.length = n) (hc : n + 1 ≤ c) : Kd.string.C w (if c = 1 then some ⟨b, o, none⟩ else some ⟨b, o + 1, none⟩) n l := by
  split
  · obtain rfl : n = 0 := by omega
    obtain rfl : l = [] := List.eq_nil_of_length_eq_zero hn
    exact C_zero _ _ _
  · exact C_tail h hn
theorem lit_ne {a : ByteArray} {l : List UInt8} (h : a ≠ ⟨l.toArray⟩) : (a.toList == l) = false := by
  rw [beq_eq_false_iff_ne]
  intro e
  refine h ?_
  rw [ByteArray.toList_eq] at e
  rcases a with ⟨⟨q⟩⟩
  have e : q = l := e
  rw [e]
end Go.Proofs.YtdgeiadlijlkmaaGreatDoor.X
namespace Go.Proofs.YtdgeiadlijlkmaaGreatDoor.X
open Go.RowKit Go.Proofs.YtdgeiadlijlkmaaGreatDoorW.PrintWords Go.Proofs.YtdgeiadlijlkmaaGreatDoorW.PrintMore
set_option linter.unusedVariables false
set_option linter.unusedSimpArgs false
def badT : ByteArray := (⟨#[67, 76, 73, 69, 78, 84, 95, 69, 82, 82, 79, 82, 32, 98, 97, 100, 32, 99, 111, 109, 109, 97, 110, 100, 32, 108, 105, 110, 101, 32, 102, 111, 114, 109, 97, 116]⟩ : ByteArray)
def longT : ByteArray := (⟨#[67, 76, 73, 69, 78, 84, 95, 69, 82, 82, 79, 82, 32, 108, 105, 110, 101, 32, 116, 111, 111, 32, 108, 111, 110, 103]⟩ : ByteArray)
def manyT : ByteArray := (⟨#[67, 76, 73, 69, 78, 84, 95, 69, 82, 82, 79, 82, 32, 116, 111, 111, 32, 109, 97, 110, 121, 32, 102, 108, 97, 103, 115]⟩ : ByteArray)
def invalidT : ByteArray := (⟨#[67, 76, 73, 69, 78, 84, 95, 69, 82, 82, 79, 82, 32, 105, 110, 118, 97, 108, 105, 100, 32, 102, 108, 97, 103]⟩ : ByteArray)
def duplicateT : ByteArray := (⟨#[67, 76, 73, 69, 78, 84, 95, 69, 82, 82, 79, 82, 32, 100, 117, 112, 108, 105, 99, 97, 116, 101, 32, 102, 108, 97, 103]⟩ : ByteArray)
def tokenT : ByteArray := (⟨#[67, 76, 73, 69, 78, 84, 95, 69, 82, 82, 79, 82, 32, 98, 97, 100, 32, 116, 111, 107, 101, 110, 32, 105, 110, 32, 99, 111, 109, 109, 97, 110, 100, 32, 108, 105, 110, 101, 32, 102, 111, 114, 109, 97, 116]⟩ : ByteArray)
def chunkT : ByteArray := (⟨#[67, 76, 73, 69, 78, 84, 95, 69, 82, 82, 79, 82, 32, 98, 97, 100, 32, 100, 97, 116, 97, 32, 99, 104, 117, 110, 107]⟩ : ByteArray)
def largeT : ByteArray := (⟨#[83, 69, 82, 86, 69, 82, 95, 69, 82, 82, 79, 82, 32, 111, 98, 106, 101, 99, 116, 32, 116, 111, 111, 32, 108, 97, 114, 103, 101, 32, 102, 111, 114, 32, 99, 97, 99, 104, 101]⟩ : ByteArray)
def toldT : ByteArray := (⟨#[98, 99, 102, 107, 79, 115, 116, 118]⟩ : ByteArray)
/-- The flags of a verb without a token, and those with one. -/
def bareL (v : List UInt8) : ByteArray := if v = [109, 103] then (⟨#[98, 99, 102, 107, 113, 115, 116, 118]⟩ : ByteArray) else if v = [109, 115] then (⟨#[98, 99, 107, 113]⟩ : ByteArray) else if v = [109, 100] then (⟨#[98, 107, 113, 73]⟩ : ByteArray) else if v = [109, 97] then (⟨#[98, 99, 107, 113, 116, 118]⟩ : ByteArray) else ⟨#[]⟩
def loadL (v : List UInt8) : ByteArray := if v = [109, 103] then (⟨#[79, 84, 78]⟩ : ByteArray) else if v = [109, 115] then (⟨#[79, 70, 84, 67, 77]⟩ : ByteArray) else if v = [109, 100] then (⟨#[79, 67, 84]⟩ : ByteArray) else if v = [109, 97] then (⟨#[79, 67, 68, 74, 78, 77]⟩ : ByteArray) else ⟨#[]⟩
def isVerb (v : List UInt8) : Bool := decide (v = [109, 103]) || (decide (v = [109, 115]) || (decide (v = [109, 100]) || decide (v = [109, 97])))
/-- Is a sign in a text? -/
def hasZ (s : ByteArray) (z : Int) : Bool := s.data.toList.any fun b => decide ((b.toNat : Int) = z)
def begunC (v : List UInt8) : Cmd := if v = [109, 103] then { zCmd with op := 12 } else if v = [109, 115] then { zCmd with op := 3 } else if v = [109, 100] then { zCmd with op := 8 } else { zCmd with op := 10, delta := 1 }
/-- The kind of command that M tells. -/
def modeS (v s : List UInt8) : Option Int :=
  if v = [109, 115] then (if s = [83] then some 3 else if s = [69] then some 4 else if s = [65] then some 6 else if s = [80] then some 7 else if s = [82] then some 5 else none)
  else if s = [73] ∨ s = [43] then some 10 else if s = [68] ∨ s = [45] then some 11 else none
/-- A command with a flag that has a token. -/
def loadS (v : List UInt8) (z : Int) (s : ByteArray) (c : Cmd) : Option Cmd :=
  if z = 79 then (if 1 ≤ s.size ∧ s.size ≤ 32 then some c else none)
  else if z = 84 ∨ z = 78 then (if (sgnS s).2 = true then some { c with exp := (sgnS s).1, makes := c.makes || decide (z = 78), sets := c.sets || (decide (z = 84) && !decide (v = [109, 115])) } else none)
  else if z = 77 then (modeS v s.toList).map fun op => { c with op := op }
  else if z = 70 then (if (decS s).2 = true ∧ ((decS s).1 : Int) ≤ 4294967295 then some { c with flags := (decS s).1 } else none)
  else if (decS s).2 = true then some (if z = 67 then { c with cas := (decS s).1 } else if z = 68 then { c with delta := (decS s).1 } else if z = 74 then { c with initial := (decS s).1 } else c) else none
structure Ln where
  c : Cmd
  f : Form
  seen : ByteArray
def letter (w : ByteArray) : Int := ((w.data.toList.getD 0 0).toNat : Int)
def tokenW (w : ByteArray) : ByteArray := w.extract 1 w.size
def firstW (w : ByteArray) : ByteArray := w.extract 0 1
/-- A line with a flag that may be. -/
def goS (x : Ln) (c : Cmd) (z : Int) (w : ByteArray) : Ln :=
  { c := if z = 73 then { c with op := 9 } else c
    f := { x.f with quiet := x.f.quiet || decide (z = 113), base64 := x.f.base64 || decide (z = 98), flags := if hasZ toldT z = true then x.f.flags ++ firstW w else x.f.flags, tokens := if hasZ toldT z = true then x.f.tokens ++ [tokenW w] else x.f.tokens }
    seen := x.seen ++ firstW w }
def flagS (v : List UInt8) (x : Ln) (w : ByteArray) : Except ByteArray Ln :=
  if (hasZ (bareL v) (letter w) = false ∧ hasZ (loadL v) (letter w) = false) ∨ (hasZ (bareL v) (letter w) = true ∧ (tokenW w).size ≠ 0) then .error invalidT
  else if hasZ x.seen (letter w) = true then .error duplicateT
  else if hasZ (loadL v) (letter w) = true then (match loadS v (letter w) (tokenW w) x.c with
    | none => .error tokenT
    | some c => .ok (goS x c (letter w) w))
  else .ok (goS x x.c (letter w) w)
def flagsS (v : List UInt8) : Ln → List ByteArray → Except ByteArray Ln
  | x, [] => .ok x
  | x, w :: ws => match flagS v x w with
    | .error e => .error e
    | .ok y => flagsS v y ws
/-- A line with its key; b64: what a text of sixty-four signs is. -/
def keyM (b64 : ByteArray → Option (List Int)) (x : Ln) (k : ByteArray) : Except ByteArray Ln :=
  if x.f.base64 = false then (if keyS k = true then .ok { x with f := { x.f with keys := [k] }, c := { x.c with key := k } } else .error badT)
  else match b64 k with
    | none => .error badT
    | some l => if keyedS (strOfNums l) = true then .ok { x with f := { x.f with keys := [k] }, c := { x.c with key := strOfNums l } } else .error badT
def begunL (v : ByteArray) : Ln := ⟨begunC v.toList, { zForm with dialect := 3, verb := v }, ⟨#[]⟩⟩
def readS (b64 : ByteArray → Option (List Int)) (v k : ByteArray) (ws : List ByteArray) : Except ByteArray Ln :=
  if 16 < ws.length then .error manyT else match flagsS v.toList (begunL v) ws with
    | .error e => .error e
    | .ok x => keyM b64 x k
def stepFS (used : Int) (reply : ByteArray) (skip : Int) (line : Bool) : Step := { stepF used reply with skip := skip, line := line }
def stepM : Step := { zStep with e := 3 }
def skipN (z : Nat × Bool) : Int := if z.2 = true ∧ (z.1 : Int) ≤ 1073741824 then (z.1 : Int) + 2 else 0
/-- ms, of its words behind the verb: its key, its size, its flags. -/
def storesM (b64 : ByteArray → Option (List Int)) (used : Int) (rest : List Int) (k n : ByteArray) (ws : List ByteArray) : Step :=
  match readS b64 (⟨#[109, 115]⟩ : ByteArray) k ws with
  | .error e => stepFS used e (skipN (decS n)) false
  | .ok x =>
    if (decS n).2 = false then stepFS used badT (skipN (decS n)) false
    else if ((decS n).1 : Int) > 1000 then stepFS used largeT (skipN (decS n)) false
    else if (bodyS rest (decS n).1).2.2 = 3 then stepM
    else if (bodyS rest (decS n).1).2.2 = 2 then stepFS (used + (bodyS rest (decS n).1).2.1) chunkT 0 true
    else stepO (used + (bodyS rest (decS n).1).2.1) x.f { x.c with value := (bodyS rest (decS n).1).1 }
def parseMW (b64 : ByteArray → Option (List Int)) (used : Int) (rest : List Int) (ws : List ByteArray) : Step :=
  match ws with
  | [] => stepF used (⟨#[69, 82, 82, 79, 82]⟩ : ByteArray)
  | [v] => if v.toList = [109, 110] then stepO used { zForm with dialect := 3, verb := v } { zCmd with op := 14 } else stepF used (⟨#[69, 82, 82, 79, 82]⟩ : ByteArray)
  | v :: k :: ws =>
    if isVerb v.toList = false then stepF used (⟨#[69, 82, 82, 79, 82]⟩ : ByteArray)
    else if v.toList = [109, 115] then (match ws with
      | [] => stepF used (⟨#[69, 82, 82, 79, 82]⟩ : ByteArray)
      | n :: ws => storesM b64 used rest k n ws)
    else match readS b64 v k ws with
      | .error e => stepF used e
      | .ok x => stepO used x.f x.c
/-- What the first bytes of a connection are. -/
def parseM (b64 : ByteArray → Option (List Int)) (l : List Int) : Step :=
  if (lineS l).2.2 = 3 then stepM else if (lineS l).2.2 = 4 then stepFS (lineS l).2.1 longT 0 (l.getD ((lineS l).2.1.toNat - 1) 0 != 10)
  else parseMW b64 (lineS l).2.1 (l.drop (lineS l).2.1.toNat) (wordsB (lineS l).1)
end Go.Proofs.YtdgeiadlijlkmaaGreatDoor.X
namespace Go.Proofs.YtdgeiadlijlkmaaGreatDoor.X
open Go.RowKit Go.Proofs.YtdgeiadlijlkmaaGreatDoorW.PrintWords Go.Proofs.YtdgeiadlijlkmaaGreatDoorW.PrintLast Go.Proofs.YtdgeiadlijlkmaaGreatDoorW.PrintMore
attribute [local go_sem] max2_int min2_int max_two min_two max_three min_three max_four min_four
set_option linter.unusedVariables false
set_option linter.unusedSimpArgs false

/-! ### metain_flags -/
def metain_flags.f (a0 : ByteArray) : Option (ByteArray × ByteArray × Bool) := if a0.toList = ([109, 103] : List UInt8) then (some ((⟨#[98, 99, 102, 107, 113, 115, 116, 118]⟩ : ByteArray), (⟨#[79, 84, 78]⟩ : ByteArray), true)) else (if a0.toList = ([109, 115] : List UInt8) then (some ((⟨#[98, 99, 107, 113]⟩ : ByteArray), (⟨#[79, 70, 84, 67, 77]⟩ : ByteArray), true)) else (if a0.toList = ([109, 100] : List UInt8) then (some ((⟨#[98, 107, 113, 73]⟩ : ByteArray), (⟨#[79, 67, 84]⟩ : ByteArray), true)) else (if a0.toList = ([109, 97] : List UInt8) then (some ((⟨#[98, 99, 107, 113, 116, 118]⟩ : ByteArray), (⟨#[79, 67, 68, 74, 78, 77]⟩ : ByteArray), true)) else (some ((⟨#[]⟩ : ByteArray), (⟨#[]⟩ : ByteArray), false)))))
set_option maxHeartbeats 8000000 in
set_option maxRecDepth 100000 in
theorem metain_flags.calls (a0 : ByteArray) (r1 : ByteArray) (r2 : ByteArray) (r3 : Bool) (w : World) (h : metain_flags.f a0 = some (r1, r2, r3)) :
    Calls Tryz.prog 19 #[.string a0] w fun e w' => e = .returned (.tuple #[.string r1, .string r2, .bool r3]) ∧ Drawn0 w w' := by
  have H : (if a0.toList = ([109, 103] : List UInt8) then (some ((⟨#[98, 99, 102, 107, 113, 115, 116, 118]⟩ : ByteArray), (⟨#[79, 84, 78]⟩ : ByteArray), true)) else (if a0.toList = ([109, 115] : List UInt8) then (some ((⟨#[98, 99, 107, 113]⟩ : ByteArray), (⟨#[79, 70, 84, 67, 77]⟩ : ByteArray), true)) else (if a0.toList = ([109, 100] : List UInt8) then (some ((⟨#[98, 107, 113, 73]⟩ : ByteArray), (⟨#[79, 67, 84]⟩ : ByteArray), true)) else (if a0.toList = ([109, 97] : List UInt8) then (some ((⟨#[98, 99, 107, 113, 116, 118]⟩ : ByteArray), (⟨#[79, 67, 68, 74, 78, 77]⟩ : ByteArray), true)) else (some ((⟨#[]⟩ : ByteArray), (⟨#[]⟩ : ByteArray), false)))))) = some (r1, r2, r3) := h
  clear h
  by_cases c2 : a0.toList = ([109, 103] : List UInt8)
  · rw [if_pos c2] at H
    have c2b0 : (a0.toList == ([109, 103] : List UInt8)) = true := beq_iff_eq.mpr c2
    have c2b1 : (a0.toList != ([109, 103] : List UInt8)) = false := bne_eq_false_iff_eq.mpr c2
    clear c2
    simp only [Option.some.injEq, Prod.mk.injEq] at H
    obtain ⟨rfl, rfl, rfl⟩ := H
    go_enter Tryz.func19, Tryz.ntmps19
    go_wp2
    go_ret3
    exact ⟨by first | rfl | (simp; done) | (simp [*]; done), by repeat (first | exact Drawn0.refl _ | apply Drawn0.step)⟩
  · rw [if_neg c2] at H
    have c2b0 : (a0.toList == ([109, 103] : List UInt8)) = false := beq_eq_false_iff_ne.mpr c2
    have c2b1 : (a0.toList != ([109, 103] : List UInt8)) = true := bne_iff_ne.mpr c2
    by_cases c3 : a0.toList = ([109, 115] : List UInt8)
    · rw [if_pos c3] at H
      have c3b0 : (a0.toList == ([109, 115] : List UInt8)) = true := beq_iff_eq.mpr c3
      have c3b1 : (a0.toList != ([109, 115] : List UInt8)) = false := bne_eq_false_iff_eq.mpr c3
      clear c3
      simp only [Option.some.injEq, Prod.mk.injEq] at H
      obtain ⟨rfl, rfl, rfl⟩ := H
      go_enter Tryz.func19, Tryz.ntmps19
      go_wp2
      go_ret3
      exact ⟨by first | rfl | (simp; done) | (simp [*]; done), by repeat (first | exact Drawn0.refl _ | apply Drawn0.step)⟩
    · rw [if_neg c3] at H
      have c3b0 : (a0.toList == ([109, 115] : List UInt8)) = false := beq_eq_false_iff_ne.mpr c3
      have c3b1 : (a0.toList != ([109, 115] : List UInt8)) = true := bne_iff_ne.mpr c3
      by_cases c4 : a0.toList = ([109, 100] : List UInt8)
      · rw [if_pos c4] at H
        have c4b0 : (a0.toList == ([109, 100] : List UInt8)) = true := beq_iff_eq.mpr c4
        have c4b1 : (a0.toList != ([109, 100] : List UInt8)) = false := bne_eq_false_iff_eq.mpr c4
        clear c4
        simp only [Option.some.injEq, Prod.mk.injEq] at H
        obtain ⟨rfl, rfl, rfl⟩ := H
        go_enter Tryz.func19, Tryz.ntmps19
        go_wp2
        go_ret3
        exact ⟨by first | rfl | (simp; done) | (simp [*]; done), by repeat (first | exact Drawn0.refl _ | apply Drawn0.step)⟩
      · rw [if_neg c4] at H
        have c4b0 : (a0.toList == ([109, 100] : List UInt8)) = false := beq_eq_false_iff_ne.mpr c4
        have c4b1 : (a0.toList != ([109, 100] : List UInt8)) = true := bne_iff_ne.mpr c4
        by_cases c5 : a0.toList = ([109, 97] : List UInt8)
        · rw [if_pos c5] at H
          have c5b0 : (a0.toList == ([109, 97] : List UInt8)) = true := beq_iff_eq.mpr c5
          have c5b1 : (a0.toList != ([109, 97] : List UInt8)) = false := bne_eq_false_iff_eq.mpr c5
          clear c5
          simp only [Option.some.injEq, Prod.mk.injEq] at H
          obtain ⟨rfl, rfl, rfl⟩ := H
          go_enter Tryz.func19, Tryz.ntmps19
          go_wp2
          go_ret3
          exact ⟨by first | rfl | (simp; done) | (simp [*]; done), by repeat (first | exact Drawn0.refl _ | apply Drawn0.step)⟩
        · rw [if_neg c5] at H
          have c5b0 : (a0.toList == ([109, 97] : List UInt8)) = false := beq_eq_false_iff_ne.mpr c5
          have c5b1 : (a0.toList != ([109, 97] : List UInt8)) = true := bne_iff_ne.mpr c5
          simp only [Option.some.injEq, Prod.mk.injEq] at H
          obtain ⟨rfl, rfl, rfl⟩ := H
          go_enter Tryz.func19, Tryz.ntmps19
          go_wp2
          go_ret3
          exact ⟨by first | rfl | (simp; done) | (simp [*]; done), by repeat (first | exact Drawn0.refl _ | apply Drawn0.step)⟩

/-! ### metain_begun -/
def metain_begun.f (a0 : ByteArray) : Option (Int × ByteArray × List Int × Int × Int × Int × Int × Int × Bool × Bool) := if a0.toList = ([109, 103] : List UInt8) then (some (12, (⟨#[]⟩ : ByteArray), ([] : List Int), 0, 0, 0, 0, 0, false, false)) else (if a0.toList = ([109, 115] : List UInt8) then (some (3, (⟨#[]⟩ : ByteArray), ([] : List Int), 0, 0, 0, 0, 0, false, false)) else (if a0.toList = ([109, 100] : List UInt8) then (some (8, (⟨#[]⟩ : ByteArray), ([] : List Int), 0, 0, 0, 0, 0, false, false)) else (some (10, (⟨#[]⟩ : ByteArray), ([] : List Int), 0, 0, 0, 1, 0, false, false))))
set_option maxHeartbeats 8000000 in
set_option maxRecDepth 100000 in
theorem metain_begun.calls (a0 : ByteArray) (r1 : Int) (r2 : ByteArray) (r3 : List Int) (r4 : Int) (r5 : Int) (r6 : Int) (r7 : Int) (r8 : Int) (r9 : Bool) (r10 : Bool) (w : World) (h : metain_begun.f a0 = some (r1, r2, r3, r4, r5, r6, r7, r8, r9, r10)) :
    Calls Tryz.prog 38 #[.string a0] w fun e w' => ∃ v2_ : Value, e = .returned (.agg #[.int .i64 r1, .string r2, v2_, .int .u32 r4, .int .i64 r5, .int .u64 r6, .int .u64 r7, .int .u64 r8, .bool r9, .bool r10]) ∧ Kd.R (Kd.int .u8) 5 w' w.heap.size (fun _ => True) v2_ r3 ∧ Below w.heap.size w w' := by
  have hu40 := Tryz.underlying40
  have HB := Aside0.mk (Below.refl w.heap.size w)
  have H : (if a0.toList = ([109, 103] : List UInt8) then (some (12, (⟨#[]⟩ : ByteArray), ([] : List Int), 0, 0, 0, 0, 0, false, false)) else (if a0.toList = ([109, 115] : List UInt8) then (some (3, (⟨#[]⟩ : ByteArray), ([] : List Int), 0, 0, 0, 0, 0, false, false)) else (if a0.toList = ([109, 100] : List UInt8) then (some (8, (⟨#[]⟩ : ByteArray), ([] : List Int), 0, 0, 0, 0, 0, false, false)) else (some (10, (⟨#[]⟩ : ByteArray), ([] : List Int), 0, 0, 0, 1, 0, false, false))))) = some (r1, r2, r3, r4, r5, r6, r7, r8, r9, r10) := h
  clear h
  by_cases c2 : a0.toList = ([109, 103] : List UInt8)
  · rw [if_pos c2] at H
    have c2b0 : (a0.toList == ([109, 103] : List UInt8)) = true := beq_iff_eq.mpr c2
    have c2b1 : (a0.toList != ([109, 103] : List UInt8)) = false := bne_eq_false_iff_eq.mpr c2
    clear c2
    simp only [Option.some.injEq, Prod.mk.injEq] at H
    obtain ⟨rfl, rfl, rfl, rfl, rfl, rfl, rfl, rfl, rfl, rfl⟩ := H
    go_enter Tryz.func38, Tryz.ntmps38
    go_wp2_with (first | ((with_reducible refine gate_dst (N := 2) rfl ?_); refine box_event ?hg (N := 2) ?hd (cs := #[.int .i64 0, .string (⟨#[]⟩ : ByteArray), .slice none 0 0, .int .u32 0, .int .i64 0, .int .u64 0, .int .u64 0, .int .u64 0, .bool false, .bool false]) (t := 40) ?hr ?_; (case hd => rfl); (case hg => rfl); (case hr => first | (go_simp; done) | (go_simp; rfl)); intro gb121 hg w3 hbox hb; have n0_ := Aside0.mk (below_step (by repeat (first | (with_reducible first | exact HB.out | apply below_alloc | apply pw_below_drewN | apply below_drew1) | exact HB.out)) hb); have n1_ := Aside0.mk (hbox); have n2_ := Aside0.mk ((by rw [hg]; exact (below_size (by repeat (first | (with_reducible first | exact HB.out | apply below_alloc | apply pw_below_drewN | apply below_drew1) | exact HB.out))) : w.heap.size ≤ gb121)); have n3_ := Aside0.mk ((by rw [hg]; exact (below_size (by repeat (first | (with_reducible first | exact HB.out | apply below_alloc | apply pw_below_drewN | apply below_drew1) | exact HB.out))) : w.heap.size ≤ gb121)); clear HB; have HB := n0_; have BK121 := n1_; have GW121 := n2_; have GE121 := n3_; clear n0_ n1_ n2_ n3_; clear hb hbox hg; have hcz4_0 : w3.cell? ⟨gb121, 0, none⟩ = some (.int .i64 0) := (blk_cell BK121.out 0).trans rfl; have hcz4_1 : w3.cell? ⟨gb121, 1, none⟩ = some (.string (⟨#[]⟩ : ByteArray)) := (blk_cell BK121.out 1).trans rfl; have hcz4_2 : w3.cell? ⟨gb121, 2, none⟩ = some (.slice none 0 0) := (blk_cell BK121.out 2).trans rfl; have hcz4_3 : w3.cell? ⟨gb121, 3, none⟩ = some (.int .u32 0) := (blk_cell BK121.out 3).trans rfl; have hcz4_4 : w3.cell? ⟨gb121, 4, none⟩ = some (.int .i64 0) := (blk_cell BK121.out 4).trans rfl; have hcz4_5 : w3.cell? ⟨gb121, 5, none⟩ = some (.int .u64 0) := (blk_cell BK121.out 5).trans rfl; have hcz4_6 : w3.cell? ⟨gb121, 6, none⟩ = some (.int .u64 0) := (blk_cell BK121.out 6).trans rfl; have hcz4_7 : w3.cell? ⟨gb121, 7, none⟩ = some (.int .u64 0) := (blk_cell BK121.out 7).trans rfl; have hcz4_8 : w3.cell? ⟨gb121, 8, none⟩ = some (.bool false) := (blk_cell BK121.out 8).trans rfl; have hcz4_9 : w3.cell? ⟨gb121, 9, none⟩ = some (.bool false) := (blk_cell BK121.out 9).trans rfl; have hfz4_0 := blk_frozen BK121.out 0; have hfz4_1 := blk_frozen BK121.out 1; have hfz4_2 := blk_frozen BK121.out 2; have hfz4_3 := blk_frozen BK121.out 3; have hfz4_4 := blk_frozen BK121.out 4; have hfz4_5 := blk_frozen BK121.out 5; have hfz4_6 := blk_frozen BK121.out 6; have hfz4_7 := blk_frozen BK121.out 7; have hfz4_8 := blk_frozen BK121.out 8; have hfz4_9 := blk_frozen BK121.out 9))
    refine bodyPost_ret (results_cell_row rfl _ _ gb121 40 #[.int .i64 12, .string (⟨#[]⟩ : ByteArray), .slice none 0 0, .int .u32 0, .int .i64 0, .int .u64 0, .int .u64 0, .int .u64 0, .bool false, .bool false] (0, 0) _ rfl (by (with_reducible repeat (first | refine blk_drewN ?_ _ | refine blk_drew ?_ | refine blk_alloc ?_ _)); refine blk_put (cs := #[.int .i64 12, .string (⟨#[]⟩ : ByteArray), .slice none 0 0, .int .u32 0, .int .i64 0, .int .u64 0, .int .u64 0, .int .u64 0, .bool false, .bool false]) ?_ 9 _ rfl; (with_reducible repeat (first | refine blk_drewN ?_ _ | refine blk_drew ?_ | refine blk_alloc ?_ _)); refine blk_put (cs := #[.int .i64 12, .string (⟨#[]⟩ : ByteArray), .slice none 0 0, .int .u32 0, .int .i64 0, .int .u64 0, .int .u64 0, .int .u64 0, .bool false, .bool false]) ?_ 8 _ rfl; (with_reducible repeat (first | refine blk_drewN ?_ _ | refine blk_drew ?_ | refine blk_alloc ?_ _)); refine blk_put (cs := #[.int .i64 12, .string (⟨#[]⟩ : ByteArray), .slice none 0 0, .int .u32 0, .int .i64 0, .int .u64 0, .int .u64 0, .int .u64 0, .bool false, .bool false]) ?_ 7 _ rfl; (with_reducible repeat (first | refine blk_drewN ?_ _ | refine blk_drew ?_ | refine blk_alloc ?_ _)); refine blk_put (cs := #[.int .i64 12, .string (⟨#[]⟩ : ByteArray), .slice none 0 0, .int .u32 0, .int .i64 0, .int .u64 0, .int .u64 0, .int .u64 0, .bool false, .bool false]) ?_ 6 _ rfl; (with_reducible repeat (first | refine blk_drewN ?_ _ | refine blk_drew ?_ | refine blk_alloc ?_ _)); refine blk_put (cs := #[.int .i64 12, .string (⟨#[]⟩ : ByteArray), .slice none 0 0, .int .u32 0, .int .i64 0, .int .u64 0, .int .u64 0, .int .u64 0, .bool false, .bool false]) ?_ 5 _ rfl; (with_reducible repeat (first | refine blk_drewN ?_ _ | refine blk_drew ?_ | refine blk_alloc ?_ _)); refine blk_put (cs := #[.int .i64 12, .string (⟨#[]⟩ : ByteArray), .slice none 0 0, .int .u32 0, .int .i64 0, .int .u64 0, .int .u64 0, .int .u64 0, .bool false, .bool false]) ?_ 4 _ rfl; (with_reducible repeat (first | refine blk_drewN ?_ _ | refine blk_drew ?_ | refine blk_alloc ?_ _)); refine blk_put (cs := #[.int .i64 12, .string (⟨#[]⟩ : ByteArray), .slice none 0 0, .int .u32 0, .int .i64 0, .int .u64 0, .int .u64 0, .int .u64 0, .bool false, .bool false]) ?_ 3 _ rfl; (with_reducible repeat (first | refine blk_drewN ?_ _ | refine blk_drew ?_ | refine blk_alloc ?_ _)); refine blk_put (cs := #[.int .i64 12, .string (⟨#[]⟩ : ByteArray), .slice none 0 0, .int .u32 0, .int .i64 0, .int .u64 0, .int .u64 0, .int .u64 0, .bool false, .bool false]) ?_ 2 _ rfl; (with_reducible repeat (first | refine blk_drewN ?_ _ | refine blk_drew ?_ | refine blk_alloc ?_ _)); refine blk_put (cs := #[.int .i64 12, .string (⟨#[]⟩ : ByteArray), .slice none 0 0, .int .u32 0, .int .i64 0, .int .u64 0, .int .u64 0, .int .u64 0, .bool false, .bool false]) ?_ 1 _ rfl; (with_reducible repeat (first | refine blk_drewN ?_ _ | refine blk_drew ?_ | refine blk_alloc ?_ _)); refine blk_put (cs := #[.int .i64 0, .string (⟨#[]⟩ : ByteArray), .slice none 0 0, .int .u32 0, .int .i64 0, .int .u64 0, .int .u64 0, .int .u64 0, .bool false, .bool false]) ?_ 0 _ rfl; (with_reducible repeat (first | refine blk_drewN ?_ _ | refine blk_drew ?_ | refine blk_alloc ?_ _)); exact BK121.out) Tryz.underlying40 rfl (by kernel_rfl)) rfl ?_
    exact ⟨_, by first | rfl | (simp <;> rfl) | (simp [*] <;> rfl), by first | exact Kd.R_nil _ _ _ _ _ | exact Kd.N_nil _ _ _ _ _ | exact Kd.V_nil _ _ _ _ _ | exact Kd.Q_nil _ _ _ _ _ | exact Kd.S_nil _ _ _ _ _, by repeat (first | (with_reducible first | exact HB.out | apply below_alloc | apply pw_below_drewN | apply below_drew1 | refine below_set ?_ GE121.out) | exact HB.out)⟩
  · rw [if_neg c2] at H
    have c2b0 : (a0.toList == ([109, 103] : List UInt8)) = false := beq_eq_false_iff_ne.mpr c2
    have c2b1 : (a0.toList != ([109, 103] : List UInt8)) = true := bne_iff_ne.mpr c2
    by_cases c5 : a0.toList = ([109, 115] : List UInt8)
    · rw [if_pos c5] at H
      have c5b0 : (a0.toList == ([109, 115] : List UInt8)) = true := beq_iff_eq.mpr c5
      have c5b1 : (a0.toList != ([109, 115] : List UInt8)) = false := bne_eq_false_iff_eq.mpr c5
      clear c5
      simp only [Option.some.injEq, Prod.mk.injEq] at H
      obtain ⟨rfl, rfl, rfl, rfl, rfl, rfl, rfl, rfl, rfl, rfl⟩ := H
      go_enter Tryz.func38, Tryz.ntmps38
      go_wp2_with (first | ((with_reducible refine gate_dst (N := 2) rfl ?_); refine box_event ?hg (N := 2) ?hd (cs := #[.int .i64 0, .string (⟨#[]⟩ : ByteArray), .slice none 0 0, .int .u32 0, .int .i64 0, .int .u64 0, .int .u64 0, .int .u64 0, .bool false, .bool false]) (t := 40) ?hr ?_; (case hd => rfl); (case hg => rfl); (case hr => first | (go_simp; done) | (go_simp; rfl)); intro gb121 hg w6 hbox hb; have n0_ := Aside0.mk (below_step (by repeat (first | (with_reducible first | exact HB.out | apply below_alloc | apply pw_below_drewN | apply below_drew1) | exact HB.out)) hb); have n1_ := Aside0.mk (hbox); have n2_ := Aside0.mk ((by rw [hg]; exact (below_size (by repeat (first | (with_reducible first | exact HB.out | apply below_alloc | apply pw_below_drewN | apply below_drew1) | exact HB.out))) : w.heap.size ≤ gb121)); have n3_ := Aside0.mk ((by rw [hg]; exact (below_size (by repeat (first | (with_reducible first | exact HB.out | apply below_alloc | apply pw_below_drewN | apply below_drew1) | exact HB.out))) : w.heap.size ≤ gb121)); clear HB; have HB := n0_; have BK121 := n1_; have GW121 := n2_; have GE121 := n3_; clear n0_ n1_ n2_ n3_; clear hb hbox hg; have hcz7_0 : w6.cell? ⟨gb121, 0, none⟩ = some (.int .i64 0) := (blk_cell BK121.out 0).trans rfl; have hcz7_1 : w6.cell? ⟨gb121, 1, none⟩ = some (.string (⟨#[]⟩ : ByteArray)) := (blk_cell BK121.out 1).trans rfl; have hcz7_2 : w6.cell? ⟨gb121, 2, none⟩ = some (.slice none 0 0) := (blk_cell BK121.out 2).trans rfl; have hcz7_3 : w6.cell? ⟨gb121, 3, none⟩ = some (.int .u32 0) := (blk_cell BK121.out 3).trans rfl; have hcz7_4 : w6.cell? ⟨gb121, 4, none⟩ = some (.int .i64 0) := (blk_cell BK121.out 4).trans rfl; have hcz7_5 : w6.cell? ⟨gb121, 5, none⟩ = some (.int .u64 0) := (blk_cell BK121.out 5).trans rfl; have hcz7_6 : w6.cell? ⟨gb121, 6, none⟩ = some (.int .u64 0) := (blk_cell BK121.out 6).trans rfl; have hcz7_7 : w6.cell? ⟨gb121, 7, none⟩ = some (.int .u64 0) := (blk_cell BK121.out 7).trans rfl; have hcz7_8 : w6.cell? ⟨gb121, 8, none⟩ = some (.bool false) := (blk_cell BK121.out 8).trans rfl; have hcz7_9 : w6.cell? ⟨gb121, 9, none⟩ = some (.bool false) := (blk_cell BK121.out 9).trans rfl; have hfz7_0 := blk_frozen BK121.out 0; have hfz7_1 := blk_frozen BK121.out 1; have hfz7_2 := blk_frozen BK121.out 2; have hfz7_3 := blk_frozen BK121.out 3; have hfz7_4 := blk_frozen BK121.out 4; have hfz7_5 := blk_frozen BK121.out 5; have hfz7_6 := blk_frozen BK121.out 6; have hfz7_7 := blk_frozen BK121.out 7; have hfz7_8 := blk_frozen BK121.out 8; have hfz7_9 := blk_frozen BK121.out 9))
      refine bodyPost_ret (results_cell_row rfl _ _ gb121 40 #[.int .i64 3, .string (⟨#[]⟩ : ByteArray), .slice none 0 0, .int .u32 0, .int .i64 0, .int .u64 0, .int .u64 0, .int .u64 0, .bool false, .bool false] (0, 0) _ rfl (by (with_reducible repeat (first | refine blk_drewN ?_ _ | refine blk_drew ?_ | refine blk_alloc ?_ _)); refine blk_put (cs := #[.int .i64 3, .string (⟨#[]⟩ : ByteArray), .slice none 0 0, .int .u32 0, .int .i64 0, .int .u64 0, .int .u64 0, .int .u64 0, .bool false, .bool false]) ?_ 9 _ rfl; (with_reducible repeat (first | refine blk_drewN ?_ _ | refine blk_drew ?_ | refine blk_alloc ?_ _)); refine blk_put (cs := #[.int .i64 3, .string (⟨#[]⟩ : ByteArray), .slice none 0 0, .int .u32 0, .int .i64 0, .int .u64 0, .int .u64 0, .int .u64 0, .bool false, .bool false]) ?_ 8 _ rfl; (with_reducible repeat (first | refine blk_drewN ?_ _ | refine blk_drew ?_ | refine blk_alloc ?_ _)); refine blk_put (cs := #[.int .i64 3, .string (⟨#[]⟩ : ByteArray), .slice none 0 0, .int .u32 0, .int .i64 0, .int .u64 0, .int .u64 0, .int .u64 0, .bool false, .bool false]) ?_ 7 _ rfl; (with_reducible repeat (first | refine blk_drewN ?_ _ | refine blk_drew ?_ | refine blk_alloc ?_ _)); refine blk_put (cs := #[.int .i64 3, .string (⟨#[]⟩ : ByteArray), .slice none 0 0, .int .u32 0, .int .i64 0, .int .u64 0, .int .u64 0, .int .u64 0, .bool false, .bool false]) ?_ 6 _ rfl; (with_reducible repeat (first | refine blk_drewN ?_ _ | refine blk_drew ?_ | refine blk_alloc ?_ _)); refine blk_put (cs := #[.int .i64 3, .string (⟨#[]⟩ : ByteArray), .slice none 0 0, .int .u32 0, .int .i64 0, .int .u64 0, .int .u64 0, .int .u64 0, .bool false, .bool false]) ?_ 5 _ rfl; (with_reducible repeat (first | refine blk_drewN ?_ _ | refine blk_drew ?_ | refine blk_alloc ?_ _)); refine blk_put (cs := #[.int .i64 3, .string (⟨#[]⟩ : ByteArray), .slice none 0 0, .int .u32 0, .int .i64 0, .int .u64 0, .int .u64 0, .int .u64 0, .bool false, .bool false]) ?_ 4 _ rfl; (with_reducible repeat (first | refine blk_drewN ?_ _ | refine blk_drew ?_ | refine blk_alloc ?_ _)); refine blk_put (cs := #[.int .i64 3, .string (⟨#[]⟩ : ByteArray), .slice none 0 0, .int .u32 0, .int .i64 0, .int .u64 0, .int .u64 0, .int .u64 0, .bool false, .bool false]) ?_ 3 _ rfl; (with_reducible repeat (first | refine blk_drewN ?_ _ | refine blk_drew ?_ | refine blk_alloc ?_ _)); refine blk_put (cs := #[.int .i64 3, .string (⟨#[]⟩ : ByteArray), .slice none 0 0, .int .u32 0, .int .i64 0, .int .u64 0, .int .u64 0, .int .u64 0, .bool false, .bool false]) ?_ 2 _ rfl; (with_reducible repeat (first | refine blk_drewN ?_ _ | refine blk_drew ?_ | refine blk_alloc ?_ _)); refine blk_put (cs := #[.int .i64 3, .string (⟨#[]⟩ : ByteArray), .slice none 0 0, .int .u32 0, .int .i64 0, .int .u64 0, .int .u64 0, .int .u64 0, .bool false, .bool false]) ?_ 1 _ rfl; (with_reducible repeat (first | refine blk_drewN ?_ _ | refine blk_drew ?_ | refine blk_alloc ?_ _)); refine blk_put (cs := #[.int .i64 0, .string (⟨#[]⟩ : ByteArray), .slice none 0 0, .int .u32 0, .int .i64 0, .int .u64 0, .int .u64 0, .int .u64 0, .bool false, .bool false]) ?_ 0 _ rfl; (with_reducible repeat (first | refine blk_drewN ?_ _ | refine blk_drew ?_ | refine blk_alloc ?_ _)); exact BK121.out) Tryz.underlying40 rfl (by kernel_rfl)) rfl ?_
      exact ⟨_, by first | rfl | (simp <;> rfl) | (simp [*] <;> rfl), by first | exact Kd.R_nil _ _ _ _ _ | exact Kd.N_nil _ _ _ _ _ | exact Kd.V_nil _ _ _ _ _ | exact Kd.Q_nil _ _ _ _ _ | exact Kd.S_nil _ _ _ _ _, by repeat (first | (with_reducible first | exact HB.out | apply below_alloc | apply pw_below_drewN | apply below_drew1 | refine below_set ?_ GE121.out) | exact HB.out)⟩
    · rw [if_neg c5] at H
      have c5b0 : (a0.toList == ([109, 115] : List UInt8)) = false := beq_eq_false_iff_ne.mpr c5
      have c5b1 : (a0.toList != ([109, 115] : List UInt8)) = true := bne_iff_ne.mpr c5
      by_cases c8 : a0.toList = ([109, 100] : List UInt8)
      · rw [if_pos c8] at H
        have c8b0 : (a0.toList == ([109, 100] : List UInt8)) = true := beq_iff_eq.mpr c8
        have c8b1 : (a0.toList != ([109, 100] : List UInt8)) = false := bne_eq_false_iff_eq.mpr c8
        clear c8
        simp only [Option.some.injEq, Prod.mk.injEq] at H
        obtain ⟨rfl, rfl, rfl, rfl, rfl, rfl, rfl, rfl, rfl, rfl⟩ := H
        go_enter Tryz.func38, Tryz.ntmps38
        go_wp2_with (first | ((with_reducible refine gate_dst (N := 2) rfl ?_); refine box_event ?hg (N := 2) ?hd (cs := #[.int .i64 0, .string (⟨#[]⟩ : ByteArray), .slice none 0 0, .int .u32 0, .int .i64 0, .int .u64 0, .int .u64 0, .int .u64 0, .bool false, .bool false]) (t := 40) ?hr ?_; (case hd => rfl); (case hg => rfl); (case hr => first | (go_simp; done) | (go_simp; rfl)); intro gb121 hg w9 hbox hb; have n0_ := Aside0.mk (below_step (by repeat (first | (with_reducible first | exact HB.out | apply below_alloc | apply pw_below_drewN | apply below_drew1) | exact HB.out)) hb); have n1_ := Aside0.mk (hbox); have n2_ := Aside0.mk ((by rw [hg]; exact (below_size (by repeat (first | (with_reducible first | exact HB.out | apply below_alloc | apply pw_below_drewN | apply below_drew1) | exact HB.out))) : w.heap.size ≤ gb121)); have n3_ := Aside0.mk ((by rw [hg]; exact (below_size (by repeat (first | (with_reducible first | exact HB.out | apply below_alloc | apply pw_below_drewN | apply below_drew1) | exact HB.out))) : w.heap.size ≤ gb121)); clear HB; have HB := n0_; have BK121 := n1_; have GW121 := n2_; have GE121 := n3_; clear n0_ n1_ n2_ n3_; clear hb hbox hg; have hcz10_0 : w9.cell? ⟨gb121, 0, none⟩ = some (.int .i64 0) := (blk_cell BK121.out 0).trans rfl; have hcz10_1 : w9.cell? ⟨gb121, 1, none⟩ = some (.string (⟨#[]⟩ : ByteArray)) := (blk_cell BK121.out 1).trans rfl; have hcz10_2 : w9.cell? ⟨gb121, 2, none⟩ = some (.slice none 0 0) := (blk_cell BK121.out 2).trans rfl; have hcz10_3 : w9.cell? ⟨gb121, 3, none⟩ = some (.int .u32 0) := (blk_cell BK121.out 3).trans rfl; have hcz10_4 : w9.cell? ⟨gb121, 4, none⟩ = some (.int .i64 0) := (blk_cell BK121.out 4).trans rfl; have hcz10_5 : w9.cell? ⟨gb121, 5, none⟩ = some (.int .u64 0) := (blk_cell BK121.out 5).trans rfl; have hcz10_6 : w9.cell? ⟨gb121, 6, none⟩ = some (.int .u64 0) := (blk_cell BK121.out 6).trans rfl; have hcz10_7 : w9.cell? ⟨gb121, 7, none⟩ = some (.int .u64 0) := (blk_cell BK121.out 7).trans rfl; have hcz10_8 : w9.cell? ⟨gb121, 8, none⟩ = some (.bool false) := (blk_cell BK121.out 8).trans rfl; have hcz10_9 : w9.cell? ⟨gb121, 9, none⟩ = some (.bool false) := (blk_cell BK121.out 9).trans rfl; have hfz10_0 := blk_frozen BK121.out 0; have hfz10_1 := blk_frozen BK121.out 1; have hfz10_2 := blk_frozen BK121.out 2; have hfz10_3 := blk_frozen BK121.out 3; have hfz10_4 := blk_frozen BK121.out 4; have hfz10_5 := blk_frozen BK121.out 5; have hfz10_6 := blk_frozen BK121.out 6; have hfz10_7 := blk_frozen BK121.out 7; have hfz10_8 := blk_frozen BK121.out 8; have hfz10_9 := blk_frozen BK121.out 9))
        refine bodyPost_ret (results_cell_row rfl _ _ gb121 40 #[.int .i64 8, .string (⟨#[]⟩ : ByteArray), .slice none 0 0, .int .u32 0, .int .i64 0, .int .u64 0, .int .u64 0, .int .u64 0, .bool false, .bool false] (0, 0) _ rfl (by (with_reducible repeat (first | refine blk_drewN ?_ _ | refine blk_drew ?_ | refine blk_alloc ?_ _)); refine blk_put (cs := #[.int .i64 8, .string (⟨#[]⟩ : ByteArray), .slice none 0 0, .int .u32 0, .int .i64 0, .int .u64 0, .int .u64 0, .int .u64 0, .bool false, .bool false]) ?_ 9 _ rfl; (with_reducible repeat (first | refine blk_drewN ?_ _ | refine blk_drew ?_ | refine blk_alloc ?_ _)); refine blk_put (cs := #[.int .i64 8, .string (⟨#[]⟩ : ByteArray), .slice none 0 0, .int .u32 0, .int .i64 0, .int .u64 0, .int .u64 0, .int .u64 0, .bool false, .bool false]) ?_ 8 _ rfl; (with_reducible repeat (first | refine blk_drewN ?_ _ | refine blk_drew ?_ | refine blk_alloc ?_ _)); refine blk_put (cs := #[.int .i64 8, .string (⟨#[]⟩ : ByteArray), .slice none 0 0, .int .u32 0, .int .i64 0, .int .u64 0, .int .u64 0, .int .u64 0, .bool false, .bool false]) ?_ 7 _ rfl; (with_reducible repeat (first | refine blk_drewN ?_ _ | refine blk_drew ?_ | refine blk_alloc ?_ _)); refine blk_put (cs := #[.int .i64 8, .string (⟨#[]⟩ : ByteArray), .slice none 0 0, .int .u32 0, .int .i64 0, .int .u64 0, .int .u64 0, .int .u64 0, .bool false, .bool false]) ?_ 6 _ rfl; (with_reducible repeat (first | refine blk_drewN ?_ _ | refine blk_drew ?_ | refine blk_alloc ?_ _)); refine blk_put (cs := #[.int .i64 8, .string (⟨#[]⟩ : ByteArray), .slice none 0 0, .int .u32 0, .int .i64 0, .int .u64 0, .int .u64 0, .int .u64 0, .bool false, .bool false]) ?_ 5 _ rfl; (with_reducible repeat (first | refine blk_drewN ?_ _ | refine blk_drew ?_ | refine blk_alloc ?_ _)); refine blk_put (cs := #[.int .i64 8, .string (⟨#[]⟩ : ByteArray), .slice none 0 0, .int .u32 0, .int .i64 0, .int .u64 0, .int .u64 0, .int .u64 0, .bool false, .bool false]) ?_ 4 _ rfl; (with_reducible repeat (first | refine blk_drewN ?_ _ | refine blk_drew ?_ | refine blk_alloc ?_ _)); refine blk_put (cs := #[.int .i64 8, .string (⟨#[]⟩ : ByteArray), .slice none 0 0, .int .u32 0, .int .i64 0, .int .u64 0, .int .u64 0, .int .u64 0, .bool false, .bool false]) ?_ 3 _ rfl; (with_reducible repeat (first | refine blk_drewN ?_ _ | refine blk_drew ?_ | refine blk_alloc ?_ _)); refine blk_put (cs := #[.int .i64 8, .string (⟨#[]⟩ : ByteArray), .slice none 0 0, .int .u32 0, .int .i64 0, .int .u64 0, .int .u64 0, .int .u64 0, .bool false, .bool false]) ?_ 2 _ rfl; (with_reducible repeat (first | refine blk_drewN ?_ _ | refine blk_drew ?_ | refine blk_alloc ?_ _)); refine blk_put (cs := #[.int .i64 8, .string (⟨#[]⟩ : ByteArray), .slice none 0 0, .int .u32 0, .int .i64 0, .int .u64 0, .int .u64 0, .int .u64 0, .bool false, .bool false]) ?_ 1 _ rfl; (with_reducible repeat (first | refine blk_drewN ?_ _ | refine blk_drew ?_ | refine blk_alloc ?_ _)); refine blk_put (cs := #[.int .i64 0, .string (⟨#[]⟩ : ByteArray), .slice none 0 0, .int .u32 0, .int .i64 0, .int .u64 0, .int .u64 0, .int .u64 0, .bool false, .bool false]) ?_ 0 _ rfl; (with_reducible repeat (first | refine blk_drewN ?_ _ | refine blk_drew ?_ | refine blk_alloc ?_ _)); exact BK121.out) Tryz.underlying40 rfl (by kernel_rfl)) rfl ?_
        exact ⟨_, by first | rfl | (simp <;> rfl) | (simp [*] <;> rfl), by first | exact Kd.R_nil _ _ _ _ _ | exact Kd.N_nil _ _ _ _ _ | exact Kd.V_nil _ _ _ _ _ | exact Kd.Q_nil _ _ _ _ _ | exact Kd.S_nil _ _ _ _ _, by repeat (first | (with_reducible first | exact HB.out | apply below_alloc | apply pw_below_drewN | apply below_drew1 | refine below_set ?_ GE121.out) | exact HB.out)⟩
      · rw [if_neg c8] at H
        have c8b0 : (a0.toList == ([109, 100] : List UInt8)) = false := beq_eq_false_iff_ne.mpr c8
        have c8b1 : (a0.toList != ([109, 100] : List UInt8)) = true := bne_iff_ne.mpr c8
        simp only [Option.some.injEq, Prod.mk.injEq] at H
        obtain ⟨rfl, rfl, rfl, rfl, rfl, rfl, rfl, rfl, rfl, rfl⟩ := H
        go_enter Tryz.func38, Tryz.ntmps38
        go_wp2_with (first | ((with_reducible refine gate_dst (N := 2) rfl ?_); refine box_event ?hg (N := 2) ?hd (cs := #[.int .i64 0, .string (⟨#[]⟩ : ByteArray), .slice none 0 0, .int .u32 0, .int .i64 0, .int .u64 0, .int .u64 0, .int .u64 0, .bool false, .bool false]) (t := 40) ?hr ?_; (case hd => rfl); (case hg => rfl); (case hr => first | (go_simp; done) | (go_simp; rfl)); intro gb121 hg w11 hbox hb; have n0_ := Aside0.mk (below_step (by repeat (first | (with_reducible first | exact HB.out | apply below_alloc | apply pw_below_drewN | apply below_drew1) | exact HB.out)) hb); have n1_ := Aside0.mk (hbox); have n2_ := Aside0.mk ((by rw [hg]; exact (below_size (by repeat (first | (with_reducible first | exact HB.out | apply below_alloc | apply pw_below_drewN | apply below_drew1) | exact HB.out))) : w.heap.size ≤ gb121)); have n3_ := Aside0.mk ((by rw [hg]; exact (below_size (by repeat (first | (with_reducible first | exact HB.out | apply below_alloc | apply pw_below_drewN | apply below_drew1) | exact HB.out))) : w.heap.size ≤ gb121)); clear HB; have HB := n0_; have BK121 := n1_; have GW121 := n2_; have GE121 := n3_; clear n0_ n1_ n2_ n3_; clear hb hbox hg; have hcz12_0 : w11.cell? ⟨gb121, 0, none⟩ = some (.int .i64 0) := (blk_cell BK121.out 0).trans rfl; have hcz12_1 : w11.cell? ⟨gb121, 1, none⟩ = some (.string (⟨#[]⟩ : ByteArray)) := (blk_cell BK121.out 1).trans rfl; have hcz12_2 : w11.cell? ⟨gb121, 2, none⟩ = some (.slice none 0 0) := (blk_cell BK121.out 2).trans rfl; have hcz12_3 : w11.cell? ⟨gb121, 3, none⟩ = some (.int .u32 0) := (blk_cell BK121.out 3).trans rfl; have hcz12_4 : w11.cell? ⟨gb121, 4, none⟩ = some (.int .i64 0) := (blk_cell BK121.out 4).trans rfl; have hcz12_5 : w11.cell? ⟨gb121, 5, none⟩ = some (.int .u64 0) := (blk_cell BK121.out 5).trans rfl; have hcz12_6 : w11.cell? ⟨gb121, 6, none⟩ = some (.int .u64 0) := (blk_cell BK121.out 6).trans rfl; have hcz12_7 : w11.cell? ⟨gb121, 7, none⟩ = some (.int .u64 0) := (blk_cell BK121.out 7).trans rfl; have hcz12_8 : w11.cell? ⟨gb121, 8, none⟩ = some (.bool false) := (blk_cell BK121.out 8).trans rfl; have hcz12_9 : w11.cell? ⟨gb121, 9, none⟩ = some (.bool false) := (blk_cell BK121.out 9).trans rfl; have hfz12_0 := blk_frozen BK121.out 0; have hfz12_1 := blk_frozen BK121.out 1; have hfz12_2 := blk_frozen BK121.out 2; have hfz12_3 := blk_frozen BK121.out 3; have hfz12_4 := blk_frozen BK121.out 4; have hfz12_5 := blk_frozen BK121.out 5; have hfz12_6 := blk_frozen BK121.out 6; have hfz12_7 := blk_frozen BK121.out 7; have hfz12_8 := blk_frozen BK121.out 8; have hfz12_9 := blk_frozen BK121.out 9))
        refine bodyPost_ret (results_cell_row rfl _ _ gb121 40 #[.int .i64 10, .string (⟨#[]⟩ : ByteArray), .slice none 0 0, .int .u32 0, .int .i64 0, .int .u64 0, .int .u64 1, .int .u64 0, .bool false, .bool false] (0, 0) _ rfl (by (with_reducible repeat (first | refine blk_drewN ?_ _ | refine blk_drew ?_ | refine blk_alloc ?_ _)); refine blk_put (cs := #[.int .i64 10, .string (⟨#[]⟩ : ByteArray), .slice none 0 0, .int .u32 0, .int .i64 0, .int .u64 0, .int .u64 1, .int .u64 0, .bool false, .bool false]) ?_ 9 _ rfl; (with_reducible repeat (first | refine blk_drewN ?_ _ | refine blk_drew ?_ | refine blk_alloc ?_ _)); refine blk_put (cs := #[.int .i64 10, .string (⟨#[]⟩ : ByteArray), .slice none 0 0, .int .u32 0, .int .i64 0, .int .u64 0, .int .u64 1, .int .u64 0, .bool false, .bool false]) ?_ 8 _ rfl; (with_reducible repeat (first | refine blk_drewN ?_ _ | refine blk_drew ?_ | refine blk_alloc ?_ _)); refine blk_put (cs := #[.int .i64 10, .string (⟨#[]⟩ : ByteArray), .slice none 0 0, .int .u32 0, .int .i64 0, .int .u64 0, .int .u64 1, .int .u64 0, .bool false, .bool false]) ?_ 7 _ rfl; (with_reducible repeat (first | refine blk_drewN ?_ _ | refine blk_drew ?_ | refine blk_alloc ?_ _)); refine blk_put (cs := #[.int .i64 10, .string (⟨#[]⟩ : ByteArray), .slice none 0 0, .int .u32 0, .int .i64 0, .int .u64 0, .int .u64 0, .int .u64 0, .bool false, .bool false]) ?_ 6 _ rfl; (with_reducible repeat (first | refine blk_drewN ?_ _ | refine blk_drew ?_ | refine blk_alloc ?_ _)); refine blk_put (cs := #[.int .i64 10, .string (⟨#[]⟩ : ByteArray), .slice none 0 0, .int .u32 0, .int .i64 0, .int .u64 0, .int .u64 0, .int .u64 0, .bool false, .bool false]) ?_ 5 _ rfl; (with_reducible repeat (first | refine blk_drewN ?_ _ | refine blk_drew ?_ | refine blk_alloc ?_ _)); refine blk_put (cs := #[.int .i64 10, .string (⟨#[]⟩ : ByteArray), .slice none 0 0, .int .u32 0, .int .i64 0, .int .u64 0, .int .u64 0, .int .u64 0, .bool false, .bool false]) ?_ 4 _ rfl; (with_reducible repeat (first | refine blk_drewN ?_ _ | refine blk_drew ?_ | refine blk_alloc ?_ _)); refine blk_put (cs := #[.int .i64 10, .string (⟨#[]⟩ : ByteArray), .slice none 0 0, .int .u32 0, .int .i64 0, .int .u64 0, .int .u64 0, .int .u64 0, .bool false, .bool false]) ?_ 3 _ rfl; (with_reducible repeat (first | refine blk_drewN ?_ _ | refine blk_drew ?_ | refine blk_alloc ?_ _)); refine blk_put (cs := #[.int .i64 10, .string (⟨#[]⟩ : ByteArray), .slice none 0 0, .int .u32 0, .int .i64 0, .int .u64 0, .int .u64 0, .int .u64 0, .bool false, .bool false]) ?_ 2 _ rfl; (with_reducible repeat (first | refine blk_drewN ?_ _ | refine blk_drew ?_ | refine blk_alloc ?_ _)); refine blk_put (cs := #[.int .i64 10, .string (⟨#[]⟩ : ByteArray), .slice none 0 0, .int .u32 0, .int .i64 0, .int .u64 0, .int .u64 0, .int .u64 0, .bool false, .bool false]) ?_ 1 _ rfl; (with_reducible repeat (first | refine blk_drewN ?_ _ | refine blk_drew ?_ | refine blk_alloc ?_ _)); refine blk_put (cs := #[.int .i64 0, .string (⟨#[]⟩ : ByteArray), .slice none 0 0, .int .u32 0, .int .i64 0, .int .u64 0, .int .u64 0, .int .u64 0, .bool false, .bool false]) ?_ 0 _ rfl; (with_reducible repeat (first | refine blk_drewN ?_ _ | refine blk_drew ?_ | refine blk_alloc ?_ _)); exact BK121.out) Tryz.underlying40 rfl (by kernel_rfl)) rfl ?_
        exact ⟨_, by first | rfl | (simp <;> rfl) | (simp [*] <;> rfl), by first | exact Kd.R_nil _ _ _ _ _ | exact Kd.N_nil _ _ _ _ _ | exact Kd.V_nil _ _ _ _ _ | exact Kd.Q_nil _ _ _ _ _ | exact Kd.S_nil _ _ _ _ _, by repeat (first | (with_reducible first | exact HB.out | apply below_alloc | apply pw_below_drewN | apply below_drew1 | refine below_set ?_ GE121.out) | exact HB.out)⟩

-- NOT PRINTED: function 101 (bytealg_IndexByteString)

-- NOT PRINTED: function 79 (stringslite_IndexByte)

/-! ### butteryref18_has -/
def butteryref18_has.l0 : Nat → ByteArray → Int → Int → Option (Bool)
  | 0, _, _, _ => none
  | k + 1, x0, x1, x5 => if x5 < (x0.size : Int) then (if 0 ≤ x5 then (if (bt x0 x5) = x1 then (some true) else (butteryref18_has.l0 k x0 x1 (wrap64 (x5 + 1)))) else (none)) else (some false)
def butteryref18_has.f (k : Nat) (a0 : ByteArray) (a1 : Int) : Option (Bool) := butteryref18_has.l0 k a0 a1 0
theorem butteryref18_has.mono_l : ∀ k, (∀ y0 y1 y2, LeO (butteryref18_has.l0 k y0 y1 y2) (butteryref18_has.l0 (k + 1) y0 y1 y2))
  | 0 => fun _ _ _ r h => by simp [butteryref18_has.l0] at h
  | k + 1 => by
    have ih0 := butteryref18_has.mono_l k
    · intro y0 y1 y2
      unfold butteryref18_has.l0
      repeat' first
      | (with_reducible exact ih0 _ _ _)
      | (with_reducible exact LeO.refl _)
      | (with_reducible exact LeO.none _)
      | (with_reducible refine LeO.ite ?_ ?_)
      | (with_reducible refine LeO.bind ?_ (fun _ => ?_))
      | exact ih0 _ _ _
      | exact LeO.none _
      | refine LeO.ite ?_ ?_
      | refine LeO.bind ?_ (fun _ => ?_)
theorem butteryref18_has.mono : ∀ a0 a1 k, LeO (butteryref18_has.f k a0 a1) (butteryref18_has.f (k + 1) a0 a1) := by
  intro a0 a1 k
  have ih0 := butteryref18_has.mono_l k
  unfold butteryref18_has.f
  repeat' first
      | (with_reducible exact ih0 _ _ _)
      | (with_reducible exact LeO.refl _)
      | (with_reducible exact LeO.none _)
      | (with_reducible refine LeO.ite ?_ ?_)
      | (with_reducible refine LeO.bind ?_ (fun _ => ?_))
      | exact ih0 _ _ _
      | exact LeO.none _
      | refine LeO.ite ?_ ?_
      | refine LeO.bind ?_ (fun _ => ?_)
set_option maxHeartbeats 8000000 in
set_option maxRecDepth 100000 in
theorem butteryref18_has.calls (k : Nat) (a0 : ByteArray) (a1 : Int) (r : Bool) (w : World) (h : butteryref18_has.f k a0 a1 = some r) :
    Calls Tryz.prog 62 #[.string a0, .int .u8 a1] w fun e w' => e = .returned (.bool r) ∧ Drawn0 w w' := by
  have H : (butteryref18_has.l0 k a0 a1 0) = some r := h
  clear h
  have H' := Aside0.mk H
  clear H
  go_enter Tryz.func62, Tryz.ntmps62
  go_wp2
  go_loopg [5] k (fun kq v5 w' => ∃ (x5_1 : Int), v5 = .int .i64 x5_1 ∧ Aside0 (butteryref18_has.l0 kq a0 a1 x5_1 = some r) ∧ Aside0 (kq ≤ k) ∧ Drawn0 w w')
  case atStart => exact ⟨(0), (by first | rfl | (simp; done) | (simp [*]; done)), H', ⟨Nat.le_refl _⟩, by repeat (first | exact Drawn0.refl _ | apply Drawn0.step)⟩
  case round =>
    clear H'
    try clear p2
    obtain ⟨x5_1, rfl, HA, HK1, ⟨m1, rfl⟩⟩ := hrel
    cases gk with
    | zero => exact absurd HA.out (by simp [butteryref18_has.l0])
    | succ k1 =>
      have H := HA.out
      clear HA
      simp only [butteryref18_has.l0] at H
      by_cases c3 : x5_1 < (a0.size : Int)
      · rw [if_pos c3] at H
        have c3b0 : decide (x5_1 < (a0.size : Int)) = true := decide_eq_true c3
        clear c3
        by_cases c4 : 0 ≤ x5_1
        · rw [if_pos c4] at H
          have c4b0 : decide (0 ≤ x5_1) = true := decide_eq_true c4
          clear c4
          by_cases c6 : (bt a0 x5_1) = a1
          · rw [if_pos c6] at H
            have c6b0 : ((bt a0 x5_1) == a1) = true := beq_iff_eq.mpr c6
            have c6b1 : ((bt a0 x5_1) != a1) = false := bne_eq_false_iff_eq.mpr c6
            clear c6
            obtain rfl := Option.some.inj H
            have p5 : 0 ≤ (x5_1 : Int) := of_decide_eq_true (by first | (with_reducible assumption) | assumption)
            have q5 : x5_1 < (a0.size : Int) := of_decide_eq_true (by first | (with_reducible assumption) | assumption)
            have hx5 := bt_at a0 x5_1
            replace p5 := eq_true p5
            replace q5 := eq_true q5
            go_wp2
            go_ret
            exact ⟨by first | rfl | (simp; done) | (simp [*]; done), by repeat (first | exact Drawn0.refl _ | apply Drawn0.step)⟩
          · rw [if_neg c6] at H
            have c6b0 : ((bt a0 x5_1) == a1) = false := beq_eq_false_iff_ne.mpr c6
            have c6b1 : ((bt a0 x5_1) != a1) = true := bne_iff_ne.mpr c6
            have H' := Aside0.mk H
            clear H
            have p5 : 0 ≤ (x5_1 : Int) := of_decide_eq_true (by first | (with_reducible assumption) | assumption)
            have q5 : x5_1 < (a0.size : Int) := of_decide_eq_true (by first | (with_reducible assumption) | assumption)
            have hx5 := bt_at a0 x5_1
            replace p5 := eq_true p5
            replace q5 := eq_true q5
            go_wp2
            go_roundg k1
            case measure => have := HK1.out; omega
            case rel => exact ⟨(wrap64 (x5_1 + 1)), (by first | rfl | (simp; done) | (simp [*]; done)), H', ⟨by have := HK1.out; omega⟩, by repeat (first | exact Drawn0.refl _ | apply Drawn0.step)⟩
        · rw [if_neg c4] at H
          exact absurd H (by simp)
      · rw [if_neg c3] at H
        have c3b0 : decide (x5_1 < (a0.size : Int)) = false := decide_eq_false c3
        clear c3
        obtain rfl := Option.some.inj H
        go_wp2
        go_ret
        exact ⟨by first | rfl | (simp; done) | (simp [*]; done), by repeat (first | exact Drawn0.refl _ | apply Drawn0.step)⟩

/-! ### butteryref18_bare -/
def butteryref18_bare.f (a0 : ByteArray) : Option (ByteArray) := if a0.toList = ([109, 103] : List UInt8) then (some (⟨#[98, 99, 102, 107, 113, 115, 116, 118]⟩ : ByteArray)) else (if a0.toList = ([109, 115] : List UInt8) then (some (⟨#[98, 99, 107, 113]⟩ : ByteArray)) else (if a0.toList = ([109, 100] : List UInt8) then (some (⟨#[98, 107, 113, 73]⟩ : ByteArray)) else (if a0.toList = ([109, 97] : List UInt8) then (some (⟨#[98, 99, 107, 113, 116, 118]⟩ : ByteArray)) else (some (⟨#[]⟩ : ByteArray)))))
set_option maxHeartbeats 8000000 in
set_option maxRecDepth 100000 in
theorem butteryref18_bare.calls (a0 : ByteArray) (r : ByteArray) (w : World) (h : butteryref18_bare.f a0 = some r) :
    Calls Tryz.prog 63 #[.string a0] w fun e w' => e = .returned (.string r) ∧ Drawn0 w w' := by
  have H : (if a0.toList = ([109, 103] : List UInt8) then (some (⟨#[98, 99, 102, 107, 113, 115, 116, 118]⟩ : ByteArray)) else (if a0.toList = ([109, 115] : List UInt8) then (some (⟨#[98, 99, 107, 113]⟩ : ByteArray)) else (if a0.toList = ([109, 100] : List UInt8) then (some (⟨#[98, 107, 113, 73]⟩ : ByteArray)) else (if a0.toList = ([109, 97] : List UInt8) then (some (⟨#[98, 99, 107, 113, 116, 118]⟩ : ByteArray)) else (some (⟨#[]⟩ : ByteArray)))))) = some r := h
  clear h
  by_cases c2 : a0.toList = ([109, 103] : List UInt8)
  · rw [if_pos c2] at H
    have c2b0 : (a0.toList == ([109, 103] : List UInt8)) = true := beq_iff_eq.mpr c2
    have c2b1 : (a0.toList != ([109, 103] : List UInt8)) = false := bne_eq_false_iff_eq.mpr c2
    clear c2
    obtain rfl := Option.some.inj H
    go_enter Tryz.func63, Tryz.ntmps63
    go_wp2
    go_ret
    exact ⟨by first | rfl | (simp; done) | (simp [*]; done), by repeat (first | exact Drawn0.refl _ | apply Drawn0.step)⟩
  · rw [if_neg c2] at H
    have c2b0 : (a0.toList == ([109, 103] : List UInt8)) = false := beq_eq_false_iff_ne.mpr c2
    have c2b1 : (a0.toList != ([109, 103] : List UInt8)) = true := bne_iff_ne.mpr c2
    by_cases c3 : a0.toList = ([109, 115] : List UInt8)
    · rw [if_pos c3] at H
      have c3b0 : (a0.toList == ([109, 115] : List UInt8)) = true := beq_iff_eq.mpr c3
      have c3b1 : (a0.toList != ([109, 115] : List UInt8)) = false := bne_eq_false_iff_eq.mpr c3
      clear c3
      obtain rfl := Option.some.inj H
      go_enter Tryz.func63, Tryz.ntmps63
      go_wp2
      go_ret
      exact ⟨by first | rfl | (simp; done) | (simp [*]; done), by repeat (first | exact Drawn0.refl _ | apply Drawn0.step)⟩
    · rw [if_neg c3] at H
      have c3b0 : (a0.toList == ([109, 115] : List UInt8)) = false := beq_eq_false_iff_ne.mpr c3
      have c3b1 : (a0.toList != ([109, 115] : List UInt8)) = true := bne_iff_ne.mpr c3
      by_cases c4 : a0.toList = ([109, 100] : List UInt8)
      · rw [if_pos c4] at H
        have c4b0 : (a0.toList == ([109, 100] : List UInt8)) = true := beq_iff_eq.mpr c4
        have c4b1 : (a0.toList != ([109, 100] : List UInt8)) = false := bne_eq_false_iff_eq.mpr c4
        clear c4
        obtain rfl := Option.some.inj H
        go_enter Tryz.func63, Tryz.ntmps63
        go_wp2
        go_ret
        exact ⟨by first | rfl | (simp; done) | (simp [*]; done), by repeat (first | exact Drawn0.refl _ | apply Drawn0.step)⟩
      · rw [if_neg c4] at H
        have c4b0 : (a0.toList == ([109, 100] : List UInt8)) = false := beq_eq_false_iff_ne.mpr c4
        have c4b1 : (a0.toList != ([109, 100] : List UInt8)) = true := bne_iff_ne.mpr c4
        by_cases c5 : a0.toList = ([109, 97] : List UInt8)
        · rw [if_pos c5] at H
          have c5b0 : (a0.toList == ([109, 97] : List UInt8)) = true := beq_iff_eq.mpr c5
          have c5b1 : (a0.toList != ([109, 97] : List UInt8)) = false := bne_eq_false_iff_eq.mpr c5
          clear c5
          obtain rfl := Option.some.inj H
          go_enter Tryz.func63, Tryz.ntmps63
          go_wp2
          go_ret
          exact ⟨by first | rfl | (simp; done) | (simp [*]; done), by repeat (first | exact Drawn0.refl _ | apply Drawn0.step)⟩
        · rw [if_neg c5] at H
          have c5b0 : (a0.toList == ([109, 97] : List UInt8)) = false := beq_eq_false_iff_ne.mpr c5
          have c5b1 : (a0.toList != ([109, 97] : List UInt8)) = true := bne_iff_ne.mpr c5
          obtain rfl := Option.some.inj H
          go_enter Tryz.func63, Tryz.ntmps63
          go_wp2
          go_ret
          exact ⟨by first | rfl | (simp; done) | (simp [*]; done), by repeat (first | exact Drawn0.refl _ | apply Drawn0.step)⟩

/-! ### butteryref18_loaded -/
def butteryref18_loaded.f (a0 : ByteArray) : Option (ByteArray) := if a0.toList = ([109, 103] : List UInt8) then (some (⟨#[79, 84, 78]⟩ : ByteArray)) else (if a0.toList = ([109, 115] : List UInt8) then (some (⟨#[79, 70, 84, 67, 77]⟩ : ByteArray)) else (if a0.toList = ([109, 100] : List UInt8) then (some (⟨#[79, 67, 84]⟩ : ByteArray)) else (if a0.toList = ([109, 97] : List UInt8) then (some (⟨#[79, 67, 68, 74, 78, 77]⟩ : ByteArray)) else (some (⟨#[]⟩ : ByteArray)))))
set_option maxHeartbeats 8000000 in
set_option maxRecDepth 100000 in
theorem butteryref18_loaded.calls (a0 : ByteArray) (r : ByteArray) (w : World) (h : butteryref18_loaded.f a0 = some r) :
    Calls Tryz.prog 64 #[.string a0] w fun e w' => e = .returned (.string r) ∧ Drawn0 w w' := by
  have H : (if a0.toList = ([109, 103] : List UInt8) then (some (⟨#[79, 84, 78]⟩ : ByteArray)) else (if a0.toList = ([109, 115] : List UInt8) then (some (⟨#[79, 70, 84, 67, 77]⟩ : ByteArray)) else (if a0.toList = ([109, 100] : List UInt8) then (some (⟨#[79, 67, 84]⟩ : ByteArray)) else (if a0.toList = ([109, 97] : List UInt8) then (some (⟨#[79, 67, 68, 74, 78, 77]⟩ : ByteArray)) else (some (⟨#[]⟩ : ByteArray)))))) = some r := h
  clear h
  by_cases c2 : a0.toList = ([109, 103] : List UInt8)
  · rw [if_pos c2] at H
    have c2b0 : (a0.toList == ([109, 103] : List UInt8)) = true := beq_iff_eq.mpr c2
    have c2b1 : (a0.toList != ([109, 103] : List UInt8)) = false := bne_eq_false_iff_eq.mpr c2
    clear c2
    obtain rfl := Option.some.inj H
    go_enter Tryz.func64, Tryz.ntmps64
    go_wp2
    go_ret
    exact ⟨by first | rfl | (simp; done) | (simp [*]; done), by repeat (first | exact Drawn0.refl _ | apply Drawn0.step)⟩
  · rw [if_neg c2] at H
    have c2b0 : (a0.toList == ([109, 103] : List UInt8)) = false := beq_eq_false_iff_ne.mpr c2
    have c2b1 : (a0.toList != ([109, 103] : List UInt8)) = true := bne_iff_ne.mpr c2
    by_cases c3 : a0.toList = ([109, 115] : List UInt8)
    · rw [if_pos c3] at H
      have c3b0 : (a0.toList == ([109, 115] : List UInt8)) = true := beq_iff_eq.mpr c3
      have c3b1 : (a0.toList != ([109, 115] : List UInt8)) = false := bne_eq_false_iff_eq.mpr c3
      clear c3
      obtain rfl := Option.some.inj H
      go_enter Tryz.func64, Tryz.ntmps64
      go_wp2
      go_ret
      exact ⟨by first | rfl | (simp; done) | (simp [*]; done), by repeat (first | exact Drawn0.refl _ | apply Drawn0.step)⟩
    · rw [if_neg c3] at H
      have c3b0 : (a0.toList == ([109, 115] : List UInt8)) = false := beq_eq_false_iff_ne.mpr c3
      have c3b1 : (a0.toList != ([109, 115] : List UInt8)) = true := bne_iff_ne.mpr c3
      by_cases c4 : a0.toList = ([109, 100] : List UInt8)
      · rw [if_pos c4] at H
        have c4b0 : (a0.toList == ([109, 100] : List UInt8)) = true := beq_iff_eq.mpr c4
        have c4b1 : (a0.toList != ([109, 100] : List UInt8)) = false := bne_eq_false_iff_eq.mpr c4
        clear c4
        obtain rfl := Option.some.inj H
        go_enter Tryz.func64, Tryz.ntmps64
        go_wp2
        go_ret
        exact ⟨by first | rfl | (simp; done) | (simp [*]; done), by repeat (first | exact Drawn0.refl _ | apply Drawn0.step)⟩
      · rw [if_neg c4] at H
        have c4b0 : (a0.toList == ([109, 100] : List UInt8)) = false := beq_eq_false_iff_ne.mpr c4
        have c4b1 : (a0.toList != ([109, 100] : List UInt8)) = true := bne_iff_ne.mpr c4
        by_cases c5 : a0.toList = ([109, 97] : List UInt8)
        · rw [if_pos c5] at H
          have c5b0 : (a0.toList == ([109, 97] : List UInt8)) = true := beq_iff_eq.mpr c5
          have c5b1 : (a0.toList != ([109, 97] : List UInt8)) = false := bne_eq_false_iff_eq.mpr c5
          clear c5
          obtain rfl := Option.some.inj H
          go_enter Tryz.func64, Tryz.ntmps64
          go_wp2
          go_ret
          exact ⟨by first | rfl | (simp; done) | (simp [*]; done), by repeat (first | exact Drawn0.refl _ | apply Drawn0.step)⟩
        · rw [if_neg c5] at H
          have c5b0 : (a0.toList == ([109, 97] : List UInt8)) = false := beq_eq_false_iff_ne.mpr c5
          have c5b1 : (a0.toList != ([109, 97] : List UInt8)) = true := bne_iff_ne.mpr c5
          obtain rfl := Option.some.inj H
          go_enter Tryz.func64, Tryz.ntmps64
          go_wp2
          go_ret
          exact ⟨by first | rfl | (simp; done) | (simp [*]; done), by repeat (first | exact Drawn0.refl _ | apply Drawn0.step)⟩

/-! ### butteryref18_Bad -/
def butteryref18_Bad.f  : Option (ByteArray) := some (⟨#[67, 76, 73, 69, 78, 84, 95, 69, 82, 82, 79, 82, 32, 98, 97, 100, 32, 99, 111, 109, 109, 97, 110, 100, 32, 108, 105, 110, 101, 32, 102, 111, 114, 109, 97, 116]⟩ : ByteArray)
set_option maxHeartbeats 8000000 in
set_option maxRecDepth 100000 in
theorem butteryref18_Bad.calls  (r : ByteArray) (w : World) (h : butteryref18_Bad.f  = some r) :
    Calls Tryz.prog 43 #[] w fun e w' => e = .returned (.string r) ∧ Drawn0 w w' := by
  have H : (some (⟨#[67, 76, 73, 69, 78, 84, 95, 69, 82, 82, 79, 82, 32, 98, 97, 100, 32, 99, 111, 109, 109, 97, 110, 100, 32, 108, 105, 110, 101, 32, 102, 111, 114, 109, 97, 116]⟩ : ByteArray)) = some r := h
  clear h
  obtain rfl := Option.some.inj H
  go_enter Tryz.func43, Tryz.ntmps43
  go_wp2
  go_ret
  exact ⟨by first | rfl | (simp; done) | (simp [*]; done), by repeat (first | exact Drawn0.refl _ | apply Drawn0.step)⟩

end Go.Proofs.YtdgeiadlijlkmaaGreatDoor.X
namespace Go.Proofs.YtdgeiadlijlkmaaGreatDoor.X
open Go.RowKit Go.Proofs.YtdgeiadlijlkmaaGreatDoorW.PrintWords
def strings_IndexByte.f (s : ByteArray) (c : Int) : Option Int := some (Lib.indexByte s.data.toList c.toNat.toUInt8)
theorem strings_IndexByte.calls (s : ByteArray) (c r1 : Int) (w : World) (h : strings_IndexByte.f s c = some r1) :
    Calls Tryz.prog 57 #[.string s, .int .u8 c] w fun e w' => e = .returned (.int .i64 r1) ∧ Drawn0 w w' := by
  obtain rfl : Lib.indexByte s.data.toList c.toNat.toUInt8 = r1 := by
    unfold strings_IndexByte.f at h
    simpa using h
  refine (Tryz.strings_IndexByte s c w).mono ?_
  rintro e w' ⟨rfl, rfl⟩
  exact ⟨rfl, Drawn0.refl _⟩
end Go.Proofs.YtdgeiadlijlkmaaGreatDoor.X
namespace Go.Proofs.YtdgeiadlijlkmaaGreatDoor.X
open Go.RowKit Go.Proofs.YtdgeiadlijlkmaaGreatDoorW.PrintWords Go.Proofs.YtdgeiadlijlkmaaGreatDoorW.PrintMore
set_option linter.unusedVariables false
set_option linter.unusedSimpArgs false
/-- The cells of a line; the slices of its value, its tokens and its keys are told apart. -/
def lnC (c : Cmd) (f : Form) (seen : ByteArray) (vV vT vK : Value) : Array Value := #[.int .i64 c.op, .string c.key, vV, .int .u32 c.flags, .int .i64 c.exp, .int .u64 c.cas, .int .u64 c.delta, .int .u64 c.initial, .bool c.makes, .bool c.sets, .int .i64 f.dialect, .string f.verb, .int .i64 f.code, .int .u32 f.opq, .bool f.quiet, .bool f.withcas, .string f.flags, vT, vK, .bool f.base64, .string seen]
structure But (g : Nat) (w w' : World) : Prop where
  low : ∀ B, B ≤ g → Below B w w'
  blk : ∀ k, k < w.heap.size → k ≠ g → w'.heap[k]? = w.heap[k]?
theorem But.refl (g : Nat) (w : World) : But g w w := ⟨fun _ _ => Below.refl _ _, fun _ _ _ => rfl⟩
theorem But.ofStore {g : Nat} {w w' : World} (h : StoreTo g w w') : But g w w' := ⟨h.below, fun k _ hk => h.block k hk⟩
theorem But.ofBelow {g : Nat} {w w' : World} (h : Below w.heap.size w w') (hg : g < w.heap.size) : But g w w' := ⟨fun B hB => h.mono (by omega), fun k hk _ => h.block k hk⟩
theorem But.size {g : Nat} {w w' : World} (h : But g w w') : w.heap.size ≤ w'.heap.size := (h.low 0 (Nat.zero_le _)).size
theorem But.trans {g : Nat} {w w1 w2 : World} (h : But g w w1) (h2 : But g w1 w2) : But g w w2 := ⟨fun B hB => (h.low B hB).trans (h2.low B hB), fun k hk hg => (h2.blk k (by have := h.size; omega) hg).trans (h.blk k hk hg)⟩
theorem But.keep {g k : Nat} {w w' : World} {o : Obj} (h : But g w w') (hb : w.heap[k]? = some o) (hk : k ≠ g) : w'.heap[k]? = some o := (h.blk k (Array.getElem?_eq_some_iff.1 hb).1 hk).trans hb
theorem But.own {g : Nat} {w w' : World} {base n size : Nat} {e : TypeId} {v : Value} {xs : List Value} (h : But g w w') (ho : w.ownsRow base e size v n xs) (hg : some g ≠ v.ownBlock) : w'.ownsRow base e size v n xs :=
  own_move ho (fun k hk => h.blk k (own_lt ho k hk) (fun e => hg (by rw [← e]; exact hk.symm)))
/-- What a method leaves: the block of the line with other cells. -/
def LnTo (g : Nat) (cs : Array Value) (w w' : World) : Prop := w'.heap[g]? = some (.cells cs 53 (0, 0)) ∧ But g w w'
def timeC (v : List UInt8) (z : Int) (s : ByteArray) (c : Cmd) : Cmd := { c with exp := (sgnS s).1, makes := c.makes || decide (z = 78), sets := c.sets || (!decide (z = 78) && !decide (v = [109, 115])) }
set_option maxRecDepth 100000 in
set_option maxHeartbeats 1000000 in
theorem time_calls (c : Cmd) (f : Form) (seen : ByteArray) (vV vT vK : Value) (g : Nat) (z : Int) (s : ByteArray) (w0 w : World) (hg : w.heap[g]? = some (.cells (lnC c f seen vV vT vK) 53 (0, 0))) (hT : Tabs w0) (hB : Below w0.heap.size w0 w) (hg0 : w0.heap.size ≤ g) :
    Calls Tryz.prog 80 #[.pointer (some ⟨g, 0, none⟩), .int .u8 z, .string s] w fun e w' => e = .returned (.bool (sgnS s).2) ∧ LnTo g (lnC (timeC f.verb.toList z s c) f seen vV vT vK) w w' := by
  have BX := Aside0.mk hg
  have HBT := Aside0.mk (But.refl g w)
  have HSG : Aside0 (∀ w', But g w w' → Calls Tryz.prog 102 #[.string s] w' fun e w'' => e = .returned (.tuple #[.int .i64 (sgnS s).1, .bool (sgnS s).2]) ∧ Below w'.heap.size w' w'') := ⟨fun w' h => sgn_w s w' (Tabs.below hT (hB.trans (h.low _ hg0)))⟩
  obtain ⟨R, hR⟩ : ∃ R, lnC (timeC f.verb.toList z s c) f seen vV vT vK = R := ⟨_, rfl⟩
  rw [hR]
  unfold timeC at hR
  obtain ⟨⟨n, q⟩, hq⟩ : ∃ r, sgnS s = r := ⟨_, rfl⟩
  rw [hq] at HSG hR ⊢
  dsimp only at HSG hR ⊢
  have HR := Aside0.mk hR
  clear hg hT hB hg0 hR hq
  by_cases h78 : z = 78
  · subst h78
    go_enter Tryz.func80, Tryz.ntmps80
    go_wp2_with (first | (go_at_call 102; (with_reducible refine (HSG.out _ HBT.out).mono ?_); rintro e w1 ⟨rfl, hb⟩; have BXn := Aside0.mk (blk_below BX.out hb); have HBTn := Aside0.mk (HBT.out.trans (But.ofBelow hb (blk_lt BX.out))); clear BX HBT hb; have BX := BXn; have HBT := HBTn; clear BXn HBTn) | (refine wpList_store_1 rfl 3 _ _ rfl g 4 (.int .i64 n) rfl rfl rfl 53 _ (lnC { c with exp := n } f seen vV vT vK) BX.out (by simp [lnC]) (by kernel_rfl) rfl ?_; intro w2 hbk hst; have BXn := Aside0.mk hbk; have HBTn := Aside0.mk (HBT.out.trans (But.ofStore hst)); clear BX HBT hbk hst; have BX := BXn; have HBT := HBTn; clear BXn HBTn; (try clear t11); (first | (have t11 : w2.cell? ⟨g, 11, none⟩ = some (.string f.verb) := (blk_cell BX.out 11).trans rfl) | skip)) | (refine wpList_store_1 rfl 4 _ _ rfl g 8 (.bool true) rfl rfl rfl 53 _ (lnC { c with exp := n, makes := true } f seen vV vT vK) BX.out (by simp [lnC]) (by kernel_rfl) rfl ?_; intro w2 hbk hst; have BXn := Aside0.mk hbk; have HBTn := Aside0.mk (HBT.out.trans (But.ofStore hst)); clear BX HBT hbk hst; have BX := BXn; have HBT := HBTn; clear BXn HBTn; (try clear t11); (first | (have t11 : w2.cell? ⟨g, 11, none⟩ = some (.string f.verb) := (blk_cell BX.out 11).trans rfl) | skip)))
    go_ret
    exact ⟨rfl, by rw [← HR.out]; simpa using BX.out, HBT.out⟩
  have h78b : (z == 78) = false := beq_eq_false_iff_ne.2 h78
  by_cases hv : f.verb.toList = [109, 115]
  · have hvb : (f.verb.toList == [109, 115]) = true := beq_iff_eq.2 hv
    go_enter Tryz.func80, Tryz.ntmps80
    go_wp2_with (first | (go_at_call 102; (with_reducible refine (HSG.out _ HBT.out).mono ?_); rintro e w1 ⟨rfl, hb⟩; have BXn := Aside0.mk (blk_below BX.out hb); have HBTn := Aside0.mk (HBT.out.trans (But.ofBelow hb (blk_lt BX.out))); clear BX HBT hb; have BX := BXn; have HBT := HBTn; clear BXn HBTn) | (refine wpList_store_1 rfl 3 _ _ rfl g 4 (.int .i64 n) rfl rfl rfl 53 _ (lnC { c with exp := n } f seen vV vT vK) BX.out (by simp [lnC]) (by kernel_rfl) rfl ?_; intro w2 hbk hst; have BXn := Aside0.mk hbk; have HBTn := Aside0.mk (HBT.out.trans (But.ofStore hst)); clear BX HBT hbk hst; have BX := BXn; have HBT := HBTn; clear BXn HBTn; (try clear t11); (first | (have t11 : w2.cell? ⟨g, 11, none⟩ = some (.string f.verb) := (blk_cell BX.out 11).trans rfl) | skip)))
    go_ret
    exact ⟨rfl, by rw [← HR.out]; simpa [h78, hv] using BX.out, HBT.out⟩
  · have hvb : (f.verb.toList == [109, 115]) = false := beq_eq_false_iff_ne.2 hv
    go_enter Tryz.func80, Tryz.ntmps80
    go_wp2_with (first | (go_at_call 102; (with_reducible refine (HSG.out _ HBT.out).mono ?_); rintro e w1 ⟨rfl, hb⟩; have BXn := Aside0.mk (blk_below BX.out hb); have HBTn := Aside0.mk (HBT.out.trans (But.ofBelow hb (blk_lt BX.out))); clear BX HBT hb; have BX := BXn; have HBT := HBTn; clear BXn HBTn) | (refine wpList_store_1 rfl 3 _ _ rfl g 4 (.int .i64 n) rfl rfl rfl 53 _ (lnC { c with exp := n } f seen vV vT vK) BX.out (by simp [lnC]) (by kernel_rfl) rfl ?_; intro w2 hbk hst; have BXn := Aside0.mk hbk; have HBTn := Aside0.mk (HBT.out.trans (But.ofStore hst)); clear BX HBT hbk hst; have BX := BXn; have HBT := HBTn; clear BXn HBTn; (try clear t11); (first | (have t11 : w2.cell? ⟨g, 11, none⟩ = some (.string f.verb) := (blk_cell BX.out 11).trans rfl) | skip)) | (refine wpList_store_1 rfl 4 _ _ rfl g 9 (.bool true) rfl rfl rfl 53 _ (lnC { c with exp := n, sets := true } f seen vV vT vK) BX.out (by simp [lnC]) (by kernel_rfl) rfl ?_; intro w2 hbk hst; have BXn := Aside0.mk hbk; have HBTn := Aside0.mk (HBT.out.trans (But.ofStore hst)); clear BX HBT hbk hst; have BX := BXn; have HBT := HBTn; clear BXn HBTn; (try clear t11); (first | (have t11 : w2.cell? ⟨g, 11, none⟩ = some (.string f.verb) := (blk_cell BX.out 11).trans rfl) | skip)))
    go_ret
    exact ⟨rfl, by rw [← HR.out]; simpa [h78, hv] using BX.out, HBT.out⟩
end Go.Proofs.YtdgeiadlijlkmaaGreatDoor.X
namespace Go.Proofs.YtdgeiadlijlkmaaGreatDoor.X
open Go.RowKit Go.Proofs.YtdgeiadlijlkmaaGreatDoorW.PrintWords Go.Proofs.YtdgeiadlijlkmaaGreatDoorW.PrintMore
set_option linter.unusedVariables false
set_option linter.unusedSimpArgs false
def modeP (l : List UInt8) : Option Int :=
  if l = [109, 115, 83] then some 3 else if l = [109, 115, 69] then some 4 else if l = [109, 115, 65] then some 6 else if l = [109, 115, 80] then some 7 else if l = [109, 115, 82] then some 5 else if l = [109, 97, 73] then some 10 else if l = [109, 97, 43] then some 10 else if l = [109, 97, 68] then some 11 else if l = [109, 97, 45] then some 11 else none
/-- A command with what M tells. -/
def modeC (l : List UInt8) (c : Cmd) : Cmd := { c with op := (modeP l).getD c.op }
set_option maxRecDepth 100000 in
set_option maxHeartbeats 4000000 in
theorem mode_calls (c : Cmd) (f : Form) (seen : ByteArray) (vV vT vK : Value) (g : Nat) (s : ByteArray) (w : World) (hg : w.heap[g]? = some (.cells (lnC c f seen vV vT vK) 53 (0, 0))) (hv : f.verb.size ≤ 1000000) (hs : s.size ≤ 1000000) :
    Calls Tryz.prog 81 #[.pointer (some ⟨g, 0, none⟩), .string s] w fun e w' => e = .returned (.bool (modeP (f.verb ++ s).toList).isSome) ∧ LnTo g (lnC (modeC (f.verb ++ s).toList c) f seen vV vT vK) w w' := by
  have BX := Aside0.mk hg
  have HBT := Aside0.mk (But.refl g w)
  have t11 : w.cell? ⟨g, 11, none⟩ = some (.string f.verb) := (blk_cell BX.out 11).trans rfl
  obtain ⟨l, hl⟩ : ∃ l, (f.verb ++ s).toList = l := ⟨_, rfl⟩
  rw [hl]
  obtain ⟨R, hR⟩ : ∃ R, lnC (modeC l c) f seen vV vT vK = R := ⟨_, rfl⟩
  obtain ⟨q, hq⟩ : ∃ q, (modeP l).isSome = q := ⟨_, rfl⟩
  rw [hR, hq]
  have HR := Aside0.mk hR
  have HQ := Aside0.mk hq
  clear hg hR hq
  by_cases h0 : l = [109, 115, 83]
  · have b0 : (l == [109, 115, 83]) = true := beq_iff_eq.2 h0
    obtain rfl : true = q := by rw [← HQ.out, h0]; rfl
    have HR2 : Aside0 (lnC { c with op := 3 } f seen vV vT vK = R) := ⟨by rw [← HR.out, h0]; rfl⟩
    clear h0
    go_enter Tryz.func81, Tryz.ntmps81
    go_wp2_with (first | (refine wpList_store_1 rfl 3 _ _ rfl g 0 (.int .i64 3) rfl rfl rfl 53 _ (lnC { c with op := 3 } f seen vV vT vK) BX.out (by simp [lnC]) (by kernel_rfl) rfl ?_; intro w2 hbk hst; have BXn := Aside0.mk hbk; have HBTn := Aside0.mk (HBT.out.trans (But.ofStore hst)); clear BX HBT hbk hst; have BX := BXn; have HBT := HBTn; clear BXn HBTn; (try clear t11); (first | (have t11 : w2.cell? ⟨g, 11, none⟩ = some (.string f.verb) := (blk_cell BX.out 11).trans rfl) | skip)))
    go_ret
    exact ⟨rfl, by rw [← HR2.out]; exact BX.out, HBT.out⟩
  have b0 : (l == [109, 115, 83]) = false := beq_eq_false_iff_ne.2 h0
  by_cases h1 : l = [109, 115, 69]
  · have b1 : (l == [109, 115, 69]) = true := beq_iff_eq.2 h1
    obtain rfl : true = q := by rw [← HQ.out, h1]; rfl
    have HR2 : Aside0 (lnC { c with op := 4 } f seen vV vT vK = R) := ⟨by rw [← HR.out, h1]; rfl⟩
    clear h1
    go_enter Tryz.func81, Tryz.ntmps81
    go_wp2_with (first | (refine wpList_store_1 rfl 3 _ _ rfl g 0 (.int .i64 4) rfl rfl rfl 53 _ (lnC { c with op := 4 } f seen vV vT vK) BX.out (by simp [lnC]) (by kernel_rfl) rfl ?_; intro w2 hbk hst; have BXn := Aside0.mk hbk; have HBTn := Aside0.mk (HBT.out.trans (But.ofStore hst)); clear BX HBT hbk hst; have BX := BXn; have HBT := HBTn; clear BXn HBTn; (try clear t11); (first | (have t11 : w2.cell? ⟨g, 11, none⟩ = some (.string f.verb) := (blk_cell BX.out 11).trans rfl) | skip)))
    go_ret
    exact ⟨rfl, by rw [← HR2.out]; exact BX.out, HBT.out⟩
  have b1 : (l == [109, 115, 69]) = false := beq_eq_false_iff_ne.2 h1
  by_cases h2 : l = [109, 115, 65]
  · have b2 : (l == [109, 115, 65]) = true := beq_iff_eq.2 h2
    obtain rfl : true = q := by rw [← HQ.out, h2]; rfl
    have HR2 : Aside0 (lnC { c with op := 6 } f seen vV vT vK = R) := ⟨by rw [← HR.out, h2]; rfl⟩
    clear h2
    go_enter Tryz.func81, Tryz.ntmps81
    go_wp2_with (first | (refine wpList_store_1 rfl 3 _ _ rfl g 0 (.int .i64 6) rfl rfl rfl 53 _ (lnC { c with op := 6 } f seen vV vT vK) BX.out (by simp [lnC]) (by kernel_rfl) rfl ?_; intro w2 hbk hst; have BXn := Aside0.mk hbk; have HBTn := Aside0.mk (HBT.out.trans (But.ofStore hst)); clear BX HBT hbk hst; have BX := BXn; have HBT := HBTn; clear BXn HBTn; (try clear t11); (first | (have t11 : w2.cell? ⟨g, 11, none⟩ = some (.string f.verb) := (blk_cell BX.out 11).trans rfl) | skip)))
    go_ret
    exact ⟨rfl, by rw [← HR2.out]; exact BX.out, HBT.out⟩
  have b2 : (l == [109, 115, 65]) = false := beq_eq_false_iff_ne.2 h2
  by_cases h3 : l = [109, 115, 80]
  · have b3 : (l == [109, 115, 80]) = true := beq_iff_eq.2 h3
    obtain rfl : true = q := by rw [← HQ.out, h3]; rfl
    have HR2 : Aside0 (lnC { c with op := 7 } f seen vV vT vK = R) := ⟨by rw [← HR.out, h3]; rfl⟩
    clear h3
    go_enter Tryz.func81, Tryz.ntmps81
    go_wp2_with (first | (refine wpList_store_1 rfl 3 _ _ rfl g 0 (.int .i64 7) rfl rfl rfl 53 _ (lnC { c with op := 7 } f seen vV vT vK) BX.out (by simp [lnC]) (by kernel_rfl) rfl ?_; intro w2 hbk hst; have BXn := Aside0.mk hbk; have HBTn := Aside0.mk (HBT.out.trans (But.ofStore hst)); clear BX HBT hbk hst; have BX := BXn; have HBT := HBTn; clear BXn HBTn; (try clear t11); (first | (have t11 : w2.cell? ⟨g, 11, none⟩ = some (.string f.verb) := (blk_cell BX.out 11).trans rfl) | skip)))
    go_ret
    exact ⟨rfl, by rw [← HR2.out]; exact BX.out, HBT.out⟩
  have b3 : (l == [109, 115, 80]) = false := beq_eq_false_iff_ne.2 h3
  by_cases h4 : l = [109, 115, 82]
  · have b4 : (l == [109, 115, 82]) = true := beq_iff_eq.2 h4
    obtain rfl : true = q := by rw [← HQ.out, h4]; rfl
    have HR2 : Aside0 (lnC { c with op := 5 } f seen vV vT vK = R) := ⟨by rw [← HR.out, h4]; rfl⟩
    clear h4
    go_enter Tryz.func81, Tryz.ntmps81
    go_wp2_with (first | (refine wpList_store_1 rfl 3 _ _ rfl g 0 (.int .i64 5) rfl rfl rfl 53 _ (lnC { c with op := 5 } f seen vV vT vK) BX.out (by simp [lnC]) (by kernel_rfl) rfl ?_; intro w2 hbk hst; have BXn := Aside0.mk hbk; have HBTn := Aside0.mk (HBT.out.trans (But.ofStore hst)); clear BX HBT hbk hst; have BX := BXn; have HBT := HBTn; clear BXn HBTn; (try clear t11); (first | (have t11 : w2.cell? ⟨g, 11, none⟩ = some (.string f.verb) := (blk_cell BX.out 11).trans rfl) | skip)))
    go_ret
    exact ⟨rfl, by rw [← HR2.out]; exact BX.out, HBT.out⟩
  have b4 : (l == [109, 115, 82]) = false := beq_eq_false_iff_ne.2 h4
  by_cases h5 : l = [109, 97, 73]
  · have b5 : (l == [109, 97, 73]) = true := beq_iff_eq.2 h5
    obtain rfl : true = q := by rw [← HQ.out, h5]; rfl
    have HR2 : Aside0 (lnC { c with op := 10 } f seen vV vT vK = R) := ⟨by rw [← HR.out, h5]; rfl⟩
    clear h5
    go_enter Tryz.func81, Tryz.ntmps81
    go_wp2_with (first | (refine wpList_store_1 rfl 3 _ _ rfl g 0 (.int .i64 10) rfl rfl rfl 53 _ (lnC { c with op := 10 } f seen vV vT vK) BX.out (by simp [lnC]) (by kernel_rfl) rfl ?_; intro w2 hbk hst; have BXn := Aside0.mk hbk; have HBTn := Aside0.mk (HBT.out.trans (But.ofStore hst)); clear BX HBT hbk hst; have BX := BXn; have HBT := HBTn; clear BXn HBTn; (try clear t11); (first | (have t11 : w2.cell? ⟨g, 11, none⟩ = some (.string f.verb) := (blk_cell BX.out 11).trans rfl) | skip)))
    go_ret
    exact ⟨rfl, by rw [← HR2.out]; exact BX.out, HBT.out⟩
  have b5 : (l == [109, 97, 73]) = false := beq_eq_false_iff_ne.2 h5
  by_cases h6 : l = [109, 97, 43]
  · have b6 : (l == [109, 97, 43]) = true := beq_iff_eq.2 h6
    obtain rfl : true = q := by rw [← HQ.out, h6]; rfl
    have HR2 : Aside0 (lnC { c with op := 10 } f seen vV vT vK = R) := ⟨by rw [← HR.out, h6]; rfl⟩
    clear h6
    go_enter Tryz.func81, Tryz.ntmps81
    go_wp2_with (first | (refine wpList_store_1 rfl 3 _ _ rfl g 0 (.int .i64 10) rfl rfl rfl 53 _ (lnC { c with op := 10 } f seen vV vT vK) BX.out (by simp [lnC]) (by kernel_rfl) rfl ?_; intro w2 hbk hst; have BXn := Aside0.mk hbk; have HBTn := Aside0.mk (HBT.out.trans (But.ofStore hst)); clear BX HBT hbk hst; have BX := BXn; have HBT := HBTn; clear BXn HBTn; (try clear t11); (first | (have t11 : w2.cell? ⟨g, 11, none⟩ = some (.string f.verb) := (blk_cell BX.out 11).trans rfl) | skip)))
    go_ret
    exact ⟨rfl, by rw [← HR2.out]; exact BX.out, HBT.out⟩
  have b6 : (l == [109, 97, 43]) = false := beq_eq_false_iff_ne.2 h6
  by_cases h7 : l = [109, 97, 68]
  · have b7 : (l == [109, 97, 68]) = true := beq_iff_eq.2 h7
    obtain rfl : true = q := by rw [← HQ.out, h7]; rfl
    have HR2 : Aside0 (lnC { c with op := 11 } f seen vV vT vK = R) := ⟨by rw [← HR.out, h7]; rfl⟩
    clear h7
    go_enter Tryz.func81, Tryz.ntmps81
    go_wp2_with (first | (refine wpList_store_1 rfl 3 _ _ rfl g 0 (.int .i64 11) rfl rfl rfl 53 _ (lnC { c with op := 11 } f seen vV vT vK) BX.out (by simp [lnC]) (by kernel_rfl) rfl ?_; intro w2 hbk hst; have BXn := Aside0.mk hbk; have HBTn := Aside0.mk (HBT.out.trans (But.ofStore hst)); clear BX HBT hbk hst; have BX := BXn; have HBT := HBTn; clear BXn HBTn; (try clear t11); (first | (have t11 : w2.cell? ⟨g, 11, none⟩ = some (.string f.verb) := (blk_cell BX.out 11).trans rfl) | skip)))
    go_ret
    exact ⟨rfl, by rw [← HR2.out]; exact BX.out, HBT.out⟩
  have b7 : (l == [109, 97, 68]) = false := beq_eq_false_iff_ne.2 h7
  by_cases h8 : l = [109, 97, 45]
  · have b8 : (l == [109, 97, 45]) = true := beq_iff_eq.2 h8
    obtain rfl : true = q := by rw [← HQ.out, h8]; rfl
    have HR2 : Aside0 (lnC { c with op := 11 } f seen vV vT vK = R) := ⟨by rw [← HR.out, h8]; rfl⟩
    clear h8
    go_enter Tryz.func81, Tryz.ntmps81
    go_wp2_with (first | (refine wpList_store_1 rfl 3 _ _ rfl g 0 (.int .i64 11) rfl rfl rfl 53 _ (lnC { c with op := 11 } f seen vV vT vK) BX.out (by simp [lnC]) (by kernel_rfl) rfl ?_; intro w2 hbk hst; have BXn := Aside0.mk hbk; have HBTn := Aside0.mk (HBT.out.trans (But.ofStore hst)); clear BX HBT hbk hst; have BX := BXn; have HBT := HBTn; clear BXn HBTn; (try clear t11); (first | (have t11 : w2.cell? ⟨g, 11, none⟩ = some (.string f.verb) := (blk_cell BX.out 11).trans rfl) | skip)))
    go_ret
    exact ⟨rfl, by rw [← HR2.out]; exact BX.out, HBT.out⟩
  have b8 : (l == [109, 97, 45]) = false := beq_eq_false_iff_ne.2 h8
  have hn : modeP l = none := by unfold modeP; simp only [h0, h1, h2, h3, h4, h5, h6, h7, h8, if_false]
  obtain rfl : false = q := by rw [← HQ.out, hn]; rfl
  have HR2 : Aside0 (lnC c f seen vV vT vK = R) := ⟨by rw [← HR.out]; unfold modeC; rw [hn]; rfl⟩
  clear hn h0 h1 h2 h3 h4 h5 h6 h7 h8
  go_enter Tryz.func81, Tryz.ntmps81
  go_wp2
  go_ret
  exact ⟨rfl, by rw [← HR2.out]; exact BX.out, HBT.out⟩
/-- What a flag with a token leaves, whether it may be or not; w: the verb. -/
def loadP (v : ByteArray) (z : Int) (s : ByteArray) (c : Cmd) : Bool × Cmd :=
  if z = 79 then (decide (s.size ≠ 0) && decide ((s.size : Int) ≤ 32), c)
  else if z = 84 ∨ z = 78 then ((sgnS s).2, timeC v.toList z s c)
  else if z = 77 then ((modeP (v ++ s).toList).isSome, modeC (v ++ s).toList c)
  else if z = 70 then ((decS s).2 && decide (((decS s).1 : Int) ≤ 4294967295), { c with flags := IntKind.u32.wrap (decS s).1 })
  else ((decS s).2, if z = 67 then { c with cas := (decS s).1 } else if z = 68 then { c with delta := (decS s).1 } else if z = 74 then { c with initial := (decS s).1 } else c)
set_option maxRecDepth 100000 in
set_option maxHeartbeats 4000000 in
theorem load_calls (c : Cmd) (f : Form) (seen : ByteArray) (vV vT vK : Value) (g : Nat) (z : Int) (s : ByteArray) (w0 w : World) (hg : w.heap[g]? = some (.cells (lnC c f seen vV vT vK) 53 (0, 0))) (hT : Tabs w0) (hB : Below w0.heap.size w0 w) (hg0 : w0.heap.size ≤ g) (hv : f.verb.size ≤ 1000000) (hs : s.size ≤ 1000000) :
    Calls Tryz.prog 58 #[.pointer (some ⟨g, 0, none⟩), .int .u8 z, .string s] w fun e w' => e = .returned (.bool (loadP f.verb z s c).1) ∧ LnTo g (lnC (loadP f.verb z s c).2 f seen vV vT vK) w w' := by
  have BX := Aside0.mk hg
  have HBT := Aside0.mk (But.refl g w)
  have HDC : Aside0 (∀ w', But g w w' → Calls Tryz.prog 36 #[.string s] w' fun e w'' => e = .returned (.tuple #[.int .u64 ((decS s).1 : Int), .bool (decS s).2]) ∧ Below w'.heap.size w' w'') := ⟨fun w' h => dec_w s w' (Tabs.below hT (hB.trans (h.low _ hg0)))⟩
  have HTM := Aside0.mk (time_calls c f seen vV vT vK g z s w0 w hg hT hB hg0)
  have HMD := Aside0.mk (mode_calls c f seen vV vT vK g s w hg hv hs)
  obtain ⟨R, hR⟩ : ∃ R, loadP f.verb z s c = R := ⟨_, rfl⟩
  rw [hR]
  have HR := Aside0.mk hR
  clear hg hT hB hg0 hR hv
  by_cases h79 : z = 79
  · subst h79
    obtain rfl : (decide (s.size ≠ 0) && decide ((s.size : Int) ≤ 32), c) = R := by rw [← HR.out]; rfl
    clear HR
    by_cases h0 : s.size = 0
    · obtain rfl : s = ⟨#[]⟩ := by rcases s with ⟨⟨l⟩⟩; cases l with | nil => rfl | cons a b => cases h0
      go_enter Tryz.func58, Tryz.ntmps58
      go_wp2
      go_ret
      exact ⟨rfl, BX.out, HBT.out⟩
    · have hne : s.toList.isEmpty = false := by
        rw [Bool.eq_false_iff]
        intro h
        rw [(bs_nil _).1 h] at h0
        exact h0 rfl
      rw [decide_eq_true h0, Bool.true_and]
      clear h0
      go_enter Tryz.func58, Tryz.ntmps58
      go_wp2
      go_ret
      exact ⟨by first | rfl | simp, BX.out, HBT.out⟩
  have b79 : (z == 79) = false := beq_eq_false_iff_ne.2 h79
  by_cases h84 : z = 84
  · subst h84
    obtain rfl : ((sgnS s).2, timeC f.verb.toList 84 s c) = R := by rw [← HR.out]; rfl
    clear HR
    go_enter Tryz.func58, Tryz.ntmps58
    go_wp2_with (first | (go_at_call 80; (with_reducible refine HTM.out.mono ?_); rintro e w1 ⟨rfl, hx⟩; have HX := Aside0.mk hx; clear hx))
    go_ret
    exact ⟨rfl, HX.out⟩
  have b84 : (z == 84) = false := beq_eq_false_iff_ne.2 h84
  by_cases h78 : z = 78
  · subst h78
    obtain rfl : ((sgnS s).2, timeC f.verb.toList 78 s c) = R := by rw [← HR.out]; rfl
    clear HR
    go_enter Tryz.func58, Tryz.ntmps58
    go_wp2_with (first | (go_at_call 80; (with_reducible refine HTM.out.mono ?_); rintro e w1 ⟨rfl, hx⟩; have HX := Aside0.mk hx; clear hx))
    go_ret
    exact ⟨rfl, HX.out⟩
  have b78 : (z == 78) = false := beq_eq_false_iff_ne.2 h78
  by_cases h77 : z = 77
  · subst h77
    obtain rfl : ((modeP (f.verb ++ s).toList).isSome, modeC (f.verb ++ s).toList c) = R := by rw [← HR.out]; rfl
    clear HR
    go_enter Tryz.func58, Tryz.ntmps58
    go_wp2_with (first | (go_at_call 81; (with_reducible refine HMD.out.mono ?_); rintro e w1 ⟨rfl, hx⟩; have HX := Aside0.mk hx; clear hx))
    go_ret
    exact ⟨rfl, HX.out⟩
  have b77 : (z == 77) = false := beq_eq_false_iff_ne.2 h77
  obtain ⟨⟨n, q⟩, hq⟩ : ∃ r, decS s = r := ⟨_, rfl⟩
  rw [hq] at HDC
  have HQ := Aside0.mk hq
  clear hq
  dsimp only at HDC
  by_cases h70 : z = 70
  · subst h70
    obtain rfl : (q && decide ((n : Int) ≤ 4294967295), { c with flags := IntKind.u32.wrap n }) = R := by rw [← HR.out]; unfold loadP; rw [HQ.out]; rfl
    clear HR
    go_enter Tryz.func58, Tryz.ntmps58
    cases q
    · go_wp2_with (first | (go_at_call 36; (with_reducible refine (HDC.out _ HBT.out).mono ?_); rintro e w1 ⟨rfl, hb⟩; have BXn := Aside0.mk (blk_below BX.out hb); have HBTn := Aside0.mk (HBT.out.trans (But.ofBelow hb (blk_lt BX.out))); clear BX HBT hb; have BX := BXn; have HBT := HBTn; clear BXn HBTn) | (refine wpList_store_1 rfl 26 _ _ rfl g 3 (.int .u32 (IntKind.u32.wrap n)) rfl rfl rfl 53 _ (lnC { c with flags := IntKind.u32.wrap n } f seen vV vT vK) BX.out (by simp [lnC]) (by kernel_rfl) rfl ?_; intro w2 hbk hst; have BXn := Aside0.mk hbk; have HBTn := Aside0.mk (HBT.out.trans (But.ofStore hst)); clear BX HBT hbk hst; have BX := BXn; have HBT := HBTn; clear BXn HBTn; (try clear t11); (first | (have t11 : w2.cell? ⟨g, 11, none⟩ = some (.string f.verb) := (blk_cell BX.out 11).trans rfl) | skip)))
      go_ret
      exact ⟨by first | rfl | simp, BX.out, HBT.out⟩
    · go_wp2_with (first | (go_at_call 36; (with_reducible refine (HDC.out _ HBT.out).mono ?_); rintro e w1 ⟨rfl, hb⟩; have BXn := Aside0.mk (blk_below BX.out hb); have HBTn := Aside0.mk (HBT.out.trans (But.ofBelow hb (blk_lt BX.out))); clear BX HBT hb; have BX := BXn; have HBT := HBTn; clear BXn HBTn) | (refine wpList_store_1 rfl 26 _ _ rfl g 3 (.int .u32 (IntKind.u32.wrap n)) rfl rfl rfl 53 _ (lnC { c with flags := IntKind.u32.wrap n } f seen vV vT vK) BX.out (by simp [lnC]) (by kernel_rfl) rfl ?_; intro w2 hbk hst; have BXn := Aside0.mk hbk; have HBTn := Aside0.mk (HBT.out.trans (But.ofStore hst)); clear BX HBT hbk hst; have BX := BXn; have HBT := HBTn; clear BXn HBTn; (try clear t11); (first | (have t11 : w2.cell? ⟨g, 11, none⟩ = some (.string f.verb) := (blk_cell BX.out 11).trans rfl) | skip)))
      go_ret
      exact ⟨by first | rfl | simp, BX.out, HBT.out⟩
  have b70 : (z == 70) = false := beq_eq_false_iff_ne.2 h70
  obtain rfl : (q, if z = 67 then { c with cas := n } else if z = 68 then { c with delta := n } else if z = 74 then { c with initial := n } else c) = R := by rw [← HR.out]; unfold loadP; rw [HQ.out, if_neg h79, if_neg (show ¬ (z = 84 ∨ z = 78) by omega), if_neg h77, if_neg h70]
  clear HR
  dsimp only

  by_cases h67 : z = 67
  · subst h67
    go_enter Tryz.func58, Tryz.ntmps58
    go_wp2_with (first | (go_at_call 36; (with_reducible refine (HDC.out _ HBT.out).mono ?_); rintro e w1 ⟨rfl, hb⟩; have BXn := Aside0.mk (blk_below BX.out hb); have HBTn := Aside0.mk (HBT.out.trans (But.ofBelow hb (blk_lt BX.out))); clear BX HBT hb; have BX := BXn; have HBT := HBTn; clear BXn HBTn) | (refine wpList_store_1 rfl 38 _ _ rfl g 5 (.int .u64 n) rfl rfl rfl 53 _ (lnC { c with cas := n } f seen vV vT vK) BX.out (by simp [lnC]) (by kernel_rfl) rfl ?_; intro w2 hbk hst; have BXn := Aside0.mk hbk; have HBTn := Aside0.mk (HBT.out.trans (But.ofStore hst)); clear BX HBT hbk hst; have BX := BXn; have HBT := HBTn; clear BXn HBTn; (try clear t11); (first | (have t11 : w2.cell? ⟨g, 11, none⟩ = some (.string f.verb) := (blk_cell BX.out 11).trans rfl) | skip)))
    go_ret
    exact ⟨rfl, BX.out, HBT.out⟩
  have b67 : (z == 67) = false := beq_eq_false_iff_ne.2 h67
  by_cases h68 : z = 68
  · subst h68
    go_enter Tryz.func58, Tryz.ntmps58
    go_wp2_with (first | (go_at_call 36; (with_reducible refine (HDC.out _ HBT.out).mono ?_); rintro e w1 ⟨rfl, hb⟩; have BXn := Aside0.mk (blk_below BX.out hb); have HBTn := Aside0.mk (HBT.out.trans (But.ofBelow hb (blk_lt BX.out))); clear BX HBT hb; have BX := BXn; have HBT := HBTn; clear BXn HBTn) | (refine wpList_store_1 rfl 38 _ _ rfl g 6 (.int .u64 n) rfl rfl rfl 53 _ (lnC { c with delta := n } f seen vV vT vK) BX.out (by simp [lnC]) (by kernel_rfl) rfl ?_; intro w2 hbk hst; have BXn := Aside0.mk hbk; have HBTn := Aside0.mk (HBT.out.trans (But.ofStore hst)); clear BX HBT hbk hst; have BX := BXn; have HBT := HBTn; clear BXn HBTn; (try clear t11); (first | (have t11 : w2.cell? ⟨g, 11, none⟩ = some (.string f.verb) := (blk_cell BX.out 11).trans rfl) | skip)))
    go_ret
    exact ⟨rfl, BX.out, HBT.out⟩
  have b68 : (z == 68) = false := beq_eq_false_iff_ne.2 h68
  by_cases h74 : z = 74
  · subst h74
    go_enter Tryz.func58, Tryz.ntmps58
    go_wp2_with (first | (go_at_call 36; (with_reducible refine (HDC.out _ HBT.out).mono ?_); rintro e w1 ⟨rfl, hb⟩; have BXn := Aside0.mk (blk_below BX.out hb); have HBTn := Aside0.mk (HBT.out.trans (But.ofBelow hb (blk_lt BX.out))); clear BX HBT hb; have BX := BXn; have HBT := HBTn; clear BXn HBTn) | (refine wpList_store_1 rfl 38 _ _ rfl g 7 (.int .u64 n) rfl rfl rfl 53 _ (lnC { c with initial := n } f seen vV vT vK) BX.out (by simp [lnC]) (by kernel_rfl) rfl ?_; intro w2 hbk hst; have BXn := Aside0.mk hbk; have HBTn := Aside0.mk (HBT.out.trans (But.ofStore hst)); clear BX HBT hbk hst; have BX := BXn; have HBT := HBTn; clear BXn HBTn; (try clear t11); (first | (have t11 : w2.cell? ⟨g, 11, none⟩ = some (.string f.verb) := (blk_cell BX.out 11).trans rfl) | skip)))
    go_ret
    exact ⟨rfl, BX.out, HBT.out⟩
  have b74 : (z == 74) = false := beq_eq_false_iff_ne.2 h74
  rw [if_neg h67, if_neg h68, if_neg h74]
  go_enter Tryz.func58, Tryz.ntmps58
  go_wp2_with (first | (go_at_call 36; (with_reducible refine (HDC.out _ HBT.out).mono ?_); rintro e w1 ⟨rfl, hb⟩; have BXn := Aside0.mk (blk_below BX.out hb); have HBTn := Aside0.mk (HBT.out.trans (But.ofBelow hb (blk_lt BX.out))); clear BX HBT hb; have BX := BXn; have HBT := HBTn; clear BXn HBTn))
  go_ret
  exact ⟨rfl, BX.out, HBT.out⟩
end Go.Proofs.YtdgeiadlijlkmaaGreatDoor.X
namespace Go.Proofs.YtdgeiadlijlkmaaGreatDoor.X
set_option linter.unusedVariables false
section
variable {P : Program} {md : Region.Mode} {ops : Array Oper} {Q : Exit → Act → World → Prop} {S : World → Prop}
def wpAnyL (P : Program) (md : Region.Mode) (ops : Array Oper) (Q : Exit → Act → World → Prop) (S : World → Prop) (N : Nat) : Nat → Array Bool → Act → World → Prop
  | 0, listed, a, w => Region.ready md ops listed = [] ∧ Q .normal a w
  | fuel + 1, listed, a, w =>
    (Region.ready md ops listed = [] → Q .normal a w) ∧
    ∀ i ∈ Region.ready md ops listed, wpOp P ops Q i (fun a' w' => (i ≠ N → S w') ∧ wpAnyL P md ops Q S N fuel (listed.setIfInBounds i true) a' w') a w
theorem wpAny_of_L {N : Nat} : ∀ (fuel : Nat) (listed : Array Bool) (a : Act) (w : World), wpAnyL P md ops Q S N fuel listed a w → wpAny P md ops Q fuel listed a w
  | 0, _, _, _, h => h
  | fuel + 1, _, _, _, h => ⟨h.1, fun i hi => wpOp_mono (fun a' w' h' => wpAny_of_L fuel _ a' w' h'.2) (h.2 i hi)⟩
theorem wpAnyL_first {N i : Nat} {oi : Oper} {v : Value} (hi : ops[i]? = some oi) (hsel : ∀ (j : Nat) (o : Oper) cs b, ops[j]? = some o → o.op ≠ .select cs b)
    (hQ : ∀ c a w, Q (.panic c) (a.put oi.dst v) w → Q (.panic c) a w) (hN : ∀ oN, ops[N]? = some oN → ∃ e ∈ oN.after, Region.binds md e = true ∧ e.on = i) :
    ∀ (fuel : Nat) (listed : Array Bool) (a : Act) (w : World),
      (∀ j oj, ops[j]? = some oj → j ≠ i → listed.getD j true = false → (∀ e ∈ oj.after, Region.binds md e = true → e.on ≠ i) → oi.apart ops oj = true) →
      i ∈ Region.ready md ops listed → YieldsIf P ops S oi v a → S w →
      wpAnyL P md ops Q S N fuel (listed.setIfInBounds i true) (a.put oi.dst v) w → wpAnyL P md ops Q S N (fuel + 1) listed a w := by
  intro fuel
  induction fuel with
  | zero =>
    intro listed a w _ hr hy hS H
    refine ⟨fun h => (by rw [h] at hr; cases hr), fun j hj => ?_⟩
    by_cases hji : j = i
    · subst hji; exact hy.wpOp hi hS ⟨fun _ => hS, H⟩
    · have := ready_mono hj hji
      rw [H.1] at this
      cases this
  | succ fuel ih =>
    intro listed a w hfree hr hy hS H
    refine ⟨fun h => (by rw [h] at hr; cases hr), fun j hj => ?_⟩
    by_cases hji : j = i
    · subst hji; exact hy.wpOp hi hS ⟨fun _ => hS, H⟩
    · have h1 := H.2 j (ready_mono hj hji)
      obtain ⟨hjun, oj, hoj, hall⟩ := mem_ready.1 hj
      have hnot : ∀ e ∈ oj.after, Region.binds md e = true → e.on ≠ i := fun e he hb heq => by
        have h1 := hall e he hb
        have h0 := (mem_ready.1 hr).1
        rw [heq] at h1
        rcases Nat.lt_or_ge i listed.size with h' | h'
        · simp [h'] at h0 h1; rw [h0] at h1; cases h1
        · simp [Array.getElem?_eq_none h'] at h1
      have h2 := wpOp_putIf hoj (hfree j oj hoj hji hjun hnot) (fun cs b => hsel i oi cs b hi) (fun cs b => hsel j oj cs b hoj) hQ hy h1
      have hfree' : ∀ k ok, ops[k]? = some ok → k ≠ i → (listed.setIfInBounds j true).getD k true = false →
          (∀ e ∈ ok.after, Region.binds md e = true → e.on ≠ i) → oi.apart ops ok = true := fun k ok hk hki hun hno => by
        refine hfree k ok hk hki ?_ hno
        by_cases hjk : j = k
        · subst hjk; exact hjun
        · rw [getD_set_ne true hjk] at hun; exact hun
      have hjN : j ≠ N := fun e => by
        obtain ⟨x, hx, hb, hon⟩ := hN oj (e ▸ hoj)
        exact hnot x hx hb hon
      refine wpOp_mono (fun a' w' h3 => ⟨h3.2.1, ih (listed.setIfInBounds j true) a' w' hfree' (ready_mono hr (Ne.symm hji)) h3.1 (h3.2.1 hjN) ?_⟩) h2
      rw [Array.setIfInBounds_comm _ _ hji]
      exact h3.2.2
def depB (md : Region.Mode) (ops : Array Oper) (N i : Nat) : Bool := match ops[N]? with | none => true | some o => o.after.any (fun e => Region.binds md e && e.on == i)
theorem depB_spec {N i : Nat} (h : depB md ops N i = true) : ∀ oN, ops[N]? = some oN → ∃ e ∈ oN.after, Region.binds md e = true ∧ e.on = i := by
  intro oN hoN
  unfold depB at h
  rw [hoN] at h
  obtain ⟨k, hk, hx⟩ := Array.any_eq_true.1 h
  rw [Bool.and_eq_true, beq_iff_eq] at hx
  exact ⟨_, Array.getElem_mem hk, hx.1, hx.2⟩
theorem wpAnyL_take {N i : Nat} {oi : Oper} {v : Value} {fuel : Nat} {listed : Array Bool} {a : Act} {w : World} (hi : ops[i]? = some oi)
    (hs : Region.noSelect ops = true) (hf : Region.free md ops listed i = true) (hr : (Region.ready md ops listed).contains i = true) (hd : depB md ops N i = true)
    (hQ : ∀ c a w, Q (.panic c) (a.put oi.dst v) w → Q (.panic c) a w) (hy : YieldsIf P ops S oi v a) (hS : S w)
    (h : wpAnyL P md ops Q S N fuel (listed.setIfInBounds i true) (a.put oi.dst v) w) : wpAnyL P md ops Q S N (fuel + 1) listed a w :=
  wpAnyL_first hi (Region.noSelect_spec hs) hQ (depB_spec hd) fuel listed a w (Region.free_spec hi hf) (by simpa using hr) hy hS h
/-- The one operation that may come up now. -/
theorem wpAnyL_one {N i : Nat} {o : Oper} {fuel : Nat} {listed : Array Bool} {a : Act} {w : World} (hr : Region.ready md ops listed = [i]) (ho : ops[i]? = some o)
    (h : ∀ K' : Act → World → Prop, Shut (∀ a w, (i ≠ N → S w) → ((i ≠ N → S w) → wpAnyL P md ops Q S N fuel (listed.setIfInBounds i true) a w) → K' a w) → if Region.wanted o (yielded ops a.tmps) = true then Oper.wp P o a w K' Q else K' (a.put o.dst undef) w) :
    wpAnyL P md ops Q S N (fuel + 1) listed a w := by
  refine ⟨fun h0 => (by rw [h0] at hr; cases hr), fun j hj => ?_⟩
  rw [hr, List.mem_singleton] at hj
  subst hj
  exact wpOp_step ho (fun K' hK => h K' (fun a w hS hW => hK a w ⟨hS, hW hS⟩))
theorem wpAnyL_done {N : Nat} {listed : Array Bool} {a : Act} {w : World} (hr : Region.ready md ops listed = []) (h : Q .normal a w) : ∀ fuel, wpAnyL P md ops Q S N fuel listed a w
  | 0 => ⟨hr, h⟩
  | _ + 1 => ⟨fun _ => h, by rw [hr]; simp⟩
theorem wp_region_L {id : Nat} {a : Act} {w : World} (N : Nat) (hm : P.follows .mixedOrders = true) (hS : S w.drew)
    (h : S w.drew → wpAnyL P .any ops Q S N ops.size (Array.replicate ops.size false) a w.drew) : (Code.region id ops true).wp P Q a w :=
  wp_region_any hm (wpAny_of_L _ _ _ _ (h hS))
end
end Go.Proofs.YtdgeiadlijlkmaaGreatDoor.X
