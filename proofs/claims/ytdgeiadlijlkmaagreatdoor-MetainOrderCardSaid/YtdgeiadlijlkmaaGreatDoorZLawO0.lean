/- MetainOrder: its walk. -/
import Derived.Test.YtdgeiadlijlkmaaGreatDoorZLawE0
namespace Go.Proofs.YtdgeiadlijlkmaaGreatDoor.X
open Go.RowKit Go.Proofs.YtdgeiadlijlkmaaGreatDoorW.PrintWords Go.Proofs.YtdgeiadlijlkmaaGreatDoorW.PrintMore Go.Proofs.YtdgeiadlijlkmaaGreatDoorW.PrintLast
set_option linter.unusedVariables false
set_option linter.unusedSimpArgs false
/-- The digits that are written when y is left. -/
def DigR (u y : Nat) (s : ByteArray) : Prop := s.size ≤ 20 ∧ if y = 0 then s = (if u = 0 then ⟨#[]⟩ else baOf (Lib.decDigits u)) else ∃ l, s = baOf l ∧ Lib.decDigits u = Lib.decDigits y ++ l
theorem dig_start (u : Nat) : DigR u u ⟨#[]⟩ := by
  refine ⟨by decide, ?_⟩
  by_cases h : u = 0
  · rw [if_pos h, if_pos h]
  · rw [if_neg h]
    exact ⟨[], rfl, by simp⟩
theorem ba_size (l : List UInt8) : (baOf l).size = l.length := by unfold baOf; simp [ByteArray.size]
theorem dig_step {u y : Nat} {s : ByteArray} (h : DigR u y s) (hy : 0 < y) (hu : u ≤ 1000000000) (hyu : y ≤ u) : DigR u (y / 10) (⟨#[UInt8.ofNat (48 + y % 10)]⟩ ++ s) := by
  obtain ⟨-, h⟩ := h
  rw [if_neg (by omega)] at h
  obtain ⟨l, rfl, h⟩ := h
  have e0 : (⟨#[UInt8.ofNat (48 + y % 10)]⟩ ++ baOf l : ByteArray) = baOf (UInt8.ofNat (48 + y % 10) :: l) := by
    apply ByteArray.ext
    apply Array.ext'
    rw [ByteArray.data_append, Array.toList_append]
    rfl
  have hd := dig_len u (by omega)
  have key : Lib.decDigits u = (if y / 10 = 0 then [] else Lib.decDigits (y / 10)) ++ UInt8.ofNat (48 + y % 10) :: l := by
    rw [h]
    by_cases h10 : y < 10
    · rw [if_pos (by omega), Lib.decDigits_one h10, Nat.mod_eq_of_lt h10]
      rfl
    · rw [if_neg (by omega), Lib.decDigits, dif_neg h10]
      simp
  rw [e0]
  refine ⟨?_, ?_⟩
  · rw [ba_size]
    have := congrArg List.length key
    rw [List.length_append] at this
    omega
  · by_cases h0 : y / 10 = 0
    · rw [if_pos h0, if_neg (by omega)]
      rw [if_pos h0] at key
      rw [key]
      rfl
    · rw [if_neg h0]
      rw [if_neg h0] at key
      exact ⟨_, rfl, key⟩
/-- The bytes ahead of one that are neither blank nor an end. -/
def CleanK (s : ByteArray) (k : Nat) : Prop := ∀ j (h : j < s.size), j < k → s[j] ≠ 32 ∧ s[j] ≠ 10
theorem cleank_step {s : ByteArray} {k : Nat} (h : CleanK s k) (hk : k < s.size) (h1 : ¬ (s[k].toNat : Int) = 32) (h2 : ¬ (s[k].toNat : Int) = 10) : CleanK s (k + 1) := fun j hj hjk => by
  by_cases e : j = k
  · subst e
    exact ⟨fun e => h1 (by rw [e]; rfl), fun e => h2 (by rw [e]; rfl)⟩
  · exact h j hj (by omega)
theorem cleank_all {s : ByteArray} (h : CleanK s s.size) : ∀ b ∈ s.data.toList, b ≠ 32 ∧ b ≠ 10 := fun b hb => by
  obtain ⟨j, hj, rfl⟩ := List.mem_iff_getElem.1 hb
  exact h j hj hj
theorem lineA_bytes (k : ByteArray) (u : Nat) (t : Bool) : bytesOf (((((⟨#[109, 103, 32]⟩ ++ k) ++ ⟨#[32, 113, 32]⟩) ++ ⟨#[timeT t]⟩) ++ baOf (Lib.decDigits u)) ++ ⟨#[13, 10]⟩ : ByteArray) = numsL (lineA k.data.toList u t) ++ [13, 10] := by
  have e : (((((⟨#[109, 103, 32]⟩ ++ k) ++ ⟨#[32, 113, 32]⟩) ++ ⟨#[timeT t]⟩) ++ baOf (Lib.decDigits u)) ++ ⟨#[13, 10]⟩ : ByteArray).data.toList = lineA k.data.toList u t ++ [13, 10] := by
    simp only [ByteArray.data_append, Array.toList_append]
    unfold lineA baOf
    rfl
  unfold bytesOf
  rw [e]
  unfold numsL
  rw [List.map_append]
  rfl
theorem lineB_bytes (k : ByteArray) (u : Nat) (t : Bool) : bytesOf (((((⟨#[109, 103, 32]⟩ ++ k) ++ ⟨#[32]⟩) ++ ⟨#[timeT t]⟩) ++ baOf (Lib.decDigits u)) ++ ⟨#[32, 113, 13, 10]⟩ : ByteArray) = numsL (lineB k.data.toList u t) ++ [13, 10] := by
  have e : (((((⟨#[109, 103, 32]⟩ ++ k) ++ ⟨#[32]⟩) ++ ⟨#[timeT t]⟩) ++ baOf (Lib.decDigits u)) ++ ⟨#[32, 113, 13, 10]⟩ : ByteArray).data.toList = lineB k.data.toList u t ++ [13, 10] := by
    simp only [ByteArray.data_append, Array.toList_append]
    unfold lineB baOf
    simp
  unfold bytesOf
  rw [e]
  unfold numsL
  rw [List.map_append]
  rfl
theorem str_one (b : UInt8) : strOfNums [(b.toNat : Int)] = ⟨#[b]⟩ := str_nums [b]
theorem dig_byte (y : Nat) : strOfNums [48 + (y : Int) % 10] = ⟨#[UInt8.ofNat (48 + y % 10)]⟩ := by
  have : (((UInt8.ofNat (48 + y % 10)).toNat : Nat) : Int) = 48 + (y : Int) % 10 := by
    rw [UInt8.toNat_ofNat']
    omega
  rw [← this]
  exact str_one _
theorem ba_self (k : ByteArray) : baOf k.data.toList = k := by
  unfold baOf
  rw [Array.toArray_toList]
def stepK (k : ByteArray) (u : Nat) (t : Bool) (n : Int) : Step := stepO n { fmM (⟨#[109, 103]⟩ : ByteArray) k with quiet := true } { cmdT u t with key := k }
theorem order_p (k : ByteArray) (u : Nat) (t : Bool) (hu : u ≤ 1000000000) (hk0 : 1 ≤ k.size) (hk3 : k.size ≤ 300) (hc : CleanK k k.size) : ∃ n, parseMP (bytesOf (((((⟨#[109, 103, 32]⟩ ++ k) ++ ⟨#[32, 113, 32]⟩) ++ ⟨#[timeT t]⟩) ++ baOf (Lib.decDigits u)) ++ ⟨#[13, 10]⟩ : ByteArray)) = (if keyS k = true then stepK k u t n else stepFS n badT 0 false) ∧ parseMP (bytesOf (((((⟨#[109, 103, 32]⟩ ++ k) ++ ⟨#[32]⟩) ++ ⟨#[timeT t]⟩) ++ baOf (Lib.decDigits u)) ++ ⟨#[32, 113, 13, 10]⟩ : ByteArray)) = (if keyS k = true then stepK k u t n else stepFS n badT 0 false) := by
  have hl : k.data.toList.length = k.size := rfl
  have h := order_law k.data.toList u t hu (fun e => by rw [e] at hl; simp at hl; omega) (cleank_all hc) (by omega)
  unfold orderS orderF orderC at h
  rw [ba_self] at h
  rw [lineA_bytes, lineB_bytes]
  exact ⟨_, h⟩
theorem size_E (k W N : ByteArray) (h1 : k.size ≤ 300) (h2 : W.size ≤ 1) (h3 : N.size ≤ 20) : (((((⟨#[109, 103, 32]⟩ ++ k) ++ ⟨#[32, 113, 32]⟩) ++ W) ++ N) ++ ⟨#[13, 10]⟩ : ByteArray).size ≤ 1000 ∧ (((((⟨#[109, 103, 32]⟩ ++ k) ++ ⟨#[32]⟩) ++ W) ++ N) ++ ⟨#[32, 113, 13, 10]⟩ : ByteArray).size ≤ 1000 := by
  simp only [ByteArray.size_append]
  have a1 : (⟨#[109, 103, 32]⟩ : ByteArray).size = 3 := rfl
  have a2 : (⟨#[32, 113, 32]⟩ : ByteArray).size = 3 := rfl
  have a3 : (⟨#[13, 10]⟩ : ByteArray).size = 2 := rfl
  have a4 : (⟨#[32]⟩ : ByteArray).size = 1 := rfl
  have a5 : (⟨#[32, 113, 13, 10]⟩ : ByteArray).size = 4 := rfl
  omega
end Go.Proofs.YtdgeiadlijlkmaaGreatDoor.X
