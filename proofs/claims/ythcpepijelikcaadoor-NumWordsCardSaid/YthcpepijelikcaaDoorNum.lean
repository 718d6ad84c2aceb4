/- Digits and bytes of numbers: plain Lean. -/
import Derived.Test.YthcpepijelikcaaDoorB
import Derived.Lib.ParseIntBCases
import Derived.Lib.AtoiAll
import Derived.Lib.ItoaNum
import Derived.Laws.Strings
import Derived.Sort.Walk0
namespace Go.Proofs.YthcpepijelikcaaDoor.X
open Go Go.Lib
set_option linter.unusedVariables false
set_option linter.unusedSimpArgs false

def rDecL : Nat → List UInt8 → Option Nat
  | n, [] => some n
  | n, c :: r => if c.toNat < 48 ∨ 57 < c.toNat then none else if (18446744073709551615 - (c.toNat - 48)) / 10 < n then none else rDecL (10 * n + (c.toNat - 48)) r
def okOf : NumEnd Nat → Option Nat
  | .ok u => some u
  | _ => none
theorem rDecL_parse : ∀ (l : List UInt8) (n : Nat), n < 18446744073709551616 → rDecL n l = okOf (parseUint10 n l)
  | [], n, _ => rfl
  | c :: r, n, hn => by
    unfold rDecL parseUint10
    by_cases h : 48 ≤ c.toNat ∧ c.toNat ≤ 57
    · rw [if_neg (by omega), if_pos h]
      by_cases h1 : 1844674407370955162 ≤ n
      · rw [if_pos (by omega), if_pos h1]; rfl
      · rw [if_neg h1]
        by_cases h2 : 18446744073709551616 ≤ n * 10 + (c.toNat - 48)
        · rw [if_pos (by omega), if_pos h2]; rfl
        · rw [if_neg (by omega), if_neg h2, rDecL_parse r _ (by omega), Nat.mul_comm]
    · rw [if_pos (by omega), if_neg h]; rfl
/-- The digits of a text as a number, as num.Decimal and the document say. -/
def decS (s : ByteArray) : Nat × Bool :=
  if s.size = 0 ∨ 40 < s.size then (0, false) else match rDecL 0 s.data.toList with
    | some u => (u, true)
    | none => (0, false)
/-- Digits come back: what decDigits lists is the number. -/
theorem rDecL_append : ∀ (l r : List UInt8) (n : Nat), rDecL n (l ++ r) = (rDecL n l).bind fun m => rDecL m r
  | [], r, n => rfl
  | c :: l, r, n => by
    have ih := rDecL_append l r (10 * n + (c.toNat - 48))
    rw [List.cons_append, rDecL, rDecL]
    split
    · rfl
    · split
      · rfl
      · exact ih
theorem rDecL_dec : ∀ (n : Nat), n < 18446744073709551616 → rDecL 0 (decDigits n) = some n := by
  intro n
  induction n using Nat.strongRecOn with
  | _ n ih =>
    intro hn
    rw [decDigits]
    split
    · have e : (UInt8.ofNat (48 + n)).toNat = 48 + n := by simp; omega
      unfold rDecL
      rw [e, if_neg (by omega), if_neg (by omega)]
      unfold rDecL
      congr 1; omega
    · rw [rDecL_append, ih (n / 10) (by omega) (by omega)]
      have e : (UInt8.ofNat (48 + n % 10)).toNat = 48 + n % 10 := by simp; omega
      show rDecL (n / 10) [_] = _
      unfold rDecL
      rw [e, if_neg (by omega), if_neg (by omega)]
      unfold rDecL
      congr 1; omega
theorem rDecL_zeros : ∀ (k : Nat) (l : List UInt8), rDecL 0 (List.replicate k 48 ++ l) = rDecL 0 l
  | 0, l => rfl
  | k + 1, l => by
    show rDecL 0 (48 :: (List.replicate k 48 ++ l)) = _
    rw [rDecL, if_neg (by decide), if_neg (by decide)]
    exact rDecL_zeros k l
/-- Bytes. -/
def getN (n : Nat) (l : List Nat) : Nat := l.foldl (fun n c => (n * 256 + c) % 18446744073709551616) n
theorem getN_append (n : Nat) (a b : List Nat) : getN n (a ++ b) = getN (getN n a) b := by unfold getN; rw [List.foldl_append]
def putN (n : Nat) : Nat → List Nat
  | 0 => []
  | k + 1 => putN (n / 256) k ++ [n % 256]
theorem putN_length (n : Nat) : ∀ k, (putN n k).length = k := by
  intro k; induction k generalizing n with
  | zero => rfl
  | succ k ih => simp [putN, ih]
theorem getN_putN : ∀ (k n : Nat), n < 256 ^ k → k ≤ 8 → getN 0 (putN n k) = n
  | 0, n, h, _ => by simp at h; subst h; rfl
  | k + 1, n, h, hk => by
    have hp : n / 256 < 256 ^ k := by rw [Nat.pow_succ] at h; omega
    have h8 : 256 ^ (k + 1) ≤ 256 ^ 8 := Nat.pow_le_pow_right (by omega) hk
    have e8 : 256 ^ 8 = 18446744073709551616 := by decide
    rw [putN, getN_append, getN_putN k _ hp (by omega)]
    show (n / 256 * 256 + n % 256) % 18446744073709551616 = n
    omega
theorem getN_lin : ∀ (b : List Nat) (n : Nat), getN n b = (n * 256 ^ b.length + getN 0 b) % 18446744073709551616 ∨ b = []
  | [], n => Or.inr rfl
  | c :: b, n => by
    left
    show getN ((n * 256 + c) % 18446744073709551616) b = (n * 256 ^ (b.length + 1) + getN ((0 * 256 + c) % 18446744073709551616) b) % 18446744073709551616
    rcases getN_lin b ((n * 256 + c) % 18446744073709551616) with h | h
    · rcases getN_lin b ((0 * 256 + c) % 18446744073709551616) with h2 | h2
      · rw [h, h2, Nat.pow_succ]
        rw [Nat.add_mod, Nat.mul_mod, Nat.mod_mod, ← Nat.mul_mod, ← Nat.add_mod]
        conv => rhs; rw [Nat.add_mod, Nat.mod_mod, ← Nat.add_mod, Nat.add_mod, Nat.add_mod (((0 * 256 + c) % 18446744073709551616) * 256 ^ b.length), Nat.mul_mod ((0 * 256 + c) % 18446744073709551616), Nat.mod_mod, ← Nat.mul_mod, ← Nat.add_mod (((0 * 256 + c)) * 256 ^ b.length), ← Nat.add_mod]
        congr 1
        rw [Nat.zero_mul, Nat.zero_add, Nat.add_mul, Nat.mul_assoc, Nat.mul_comm 256, Nat.add_assoc]
      · subst h2; simp [getN]
    · subst h; simp [getN]
theorem decDigits_mono : ∀ (b a : Nat), a ≤ b → (decDigits a).length ≤ (decDigits b).length := by
  intro b
  induction b using Nat.strongRecOn with
  | _ b ih =>
    intro a h
    by_cases ha : a < 10
    · rw [decDigits_one ha]
      rw [decDigits_length]
      show 1 ≤ _
      rcases Nat.lt_or_ge b 10 with hb | hb
      · rw [nDigits_small hb]; exact Nat.le_refl _
      · rw [nDigits_big (by omega)]; omega
    · have e1 := nDigits_big ha
      have e2 := nDigits_big (show ¬ b < 10 by omega)
      have := ih (b / 10) (by omega) (a / 10) (by omega)
      rw [decDigits_length, decDigits_length] at this ⊢
      omega
theorem lt_snoc : ∀ (x y : List UInt8) (a b : UInt8), x.length = y.length → ((x ++ [a] < y ++ [b]) ↔ (x < y ∨ (x = y ∧ a < b)))
  | [], [], a, b, _ => by simp [List.cons_lt_cons_iff]
  | c :: x, d :: y, a, b, hl => by
    have ih := lt_snoc x y a b (by simpa using hl)
    clear hl
    simp only [List.cons_append, List.cons_lt_cons_iff, ih, List.cons.injEq]
    constructor
    · rintro (h | ⟨rfl, h | ⟨rfl, h⟩⟩)
      · exact Or.inl (Or.inl h)
      · exact Or.inl (Or.inr ⟨rfl, h⟩)
      · exact Or.inr ⟨⟨rfl, rfl⟩, h⟩
    · rintro ((h | ⟨rfl, h⟩) | ⟨⟨rfl, rfl⟩, h⟩)
      · exact Or.inl h
      · exact Or.inr ⟨rfl, Or.inl h⟩
      · exact Or.inr ⟨rfl, Or.inr ⟨rfl, h⟩⟩
  | [], _ :: _, _, _, h => by simp at h
  | _ :: _, [], _, _, h => by simp at h
def putB (n : Nat) : Nat → List UInt8
  | 0 => []
  | k + 1 => putB (n / 256) k ++ [UInt8.ofNat (n % 256)]
theorem putB_length (k : Nat) : ∀ n, (putB n k).length = k := by
  induction k with
  | zero => intro n; rfl
  | succ k ih => intro n; simp [putB, ih]
theorem ofNat_lt {a b : Nat} (ha : a < 256) (hb : b < 256) : UInt8.ofNat a < UInt8.ofNat b ↔ a < b := by
  rw [UInt8.lt_iff_toNat_lt]
  simp
  omega
theorem putB_inj : ∀ (k a b : Nat), a < 256 ^ k → b < 256 ^ k → (putB a k = putB b k ↔ a = b)
  | 0, a, b, ha, hb => by simp at ha hb; subst ha; subst hb; simp
  | k + 1, a, b, ha, hb => by
    have ih := putB_inj k (a / 256) (b / 256) (by rw [Nat.pow_succ] at ha; omega) (by rw [Nat.pow_succ] at hb; omega)
    constructor
    · intro h
      obtain ⟨h1, h2⟩ := List.append_inj' h rfl
      have h3 := ih.1 h1
      have h4 : UInt8.ofNat (a % 256) = UInt8.ofNat (b % 256) := by simpa using h2
      have h5 := congrArg UInt8.toNat h4
      simp at h5
      omega
    · rintro rfl; rfl
theorem putB_lt : ∀ (k a b : Nat), a < 256 ^ k → b < 256 ^ k → (putB a k < putB b k ↔ a < b)
  | 0, a, b, ha, hb => by simp at ha hb; subst ha; subst hb; simp [putB]
  | k + 1, a, b, ha, hb => by
    have ha' : a / 256 < 256 ^ k := by rw [Nat.pow_succ] at ha; omega
    have hb' : b / 256 < 256 ^ k := by rw [Nat.pow_succ] at hb; omega
    show (putB (a / 256) k ++ [_] < putB (b / 256) k ++ [_]) ↔ _
    rw [lt_snoc _ _ _ _ (by rw [putB_length, putB_length]), putB_lt k _ _ ha' hb', putB_inj k _ _ ha' hb', ofNat_lt (Nat.mod_lt _ (by omega)) (Nat.mod_lt _ (by omega))]
    omega
end Go.Proofs.YthcpepijelikcaaDoor.X
