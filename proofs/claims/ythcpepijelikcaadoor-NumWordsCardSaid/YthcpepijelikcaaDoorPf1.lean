/- What num's and the reference's functions on bytes compute: plain Lean on the printed functions. -/
import Derived.Test.YthcpepijelikcaaDoorFn1
import Derived.Laws.BitsLemmas
import Derived.Laws.Bits64
namespace Go.Proofs.YthcpepijelikcaaDoor.X
open Go.RowKit Go.Proofs.YthcpepijelikcaaDoorW.PrintWords Go.Proofs.YthcpepijelikcaaDoorW.PrintMore
set_option linter.unusedVariables false
set_option linter.unusedSimpArgs false

theorem w64 (n : Int) (h0 : -9223372036854775808 ≤ n) (h1 : n ≤ 9223372036854775807) : wrap64 n = n := by unfold wrap64; omega
def raw (n : Int) : List Int → Int
  | [] => n
  | c :: l => raw (n * 256 + c) l
theorem raw_lin : ∀ (l : List Int) (n : Int), raw n l = n * 256 ^ l.length + raw 0 l
  | [], n => by simp [raw]
  | c :: l, n => by
    show raw (n * 256 + c) l = _
    rw [raw_lin l (n * 256 + c)]
    show _ = _ + raw (0 * 256 + c) l
    rw [raw_lin l (0 * 256 + c), List.length_cons, Int.pow_succ, Int.add_mul, Int.add_mul, Int.zero_mul, Int.zero_mul, Int.mul_assoc, Int.mul_comm 256 (256 ^ l.length)]
    omega
theorem raw_snoc : ∀ (l : List Int) (n c : Int), raw n (l ++ [c]) = raw n l * 256 + c
  | [], n, c => rfl
  | d :: l, n, c => raw_snoc l (n * 256 + d) c
theorem raw_append : ∀ (a : List Int) (n : Int) (b : List Int), raw n (a ++ b) = raw (raw n a) b
  | [], n, b => rfl
  | d :: l, n, b => raw_append l (n * 256 + d) b
def M64 : Int := 18446744073709551616
theorem shl_or (x c : Int) (h0 : 0 ≤ c) (h1 : c < 256) : Go.bits .or .u64 (IntKind.u64.wrap (x % 18446744073709551616 * 256)) (IntKind.u64.wrap c) = (x * 256 + c) % 18446744073709551616 := by
  rw [IntKind.wrap_u64, IntKind.wrap_u64, bits_join .u64 64 (by decide) (fun n a b => by rw [IntKind.wrap_u64]; have : (2 : Int) ^ 64 = 18446744073709551616 := by decide
                                                                                         omega) 8 _ _ (by omega) (by have : (2 : Int) ^ 8 = 256 := by decide
                                                                                                                     omega) (by have : (2 : Int) ^ 64 = 18446744073709551616 := by decide
                                                                                                                                omega) (by omega) (by have : (2 : Int) ^ 8 = 256 := by decide
                                                                                                                                                      omega) (by have : (2 : Int) ^ 64 = 18446744073709551616 := by decide
                                                                                                                                                                 omega)]
  omega
theorem get_l0 (l : List Int) (hl : l.length ≤ 9223372036854775806) (hb : ∀ c ∈ l, 0 ≤ c ∧ c < 256) : ∀ (d i : Nat) (x : Int), i + d = l.length → ∃ K, num_Get.l0 K (x % 18446744073709551616) l l.length i = some (raw x (l.drop i) % 18446744073709551616)
  | 0, i, x, hd => by
    refine ⟨1, ?_⟩
    unfold num_Get.l0
    rw [if_neg (by omega), List.drop_eq_nil_of_le (by omega)]
    rfl
  | d + 1, i, x, hd => by
    have hi : i < l.length := by omega
    obtain ⟨K, hK⟩ := get_l0 l hl hb d (i + 1) (x * 256 + l[i]) (by omega)
    refine ⟨K + 1, ?_⟩
    unfold num_Get.l0
    have hr : rd l (i : Int) = l[i] := by unfold rd; rw [Int.toNat_natCast, List.getD_eq_getElem?_getD, List.getElem?_eq_getElem hi]; rfl
    have hc := hb l[i] (List.getElem_mem hi)
    rw [if_pos (by omega), if_pos (by omega), if_pos (by omega), hr, shl_or x _ hc.1 hc.2, w64 _ (by omega) (by omega), List.drop_eq_getElem_cons hi]
    exact hK
theorem get_f (l : List Int) (hl : l.length ≤ 9223372036854775806) (hb : ∀ c ∈ l, 0 ≤ c ∧ c < 256) : Ev (fun k => num_Get.f k l) (raw 0 l % 18446744073709551616) := by
  obtain ⟨K, hK⟩ := get_l0 l hl hb l.length 0 0 (by omega)
  exact Ev.of (num_Get.mono l) (k := K) hK
theorem rget_l0 (l : List Int) (hl : l.length ≤ 9223372036854775806) (hb : ∀ c ∈ l, 0 ≤ c ∧ c < 256) : ∀ (d i : Nat) (x : Int), i + d = l.length → ∃ K, butteryref01_Get.l0 K l (x % 18446744073709551616) i = some (raw x (l.drop i) % 18446744073709551616)
  | 0, i, x, hd => by
    refine ⟨1, ?_⟩
    unfold butteryref01_Get.l0
    rw [if_neg (by omega), List.drop_eq_nil_of_le (by omega)]
    rfl
  | d + 1, i, x, hd => by
    have hi : i < l.length := by omega
    obtain ⟨K, hK⟩ := rget_l0 l hl hb d (i + 1) (x * 256 + l[i]) (by omega)
    refine ⟨K + 1, ?_⟩
    unfold butteryref01_Get.l0
    have hr : rd l (i : Int) = l[i] := by unfold rd; rw [Int.toNat_natCast, List.getD_eq_getElem?_getD, List.getElem?_eq_getElem hi]; rfl
    have hc := hb l[i] (List.getElem_mem hi)
    have e : IntKind.u64.wrap (IntKind.u64.wrap (x % 18446744073709551616 * 256) + IntKind.u64.wrap l[i]) = (x * 256 + l[i]) % 18446744073709551616 := by
      rw [IntKind.wrap_u64, IntKind.wrap_u64, IntKind.wrap_u64]; omega
    rw [if_pos (by omega), if_pos (by omega), hr, e, w64 _ (by omega) (by omega), List.drop_eq_getElem_cons hi]
    exact hK
theorem rget_f (l : List Int) (hl : l.length ≤ 9223372036854775806) (hb : ∀ c ∈ l, 0 ≤ c ∧ c < 256) : Ev (fun k => butteryref01_Get.f k l) (raw 0 l % 18446744073709551616) := by
  obtain ⟨K, hK⟩ := rget_l0 l hl hb l.length 0 0 (by omega)
  exact Ev.of (butteryref01_Get.mono l) (k := K) hK

def pI (n : Nat) : Nat → List Int
  | 0 => []
  | k + 1 => pI (n / 256) k ++ [((n % 256 : Nat) : Int)]
theorem pI_len : ∀ (k n : Nat), (pI n k).length = k
  | 0, n => rfl
  | k + 1, n => by simp [pI, pI_len k]
theorem pI_cons : ∀ (k n : Nat), pI n (k + 1) = ((n / 256 ^ k % 256 : Nat) : Int) :: pI n k
  | 0, n => by simp [pI]
  | k + 1, n => by
    show pI (n / 256) (k + 1) ++ _ = _ :: (pI (n / 256) k ++ _)
    rw [pI_cons k (n / 256), Nat.div_div_eq_div_mul, Nat.pow_succ, Nat.mul_comm 256]
    rfl
theorem pI_bytes : ∀ (k n : Nat), ∀ c ∈ pI n k, 0 ≤ c ∧ c < 256
  | 0, n, c, h => by cases h
  | k + 1, n, c, h => by
    rcases List.mem_append.1 h with h | h
    · exact pI_bytes k _ c h
    · obtain rfl := List.mem_singleton.1 h
      omega
theorem raw_pI : ∀ (k n : Nat), raw 0 (pI n k) = ((n % 256 ^ k : Nat) : Int)
  | 0, n => by simp [pI, raw]
  | k + 1, n => by
    rw [pI, raw_snoc, raw_pI k, Nat.pow_succ, Nat.mul_comm (256 ^ k), Nat.mod_mul]
    omega
theorem pI_putB : ∀ (k n : Nat), (pI n k).map (fun c => UInt8.ofNat c.toNat) = putB n k
  | 0, n => rfl
  | k + 1, n => by
    rw [pI, List.map_append, pI_putB k]
    rfl
theorem put_l0 (u k : Nat) (hk : k ≤ 8) : ∀ (d i : Nat), i + d = k → ∃ K, num_put.l0 K u k (List.replicate d 0 ++ pI u i) k i = some (pI u k)
  | 0, i, hd => by
    refine ⟨1, ?_⟩
    unfold num_put.l0
    obtain rfl : i = k := by omega
    rw [if_neg (by omega)]
    rfl
  | d + 1, i, hd => by
    obtain ⟨K, hK⟩ := put_l0 u k hk d (i + 1) (by omega)
    refine ⟨K + 1, ?_⟩
    have e1 : wrap64 (8 * (i : Int)) = ((8 * i : Nat) : Int) := by rw [w64 _ (by omega) (by omega)]; omega
    have e2 : wrap64 (wrap64 ((k : Int) - 1) - i) = (d : Int) := by rw [w64 ((k : Int) - 1) (by omega) (by omega), w64 _ (by omega) (by omega)]; omega
    have e3 : shr .u64 (u : Int) ((8 * i : Nat) : Int) % 256 = ((u / 256 ^ i % 256 : Nat) : Int) := by
      unfold shr
      have h2 : (2 : Int) ^ (8 * i) = ((256 ^ i : Nat) : Int) := by
        have h3 : (256 : Nat) ^ i = 2 ^ (8 * i) := by rw [Nat.pow_mul]
        rw [h3]
        simp
      rw [Int.toNat_natCast, show min (8 * i) IntKind.u64.bits = 8 * i by show min (8 * i) 64 = _; omega, h2]
      rfl
    unfold num_put.l0
    rw [if_pos (by omega), e1, e2, if_pos (by omega), if_pos (by omega), if_pos (by rw [List.length_append, List.length_replicate]; omega), e3, w64 _ (by omega) (by omega), Int.toNat_natCast]
    have e4 : (List.replicate (d + 1) (0 : Int) ++ pI u i).set d ((u / 256 ^ i % 256 : Nat) : Int) = List.replicate d 0 ++ pI u (i + 1) := by
      rw [List.replicate_succ', List.append_assoc, List.set_append_right _ _ (by simp), List.length_replicate, Nat.sub_self, pI_cons]
      rfl
    rw [e4]
    exact hK
theorem put_f (u k : Nat) (hk : k ≤ 8) : Ev (fun K => num_put.f K u k) (pI u k) := by
  obtain ⟨K, hK⟩ := put_l0 u k hk k 0 (by omega)
  refine Ev.of (num_put.mono _ _) (k := K) ?_
  show num_put.f K u k = _
  unfold num_put.f
  rw [if_pos (by omega), if_pos (by omega), Int.toNat_natCast]
  simpa [pI] using hK
theorem set_mid (i : Nat) (T : List Int) (v : Int) : (List.replicate (i + 1) (0 : Int) ++ T).set i v = List.replicate i 0 ++ v :: T := by
  rw [List.replicate_succ', List.append_assoc, List.set_append_right _ _ (by simp), List.length_replicate, Nat.sub_self]
  rfl
theorem rput_l0 : ∀ (i u : Nat) (T : List Int), i ≤ 8 → u < 18446744073709551616 → ∃ K, butteryref01_Put.l0 K u (List.replicate i 0 ++ T) ((i : Int) - 1) = some (pI u i ++ T)
  | 0, u, T, h, hu => by
    refine ⟨1, ?_⟩
    unfold butteryref01_Put.l0
    rw [if_neg (by omega)]
    rfl
  | i + 1, u, T, h, hu => by
    obtain ⟨K, hK⟩ := rput_l0 i (u / 256) (((u % 256 : Nat) : Int) :: T) (by omega) (by omega)
    refine ⟨K + 1, ?_⟩
    unfold butteryref01_Put.l0
    have e0 : ((i + 1 : Nat) : Int) - 1 = (i : Int) := by omega
    have e1 : Int.tmod (u : Int) 256 % 256 = ((u % 256 : Nat) : Int) := by rw [Int.tmod_eq_emod_of_nonneg (by omega)]; omega
    have e2 : IntKind.u64.wrap (Int.tdiv (u : Int) 256) = ((u / 256 : Nat) : Int) := by rw [IntKind.wrap_u64, Int.tdiv_eq_ediv_of_nonneg (by omega)]; omega
    rw [e0, if_pos (by omega), if_pos (by omega), if_pos (by simp; omega), Int.toNat_natCast, e1, e2, w64 _ (by omega) (by omega), set_mid, hK, pI, List.append_assoc]
    rfl
theorem rput_f (u k : Nat) (hk : k ≤ 8) (hu : u < 18446744073709551616) : Ev (fun K => butteryref01_Put.f K u k) (pI u k) := by
  obtain ⟨K, hK⟩ := rput_l0 k u [] hk hu
  refine Ev.of (butteryref01_Put.mono _ _) (k := K) ?_
  show butteryref01_Put.f K u k = _
  unfold butteryref01_Put.f
  rw [if_pos (by omega), if_pos (by omega), Int.toNat_natCast, w64 _ (by omega) (by omega)]
  simpa using hK
theorem Ev.bind {α β : Type} {g : Nat → Option α} {f : Nat → α → Option β} {r : α} {q : β} (h : Ev g r) (h2 : Ev (fun k => f k r) q) : Ev (fun k => (g k).bind (f k)) q := by
  obtain ⟨K, hK⟩ := h
  obtain ⟨K2, hK2⟩ := h2
  refine ⟨K + K2, fun k hk => ?_⟩
  show (g k).bind (f k) = _
  rw [hK k (by omega)]
  exact hK2 k (by omega)
theorem Ev.pure {α : Type} {r : α} : Ev (fun _ => some r) r := ⟨0, fun _ _ => rfl⟩
theorem Ev.some {α : Type} {o : Option α} {r : α} (h : o = some r) : Ev (fun _ => o) r := ⟨0, fun _ _ => h⟩
theorem u64_id (u : Nat) (hu : u < 18446744073709551616) : IntKind.u64.wrap (u : Int) = u := by rw [IntKind.wrap_u64]; omega
theorem put16_f (u : Nat) (hu : u < 18446744073709551616) : Ev (fun K => num_Put16.f K u) (pI u 2) := by
  show Ev (fun K => (num_put.f K (IntKind.u64.wrap (u : Int)) 2).bind fun t => some t) _
  rw [u64_id u hu]
  exact Ev.bind (put_f u 2 (by omega)) Ev.pure
theorem put32_f (u : Nat) (hu : u < 18446744073709551616) : Ev (fun K => num_Put32.f K u) (pI u 4) := by
  show Ev (fun K => (num_put.f K (IntKind.u64.wrap (u : Int)) 4).bind fun t => some t) _
  rw [u64_id u hu]
  exact Ev.bind (put_f u 4 (by omega)) Ev.pure
theorem put64_f (u : Nat) : Ev (fun K => num_Put64.f K u) (pI u 8) := Ev.bind (put_f u 8 (by omega)) Ev.pure
end Go.Proofs.YthcpepijelikcaaDoor.X
