/- TextoutMany: the walk. -/
import Derived.Test.YtkolleohenjhmaaDoorPAnswers
namespace Go.Proofs.YtkolleohenjhmaaDoor.X
open Go.RowKit Go.Proofs.YtkolleohenjhmaaDoorW.PrintWords Go.Proofs.YtkolleohenjhmaaDoorW.PrintMore
set_option linter.unusedVariables false
set_option linter.unusedSimpArgs false

theorem get_all (c : S38) (cs : List S38) (a5 a6 : Bool) (l1 : List S40) (h : c.f0 = 0) : strOfNums (encI (c :: cs) a5 a6 l1) = strOfNums (valP a6 (c :: cs) l1) ++ (⟨#[69, 78, 68, 13, 10]⟩ : ByteArray) := by
  rw [encI_cons, if_pos (Or.inl h), strOfNums_app, strOfNums_bytesOf]
  unfold lineB
  rw [joinB_one]
  rfl
theorem valP_cut (cas : Bool) (c : S38) (cs : List S38) (x : S40) (xs : List S40) : strOfNums (valP cas (c :: cs) (x :: xs)) = strOfNums (valP cas [c] [x]) ++ strOfNums (valP cas cs xs) := by
  show strOfNums ((if x.f0 = 0 then pieceI cas c x else []) ++ valP cas cs xs) = strOfNums ((if x.f0 = 0 then pieceI cas c x else []) ++ []) ++ _
  rw [List.append_nil, strOfNums_app]
theorem q_cells {W : World} {q : Nat} {v0 v1 v2 v3 v4 v5 v6 v7 v8 v9 v10 : Value} {t : TypeId} (hB : W.heap[q]? = some (.cells #[v0, v1, v2, v3, v4, v5, v6, v7, v8, v9, v10] t (0, 0))) : (W.cell? ⟨q, 0, none⟩ = some v0 ∧ W.cell? ⟨q, 1, none⟩ = some v1 ∧ W.cell? ⟨q, 2, none⟩ = some v2 ∧ W.cell? ⟨q, 3, none⟩ = some v3 ∧ W.cell? ⟨q, 4, none⟩ = some v4 ∧ W.cell? ⟨q, 5, none⟩ = some v5 ∧ W.cell? ⟨q, 6, none⟩ = some v6 ∧ W.cell? ⟨q, 7, none⟩ = some v7 ∧ W.cell? ⟨q, 8, none⟩ = some v8 ∧ W.cell? ⟨q, 9, none⟩ = some v9 ∧ W.cell? ⟨q, 10, none⟩ = some v10) ∧ q < W.heap.size := ⟨⟨blk_cells hB 0 _ rfl, blk_cells hB 1 _ rfl, blk_cells hB 2 _ rfl, blk_cells hB 3 _ rfl, blk_cells hB 4 _ rfl, blk_cells hB 5 _ rfl, blk_cells hB 6 _ rfl, blk_cells hB 7 _ rfl, blk_cells hB 8 _ rfl, blk_cells hB 9 _ rfl, blk_cells hB 10 _ rfl⟩, (Array.getElem?_eq_some_iff.1 hB).1⟩
theorem some_of {α : Type} {d : Kd α} {w : World} {A : Option Addr} {l : List α} (h : d.C w A l.length l) (hl : 0 < l.length) (hd : 0 < d.sz) : ∃ b o, A = some ⟨b, o, none⟩ ∧ b < w.heap.size := by
  obtain ⟨ad, rfl, hc⟩ := h.2.2 hl
  obtain ⟨cs, hlen, hK, hcell⟩ := hc 0 _ (List.getElem?_eq_getElem hl)
  have := hcell 0 _ (List.getElem?_eq_getElem (show 0 < cs.length by omega))
  rw [Nat.zero_mul, Nat.zero_add, Addr.add_zero'] at this
  obtain ⟨b, o, rfl, hb⟩ := addr_plain this
  exact ⟨b, o, rfl, hb⟩
theorem ext_tail (p q : ByteArray) : (p ++ q).extract p.size (p.size + q.size) = q := by
  obtain ⟨⟨l⟩⟩ := p
  obtain ⟨⟨m⟩⟩ := q
  apply ByteArray.ext
  have e2 : (⟨⟨l⟩⟩ : ByteArray).size = l.length := by simp [ByteArray.size]
  have e3 : (⟨⟨m⟩⟩ : ByteArray).size = m.length := by simp [ByteArray.size]
  simp [ByteArray.data_extract, ByteArray.data_append, e2, e3]
theorem ext_head (p q : ByteArray) : (p ++ q).extract 0 p.size = p := by
  obtain ⟨⟨l⟩⟩ := p
  obtain ⟨⟨m⟩⟩ := q
  apply ByteArray.ext
  have e2 : (⟨⟨l⟩⟩ : ByteArray).size = l.length := by simp [ByteArray.size]
  simp [ByteArray.data_extract, ByteArray.data_append, e2]
theorem okl_sub {l0 m0 : List S38} {l1 m1 : List S40} (h : Okl l0 l1) (h0 : ∀ c ∈ m0, c ∈ l0) (h1 : ∀ x ∈ m1, x ∈ l1) (hl : m1.length ≤ l1.length) : Okl m0 m1 := by
  obtain ⟨o1, o2, o3⟩ := okV_at h.1
  refine ⟨?_, fun x hx => h.2 x (h1 x hx)⟩
  unfold okV
  simp only [Bool.and_eq_true, decide_eq_true_eq, List.all_eq_true]
  exact ⟨by omega, fun c hc => o2 c (h0 c hc), fun x hx => o3 x (h1 x hx)⟩
/-- The three answers: the first key's, the others', and all. -/
theorem parts (l0 : List S38) (l1 : List S40) (a5 a6 : Bool) (hz : ∀ c ∈ l0, c.f0 = 0) (hn : 2 ≤ l0.length) (he : l1.length = l0.length) (ho : Okl l0 l1) : ∃ PA SB : ByteArray,
    strOfNums (encI (l0.take 1) a5 a6 (l1.take 1)) = PA ++ (⟨#[69, 78, 68, 13, 10]⟩ : ByteArray) ∧ strOfNums (encI (l0.drop 1) a5 a6 (l1.drop 1)) = SB ∧ strOfNums (encI l0 a5 a6 l1) = PA ++ SB ∧ PA.size ≤ 60000 ∧ SB.size ≤ 7000000 := by
  obtain ⟨o1, o2, o3⟩ := okV_at ho.1
  match l0, l1, hn, he, hz, o1, o2, o3 with
  | c :: d :: cs, x :: y :: xs, _, _, hz, o1, o2, o3 =>
    refine ⟨strOfNums (valP a6 [c] [x]), strOfNums (valP a6 (d :: cs) (y :: xs)) ++ (⟨#[69, 78, 68, 13, 10]⟩ : ByteArray), get_all c [] a5 a6 [x] (hz c (by simp)), get_all d cs a5 a6 (y :: xs) (hz d (by simp)), ?_, ?_, ?_⟩
    rotate_left
    · have := valP_len a6 [c] [x] (fun e he => o2 e (by simp at he; simp [he])) (fun e he => o3 e (by simp at he; simp [he]))
      rw [strOfNums_size]
      simpa using this
    · have := valP_len a6 (d :: cs) (y :: xs) (fun e he => o2 e (by simp at he ⊢; simp [he])) (fun e he => o3 e (by simp at he ⊢; simp [he]))
      have e5 : ((⟨#[69, 78, 68, 13, 10]⟩ : ByteArray) : ByteArray).size = 5 := rfl
      rw [ByteArray.size_append, strOfNums_size, e5]
      simp only [List.length_cons] at this o1
      omega
    show strOfNums (encI (c :: d :: cs) a5 a6 (x :: y :: xs)) = _
    rw [get_all c (d :: cs) a5 a6 _ (hz c (by simp)), valP_cut, ByteArray.append_assoc]
theorem enc_w2 (A0 : Option Addr) (c0 : Nat) (l0 : List S38) (a1 : Int) (a2 : ByteArray) (a3 a4 : Int) (a5 a6 : Bool) (a7 : ByteArray) (A8 : Option Addr) (c8 : Nat) (l8 : List ByteArray) (A9 : Option Addr) (c9 : Nat) (l9 : List ByteArray) (a10 : Bool) (A1 : Option Addr) (k1 : Nat) (l1 : List S40) (n0 n1 : Nat) (e0 : l0.length = n0) (e1 : l1.length = n1) (w : World) (h : Args A0 c0 l0 A8 c8 l8 A9 c9 l9 A1 k1 l1 w) (ho : Okl l0 l1) (hT : Tabs w) :
    Calls Tryd.prog 10 #[.agg #[.slice A0 n0 c0, .int .i64 a1, .string a2, .int .i64 a3, .int .u32 a4, .bool a5, .bool a6, .string a7, .slice A8 l8.length c8, .slice A9 l9.length c9, .bool a10], .slice A1 n1 k1] w fun e w' => ∃ A c, e = .returned (.slice A (encI l0 a5 a6 l1).length c) ∧ (encI l0 a5 a6 l1).length ≤ c ∧ Bytes w' A (encI l0 a5 a6 l1) ∧ Below w.heap.size w w' := by
  subst e0; subst e1
  exact enc_w A0 c0 l0 a1 a2 a3 a4 a5 a6 a7 A8 c8 l8 A9 c9 l9 a10 A1 k1 l1 w h ho hT
set_option maxHeartbeats 8000000 in
set_option maxRecDepth 100000 in
theorem many_w (A0 : Option Addr) (c0 : Nat) (l0 : List S38) (a1 : Int) (a2 : ByteArray) (a3 a4 : Int) (a5 a6 : Bool) (a7 : ByteArray) (A8 : Option Addr) (c8 : Nat) (l8 : List ByteArray) (A9 : Option Addr) (c9 : Nat) (l9 : List ByteArray) (a10 : Bool) (A1 : Option Addr) (k1 : Nat) (l1 : List S40) (w : World) (h : Args A0 c0 l0 A8 c8 l8 A9 c9 l9 A1 k1 l1 w) (hw : ∀ x ∈ l1, RWf x) (hT : Tabs w) :
    Calls Tryd.prog 6 #[.agg #[.slice A0 l0.length c0, .int .i64 a1, .string a2, .int .i64 a3, .int .u32 a4, .bool a5, .bool a6, .string a7, .slice A8 l8.length c8, .slice A9 l9.length c9, .bool a10], .slice A1 l1.length k1] w fun e w' => e = .returned (.bool true) ∧ Below w.heap.size w w' := by
  have HT := Aside0.mk hT; have HA := Aside0.mk h; have HW := Aside0.mk hw
  have hm0 := h.h0.2.1; have hm1 := h.h1.2.1; have hg0 := h.g0; have hg1 := h.g1
  have HB := Aside0.mk (Below.refl w.heap.size w)
  clear hT h hw
  have hl0 : (l0.length : Int) = (l0.length : Int) := rfl
  clear hl0
  go_enter Tryd.func6, Tryd.ntmps6
  go_upto_region 1 with (fail)
  have HQ : Aside0 ((w.alloc (.cells #[.slice A0 l0.length c0, .int .i64 a1, .string a2, .int .i64 a3, .int .u32 a4, .bool a5, .bool a6, .string a7, .slice A8 l8.length c8, .slice A9 l9.length c9, .bool a10] 28)).heap[w.heap.size]? = some (.cells #[.slice A0 l0.length c0, .int .i64 a1, .string a2, .int .i64 a3, .int .u32 a4, .bool a5, .bool a6, .string a7, .slice A8 l8.length c8, .slice A9 l9.length c9, .bool a10] 28 (0, 0))) := ⟨ha_at rfl⟩
  go_upto_region 2 with (go_at_call 8; (with_reducible refine (awake_w _ (Tabs.below HT.out (by repeat (first | (with_reducible first | exact HB.out | apply below_alloc | apply pw_below_drewN | apply below_drew1) | exact HB.out)))).mono ?_); rintro e w1 ⟨rfl, hb⟩; have HBn := Aside0.mk (below_step (by repeat (first | (with_reducible first | exact HB.out | apply below_alloc | apply pw_below_drewN | apply below_drew1) | exact HB.out)) hb); clear HB; have HB := HBn; clear HBn; have HQ1 := Aside0.mk ((hb.block w.heap.size (Array.getElem?_eq_some_iff.1 HQ.out).1).trans HQ.out); clear hb HQ; obtain ⟨⟨r0, r1, r2, r3, r4, r5, r6, r7, r8, r9, r10⟩, hqlt⟩ := q_cells HQ1.out)
  go_upto_region 3 with (go_at_call 9; (with_reducible refine (few_w A0 c0 l0 a1 a2 a3 a4 a5 a6 a7 A8 c8 l8 A9 c9 l9 a10 A1 k1 l1 _ (HA.out.below _ _ _ _ _ _ _ _ _ _ _ _ HB.out) HW.out).mono ?_); rintro e w2 ⟨b, rfl, hbo, hb⟩; have HBn := Aside0.mk (below_step (by repeat (first | (with_reducible first | exact HB.out | apply below_alloc | apply pw_below_drewN | apply below_drew1) | exact HB.out)) hb); clear HB; have HB := HBn; clear HBn; have HQ2 := Aside0.mk ((hb.block w.heap.size (Array.getElem?_eq_some_iff.1 HQ1.out).1).trans HQ1.out); clear hb HQ1 r0 r1 r2 r3 r4 r5 r6 r7 r8 r9 r10 hqlt)
  obtain ⟨⟨r0, r1, r2, r3, r4, r5, r6, r7, r8, r9, r10⟩, hqlt⟩ := q_cells HQ2.out
  rcases b with _ | _
  · clear hbo
    go_wp2
    go_ret
    exact ⟨rfl, (by repeat (first | (with_reducible first | exact HB.out | apply below_alloc | apply pw_below_drewN | apply below_drew1) | exact HB.out))⟩
  have HO := Aside0.mk (hbo rfl)
  clear hbo
  by_cases hs : l0.length < 2
  · go_wp2
    go_ret
    exact ⟨rfl, (by repeat (first | (with_reducible first | exact HB.out | apply below_alloc | apply pw_below_drewN | apply below_drew1) | exact HB.out))⟩
  rcases Decidable.em (l1.length = l0.length) with he | he
  rotate_left
  · have he1 : ((l1.length : Int) != (l0.length : Int)) = true := by rw [bne_iff_ne]; omega
    have he2 : ((l1.length : Int) == (l0.length : Int)) = false := beq_eq_false_iff_ne.2 (by omega)
    clear he
    go_wp2
    go_ret
    exact ⟨rfl, (by repeat (first | (with_reducible first | exact HB.out | apply below_alloc | apply pw_below_drewN | apply below_drew1) | exact HB.out))⟩
  obtain ⟨ab, ao, rfl, hab⟩ := some_of HA.out.h0 (by omega) (by decide)
  obtain ⟨eb, eo, rfl, heb⟩ := some_of HA.out.h1 (by omega) (by decide)
  have he1 : ((l1.length : Int) != (l0.length : Int)) = false := by rw [bne_eq_false_iff_eq]; omega
  have he2 : ((l1.length : Int) == (l0.length : Int)) = true := beq_iff_eq.2 (by omega)
  have HE := Aside0.mk he
  clear he
  go_wp2
  go_loop [7] (fun v => ∃ pos : Nat, v = .int .i64 pos ∧ pos ≤ l0.length ∧ Aside0 (∀ j : Nat, j < pos → (rd_T38 l0 (j : Nat)).f0 = 0)) (fun v => l0.length - (intOf v).toNat)
  case atStart => exact ⟨0, rfl, by omega, ⟨fun j hj => absurd hj (Nat.not_lt_zero j)⟩⟩
  case round =>
    obtain ⟨pos, rfl, hps, hz⟩ := hrel
    by_cases hp : pos < l0.length
    · obtain ⟨ac, C4, d4, hA2, t0, -⟩ := at_T38 HA.out.h0 (pos : Int) (by omega) (by omega)
      obtain rfl := Option.some.inj hA2
      rw [Int.toNat_natCast] at t0
      have hadd : (⟨ab, ao, none⟩ : Addr).add (pos * 10) = ⟨ab, ao + pos * 10, none⟩ := by unfold Addr.add; split <;> simp_all
      rw [hadd] at t0
      replace t0 := (HB.out.cell (p := ⟨ab, _, none⟩) hab).trans t0
      clear hadd hA2
      obtain ⟨op, hop⟩ : ∃ op, (rd_T38 l0 (pos : Int)).f0 = op := ⟨_, rfl⟩
      rw [hop] at t0
      have HOP := Aside0.mk hop
      clear hop
      by_cases h0 : op = 0
      · have h01 : (op != 0) = false := bne_eq_false_iff_eq.2 h0
        have h02 : (op == 0) = true := beq_iff_eq.2 h0
        have HZ2 : Aside0 (∀ j : Nat, j < pos + 1 → (rd_T38 l0 (j : Nat)).f0 = 0) := ⟨fun j hj => by
          rcases Nat.lt_or_ge j pos with h | h
          · exact hz.out j h
          · obtain rfl : j = pos := by omega
            rw [HOP.out, h0]⟩
        clear h0
        go_wp2
        go_round
        case rel => exact ⟨pos + 1, by first | rfl | simp, by omega, HZ2⟩
        case measure => simp [intOf]; omega
      · have h01 : (op != 0) = true := bne_iff_ne.2 h0
        have h02 : (op == 0) = false := beq_eq_false_iff_ne.2 h0
        clear h0
        go_wp2
        go_ret
        exact ⟨rfl, (by repeat (first | (with_reducible first | exact HB.out | apply below_alloc | apply pw_below_drewN | apply below_drew1) | exact HB.out))⟩
    · have hz2 : ∀ c ∈ l0, c.f0 = 0 := fun c hc => by
        obtain ⟨j, hj, rfl⟩ := rdC_mem hc
        exact hz.out j (by omega)
      have hc1 : ¬ c0 = 1 := by omega
      have hc2 : 1 ≤ c0 := by omega
      have hk1 : ¬ k1 = 1 := by have := HE.out; omega
      have hk2 : 1 ≤ k1 := by have := HE.out; omega
      have h1l : 1 ≤ l0.length := by omega
      have hk3 : (1 : Int) ≤ k1 := by omega
      have hc3 : (1 : Int) ≤ c0 := by omega
      have h3l : (1 : Int) ≤ l0.length := by omega
      have h3m : (1 : Int) ≤ l1.length := by have := HE.out; omega
      have h1m : 1 ≤ l1.length := by have := HE.out; omega
      have HZ := Aside0.mk hz2
      clear hz hz2
      go_upto_region 14 with (fail)
      have hq1 : (w2.alloc (.cells #[.slice (some ⟨ab, ao, none⟩) 1 c0, .int .i64 a1, .string a2, .int .i64 a3, .int .u32 a4, .bool a5, .bool a6, .string a7, .slice A8 l8.length c8, .slice A9 l9.length c9, .bool a10] 28)).heap[w2.heap.size]? = some (.cells #[.slice (some ⟨ab, ao, none⟩) 1 c0, .int .i64 a1, .string a2, .int .i64 a3, .int .u32 a4, .bool a5, .bool a6, .string a7, .slice A8 l8.length c8, .slice A9 l9.length c9, .bool a10] 28 (0, 0)) := ha_at rfl
      have hq2 := ha_old (o := .cells #[.slice (some ⟨ab, ao + 10, none⟩) (l0.length - 1) (c0 - 1), .int .i64 a1, .string a2, .int .i64 a3, .int .u32 a4, .bool a5, .bool a6, .string a7, .slice A8 l8.length c8, .slice A9 l9.length c9, .bool a10] 28) hq1
      have hq3 : ((w2.alloc (.cells #[.slice (some ⟨ab, ao, none⟩) 1 c0, .int .i64 a1, .string a2, .int .i64 a3, .int .u32 a4, .bool a5, .bool a6, .string a7, .slice A8 l8.length c8, .slice A9 l9.length c9, .bool a10] 28)).alloc (.cells #[.slice (some ⟨ab, ao + 10, none⟩) (l0.length - 1) (c0 - 1), .int .i64 a1, .string a2, .int .i64 a3, .int .u32 a4, .bool a5, .bool a6, .string a7, .slice A8 l8.length c8, .slice A9 l9.length c9, .bool a10] 28)).heap[w2.heap.size + 1]? = some (.cells #[.slice (some ⟨ab, ao + 10, none⟩) (l0.length - 1) (c0 - 1), .int .i64 a1, .string a2, .int .i64 a3, .int .u32 a4, .bool a5, .bool a6, .string a7, .slice A8 l8.length c8, .slice A9 l9.length c9, .bool a10] 28 (0, 0)) := ha_at (by simp)
      have hq4 := ha_old (o := .cells #[.slice (some ⟨ab, ao + 10, none⟩) (l0.length - 1) (c0 - 1), .int .i64 a1, .string a2, .int .i64 a3, .int .u32 a4, .bool a5, .bool a6, .string a7, .slice A8 l8.length c8, .slice A9 l9.length c9, .bool a10] 28) (ha_old (o := .cells #[.slice (some ⟨ab, ao, none⟩) 1 c0, .int .i64 a1, .string a2, .int .i64 a3, .int .u32 a4, .bool a5, .bool a6, .string a7, .slice A8 l8.length c8, .slice A9 l9.length c9, .bool a10] 28) HQ2.out)
      have hb3 := below_alloc (below_alloc HB.out (.cells #[.slice (some ⟨ab, ao, none⟩) 1 c0, .int .i64 a1, .string a2, .int .i64 a3, .int .u32 a4, .bool a5, .bool a6, .string a7, .slice A8 l8.length c8, .slice A9 l9.length c9, .bool a10] 28)) (.cells #[.slice (some ⟨ab, ao + 10, none⟩) (l0.length - 1) (c0 - 1), .int .i64 a1, .string a2, .int .i64 a3, .int .u32 a4, .bool a5, .bool a6, .string a7, .slice A8 l8.length c8, .slice A9 l9.length c9, .bool a10] 28)
      generalize ((w2.alloc (.cells #[.slice (some ⟨ab, ao, none⟩) 1 c0, .int .i64 a1, .string a2, .int .i64 a3, .int .u32 a4, .bool a5, .bool a6, .string a7, .slice A8 l8.length c8, .slice A9 l9.length c9, .bool a10] 28)).alloc (.cells #[.slice (some ⟨ab, ao + 10, none⟩) (l0.length - 1) (c0 - 1), .int .i64 a1, .string a2, .int .i64 a3, .int .u32 a4, .bool a5, .bool a6, .string a7, .slice A8 l8.length c8, .slice A9 l9.length c9, .bool a10] 28)) = W3 at *
      generalize w2.heap.size = q1 at *
      clear HB r0 r1 r2 r3 r4 r5 r6 r7 r8 r9 r10 hq1 hqlt
      have HB := Aside0.mk hb3; have HQ1 := Aside0.mk hq2; have HQ3 := Aside0.mk hq3; have HQ4 := Aside0.mk hq4
      clear hb3 hq2 hq3 hq4
      obtain ⟨⟨r0, r1, r2, r3, r4, r5, r6, r7, r8, r9, r10⟩, hqlt⟩ := q_cells HQ1.out
      have e1t : (l0.take 1).length = 1 := by rw [List.length_take]; omega
      have e2t : (l1.take 1).length = 1 := by rw [List.length_take]; omega
      have HA1 : Aside0 (Args (some ⟨ab, ao, none⟩) c0 (l0.take 1) A8 c8 l8 A9 c9 l9 (some ⟨eb, eo, none⟩) k1 (l1.take 1) w) := ⟨⟨Kd.C_take HA.out.h0 h1l, by omega, HA.out.h8, HA.out.g8, HA.out.h9, HA.out.g9, Kd.C_take HA.out.h1 h1m, by omega⟩⟩
      have HA2 : Aside0 (Args (some ⟨ab, ao + 10, none⟩) (c0 - 1) (l0.drop 1) A8 c8 l8 A9 c9 l9 (some ⟨eb, eo + 9, none⟩) (k1 - 1) (l1.drop 1) w) := ⟨⟨by
        have := Kd.C_drop (m := 1) HA.out.h0 h1l HA.out.g0
        rw [if_neg hc1] at this
        exact this, by rw [List.length_drop]; omega, HA.out.h8, HA.out.g8, HA.out.h9, HA.out.g9, by
        have := Kd.C_drop (m := 1) HA.out.h1 h1m HA.out.g1
        rw [if_neg hk1] at this
        exact this, by rw [List.length_drop]; omega⟩⟩
      have HO1 : Aside0 (Okl (l0.take 1) (l1.take 1)) := ⟨okl_sub HO.out (fun c h => List.mem_of_mem_take h) (fun x h => List.mem_of_mem_take h) (by rw [List.length_take]; omega)⟩
      have HO2 : Aside0 (Okl (l0.drop 1) (l1.drop 1)) := ⟨okl_sub HO.out (fun c h => List.mem_of_mem_drop h) (fun x h => List.mem_of_mem_drop h) (by rw [List.length_drop]; omega)⟩
      obtain ⟨PA, SB, HTA, HTB, HTC, hPA, hSB⟩ := parts l0 l1 a5 a6 HZ.out (by omega) HE.out HO.out
      have HPA := Aside0.mk HTA; have HPB := Aside0.mk HTB; have HPC := Aside0.mk HTC
      clear HTA HTB HTC
      have HW12 : Aside0 (wrap64 (PA.size : Int) = (PA.size : Int)) := ⟨w64 _ (by omega) (by omega)⟩
      have HEX1 : Aside0 ((PA ++ (⟨#[69, 78, 68, 13, 10]⟩ : ByteArray)).extract PA.size (PA.size + 5) = (⟨#[69, 78, 68, 13, 10]⟩ : ByteArray)) := ⟨ext_tail PA _⟩
      have HEX0 : Aside0 ((PA ++ (⟨#[69, 78, 68, 13, 10]⟩ : ByteArray)).extract 0 PA.size = PA) := ⟨ext_head PA _⟩
      have HCAT : Aside0 ((9223372036854775807 < PA.size + SB.size) = False) := ⟨by simp; omega⟩
      clear hPA hSB
      have eT0 : Aside0 ((l0.take 1).length = 1) := ⟨e1t⟩; have eT1 : Aside0 ((l1.take 1).length = 1) := ⟨e2t⟩
      have eD0 : Aside0 ((l0.drop 1).length = l0.length - 1) := ⟨List.length_drop⟩; have eD1 : Aside0 ((l1.drop 1).length = l1.length - 1) := ⟨List.length_drop⟩
      clear e1t e2t
      generalize l0.take 1 = T0 at *
      generalize l1.take 1 = T1 at *
      generalize l0.drop 1 = D0 at *
      generalize l1.drop 1 = D1 at *
      (refine wp_region_noPanic ?_; refine wp_region_held_drew (S := (fun w' => Aside0 (Below W3.heap.size W3 w'))) (by kernel_rfl) ⟨below_drew1 (Below.refl _ _)⟩ ?_; intro hHeld)
      (refine wpAnyH_take (i := 0) (v := ?_) (by simp only [List.getElem?_toArray, List.getElem?_cons_succ, List.getElem?_cons_zero]; rfl) (by kernel_rfl) (by kernel_rfl) (by kernel_rfl) (fun _ _ _ h => h) (Or.inl ⟨by rfl, ?_⟩) (by exact hHeld) ?_; rotate_left; (focus (intro w' hSw; obtain ⟨hc_, hf_⟩ := bcell (Aside0.out (show Aside0 _ from hSw)); clear hSw; go_simp; (try with_reducible rfl); done)); (try simp only [Act.put, List.setIfInBounds_toArray, List.set_cons_zero, List.set_cons_succ]))
      (refine wpAnyH_take (i := 1) (v := ?_) (by simp only [List.getElem?_toArray, List.getElem?_cons_succ, List.getElem?_cons_zero]; rfl) (by kernel_rfl) (by kernel_rfl) (by kernel_rfl) (fun _ _ _ h => h) (Or.inl ⟨by rfl, ?_⟩) (by exact hHeld) ?_; rotate_left; (focus (intro w' hSw; obtain ⟨hc_, hf_⟩ := bcell (Aside0.out (show Aside0 _ from hSw)); clear hSw; go_simp; (try with_reducible rfl); done)); (try simp only [Act.put, List.setIfInBounds_toArray, List.set_cons_zero, List.set_cons_succ]))
      (refine wpAnyH_take (i := 2) (v := ?_) (by simp only [List.getElem?_toArray, List.getElem?_cons_succ, List.getElem?_cons_zero]; rfl) (by kernel_rfl) (by kernel_rfl) (by kernel_rfl) (fun _ _ _ h => h) (Or.inl ⟨by rfl, ?_⟩) (by exact hHeld) ?_; rotate_left; (focus (intro w' hSw; obtain ⟨hc_, hf_⟩ := bcell (Aside0.out (show Aside0 _ from hSw)); clear hSw; go_simp; (try with_reducible rfl); done)); (try simp only [Act.put, List.setIfInBounds_toArray, List.set_cons_zero, List.set_cons_succ]))
      (refine wpAnyH_ready (rs := [3]) (by kernel_rfl) (by simp) ?_; refine (AllReadyH.cons (by simp only [List.getElem?_toArray, List.getElem?_cons_succ, List.getElem?_cons_zero]; rfl) (fun K hK => ?_) AllReadyH.nil); go_simp; (go_at_call 10; (refine (enc_w2 (some ⟨ab, ao, none⟩) c0 T0 a1 a2 a3 a4 a5 a6 a7 A8 c8 l8 A9 c9 l9 a10 (some ⟨eb, eo, none⟩) k1 T1 _ _ eT0.out eT1.out _ (HA1.out.below _ _ _ _ _ _ _ _ _ _ _ _ (below_step HB.out hHeld.out)) HO1.out (Tabs.below HT.out (below_step HB.out hHeld.out))).mono ?_); rintro e x4 ⟨Ex4, kx4, rfl, hke, hbs, hb⟩; have HPx4 := Aside0.mk hbs; clear hbs hke); refine hK.out _ _ (by (try dsimp only); exact ⟨below_step hHeld.out hb⟩) ?_; clear hK K hHeld; intro hHeld; (try simp only [Act.put, List.setIfInBounds_toArray, List.set_cons_zero, List.set_cons_succ]))
      refine wpAnyH_imp (S' := (fun w' => Bytes w' Ex4 (encI T0 a5 a6 T1) ∧ Aside0 (Below W3.heap.size W3 w'))) (fun _ h => h.2) _ _ _ _ ?_
      have hHeld := And.intro HPx4.out hHeld
      (refine wpAnyH_take (i := 4) (v := ?_) (by simp only [List.getElem?_toArray, List.getElem?_cons_succ, List.getElem?_cons_zero]; rfl) (by kernel_rfl) (by kernel_rfl) (by kernel_rfl) (fun _ _ _ h => h) (Or.inl ⟨by rfl, ?_⟩) (by exact hHeld) ?_; rotate_left; (focus (intro w' hSw; (try dsimp only at hSw); go_simp; rw [Kd.C_string Tryd.underlying32 Tryd.underlying5 Tryd.underlying9 hSw.1]; rw [HPA.out]; (try simp only [Result.andThen]); (try rfl); done)); (try simp only [Act.put, List.setIfInBounds_toArray, List.set_cons_zero, List.set_cons_succ]))
      (refine wpAnyH_take (i := 5) (v := ?_) (by simp only [List.getElem?_toArray, List.getElem?_cons_succ, List.getElem?_cons_zero]; rfl) (by kernel_rfl) (by kernel_rfl) (by kernel_rfl) (fun _ _ _ h => h) (Or.inl ⟨by rfl, ?_⟩) (by exact hHeld) ?_; rotate_left; (focus (intro w' hSw; obtain ⟨hc_, hf_⟩ := bcell (Aside0.out (show Aside0 _ from hSw.2)); clear hSw; go_simp; (try with_reducible rfl); done)); (try simp only [Act.put, List.setIfInBounds_toArray, List.set_cons_zero, List.set_cons_succ]))
      (refine wpAnyH_done (by kernel_rfl) ?_ _; refine NoPanic.normal ?_)
      have HBx4 := Aside0.mk (below_step HB.out hHeld.2.out)
      have hupx4 := hHeld.2.out
      have hq3 := (hupx4.block _ (Array.getElem?_eq_some_iff.1 HQ3.out).1).trans HQ3.out
      have hq4 := (hupx4.block _ (Array.getElem?_eq_some_iff.1 HQ4.out).1).trans HQ4.out
      clear HB HQ3 HQ4 HQ1 hHeld hupx4 r0 r1 r2 r3 r4 r5 r6 r7 r8 r9 r10 hqlt
      have HB := HBx4; have HQ4 := Aside0.mk hq4
      obtain ⟨⟨r0, r1, r2, r3, r4, r5, r6, r7, r8, r9, r10⟩, hqlt⟩ := q_cells hq3
      clear HBx4 hq3 hq4
      go_upto_region 15 with (fail)
      (refine wp_region_noPanic ?_; refine wp_region_held_drew (S := (fun w' => Aside0 (Below x4.heap.size x4 w'))) (by kernel_rfl) ⟨below_drew1 (Below.refl _ _)⟩ ?_; intro hHeld)
      (refine wpAnyH_take (i := 0) (v := ?_) (by simp only [List.getElem?_toArray, List.getElem?_cons_succ, List.getElem?_cons_zero]; rfl) (by kernel_rfl) (by kernel_rfl) (by kernel_rfl) (fun _ _ _ h => h) (Or.inl ⟨by rfl, ?_⟩) (by exact hHeld) ?_; rotate_left; (focus (intro w' hSw; obtain ⟨hc_, hf_⟩ := bcell (Aside0.out (show Aside0 _ from hSw)); clear hSw; go_simp; (try with_reducible rfl); done)); (try simp only [Act.put, List.setIfInBounds_toArray, List.set_cons_zero, List.set_cons_succ]))
      (refine wpAnyH_take (i := 1) (v := ?_) (by simp only [List.getElem?_toArray, List.getElem?_cons_succ, List.getElem?_cons_zero]; rfl) (by kernel_rfl) (by kernel_rfl) (by kernel_rfl) (fun _ _ _ h => h) (Or.inl ⟨by rfl, ?_⟩) (by exact hHeld) ?_; rotate_left; (focus (intro w' hSw; obtain ⟨hc_, hf_⟩ := bcell (Aside0.out (show Aside0 _ from hSw)); clear hSw; go_simp; (try with_reducible rfl); done)); (try simp only [Act.put, List.setIfInBounds_toArray, List.set_cons_zero, List.set_cons_succ]))
      (refine wpAnyH_take (i := 2) (v := ?_) (by simp only [List.getElem?_toArray, List.getElem?_cons_succ, List.getElem?_cons_zero]; rfl) (by kernel_rfl) (by kernel_rfl) (by kernel_rfl) (fun _ _ _ h => h) (Or.inl ⟨by rfl, ?_⟩) (by exact hHeld) ?_; rotate_left; (focus (intro w' hSw; obtain ⟨hc_, hf_⟩ := bcell (Aside0.out (show Aside0 _ from hSw)); clear hSw; go_simp; (try with_reducible rfl); done)); (try simp only [Act.put, List.setIfInBounds_toArray, List.set_cons_zero, List.set_cons_succ]))
      (refine wpAnyH_ready (rs := [3]) (by kernel_rfl) (by simp) ?_; refine (AllReadyH.cons (by simp only [List.getElem?_toArray, List.getElem?_cons_succ, List.getElem?_cons_zero]; rfl) (fun K hK => ?_) AllReadyH.nil); go_simp; (go_at_call 10; (refine (enc_w2 (some ⟨ab, ao + 10, none⟩) (c0 - 1) D0 a1 a2 a3 a4 a5 a6 a7 A8 c8 l8 A9 c9 l9 a10 (some ⟨eb, eo + 9, none⟩) (k1 - 1) D1 _ _ eD0.out eD1.out _ (HA2.out.below _ _ _ _ _ _ _ _ _ _ _ _ (below_step HB.out hHeld.out)) HO2.out (Tabs.below HT.out (below_step HB.out hHeld.out))).mono ?_); rintro e x5 ⟨Ex5, kx5, rfl, hke, hbs, hb⟩; have HPx5 := Aside0.mk hbs; clear hbs hke); refine hK.out _ _ (by (try dsimp only); exact ⟨below_step hHeld.out hb⟩) ?_; clear hK K hHeld; intro hHeld; (try simp only [Act.put, List.setIfInBounds_toArray, List.set_cons_zero, List.set_cons_succ]))
      refine wpAnyH_imp (S' := (fun w' => Bytes w' Ex5 (encI D0 a5 a6 D1) ∧ Aside0 (Below x4.heap.size x4 w'))) (fun _ h => h.2) _ _ _ _ ?_
      have hHeld := And.intro HPx5.out hHeld
      (refine wpAnyH_take (i := 4) (v := ?_) (by simp only [List.getElem?_toArray, List.getElem?_cons_succ, List.getElem?_cons_zero]; rfl) (by kernel_rfl) (by kernel_rfl) (by kernel_rfl) (fun _ _ _ h => h) (Or.inl ⟨by rfl, ?_⟩) (by exact hHeld) ?_; rotate_left; (focus (intro w' hSw; (try dsimp only at hSw); go_simp; rw [Kd.C_string Tryd.underlying32 Tryd.underlying5 Tryd.underlying9 hSw.1]; rw [HPB.out]; (try simp only [Result.andThen]); (try rfl); done)); (try simp only [Act.put, List.setIfInBounds_toArray, List.set_cons_zero, List.set_cons_succ]))
      (refine wpAnyH_take (i := 5) (v := ?_) (by simp only [List.getElem?_toArray, List.getElem?_cons_succ, List.getElem?_cons_zero]; rfl) (by kernel_rfl) (by kernel_rfl) (by kernel_rfl) (fun _ _ _ h => h) (Or.inl ⟨by rfl, ?_⟩) (by exact hHeld) ?_; rotate_left; (focus (intro w' hSw; obtain ⟨hc_, hf_⟩ := bcell (Aside0.out (show Aside0 _ from hSw.2)); clear hSw; go_simp; (try with_reducible rfl); done)); (try simp only [Act.put, List.setIfInBounds_toArray, List.set_cons_zero, List.set_cons_succ]))
      (refine wpAnyH_done (by kernel_rfl) ?_ _; refine NoPanic.normal ?_)
      have HBx5 := Aside0.mk (below_step HB.out hHeld.2.out)
      have hupx5 := hHeld.2.out
      have hq4 := (hupx5.block _ (Array.getElem?_eq_some_iff.1 HQ4.out).1).trans HQ4.out
      clear HB HQ4 hHeld hupx5 r0 r1 r2 r3 r4 r5 r6 r7 r8 r9 r10 hqlt
      have HB := HBx5
      obtain ⟨⟨r0, r1, r2, r3, r4, r5, r6, r7, r8, r9, r10⟩, hqlt⟩ := q_cells hq4
      clear HBx5 hq4
      have hw12 := HW12.out
      have hle1 : (PA.size : Int) ≤ (PA.size : Int) + 5 := by omega
      have hex1 := HEX1.out
      have hex0 := HEX0.out
      have hcat := HCAT.out
      go_upto_region 17 with (fail)
      (refine wp_region_noPanic ?_; refine wp_region_held_drew (S := (fun w' => Aside0 (Below x5.heap.size x5 w'))) (by kernel_rfl) ⟨below_drew1 (Below.refl _ _)⟩ ?_; intro hHeld)
      (refine wpAnyH_take (i := 0) (v := ?_) (by simp only [List.getElem?_toArray, List.getElem?_cons_succ, List.getElem?_cons_zero]; rfl) (by kernel_rfl) (by kernel_rfl) (by kernel_rfl) (fun _ _ _ h => h) (Or.inl ⟨by rfl, ?_⟩) (by exact hHeld) ?_; rotate_left; (focus (intro w' hSw; obtain ⟨hc_, hf_⟩ := bcell (Aside0.out (show Aside0 _ from hSw)); clear hSw; go_simp; (try with_reducible rfl); done)); (try simp only [Act.put, List.setIfInBounds_toArray, List.set_cons_zero, List.set_cons_succ]))
      (refine wpAnyH_take (i := 1) (v := ?_) (by simp only [List.getElem?_toArray, List.getElem?_cons_succ, List.getElem?_cons_zero]; rfl) (by kernel_rfl) (by kernel_rfl) (by kernel_rfl) (fun _ _ _ h => h) (Or.inl ⟨by rfl, ?_⟩) (by exact hHeld) ?_; rotate_left; (focus (intro w' hSw; obtain ⟨hc_, hf_⟩ := bcell (Aside0.out (show Aside0 _ from hSw)); clear hSw; go_simp; (try with_reducible rfl); done)); (try simp only [Act.put, List.setIfInBounds_toArray, List.set_cons_zero, List.set_cons_succ]))
      (refine wpAnyH_take (i := 2) (v := ?_) (by simp only [List.getElem?_toArray, List.getElem?_cons_succ, List.getElem?_cons_zero]; rfl) (by kernel_rfl) (by kernel_rfl) (by kernel_rfl) (fun _ _ _ h => h) (Or.inl ⟨by rfl, ?_⟩) (by exact hHeld) ?_; rotate_left; (focus (intro w' hSw; obtain ⟨hc_, hf_⟩ := bcell (Aside0.out (show Aside0 _ from hSw)); clear hSw; go_simp; (try with_reducible rfl); done)); (try simp only [Act.put, List.setIfInBounds_toArray, List.set_cons_zero, List.set_cons_succ]))
      (refine wpAnyH_take (i := 3) (v := ?_) (by simp only [List.getElem?_toArray, List.getElem?_cons_succ, List.getElem?_cons_zero]; rfl) (by kernel_rfl) (by kernel_rfl) (by kernel_rfl) (fun _ _ _ h => h) (Or.inl ⟨by rfl, ?_⟩) (by exact hHeld) ?_; rotate_left; (focus (intro w' hSw; obtain ⟨hc_, hf_⟩ := bcell (Aside0.out (show Aside0 _ from hSw)); clear hSw; go_simp; (try with_reducible rfl); done)); (try simp only [Act.put, List.setIfInBounds_toArray, List.set_cons_zero, List.set_cons_succ]))
      (refine wpAnyH_take (i := 4) (v := ?_) (by simp only [List.getElem?_toArray, List.getElem?_cons_succ, List.getElem?_cons_zero]; rfl) (by kernel_rfl) (by kernel_rfl) (by kernel_rfl) (fun _ _ _ h => h) (Or.inl ⟨by rfl, ?_⟩) (by exact hHeld) ?_; rotate_left; (focus (intro w' hSw; obtain ⟨hc_, hf_⟩ := bcell (Aside0.out (show Aside0 _ from hSw)); clear hSw; go_simp; (try with_reducible rfl); done)); (try simp only [Act.put, List.setIfInBounds_toArray, List.set_cons_zero, List.set_cons_succ]))
      (refine wpAnyH_take (i := 5) (v := ?_) (by simp only [List.getElem?_toArray, List.getElem?_cons_succ, List.getElem?_cons_zero]; rfl) (by kernel_rfl) (by kernel_rfl) (by kernel_rfl) (fun _ _ _ h => h) (Or.inl ⟨by rfl, ?_⟩) (by exact hHeld) ?_; rotate_left; (focus (intro w' hSw; obtain ⟨hc_, hf_⟩ := bcell (Aside0.out (show Aside0 _ from hSw)); clear hSw; go_simp; (try with_reducible rfl); done)); (try simp only [Act.put, List.setIfInBounds_toArray, List.set_cons_zero, List.set_cons_succ]))
      (refine wpAnyH_take (i := 6) (v := ?_) (by simp only [List.getElem?_toArray, List.getElem?_cons_succ, List.getElem?_cons_zero]; rfl) (by kernel_rfl) (by kernel_rfl) (by kernel_rfl) (fun _ _ _ h => h) (Or.inl ⟨by rfl, ?_⟩) (by exact hHeld) ?_; rotate_left; (focus (intro w' hSw; obtain ⟨hc_, hf_⟩ := bcell (Aside0.out (show Aside0 _ from hSw)); clear hSw; go_simp; (try with_reducible rfl); done)); (try simp only [Act.put, List.setIfInBounds_toArray, List.set_cons_zero, List.set_cons_succ]))
      (refine wpAnyH_take (i := 7) (v := ?_) (by simp only [List.getElem?_toArray, List.getElem?_cons_succ, List.getElem?_cons_zero]; rfl) (by kernel_rfl) (by kernel_rfl) (by kernel_rfl) (fun _ _ _ h => h) (Or.inl ⟨by rfl, ?_⟩) (by exact hHeld) ?_; rotate_left; (focus (intro w' hSw; obtain ⟨hc_, hf_⟩ := bcell (Aside0.out (show Aside0 _ from hSw)); clear hSw; go_simp; (try with_reducible rfl); done)); (try simp only [Act.put, List.setIfInBounds_toArray, List.set_cons_zero, List.set_cons_succ]))
      (refine wpAnyH_take (i := 8) (v := ?_) (by simp only [List.getElem?_toArray, List.getElem?_cons_succ, List.getElem?_cons_zero]; rfl) (by kernel_rfl) (by kernel_rfl) (by kernel_rfl) (fun _ _ _ h => h) (Or.inl ⟨by rfl, ?_⟩) (by exact hHeld) ?_; rotate_left; (focus (intro w' hSw; obtain ⟨hc_, hf_⟩ := bcell (Aside0.out (show Aside0 _ from hSw)); clear hSw; go_simp; (try with_reducible rfl); done)); (try simp only [Act.put, List.setIfInBounds_toArray, List.set_cons_zero, List.set_cons_succ]))
      (refine wpAnyH_take (i := 9) (v := ?_) (by simp only [List.getElem?_toArray, List.getElem?_cons_succ, List.getElem?_cons_zero]; rfl) (by kernel_rfl) (by kernel_rfl) (by kernel_rfl) (fun _ _ _ h => h) (Or.inl ⟨by rfl, ?_⟩) (by exact hHeld) ?_; rotate_left; (focus (intro w' hSw; obtain ⟨hc_, hf_⟩ := bcell (Aside0.out (show Aside0 _ from hSw)); clear hSw; go_simp; (try with_reducible rfl); done)); (try simp only [Act.put, List.setIfInBounds_toArray, List.set_cons_zero, List.set_cons_succ]))
      (refine wpAnyH_take (i := 10) (v := ?_) (by simp only [List.getElem?_toArray, List.getElem?_cons_succ, List.getElem?_cons_zero]; rfl) (by kernel_rfl) (by kernel_rfl) (by kernel_rfl) (fun _ _ _ h => h) (Or.inl ⟨by rfl, ?_⟩) (by exact hHeld) ?_; rotate_left; (focus (intro w' hSw; obtain ⟨hc_, hf_⟩ := bcell (Aside0.out (show Aside0 _ from hSw)); clear hSw; go_simp; (try with_reducible rfl); done)); (try simp only [Act.put, List.setIfInBounds_toArray, List.set_cons_zero, List.set_cons_succ]))
      (refine wpAnyH_take (i := 13) (v := ?_) (by simp only [List.getElem?_toArray, List.getElem?_cons_succ, List.getElem?_cons_zero]; rfl) (by kernel_rfl) (by kernel_rfl) (by kernel_rfl) (fun _ _ _ h => h) (Or.inl ⟨by rfl, ?_⟩) (by exact hHeld) ?_; rotate_left; (focus (intro w' hSw; obtain ⟨hc_, hf_⟩ := bcell (Aside0.out (show Aside0 _ from hSw)); clear hSw; go_simp; (try with_reducible rfl); done)); (try simp only [Act.put, List.setIfInBounds_toArray, List.set_cons_zero, List.set_cons_succ]))
      (refine wpAnyH_take (i := 14) (v := ?_) (by simp only [List.getElem?_toArray, List.getElem?_cons_succ, List.getElem?_cons_zero]; rfl) (by kernel_rfl) (by kernel_rfl) (by kernel_rfl) (fun _ _ _ h => h) (Or.inl ⟨by rfl, ?_⟩) (by exact hHeld) ?_; rotate_left; (focus (intro w' hSw; obtain ⟨hc_, hf_⟩ := bcell (Aside0.out (show Aside0 _ from hSw)); clear hSw; go_simp; (try with_reducible rfl); done)); (try simp only [Act.put, List.setIfInBounds_toArray, List.set_cons_zero, List.set_cons_succ]))
      (refine wpAnyH_take (i := 15) (v := ?_) (by simp only [List.getElem?_toArray, List.getElem?_cons_succ, List.getElem?_cons_zero]; rfl) (by kernel_rfl) (by kernel_rfl) (by kernel_rfl) (fun _ _ _ h => h) (Or.inl ⟨by rfl, ?_⟩) (by exact hHeld) ?_; rotate_left; (focus (intro w' hSw; obtain ⟨hc_, hf_⟩ := bcell (Aside0.out (show Aside0 _ from hSw)); clear hSw; go_simp; (try with_reducible rfl); done)); (try simp only [Act.put, List.setIfInBounds_toArray, List.set_cons_zero, List.set_cons_succ]))
      (refine wpAnyH_take (i := 16) (v := ?_) (by simp only [List.getElem?_toArray, List.getElem?_cons_succ, List.getElem?_cons_zero]; rfl) (by kernel_rfl) (by kernel_rfl) (by kernel_rfl) (fun _ _ _ h => h) (Or.inl ⟨by rfl, ?_⟩) (by exact hHeld) ?_; rotate_left; (focus (intro w' hSw; obtain ⟨hc_, hf_⟩ := bcell (Aside0.out (show Aside0 _ from hSw)); clear hSw; go_simp; (try with_reducible rfl); done)); (try simp only [Act.put, List.setIfInBounds_toArray, List.set_cons_zero, List.set_cons_succ]))
      (refine wpAnyH_take (i := 17) (v := ?_) (by simp only [List.getElem?_toArray, List.getElem?_cons_succ, List.getElem?_cons_zero]; rfl) (by kernel_rfl) (by kernel_rfl) (by kernel_rfl) (fun _ _ _ h => h) (Or.inl ⟨by rfl, ?_⟩) (by exact hHeld) ?_; rotate_left; (focus (intro w' hSw; obtain ⟨hc_, hf_⟩ := bcell (Aside0.out (show Aside0 _ from hSw)); clear hSw; go_simp; (try with_reducible rfl); done)); (try simp only [Act.put, List.setIfInBounds_toArray, List.set_cons_zero, List.set_cons_succ]))
      (refine wpAnyH_ready (rs := [11]) (by kernel_rfl) (by simp) ?_; refine (AllReadyH.cons (by simp only [List.getElem?_toArray, List.getElem?_cons_succ, List.getElem?_cons_zero]; rfl) (fun K hK => ?_) AllReadyH.nil); go_simp; (go_at_call 10; (refine (enc_w (some ⟨ab, ao, none⟩) c0 l0 a1 a2 a3 a4 a5 a6 a7 A8 c8 l8 A9 c9 l9 a10 (some ⟨eb, eo, none⟩) k1 l1 _ (HA.out.below _ _ _ _ _ _ _ _ _ _ _ _ (below_step HB.out hHeld.out)) HO.out (Tabs.below HT.out (below_step HB.out hHeld.out))).mono ?_); rintro e x6 ⟨E6, k6, rfl, hke, hbs, hb⟩; have HP6 := Aside0.mk hbs; clear hbs hke); refine hK.out _ _ (by (try dsimp only); exact ⟨below_step hHeld.out hb⟩) ?_; clear hK K hHeld; intro hHeld; (try simp only [Act.put, List.setIfInBounds_toArray, List.set_cons_zero, List.set_cons_succ]))
      refine wpAnyH_imp (S' := (fun w' => Bytes w' E6 (encI l0 a5 a6 l1) ∧ Aside0 (Below x5.heap.size x5 w'))) (fun _ h => h.2) _ _ _ _ ?_
      have hHeld := And.intro HP6.out hHeld
      (refine wpAnyH_take (i := 12) (v := ?_) (by simp only [List.getElem?_toArray, List.getElem?_cons_succ, List.getElem?_cons_zero]; rfl) (by kernel_rfl) (by kernel_rfl) (by kernel_rfl) (fun _ _ _ h => h) (Or.inl ⟨by rfl, ?_⟩) (by exact hHeld) ?_; rotate_left; (focus (intro w' hSw; (try dsimp only at hSw); go_simp; rw [Kd.C_string Tryd.underlying32 Tryd.underlying5 Tryd.underlying9 hSw.1]; rw [HPC.out]; (try simp only [Result.andThen]); (try rfl); done)); (try simp only [Act.put, List.setIfInBounds_toArray, List.set_cons_zero, List.set_cons_succ]))
      (refine wpAnyH_take (i := 18) (v := ?_) (by simp only [List.getElem?_toArray, List.getElem?_cons_succ, List.getElem?_cons_zero]; rfl) (by kernel_rfl) (by kernel_rfl) (by kernel_rfl) (fun _ _ _ h => h) (Or.inl ⟨by rfl, ?_⟩) (by exact hHeld) ?_; rotate_left; (focus (intro w' hSw; obtain ⟨hc_, hf_⟩ := bcell (Aside0.out (show Aside0 _ from hSw.2)); clear hSw; go_simp; (try with_reducible rfl); done)); (try simp only [Act.put, List.setIfInBounds_toArray, List.set_cons_zero, List.set_cons_succ]))
      (refine wpAnyH_take (i := 19) (v := ?_) (by simp only [List.getElem?_toArray, List.getElem?_cons_succ, List.getElem?_cons_zero]; rfl) (by kernel_rfl) (by kernel_rfl) (by kernel_rfl) (fun _ _ _ h => h) (Or.inl ⟨by rfl, ?_⟩) (by exact hHeld) ?_; rotate_left; (focus (intro w' hSw; obtain ⟨hc_, hf_⟩ := bcell (Aside0.out (show Aside0 _ from hSw.2)); clear hSw; go_simp; (try with_reducible rfl); done)); (try simp only [Act.put, List.setIfInBounds_toArray, List.set_cons_zero, List.set_cons_succ]))
      (refine wpAnyH_take (i := 20) (v := ?_) (by simp only [List.getElem?_toArray, List.getElem?_cons_succ, List.getElem?_cons_zero]; rfl) (by kernel_rfl) (by kernel_rfl) (by kernel_rfl) (fun _ _ _ h => h) (Or.inl ⟨by rfl, ?_⟩) (by exact hHeld) ?_; rotate_left; (focus (intro w' hSw; obtain ⟨hc_, hf_⟩ := bcell (Aside0.out (show Aside0 _ from hSw.2)); clear hSw; go_simp; (try with_reducible rfl); done)); (try simp only [Act.put, List.setIfInBounds_toArray, List.set_cons_zero, List.set_cons_succ]))
      (refine wpAnyH_done (by kernel_rfl) ?_ _; refine NoPanic.normal ?_)
      have HB6 := Aside0.mk (below_step HB.out hHeld.2.out)
      go_wp2
      go_ret
      exact ⟨rfl, HB6.out⟩
theorem many_calls (q : S28) (l1 : List S40) (cs : List Value) (A1 : Option Addr) (k1 : Nat) (w : World) (hq : k28.K w q cs) (hk : l1.length ≤ k1) (hC : Kd.C k40 w A1 l1.length l1) (hw : ∀ x ∈ l1, RWf x) (hT : Tabs w) :
    Calls Tryd.prog 6 #[.agg cs.toArray, .slice A1 l1.length k1] w fun e w' => e = .returned (.bool true) ∧ Below w.heap.size w w' := by
  obtain ⟨A0, c0, A8, c8, A9, c9, rfl, h1, h2, h3, h4, h5, h6⟩ := k28_open hq
  exact many_w A0 c0 _ _ _ _ _ _ _ _ A8 c8 _ A9 c9 _ _ A1 k1 l1 w ⟨h2, h1, h4, h3, h6, h5, hC, hk⟩ hw hT
end Go.Proofs.YtkolleohenjhmaaDoor.X
