/- MetainSane: its walk. -/
import Derived.Test.YtdgeiadlijlkmaaGreatDoorZ4
namespace Go.Proofs.YtdgeiadlijlkmaaGreatDoor.X
open Go.RowKit Go.Proofs.YtdgeiadlijlkmaaGreatDoorW.PrintWords Go.Proofs.YtdgeiadlijlkmaaGreatDoorW.PrintMore Go.Proofs.YtdgeiadlijlkmaaGreatDoorW.PrintLast
set_option linter.unusedVariables false
set_option linter.unusedSimpArgs false
theorem keyS_size {k : ByteArray} (h : keyS k = true) : k.size ≤ 250 := by
  unfold keyS at h
  rw [Bool.and_eq_true, Bool.and_eq_true, decide_eq_true_eq, decide_eq_true_eq] at h
  exact h.2.1
theorem rkeyed_f (k : ByteArray) : butteryref13_Keyed.f k = some (keyedS k) := by
  unfold butteryref13_Keyed.f keyedS
  by_cases h1 : 1 ≤ k.size
  · by_cases h2 : k.size ≤ 250
    · have e1 : ((k.size : Int) ≥ 1) := by omega
      have e2 : ((k.size : Int) ≤ 250) := by omega
      simp [h1, h2, e1, e2]
    · have e1 : ((k.size : Int) ≥ 1) := by omega
      have e2 : ¬ ((k.size : Int) ≤ 250) := by omega
      simp [h1, h2, e1, e2]
  · have e1 : ¬ ((k.size : Int) ≥ 1) := by omega
    simp [h1, e1]
theorem rkeyed_w (k : ByteArray) (w : World) : Calls Tryz.prog 28 #[.string k] w fun e w' => e = .returned (.bool (keyedS k)) ∧ Below w.heap.size w w' :=
  (butteryref13_Keyed.calls k _ w (rkeyed_f k)).mono fun e w' ⟨he, hd⟩ => ⟨he, hd.below⟩
theorem keyedS_size {k : ByteArray} (h : keyedS k = true) : k.size ≤ 250 := by
  unfold keyedS at h
  rw [Bool.and_eq_true, decide_eq_true_eq, decide_eq_true_eq] at h
  exact h.2
theorem empty_nil {k : ByteArray} (h0 : k.size = 0) : k.toList.isEmpty = true := by
  rcases hz : k with ⟨⟨l⟩⟩
  rw [hz] at h0
  rw [ByteArray.toList_eq]
  cases l with
  | nil => rfl
  | cons a b => cases h0
set_option maxRecDepth 100000 in
set_option maxHeartbeats 1000000 in
theorem may_calls (x : Cmd) (b6 : Bool) (cx : List Value) (w : World) (hx : kCmd.K w x cx) (hm : MayM x b6) :
    Calls Tryz.prog 13 #[.agg cx.toArray, .bool b6] w fun e w' => e = .returned (.bool true) ∧ Below w.heap.size w w' := by
  have HB := Aside0.mk (Below.refl w.heap.size w)
  obtain ⟨A2, c2, rfl, hl2, hg2⟩ := kCmd_open hx
  obtain ⟨hk, hv, he0, he1, ho0, ho1⟩ := hm
  have hsz : x.key.size ≤ 1000000 := by
    rcases hk with hk | ⟨_, hk⟩ | ⟨_, hk⟩
    · have := keyS_size hk
      omega
    · omega
    · have := keyedS_size hk
      omega
  have HKY := Aside0.mk (fun w => rkey_calls x.key w hsz)
  have HKD := Aside0.mk (fun w => rkeyed_w x.key w)
  have hvi : (x.value.length : Int) ≤ 1000 := by omega
  clear hx hg2 hv hsz
  obtain ⟨q, hq⟩ : ∃ q, keyS x.key = q := ⟨_, rfl⟩
  obtain ⟨d, hd⟩ : ∃ d, keyedS x.key = d := ⟨_, rfl⟩
  rw [hq] at HKY hk
  rw [hd] at HKD hk
  cases q
  · by_cases h6 : b6 = true ∧ d = true
    · obtain ⟨rfl, rfl⟩ := h6
      clear hk hq hd
      go_enter Tryz.func13, Tryz.ntmps13
      go_wp2_with (first | (go_at_call 27; (with_reducible refine (HKY.out _).mono ?_); rintro e w1 ⟨rfl, hb⟩; have B1n := Aside0.mk (blk_below (g := w.heap.size) (o := .cells #[.int .i64 x.op, .string x.key, .slice A2 x.value.length c2, .int .u32 x.flags, .int .i64 x.exp, .int .u64 x.cas, .int .u64 x.delta, .int .u64 x.initial, .bool x.makes, .bool x.sets] 40 (0, 0)) (by repeat (first | exact blk_at_new _ _ _ (by simp; done) | exact blk_at_new _ _ _ rfl | refine blk_alloc ?_ _ | refine blk_drew ?_ | refine blk_drewN ?_ _)) hb); have B1 := B1n; clear B1n; have HBn := Aside0.mk (below_step (by repeat (first | (with_reducible first | exact HB.out | apply below_alloc | apply pw_below_drewN | apply below_drew1) | exact HB.out)) hb); clear HB; have HB := HBn; clear HBn; clear hb; have hl1 : w.heap.size < w1.heap.size := blk_lt B1.out; have x1 : w1.cell? ⟨w.heap.size, 1, none⟩ = some (.string x.key) := (blk_cell B1.out 1).trans rfl) | (go_at_call 28; (with_reducible refine (HKD.out _).mono ?_); rintro e w2 ⟨rfl, hb⟩; have B1n := Aside0.mk (blk_below B1.out hb); clear x1 hl1 B1; have B1 := B1n; clear B1n; have HBn := Aside0.mk (below_step (by repeat (first | (with_reducible first | exact HB.out | apply below_alloc | apply pw_below_drewN | apply below_drew1) | exact HB.out)) hb); clear HB; have HB := HBn; clear HBn; clear hb; have x0 : w2.cell? ⟨w.heap.size, 0, none⟩ = some (.int .i64 x.op) := (blk_cell B1.out 0).trans rfl; have x1 : w2.cell? ⟨w.heap.size, 1, none⟩ = some (.string x.key) := (blk_cell B1.out 1).trans rfl; have x2 : w2.cell? ⟨w.heap.size, 2, none⟩ = some (.slice A2 x.value.length c2) := (blk_cell B1.out 2).trans rfl; have x4 : w2.cell? ⟨w.heap.size, 4, none⟩ = some (.int .i64 x.exp) := (blk_cell B1.out 4).trans rfl))
      all_goals
        go_ret
        exact ⟨rfl, (by repeat (first | (with_reducible first | exact HB.out | apply below_alloc | apply pw_below_drewN | apply below_drew1) | exact HB.out))⟩
    · obtain ⟨ho3, hz⟩ : 13 ≤ x.op ∧ x.key.size = 0 := by
        rcases hk with hk | hk | hk
        · cases hk
        · exact hk
        · exact absurd hk h6
      have hnil2 := empty_nil hz
      clear hk hq hd hz
      cases b6
      · clear h6
        go_enter Tryz.func13, Tryz.ntmps13
        go_wp2_with (first | (go_at_call 27; (with_reducible refine (HKY.out _).mono ?_); rintro e w1 ⟨rfl, hb⟩; have B1n := Aside0.mk (blk_below (g := w.heap.size) (o := .cells #[.int .i64 x.op, .string x.key, .slice A2 x.value.length c2, .int .u32 x.flags, .int .i64 x.exp, .int .u64 x.cas, .int .u64 x.delta, .int .u64 x.initial, .bool x.makes, .bool x.sets] 40 (0, 0)) (by repeat (first | exact blk_at_new _ _ _ (by simp; done) | exact blk_at_new _ _ _ rfl | refine blk_alloc ?_ _ | refine blk_drew ?_ | refine blk_drewN ?_ _)) hb); have B1 := B1n; clear B1n; have HBn := Aside0.mk (below_step (by repeat (first | (with_reducible first | exact HB.out | apply below_alloc | apply pw_below_drewN | apply below_drew1) | exact HB.out)) hb); clear HB; have HB := HBn; clear HBn; clear hb; have hl1 : w.heap.size < w1.heap.size := blk_lt B1.out; have x1 : w1.cell? ⟨w.heap.size, 1, none⟩ = some (.string x.key) := (blk_cell B1.out 1).trans rfl) | (go_at_call 28; (with_reducible refine (HKD.out _).mono ?_); rintro e w2 ⟨rfl, hb⟩; have B1n := Aside0.mk (blk_below B1.out hb); clear x1 hl1 B1; have B1 := B1n; clear B1n; have HBn := Aside0.mk (below_step (by repeat (first | (with_reducible first | exact HB.out | apply below_alloc | apply pw_below_drewN | apply below_drew1) | exact HB.out)) hb); clear HB; have HB := HBn; clear HBn; clear hb; have x0 : w2.cell? ⟨w.heap.size, 0, none⟩ = some (.int .i64 x.op) := (blk_cell B1.out 0).trans rfl; have x1 : w2.cell? ⟨w.heap.size, 1, none⟩ = some (.string x.key) := (blk_cell B1.out 1).trans rfl; have x2 : w2.cell? ⟨w.heap.size, 2, none⟩ = some (.slice A2 x.value.length c2) := (blk_cell B1.out 2).trans rfl; have x4 : w2.cell? ⟨w.heap.size, 4, none⟩ = some (.int .i64 x.exp) := (blk_cell B1.out 4).trans rfl))
        all_goals
          go_ret
          exact ⟨rfl, (by repeat (first | (with_reducible first | exact HB.out | apply below_alloc | apply pw_below_drewN | apply below_drew1) | exact HB.out))⟩
      · cases d
        · clear h6
          go_enter Tryz.func13, Tryz.ntmps13
          go_wp2_with (first | (go_at_call 27; (with_reducible refine (HKY.out _).mono ?_); rintro e w1 ⟨rfl, hb⟩; have B1n := Aside0.mk (blk_below (g := w.heap.size) (o := .cells #[.int .i64 x.op, .string x.key, .slice A2 x.value.length c2, .int .u32 x.flags, .int .i64 x.exp, .int .u64 x.cas, .int .u64 x.delta, .int .u64 x.initial, .bool x.makes, .bool x.sets] 40 (0, 0)) (by repeat (first | exact blk_at_new _ _ _ (by simp; done) | exact blk_at_new _ _ _ rfl | refine blk_alloc ?_ _ | refine blk_drew ?_ | refine blk_drewN ?_ _)) hb); have B1 := B1n; clear B1n; have HBn := Aside0.mk (below_step (by repeat (first | (with_reducible first | exact HB.out | apply below_alloc | apply pw_below_drewN | apply below_drew1) | exact HB.out)) hb); clear HB; have HB := HBn; clear HBn; clear hb; have hl1 : w.heap.size < w1.heap.size := blk_lt B1.out; have x1 : w1.cell? ⟨w.heap.size, 1, none⟩ = some (.string x.key) := (blk_cell B1.out 1).trans rfl) | (go_at_call 28; (with_reducible refine (HKD.out _).mono ?_); rintro e w2 ⟨rfl, hb⟩; have B1n := Aside0.mk (blk_below B1.out hb); clear x1 hl1 B1; have B1 := B1n; clear B1n; have HBn := Aside0.mk (below_step (by repeat (first | (with_reducible first | exact HB.out | apply below_alloc | apply pw_below_drewN | apply below_drew1) | exact HB.out)) hb); clear HB; have HB := HBn; clear HBn; clear hb; have x0 : w2.cell? ⟨w.heap.size, 0, none⟩ = some (.int .i64 x.op) := (blk_cell B1.out 0).trans rfl; have x1 : w2.cell? ⟨w.heap.size, 1, none⟩ = some (.string x.key) := (blk_cell B1.out 1).trans rfl; have x2 : w2.cell? ⟨w.heap.size, 2, none⟩ = some (.slice A2 x.value.length c2) := (blk_cell B1.out 2).trans rfl; have x4 : w2.cell? ⟨w.heap.size, 4, none⟩ = some (.int .i64 x.exp) := (blk_cell B1.out 4).trans rfl))
          all_goals
            go_ret
            exact ⟨rfl, (by repeat (first | (with_reducible first | exact HB.out | apply below_alloc | apply pw_below_drewN | apply below_drew1) | exact HB.out))⟩
        · exact absurd ⟨rfl, rfl⟩ h6
  · clear hk hq hd
    go_enter Tryz.func13, Tryz.ntmps13
    go_wp2_with (first | (go_at_call 27; (with_reducible refine (HKY.out _).mono ?_); rintro e w1 ⟨rfl, hb⟩; have B1n := Aside0.mk (blk_below (g := w.heap.size) (o := .cells #[.int .i64 x.op, .string x.key, .slice A2 x.value.length c2, .int .u32 x.flags, .int .i64 x.exp, .int .u64 x.cas, .int .u64 x.delta, .int .u64 x.initial, .bool x.makes, .bool x.sets] 40 (0, 0)) (by repeat (first | exact blk_at_new _ _ _ (by simp; done) | exact blk_at_new _ _ _ rfl | refine blk_alloc ?_ _ | refine blk_drew ?_ | refine blk_drewN ?_ _)) hb); have B1 := B1n; clear B1n; have HBn := Aside0.mk (below_step (by repeat (first | (with_reducible first | exact HB.out | apply below_alloc | apply pw_below_drewN | apply below_drew1) | exact HB.out)) hb); clear HB; have HB := HBn; clear HBn; clear hb; have hl1 : w.heap.size < w1.heap.size := blk_lt B1.out; have x1 : w1.cell? ⟨w.heap.size, 1, none⟩ = some (.string x.key) := (blk_cell B1.out 1).trans rfl) | (go_at_call 28; (with_reducible refine (HKD.out _).mono ?_); rintro e w2 ⟨rfl, hb⟩; have B1n := Aside0.mk (blk_below B1.out hb); clear x1 hl1 B1; have B1 := B1n; clear B1n; have HBn := Aside0.mk (below_step (by repeat (first | (with_reducible first | exact HB.out | apply below_alloc | apply pw_below_drewN | apply below_drew1) | exact HB.out)) hb); clear HB; have HB := HBn; clear HBn; clear hb; have x0 : w2.cell? ⟨w.heap.size, 0, none⟩ = some (.int .i64 x.op) := (blk_cell B1.out 0).trans rfl; have x1 : w2.cell? ⟨w.heap.size, 1, none⟩ = some (.string x.key) := (blk_cell B1.out 1).trans rfl; have x2 : w2.cell? ⟨w.heap.size, 2, none⟩ = some (.slice A2 x.value.length c2) := (blk_cell B1.out 2).trans rfl; have x4 : w2.cell? ⟨w.heap.size, 4, none⟩ = some (.int .i64 x.exp) := (blk_cell B1.out 4).trans rfl))
    all_goals
      go_ret
      exact ⟨rfl, (by repeat (first | (with_reducible first | exact HB.out | apply below_alloc | apply pw_below_drewN | apply below_drew1) | exact HB.out))⟩
theorem suf2 (r : ByteArray) : (r ++ (⟨#[13, 10]⟩ : ByteArray) : ByteArray).extract r.size (r.size + 2) = (⟨#[13, 10]⟩ : ByteArray) := by
  obtain ⟨⟨l⟩⟩ := r
  apply ByteArray.ext
  have e2 : (⟨⟨l⟩⟩ : ByteArray).size = l.length := by simp [ByteArray.size]
  rw [ByteArray.data_extract, ByteArray.data_append, e2]
  simp
theorem range_step {W : World} {g t : Nat} {c0 c1 c2 c3 c4 c5 c6 c7 c8 c9 c10 c11 c12 c13 c14 c15 : Value} (h : W.heap[g]? = some (.cells #[c0, c1, c2, c3, c4, c5, c6, c7, c8, c9, c10, c11, c12, c13, c14, c15] t (0, 0))) : W.rangeAt g 1 [c1, c2, c3, c4, c5, c6, c7, c8, c9, c10] :=
  range_blk h _ (fun j v hj => by
    have hlt : j < 10 := (List.getElem?_eq_some_iff.1 hj).1
    rw [← hj]
    match j, hlt with
    | 0, _ => rfl | 1, _ => rfl | 2, _ => rfl | 3, _ => rfl | 4, _ => rfl | 5, _ => rfl | 6, _ => rfl | 7, _ => rfl | 8, _ => rfl | 9, _ => rfl)
set_option maxRecDepth 100000 in
set_option maxHeartbeats 2000000 in
theorem sane_calls (l : List Int) (A : Option Addr) (c : Nat) (w : World) (hT : Tabs w) (hC : (Kd.int .u8).C w A l.length l) (hc : l.length ≤ c) (h8 : B8 l) (hl : l.length ≤ 9223372036854775807) : Calls Tryz.prog 4 #[.slice A l.length c] w fun e w' => e = .returned (.bool true) ∧ Below w.heap.size w w' := by
  have HB := Aside0.mk (Below.refl w.heap.size w)
  have HT := Aside0.mk hT
  have HC := Aside0.mk hC
  clear hT hC
  by_cases h5 : 5000 < l.length
  · have h5i : (5000 : Int) < ↑l.length := by omega
    clear h5
    go_enter Tryz.func4, Tryz.ntmps4
    go_wp2_with (first | (go_at_call 9; (with_reducible refine (awake_calls _ (Tabs.below HT.out (by repeat (first | (with_reducible first | exact HB.out | apply below_alloc | apply pw_below_drewN | apply below_drew1) | exact HB.out)))).mono ?_); rintro e w0 ⟨rfl, hb⟩; have HBn := Aside0.mk (below_step (by repeat (first | (with_reducible first | exact HB.out | apply below_alloc | apply pw_below_drewN | apply below_drew1) | exact HB.out)) hb); clear HB; have HB := HBn; clear HBn; clear hb))
    go_ret
    exact ⟨rfl, (by repeat (first | (with_reducible first | exact HB.out | apply below_alloc | apply pw_below_drewN | apply below_drew1) | exact HB.out))⟩
  have h5i : ¬ (5000 : Int) < ↑l.length := by omega
  have hg := good_parse l
  rcases hg with hp | ⟨u, r, k, b, hp, h0, h1, hk, hr0, hr1⟩ | ⟨u, f, x, hp, h0, h1, hft, hf8, hmay⟩
  · have HP := Aside0.mk (fun (w' : World) (hC : (Kd.int .u8).C w' A l.length l) (hT : Tabs w') => parse_v l _ rfl _ hp 0 false ⟨#[]⟩ 0 0 false 3 rfl rfl rfl rfl rfl rfl rfl A c w' hC hc (by omega) h8 hT)
    clear hp h8 hc h5
    go_enter Tryz.func4, Tryz.ntmps4
    go_wp2_with (first | (go_at_call 9; (with_reducible refine (awake_calls _ (Tabs.below HT.out (by repeat (first | (with_reducible first | exact HB.out | apply below_alloc | apply pw_below_drewN | apply below_drew1) | exact HB.out)))).mono ?_); rintro e w0 ⟨rfl, hb⟩; have HBn := Aside0.mk (below_step (by repeat (first | (with_reducible first | exact HB.out | apply below_alloc | apply pw_below_drewN | apply below_drew1) | exact HB.out)) hb); clear HB; have HB := HBn; clear HBn; clear hb) | (go_at_call 11; (with_reducible refine (HP.out _ (Kd.C_below HC.out (by repeat (first | (with_reducible first | exact HB.out | apply below_alloc | apply pw_below_drewN | apply below_drew1) | exact HB.out))) (Tabs.below HT.out (by repeat (first | (with_reducible first | exact HB.out | apply below_alloc | apply pw_below_drewN | apply below_drew1) | exact HB.out)))).mono ?_); rintro e w1 ⟨A0, c0, x1, x2, x3, x4, x6, x7, A8, n8, c8, A9, n9, c9, x10, rfl, hk, hb⟩; have HBn := Aside0.mk (below_step (by repeat (first | (with_reducible first | exact HB.out | apply below_alloc | apply pw_below_drewN | apply below_drew1) | exact HB.out)) hb); clear HB; have HB := HBn; clear HBn; have HW1 := Aside0.mk HB.out.size; have HK1 := Aside0.mk hk; have HB1 := Aside0.mk (Below.refl w1.heap.size w1); clear hk hb))
    go_ret
    exact ⟨rfl, (by repeat (first | (with_reducible first | exact HB.out | apply below_alloc | apply pw_below_drewN | apply below_drew1) | exact HB.out))⟩
  · have HP := Aside0.mk (fun (w' : World) (hC : (Kd.int .u8).C w' A l.length l) (hT : Tabs w') => parse_v l _ rfl _ hp 0 false (r ++ (⟨#[13, 10]⟩ : ByteArray)) u k b 2 rfl rfl rfl rfl rfl rfl rfl A c w' hC hc (by omega) h8 hT)
    clear hp h8 hc h5
    have hz : (r ++ (⟨#[13, 10]⟩ : ByteArray) : ByteArray).size = r.size + 2 := ByteArray.size_append
    have hx := suf2 r
    go_enter Tryz.func4, Tryz.ntmps4
    go_wp2_with (first | (go_at_call 9; (with_reducible refine (awake_calls _ (Tabs.below HT.out (by repeat (first | (with_reducible first | exact HB.out | apply below_alloc | apply pw_below_drewN | apply below_drew1) | exact HB.out)))).mono ?_); rintro e w0 ⟨rfl, hb⟩; have HBn := Aside0.mk (below_step (by repeat (first | (with_reducible first | exact HB.out | apply below_alloc | apply pw_below_drewN | apply below_drew1) | exact HB.out)) hb); clear HB; have HB := HBn; clear HBn; clear hb) | (go_at_call 11; (with_reducible refine (HP.out _ (Kd.C_below HC.out (by repeat (first | (with_reducible first | exact HB.out | apply below_alloc | apply pw_below_drewN | apply below_drew1) | exact HB.out))) (Tabs.below HT.out (by repeat (first | (with_reducible first | exact HB.out | apply below_alloc | apply pw_below_drewN | apply below_drew1) | exact HB.out)))).mono ?_); rintro e w1 ⟨A0, c0, x1, x2, x3, x4, x6, x7, A8, n8, c8, A9, n9, c9, x10, rfl, hk, hb⟩; have HBn := Aside0.mk (below_step (by repeat (first | (with_reducible first | exact HB.out | apply below_alloc | apply pw_below_drewN | apply below_drew1) | exact HB.out)) hb); clear HB; have HB := HBn; clear HBn; have HW1 := Aside0.mk HB.out.size; have HK1 := Aside0.mk hk; have HB1 := Aside0.mk (Below.refl w1.heap.size w1); clear hk hb))
    go_ret
    exact ⟨rfl, (by repeat (first | (with_reducible first | exact HB.out | apply below_alloc | apply pw_below_drewN | apply below_drew1) | exact HB.out))⟩
  · have HP := Aside0.mk (fun (w' : World) (hC : (Kd.int .u8).C w' A l.length l) (hT : Tabs w') => parse_vf l _ rfl _ hp 1 f.quiet f.flags f.tokens.length f.base64 ⟨#[]⟩ u 0 false 0 rfl rfl rfl rfl rfl rfl rfl rfl rfl rfl A c w' hC hc (by omega) h8 hT)
    have HMAY := Aside0.mk hmay
    have hfti : (f.flags.size : Int) = ↑f.tokens.length := by omega
    have hf8i : ¬ (8 : Int) < ↑f.tokens.length := by omega
    have hu0 : (u == 0) = false := beq_eq_false_iff_ne.2 (by omega)
    clear hp h8 hc h5 hmay hft hf8
    go_enter Tryz.func4, Tryz.ntmps4
    go_upto_region 15 with (first | (go_at_call 9; (with_reducible refine (awake_calls _ (Tabs.below HT.out (by repeat (first | (with_reducible first | exact HB.out | apply below_alloc | apply pw_below_drewN | apply below_drew1) | exact HB.out)))).mono ?_); rintro e w0 ⟨rfl, hb⟩; have HBn := Aside0.mk (below_step (by repeat (first | (with_reducible first | exact HB.out | apply below_alloc | apply pw_below_drewN | apply below_drew1) | exact HB.out)) hb); clear HB; have HB := HBn; clear HBn; clear hb) | (go_at_call 11; (with_reducible refine (HP.out _ (Kd.C_below HC.out (by repeat (first | (with_reducible first | exact HB.out | apply below_alloc | apply pw_below_drewN | apply below_drew1) | exact HB.out))) (Tabs.below HT.out (by repeat (first | (with_reducible first | exact HB.out | apply below_alloc | apply pw_below_drewN | apply below_drew1) | exact HB.out)))).mono ?_); rintro e w1 ⟨A0, c0, x1, x2, x3, x4, x6, A8, c8, A9, n9, c9, rfl, hk, hb⟩; have HBn := Aside0.mk (below_step (by repeat (first | (with_reducible first | exact HB.out | apply below_alloc | apply pw_below_drewN | apply below_drew1) | exact HB.out)) hb); clear HB; have HB := HBn; clear HBn; have HW1 := Aside0.mk HB.out.size; have HB1 := Aside0.mk (Below.refl w1.heap.size w1); obtain ⟨b1, o1, A2, c2, rfl, hb1, hr1, hl2, hC2⟩ := cmd_v (step_C hk) 0 x rfl; have HR1 : Aside0 (w1.rangeAt b1 o1 [.int .i64 x.op, .string x.key, .slice A2 x.value.length c2, .int .u32 x.flags, .int .i64 x.exp, .int .u64 x.cas, .int .u64 x.delta, .int .u64 x.initial, .bool x.makes, .bool x.sets]) := ⟨hr1⟩; have HBB := Aside0.mk hb1; have HM : Aside0 (∀ w', Below w1.heap.size w1 w' → Calls Tryz.prog 13 #[.agg #[.int .i64 x.op, .string x.key, .slice A2 x.value.length c2, .int .u32 x.flags, .int .i64 x.exp, .int .u64 x.cas, .int .u64 x.delta, .int .u64 x.initial, .bool x.makes, .bool x.sets], .bool f.base64] w' fun e w'' => e = .returned (.bool true) ∧ Below w'.heap.size w' w'') := ⟨fun w' hb => may_calls x f.base64 _ w' (kCmd_mk w' x hl2 (Kd.C_below hC2 hb)) HMAY.out⟩; clear hk hb hr1 hb1 hC2 hl2))
    obtain ⟨W0, hW0⟩ : ∃ W0, (w1.alloc (.cells #[.slice (some ⟨b1, o1, none⟩) 1 c0, .int .i64 x1, .string x2, .int .i64 x3, .int .u32 x4, .bool f.quiet, .bool x6, .string f.flags, .slice A8 f.tokens.length c8, .slice A9 n9 c9, .bool f.base64, .string ⟨#[]⟩, .int .i64 u, .int .i64 0, .bool false, .int .i64 0] 34 (0, 0))).alloc (.cells #[.int .i64 x1, .string x2, .int .i64 x3, .int .u32 x4, .bool f.quiet, .bool x6, .string f.flags, .slice A8 f.tokens.length c8, .slice A9 n9 c9, .bool f.base64] 29 (0, 0)) = W0 := ⟨_, rfl⟩
    rw [hW0]
    have B1 := Aside0.mk (show W0.heap[w1.heap.size]? = _ from hW0 ▸ blk_alloc (blk_at_new _ _ _ rfl) _)
    have B3 := Aside0.mk (show W0.heap[w1.heap.size + 1]? = _ from hW0 ▸ blk_at_new _ _ _ (by simp))
    have HBW : Aside0 (Below w.heap.size w W0) := ⟨hW0 ▸ (by repeat (first | (with_reducible first | exact HB.out | apply below_alloc | apply pw_below_drewN | apply below_drew1) | exact HB.out))⟩
    have HB10 : Aside0 (Below w1.heap.size w1 W0) := ⟨hW0 ▸ (by repeat (first | (with_reducible first | exact HB1.out | apply below_alloc | apply pw_below_drewN | apply below_drew1) | exact HB1.out))⟩
    have HB0 := Aside0.mk (Below.refl W0.heap.size W0)
    have l0 := Aside0.mk (blk_lt B1.out)
    have l3 := Aside0.mk (blk_lt B3.out)
    have HR : Aside0 (W0.rangeAt b1 o1 [.int .i64 x.op, .string x.key, .slice A2 x.value.length c2, .int .u32 x.flags, .int .i64 x.exp, .int .u64 x.cas, .int .u64 x.delta, .int .u64 x.initial, .bool x.makes, .bool x.sets]) := ⟨range_below HR1.out HB10.out HBB.out⟩
    have HBL : Aside0 (b1 < W0.heap.size) := ⟨Nat.lt_of_lt_of_le HBB.out HB10.out.size⟩
    clear hW0
    (refine wp_region_noPanic ?_; refine wp_region_held_drew (S := fun w' => Below W0.heap.size W0 w') (by kernel_rfl) (below_drew1 HB0.out) ?_; intro hHeld)
    (refine wpAnyH_take (i := 0) (v := ?_) (by simp only [List.getElem?_toArray, List.getElem?_cons_succ, List.getElem?_cons_zero]; rfl) (by kernel_rfl) (by kernel_rfl) (by kernel_rfl) (fun _ _ _ h => h) (Or.inl ⟨by rfl, ?_⟩) (by exact hHeld) ?_; rotate_left; (focus (intro w' hSw; skip; clear hSw; go_simp; (try with_reducible rfl); done)); (try simp only [Act.put, List.setIfInBounds_toArray, List.set_cons_zero, List.set_cons_succ]))
    (refine wpAnyH_take (i := 1) (v := ?_) (by simp only [List.getElem?_toArray, List.getElem?_cons_succ, List.getElem?_cons_zero]; rfl) (by kernel_rfl) (by kernel_rfl) (by kernel_rfl) (fun _ _ _ h => h) (Or.inl ⟨by rfl, ?_⟩) (by exact hHeld) ?_; rotate_left; (focus (intro w' hSw; skip; clear hSw; go_simp; (try with_reducible rfl); done)); (try simp only [Act.put, List.setIfInBounds_toArray, List.set_cons_zero, List.set_cons_succ]))
    (refine wpAnyH_take (i := 2) (v := ?_) (by simp only [List.getElem?_toArray, List.getElem?_cons_succ, List.getElem?_cons_zero]; rfl) (by kernel_rfl) (by kernel_rfl) (by kernel_rfl) (fun _ _ _ h => h) (Or.inl ⟨by rfl, ?_⟩) (by exact hHeld) ?_; rotate_left; (focus (intro w' hSw; have t0 : w'.cell? ⟨w1.heap.size, 0, none⟩ = some (.slice (some ⟨b1, o1, none⟩) 1 c0) := (Below.cell hSw (p := ⟨w1.heap.size, 0, none⟩) l0.out).trans ((blk_cell B1.out 0).trans rfl); clear hSw; go_simp; (try with_reducible rfl); done)); (try simp only [Act.put, List.setIfInBounds_toArray, List.set_cons_zero, List.set_cons_succ]))
    (refine wpAnyH_take (i := 3) (v := ?_) (by simp only [List.getElem?_toArray, List.getElem?_cons_succ, List.getElem?_cons_zero]; rfl) (by kernel_rfl) (by kernel_rfl) (by kernel_rfl) (fun _ _ _ h => h) (Or.inl ⟨by rfl, ?_⟩) (by exact hHeld) ?_; rotate_left; (focus (intro w' hSw; skip; clear hSw; go_simp; (try with_reducible rfl); done)); (try simp only [Act.put, List.setIfInBounds_toArray, List.set_cons_zero, List.set_cons_succ]))
    (refine wpAnyH_take (i := 4) (v := .agg #[.int .i64 x.op, .string x.key, .slice A2 x.value.length c2, .int .u32 x.flags, .int .i64 x.exp, .int .u64 x.cas, .int .u64 x.delta, .int .u64 x.initial, .bool x.makes, .bool x.sets]) (by simp only [List.getElem?_toArray, List.getElem?_cons_succ, List.getElem?_cons_zero]; rfl) (by kernel_rfl) (by kernel_rfl) (by kernel_rfl) (fun _ _ _ h => h) (yieldsIf_load_mid (by rfl) _ _ rfl b1 (o1) rfl _ _ (fun w' hS => range_below HR.out hS HBL.out) Tryz.underlying40 rfl (by kernel_rfl)) (by exact hHeld) ?_; (try simp only [Act.put, List.setIfInBounds_toArray, List.set_cons_zero, List.set_cons_succ]))
    (refine wpAnyH_take (i := 5) (v := ?_) (by simp only [List.getElem?_toArray, List.getElem?_cons_succ, List.getElem?_cons_zero]; rfl) (by kernel_rfl) (by kernel_rfl) (by kernel_rfl) (fun _ _ _ h => h) (Or.inl ⟨by rfl, ?_⟩) (by exact hHeld) ?_; rotate_left; (focus (intro w' hSw; skip; clear hSw; go_simp; (try with_reducible rfl); done)); (try simp only [Act.put, List.setIfInBounds_toArray, List.set_cons_zero, List.set_cons_succ]))
    (refine wpAnyH_take (i := 6) (v := ?_) (by simp only [List.getElem?_toArray, List.getElem?_cons_succ, List.getElem?_cons_zero]; rfl) (by kernel_rfl) (by kernel_rfl) (by kernel_rfl) (fun _ _ _ h => h) (Or.inl ⟨by rfl, ?_⟩) (by exact hHeld) ?_; rotate_left; (focus (intro w' hSw; have t9 : w'.cell? ⟨w1.heap.size + 1, 9, none⟩ = some (.bool f.base64) := (Below.cell hSw (p := ⟨w1.heap.size + 1, 9, none⟩) l3.out).trans ((blk_cell B3.out 9).trans rfl); clear hSw; go_simp; (try with_reducible rfl); done)); (try simp only [Act.put, List.setIfInBounds_toArray, List.set_cons_zero, List.set_cons_succ]))
    refine wpAnyH_ready (rs := [7]) (by kernel_rfl) (by simp) ?_
    refine AllReadyH.cons (by simp only [List.getElem?_toArray, List.getElem?_cons_succ, List.getElem?_cons_zero]; rfl) (fun K hK => ?_) AllReadyH.nil
    go_simp
    (go_at_call 13; (with_reducible refine (HM.out _ (HB10.out.trans (Below.mono hHeld HB10.out.size))).mono ?_); rintro e w5 ⟨rfl, hb⟩)
    have HB5 := Aside0.mk (below_step hHeld hb)
    refine hK.out _ _ HB5.out ?_
    clear hK K hHeld hb HB0
    have HB0 := HB5
    clear HB5
    intro hHeld
    (try simp only [Act.put, List.setIfInBounds_toArray, List.set_cons_zero, List.set_cons_succ])
    (refine wpAnyH_take (i := 8) (v := ?_) (by simp only [List.getElem?_toArray, List.getElem?_cons_succ, List.getElem?_cons_zero]; rfl) (by kernel_rfl) (by kernel_rfl) (by kernel_rfl) (fun _ _ _ h => h) (Or.inl ⟨by rfl, ?_⟩) (by exact hHeld) ?_; rotate_left; (focus (intro w' hSw; skip; clear hSw; go_simp; (try with_reducible rfl); done)); (try simp only [Act.put, List.setIfInBounds_toArray, List.set_cons_zero, List.set_cons_succ]))
    (refine wpAnyH_done (by kernel_rfl) ?_ _; refine NoPanic.normal ?_)
    go_wp2
    go_ret
    exact ⟨rfl, HBW.out.trans (HB0.out.mono HBW.out.size)⟩
theorem sane_w (l : List Int) (A : Option Addr) (c : Nat) (w : World) (hT : Tabs w) (hC : (Kd.int .u8).C w A l.length l) (hc : l.length ≤ c) (hw : l.length ≤ 9223372036854775807 ∧ ∀ y ∈ l, 0 ≤ y ∧ y < 256) : Calls Tryz.prog 4 #[.slice A l.length c] w fun e w' => e = .returned (.bool true) ∧ Below w.heap.size w w' :=
  sane_calls l A c w hT hC hc hw.2 hw.1
end Go.Proofs.YtdgeiadlijlkmaaGreatDoor.X
