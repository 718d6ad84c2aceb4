/- TextinSane: its walk. -/
import Derived.Test.YtfljijpkeckeaaaGreatDoorZ5
namespace Go.Proofs.YtfljijpkeckeaaaGreatDoor.X
open Go.RowKit Go.Proofs.YtfljijpkeckeaaaGreatDoorW.PrintWords Go.Proofs.YtfljijpkeckeaaaGreatDoorW.PrintMore Go.Proofs.YtfljijpkeckeaaaGreatDoorW.PrintLast
set_option linter.unusedVariables false
set_option linter.unusedSimpArgs false
theorem keyS_size {k : ByteArray} (h : keyS k = true) : k.size ≤ 250 := by
  unfold keyS at h
  rw [Bool.and_eq_true, Bool.and_eq_true, decide_eq_true_eq, decide_eq_true_eq] at h
  exact h.2.1
theorem rkeyed_w (k : ByteArray) (w : World) : Calls Tryz.prog 33 #[.string k] w fun e w' => (∃ b, e = .returned (.bool b)) ∧ Below w.heap.size w w' := by
  obtain ⟨r, hr⟩ : ∃ r, butteryref13_Keyed.f k = some r := by
    unfold butteryref13_Keyed.f
    split
    · exact ⟨_, rfl⟩
    · exact ⟨_, rfl⟩
  exact (butteryref13_Keyed.calls k r w hr).mono fun e w' ⟨he, hd⟩ => ⟨⟨_, he⟩, hd.below⟩
set_option maxRecDepth 100000 in
set_option maxHeartbeats 1000000 in
theorem may_calls (x : Cmd) (cx : List Value) (w : World) (hx : kCmd.K w x cx) (hm : MayC x) :
    Calls Tryz.prog 14 #[.agg cx.toArray, .bool false] w fun e w' => e = .returned (.bool true) ∧ Below w.heap.size w w' := by
  have HB := Aside0.mk (Below.refl w.heap.size w)
  obtain ⟨A2, c2, rfl, hl2, hg2⟩ := kCmd_open hx
  obtain ⟨hk, hv, he0, he1, ho0, ho1⟩ := hm
  have hsz : x.key.size ≤ 1000000 := by
    rcases hk with hk | ⟨_, hk⟩
    · have := keyS_size hk
      omega
    · omega
  have HKY := Aside0.mk (fun w => rkey_calls x.key w hsz)
  have HKD := Aside0.mk (fun w => rkeyed_w x.key w)
  have hvi : (x.value.length : Int) ≤ 1000 := by omega
  clear hx hg2 hv hsz
  obtain ⟨q, hq⟩ : ∃ q, keyS x.key = q := ⟨_, rfl⟩
  rw [hq] at HKY hk
  cases q
  · have ho3 : 13 ≤ x.op := by
      rcases hk with hk | hk
      · cases hk
      · exact hk.1
    have hnil : x.key.toList = [] := by
      rcases hk with hk | hk
      · cases hk
      · have h0 := hk.2
        rcases hz : x.key with ⟨⟨l⟩⟩
        rw [hz] at h0
        rw [ByteArray.toList_eq]
        cases l with
        | nil => rfl
        | cons a b => cases h0
    have hnil2 : x.key.toList.isEmpty = true := by rw [hnil]; rfl
    clear hk hq
    go_enter Tryz.func14, Tryz.ntmps14
    go_wp2_with (first | (go_at_call 32; (with_reducible refine (HKY.out _).mono ?_); rintro e w1 ⟨rfl, hb⟩; have B1n := Aside0.mk (blk_below (g := w.heap.size) (o := .cells #[.int .i64 x.op, .string x.key, .slice A2 x.value.length c2, .int .u32 x.flags, .int .i64 x.exp, .int .u64 x.cas, .int .u64 x.delta, .int .u64 x.initial, .bool x.makes, .bool x.sets] 40 (0, 0)) (by repeat (first | exact blk_at_new _ _ _ (by simp; done) | exact blk_at_new _ _ _ rfl | refine blk_alloc ?_ _ | refine blk_drew ?_ | refine blk_drewN ?_ _)) hb); have B1 := B1n; clear B1n; have HBn := Aside0.mk (below_step (by repeat (first | (with_reducible first | exact HB.out | apply below_alloc | apply pw_below_drewN | apply below_drew1) | exact HB.out)) hb); clear HB; have HB := HBn; clear HBn; clear hb; have hl1 : w.heap.size < w1.heap.size := blk_lt B1.out; have x1 : w1.cell? ⟨w.heap.size, 1, none⟩ = some (.string x.key) := (blk_cell B1.out 1).trans rfl) | (go_at_call 33; (with_reducible refine (HKD.out _).mono ?_); rintro e w2 ⟨⟨kb, rfl⟩, hb⟩; have B1n := Aside0.mk (blk_below B1.out hb); clear x1 hl1 B1; have B1 := B1n; clear B1n; have HBn := Aside0.mk (below_step (by repeat (first | (with_reducible first | exact HB.out | apply below_alloc | apply pw_below_drewN | apply below_drew1) | exact HB.out)) hb); clear HB; have HB := HBn; clear HBn; clear hb; have x0 : w2.cell? ⟨w.heap.size, 0, none⟩ = some (.int .i64 x.op) := (blk_cell B1.out 0).trans rfl; have x1 : w2.cell? ⟨w.heap.size, 1, none⟩ = some (.string x.key) := (blk_cell B1.out 1).trans rfl; have x2 : w2.cell? ⟨w.heap.size, 2, none⟩ = some (.slice A2 x.value.length c2) := (blk_cell B1.out 2).trans rfl; have x4 : w2.cell? ⟨w.heap.size, 4, none⟩ = some (.int .i64 x.exp) := (blk_cell B1.out 4).trans rfl))
    all_goals
      go_ret
      exact ⟨rfl, (by repeat (first | (with_reducible first | exact HB.out | apply below_alloc | apply pw_below_drewN | apply below_drew1) | exact HB.out))⟩
  · clear hk hq
    go_enter Tryz.func14, Tryz.ntmps14
    go_wp2_with (first | (go_at_call 32; (with_reducible refine (HKY.out _).mono ?_); rintro e w1 ⟨rfl, hb⟩; have B1n := Aside0.mk (blk_below (g := w.heap.size) (o := .cells #[.int .i64 x.op, .string x.key, .slice A2 x.value.length c2, .int .u32 x.flags, .int .i64 x.exp, .int .u64 x.cas, .int .u64 x.delta, .int .u64 x.initial, .bool x.makes, .bool x.sets] 40 (0, 0)) (by repeat (first | exact blk_at_new _ _ _ (by simp; done) | exact blk_at_new _ _ _ rfl | refine blk_alloc ?_ _ | refine blk_drew ?_ | refine blk_drewN ?_ _)) hb); have B1 := B1n; clear B1n; have HBn := Aside0.mk (below_step (by repeat (first | (with_reducible first | exact HB.out | apply below_alloc | apply pw_below_drewN | apply below_drew1) | exact HB.out)) hb); clear HB; have HB := HBn; clear HBn; clear hb; have hl1 : w.heap.size < w1.heap.size := blk_lt B1.out; have x1 : w1.cell? ⟨w.heap.size, 1, none⟩ = some (.string x.key) := (blk_cell B1.out 1).trans rfl) | (go_at_call 33; (with_reducible refine (HKD.out _).mono ?_); rintro e w2 ⟨⟨kb, rfl⟩, hb⟩; have B1n := Aside0.mk (blk_below B1.out hb); clear x1 hl1 B1; have B1 := B1n; clear B1n; have HBn := Aside0.mk (below_step (by repeat (first | (with_reducible first | exact HB.out | apply below_alloc | apply pw_below_drewN | apply below_drew1) | exact HB.out)) hb); clear HB; have HB := HBn; clear HBn; clear hb; have x0 : w2.cell? ⟨w.heap.size, 0, none⟩ = some (.int .i64 x.op) := (blk_cell B1.out 0).trans rfl; have x1 : w2.cell? ⟨w.heap.size, 1, none⟩ = some (.string x.key) := (blk_cell B1.out 1).trans rfl; have x2 : w2.cell? ⟨w.heap.size, 2, none⟩ = some (.slice A2 x.value.length c2) := (blk_cell B1.out 2).trans rfl; have x4 : w2.cell? ⟨w.heap.size, 4, none⟩ = some (.int .i64 x.exp) := (blk_cell B1.out 4).trans rfl))
    all_goals
      go_ret
      exact ⟨rfl, (by repeat (first | (with_reducible first | exact HB.out | apply below_alloc | apply pw_below_drewN | apply below_drew1) | exact HB.out))⟩
theorem suf2 (r : ByteArray) : (r ++ (⟨#[13, 10]⟩ : ByteArray) : ByteArray).extract r.size (r.size + 2) = (⟨#[13, 10]⟩ : ByteArray) := by
  obtain ⟨⟨l⟩⟩ := r
  apply ByteArray.ext
  have e2 : (⟨⟨l⟩⟩ : ByteArray).size = l.length := by simp [ByteArray.size]
  rw [ByteArray.data_extract, ByteArray.data_append, e2]
  simp
set_option maxRecDepth 100000 in
set_option maxHeartbeats 2000000 in
theorem sane_calls (l : List Int) (A : Option Addr) (c : Nat) (w : World) (hT : Tabs w) (hC : (Kd.int .u8).C w A l.length l) (hc : l.length ≤ c) (h8 : B8 l) (hl : l.length ≤ 9223372036854775807) : Calls Tryz.prog 4 #[.slice A l.length c] w fun e w' => e = .returned (.bool true) ∧ Below w.heap.size w w' := by
  have HB := Aside0.mk (Below.refl w.heap.size w)
  have HT := Aside0.mk hT
  have HC := Aside0.mk hC
  clear hT hC
  by_cases h5 : 5000 < l.length
  · have h5i : (5000 : Int) < ↑l.length := by omega
    clear h5
    go_enter Tryz.func4, Tryz.ntmps4
    go_wp2_with (first | (go_at_call 10; (with_reducible refine (awake_calls _ (Tabs.below HT.out (by repeat (first | (with_reducible first | exact HB.out | apply below_alloc | apply pw_below_drewN | apply below_drew1) | exact HB.out)))).mono ?_); rintro e w0 ⟨rfl, hb⟩; have HBn := Aside0.mk (below_step (by repeat (first | (with_reducible first | exact HB.out | apply below_alloc | apply pw_below_drewN | apply below_drew1) | exact HB.out)) hb); clear HB; have HB := HBn; clear HBn; clear hb))
    go_ret
    exact ⟨rfl, (by repeat (first | (with_reducible first | exact HB.out | apply below_alloc | apply pw_below_drewN | apply below_drew1) | exact HB.out))⟩
  have h5i : ¬ (5000 : Int) < ↑l.length := by omega
  have hg := good_parse l
  rcases hg with hp | ⟨u, r, k, b, hp, h0, h1, hk, hr0, hr1⟩ | ⟨u, f, cs, hp, h0, h1, hne, hlen, hmay⟩
  · have HP := Aside0.mk (fun (w' : World) (hC : (Kd.int .u8).C w' A l.length l) (hT : Tabs w') => parse_v l _ rfl _ hp 0 false ⟨#[]⟩ 0 0 false 3 rfl rfl rfl rfl rfl rfl rfl A c w' hC hc (by omega) h8 hT)
    clear hp h8 hc h5
    go_enter Tryz.func4, Tryz.ntmps4
    go_wp2_with (first | (go_at_call 10; (with_reducible refine (awake_calls _ (Tabs.below HT.out (by repeat (first | (with_reducible first | exact HB.out | apply below_alloc | apply pw_below_drewN | apply below_drew1) | exact HB.out)))).mono ?_); rintro e w0 ⟨rfl, hb⟩; have HBn := Aside0.mk (below_step (by repeat (first | (with_reducible first | exact HB.out | apply below_alloc | apply pw_below_drewN | apply below_drew1) | exact HB.out)) hb); clear HB; have HB := HBn; clear HBn; clear hb) | (go_at_call 12; (with_reducible refine (HP.out _ (Kd.C_below HC.out (by repeat (first | (with_reducible first | exact HB.out | apply below_alloc | apply pw_below_drewN | apply below_drew1) | exact HB.out))) (Tabs.below HT.out (by repeat (first | (with_reducible first | exact HB.out | apply below_alloc | apply pw_below_drewN | apply below_drew1) | exact HB.out)))).mono ?_); rintro e w1 ⟨A0, c0, x1, x2, x3, x4, x6, x7, A8, n8, c8, A9, n9, c9, x10, rfl, hk, hb⟩; have HBn := Aside0.mk (below_step (by repeat (first | (with_reducible first | exact HB.out | apply below_alloc | apply pw_below_drewN | apply below_drew1) | exact HB.out)) hb); clear HB; have HB := HBn; clear HBn; have HW1 := Aside0.mk HB.out.size; have HK1 := Aside0.mk hk; have HB1 := Aside0.mk (Below.refl w1.heap.size w1); clear hk hb))
    go_ret
    exact ⟨rfl, (by repeat (first | (with_reducible first | exact HB.out | apply below_alloc | apply pw_below_drewN | apply below_drew1) | exact HB.out))⟩
  · have HP := Aside0.mk (fun (w' : World) (hC : (Kd.int .u8).C w' A l.length l) (hT : Tabs w') => parse_v l _ rfl _ hp 0 false (r ++ (⟨#[13, 10]⟩ : ByteArray)) u k b 2 rfl rfl rfl rfl rfl rfl rfl A c w' hC hc (by omega) h8 hT)
    clear hp h8 hc h5
    have hz : (r ++ (⟨#[13, 10]⟩ : ByteArray) : ByteArray).size = r.size + 2 := ByteArray.size_append
    have hx := suf2 r
    go_enter Tryz.func4, Tryz.ntmps4
    go_wp2_with (first | (go_at_call 10; (with_reducible refine (awake_calls _ (Tabs.below HT.out (by repeat (first | (with_reducible first | exact HB.out | apply below_alloc | apply pw_below_drewN | apply below_drew1) | exact HB.out)))).mono ?_); rintro e w0 ⟨rfl, hb⟩; have HBn := Aside0.mk (below_step (by repeat (first | (with_reducible first | exact HB.out | apply below_alloc | apply pw_below_drewN | apply below_drew1) | exact HB.out)) hb); clear HB; have HB := HBn; clear HBn; clear hb) | (go_at_call 12; (with_reducible refine (HP.out _ (Kd.C_below HC.out (by repeat (first | (with_reducible first | exact HB.out | apply below_alloc | apply pw_below_drewN | apply below_drew1) | exact HB.out))) (Tabs.below HT.out (by repeat (first | (with_reducible first | exact HB.out | apply below_alloc | apply pw_below_drewN | apply below_drew1) | exact HB.out)))).mono ?_); rintro e w1 ⟨A0, c0, x1, x2, x3, x4, x6, x7, A8, n8, c8, A9, n9, c9, x10, rfl, hk, hb⟩; have HBn := Aside0.mk (below_step (by repeat (first | (with_reducible first | exact HB.out | apply below_alloc | apply pw_below_drewN | apply below_drew1) | exact HB.out)) hb); clear HB; have HB := HBn; clear HBn; have HW1 := Aside0.mk HB.out.size; have HK1 := Aside0.mk hk; have HB1 := Aside0.mk (Below.refl w1.heap.size w1); clear hk hb))
    go_ret
    exact ⟨rfl, (by repeat (first | (with_reducible first | exact HB.out | apply below_alloc | apply pw_below_drewN | apply below_drew1) | exact HB.out))⟩
  · have HP := Aside0.mk (fun (w' : World) (hC : (Kd.int .u8).C w' A l.length l) (hT : Tabs w') => parse_v l _ rfl _ hp cs.length f.quiet ⟨#[]⟩ u 0 false 0 rfl rfl rfl rfl rfl rfl rfl A c w' hC hc (by omega) h8 hT)
    have HMAY := Aside0.mk hmay
    have hpos : 0 < cs.length := List.length_pos_iff.2 hne
    have hl0 : (0 : Int) < ↑cs.length := by omega
    have hl1 : (cs.length : Int) ≤ 16 := by omega
    clear hp h8 hc h5 hmay hne hlen
    go_enter Tryz.func4, Tryz.ntmps4
    go_wp2_with (first | (go_at_call 10; (with_reducible refine (awake_calls _ (Tabs.below HT.out (by repeat (first | (with_reducible first | exact HB.out | apply below_alloc | apply pw_below_drewN | apply below_drew1) | exact HB.out)))).mono ?_); rintro e w0 ⟨rfl, hb⟩; have HBn := Aside0.mk (below_step (by repeat (first | (with_reducible first | exact HB.out | apply below_alloc | apply pw_below_drewN | apply below_drew1) | exact HB.out)) hb); clear HB; have HB := HBn; clear HBn; clear hb) | (go_at_call 12; (with_reducible refine (HP.out _ (Kd.C_below HC.out (by repeat (first | (with_reducible first | exact HB.out | apply below_alloc | apply pw_below_drewN | apply below_drew1) | exact HB.out))) (Tabs.below HT.out (by repeat (first | (with_reducible first | exact HB.out | apply below_alloc | apply pw_below_drewN | apply below_drew1) | exact HB.out)))).mono ?_); rintro e w1 ⟨A0, c0, x1, x2, x3, x4, x6, x7, A8, n8, c8, A9, n9, c9, x10, rfl, hk, hb⟩; have HBn := Aside0.mk (below_step (by repeat (first | (with_reducible first | exact HB.out | apply below_alloc | apply pw_below_drewN | apply below_drew1) | exact HB.out)) hb); clear HB; have HB := HBn; clear HBn; have HW1 := Aside0.mk HB.out.size; have HK1 := Aside0.mk hk; have HB1 := Aside0.mk (Below.refl w1.heap.size w1); clear hk hb))
    obtain ⟨W, hW⟩ : ∃ W, w1.alloc (.cells #[.slice A0 cs.length c0, .int .i64 x1, .string x2, .int .i64 x3, .int .u32 x4, .bool f.quiet, .bool x6, .string x7, .slice A8 n8 c8, .slice A9 n9 c9, .bool x10, .string ⟨#[]⟩, .int .i64 u, .int .i64 0, .bool false, .int .i64 0] 34 (0, 0)) = W := ⟨_, rfl⟩
    rw [hW]
    have B1 := Aside0.mk (show W.heap[w1.heap.size]? = _ from hW ▸ blk_at_new _ _ _ rfl)
    have HBW : Aside0 (Below w.heap.size w W) := ⟨hW ▸ (by repeat (first | (with_reducible first | exact HB.out | apply below_alloc | apply pw_below_drewN | apply below_drew1) | exact HB.out))⟩
    have HCS : Aside0 (kCmd.C W A0 cs.length cs) := ⟨Kd.C_below (step_C HK1.out) (hW ▸ (by repeat (first | (with_reducible first | exact HB1.out | apply below_alloc | apply pw_below_drewN | apply below_drew1) | exact HB1.out)))⟩
    have HG := Aside0.mk (blk_lt B1.out)
    clear hW HB HB1 HK1
    go_loopw [6] (fun v wr => ∃ k : Nat, v = .int .i64 k ∧ k ≤ cs.length ∧ Aside0 (Below W.heap.size W wr)) (fun v _ => cs.length - (intOf v).toNat)
    case atStart => exact ⟨0, rfl, by omega, ⟨Below.refl _ _⟩⟩
    case round =>
      obtain ⟨k, rfl, hk, HB0⟩ := hrel
      have t0 : wr.cell? ⟨w1.heap.size, 0, none⟩ = some (.slice A0 cs.length c0) := (Below.cell HB0.out (p := ⟨w1.heap.size, 0, none⟩) HG.out).trans ((blk_cell B1.out 0).trans rfl)
      by_cases hlt : k < cs.length
      · obtain ⟨x, hx⟩ : ∃ x, cs[k]? = some x := ⟨_, List.getElem?_eq_getElem hlt⟩
        obtain ⟨b1, o1, A2, c2, rfl, hb1, hr1, hl2, hC2⟩ := cmd_v HCS.out k x hx
        have HR1 := Aside0.mk hr1
        have HBB := Aside0.mk hb1
        have HM : Aside0 (∀ w', Below W.heap.size W w' → Calls Tryz.prog 14 #[.agg #[.int .i64 x.op, .string x.key, .slice A2 x.value.length c2, .int .u32 x.flags, .int .i64 x.exp, .int .u64 x.cas, .int .u64 x.delta, .int .u64 x.initial, .bool x.makes, .bool x.sets], .bool false] w' fun e w'' => e = .returned (.bool true) ∧ Below w'.heap.size w' w'') := ⟨fun w' hb => may_calls x _ w' (kCmd_mk w' x hl2 (Kd.C_below hC2 hb)) (HMAY.out x (List.mem_of_getElem? hx))⟩
        have hki : (k : Int) < ↑cs.length := by omega
        clear hx hr1 hC2 hl2 hb1
        go_wp2_with (first
          | (refine wpList_load_mid rfl 40 _ rfl b1 (o1 + k * 10) rfl _ _ (range_below HR1.out HB0.out HBB.out) Tryz.underlying40 rfl (by kernel_rfl) ?_)
          | (go_at_call 14; (with_reducible refine (HM.out _ HB0.out).mono ?_); rintro e w5 ⟨rfl, hb⟩; have HBn := Aside0.mk (below_step HB0.out hb); clear HB0 hb; have HB0 := HBn; clear HBn))
        go_roundw
        case rel => exact ⟨k + 1, by first | rfl | simp, by omega, ⟨HB0.out⟩⟩
        case measure => simp [intOf]; omega
      · have hki : ¬ (k : Int) < ↑cs.length := by omega
        have t12 : wr.cell? ⟨w1.heap.size, 12, none⟩ = some (.int .i64 u) := (Below.cell HB0.out (p := ⟨w1.heap.size, 12, none⟩) HG.out).trans ((blk_cell B1.out 12).trans rfl)
        have t13 : wr.cell? ⟨w1.heap.size, 13, none⟩ = some (.int .i64 0) := (Below.cell HB0.out (p := ⟨w1.heap.size, 13, none⟩) HG.out).trans ((blk_cell B1.out 13).trans rfl)
        have t14 : wr.cell? ⟨w1.heap.size, 14, none⟩ = some (.bool false) := (Below.cell HB0.out (p := ⟨w1.heap.size, 14, none⟩) HG.out).trans ((blk_cell B1.out 14).trans rfl)
        have t15 : wr.cell? ⟨w1.heap.size, 15, none⟩ = some (.int .i64 0) := (Below.cell HB0.out (p := ⟨w1.heap.size, 15, none⟩) HG.out).trans ((blk_cell B1.out 15).trans rfl)
        go_wp2
        go_ret
        exact ⟨rfl, HBW.out.trans (HB0.out.mono HBW.out.size)⟩
theorem sane_w (l : List Int) (A : Option Addr) (c : Nat) (w : World) (hT : Tabs w) (hC : (Kd.int .u8).C w A l.length l) (hc : l.length ≤ c) (hw : l.length ≤ 9223372036854775807 ∧ ∀ y ∈ l, 0 ≤ y ∧ y < 256) : Calls Tryz.prog 4 #[.slice A l.length c] w fun e w' => e = .returned (.bool true) ∧ Below w.heap.size w w' :=
  sane_calls l A c w hT hC hc hw.2 hw.1
end Go.Proofs.YtfljijpkeckeaaaGreatDoor.X
