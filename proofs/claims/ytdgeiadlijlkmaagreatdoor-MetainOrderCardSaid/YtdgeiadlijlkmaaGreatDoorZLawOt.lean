/- MetainOrder: its walk with T. -/
import Derived.Test.YtdgeiadlijlkmaaGreatDoorZLawO0
namespace Go.Proofs.YtdgeiadlijlkmaaGreatDoor.X
open Go.RowKit Go.Proofs.YtdgeiadlijlkmaaGreatDoorW.PrintWords Go.Proofs.YtdgeiadlijlkmaaGreatDoorW.PrintMore Go.Proofs.YtdgeiadlijlkmaaGreatDoorW.PrintLast
set_option linter.unusedVariables false
set_option linter.unusedSimpArgs false
set_option maxRecDepth 100000 in
set_option maxHeartbeats 2000000 in
theorem order_tok (k : ByteArray) (u : Nat) (w : World) (hT : Tabs w) (hk0 : 1 ≤ k.size) (hk3 : k.size ≤ 300) (hu : u ≤ 1000000000) (hq : keyS k = true) :
    Calls Tryz.prog 6 #[.string k, .int .u32 (u : Int), .bool true] w fun e w' => e = .returned (.bool true) ∧ Below w.heap.size w w' := by
  have HB := Aside0.mk (Below.refl w.heap.size w)
  have HT := Aside0.mk hT
  have hki0 : ¬ (k.size : Int) < 1 := by omega
  have hki3 : ¬ (300 : Int) < ↑k.size := by omega
  have hui : ¬ (1000000000 : Int) < ↑u := by omega
  clear hT
  go_enter Tryz.func6, Tryz.ntmps6
  go_wp2_with (first | (go_at_call 9; (with_reducible refine (awake_calls _ (Tabs.below HT.out (by repeat (first | (with_reducible first | exact HB.out | apply below_alloc | apply pw_below_drewN | apply below_drew1) | exact HB.out)))).mono ?_); rintro e w0 ⟨rfl, hb⟩; have HBn := Aside0.mk (below_step (by repeat (first | (with_reducible first | exact HB.out | apply below_alloc | apply pw_below_drewN | apply below_drew1) | exact HB.out)) hb); clear HB; have HB := HBn; clear HBn; clear hb))
  go_loop [8] (fun si => ∃ i : Nat, si = .int .i64 i ∧ i ≤ k.size ∧ Aside0 (CleanK k i)) (fun si => k.size - (intOf si).toNat)
  case atStart => exact ⟨0, rfl, by omega, ⟨fun j _ h => absurd h (by omega)⟩⟩
  case round =>
    obtain ⟨i, rfl, hi, HC⟩ := hrel
    by_cases hlt : i < k.size
    · have hii : (i : Int) < ↑k.size := by omega
      by_cases hb1 : (k[i].toNat : Int) = 32
      · have hb1b : ((k[i].toNat : Int) == 32) = true := beq_iff_eq.2 hb1
        clear hb1
        go_wp2
        go_ret
        exact ⟨rfl, (by repeat (first | (with_reducible first | exact HB.out | apply below_alloc | apply pw_below_drewN | apply below_drew1) | exact HB.out))⟩
      have hb1b : ((k[i].toNat : Int) == 32) = false := beq_eq_false_iff_ne.2 hb1
      by_cases hb2 : (k[i].toNat : Int) = 10
      · have hb2b : ((k[i].toNat : Int) == 10) = true := beq_iff_eq.2 hb2
        clear hb1 hb2
        go_wp2
        go_ret
        exact ⟨rfl, (by repeat (first | (with_reducible first | exact HB.out | apply below_alloc | apply pw_below_drewN | apply below_drew1) | exact HB.out))⟩
      have hb2b : ((k[i].toNat : Int) == 10) = false := beq_eq_false_iff_ne.2 hb2
      have HC2 := Aside0.mk (cleank_step HC.out hlt hb1 hb2)
      clear hb1 hb2
      go_wp2
      go_round
      case rel => exact ⟨i + 1, by first | rfl | simp, by omega, HC2⟩
      case measure => simp [intOf]; omega
    · obtain rfl : i = k.size := by omega
      have hii : ¬ (k.size : Int) < ↑k.size := by omega
      clear hlt hi
      go_wp2
      go_loopw [10, 11] (fun sn sx wr => ∃ (y : Nat) (s : ByteArray), sn = .string s ∧ sx = .int .u32 y ∧ y ≤ u ∧ Aside0 (DigR u y s) ∧ Aside0 (Below w.heap.size w wr)) (fun _ sx _ => (intOf sx).toNat)
      case atStart => exact ⟨u, ⟨#[]⟩, rfl, rfl, Nat.le_refl _, ⟨dig_start u⟩, HB⟩
      case round =>
        obtain ⟨y, s, rfl, rfl, hy, HD, HBn⟩ := hrel
        clear HB
        have HB := HBn
        clear HBn
        have zs : s.size ≤ 20 := HD.out.1
        by_cases hy0 : 0 < y
        · have hyi : (0 : Int) < ↑y := by omega
          obtain ⟨D1, hD1⟩ : ∃ D : ByteArray, (⟨#[UInt8.ofNat (48 + y % 10)]⟩ : ByteArray) = D := ⟨_, rfl⟩
          have zD1 : D1.size ≤ 1 := by rw [← hD1]; exact Nat.le_refl 1
          have HD2 := Aside0.mk (dig_step HD.out hy0 hu hy)
          have HS := Aside0.mk (dig_byte y)
          rw [hD1] at HD2 HS
          clear hD1
          have hyu : (y : Int) ≤ 1000000000 := by omega
          clear HD
          go_wp2_with (first | ((with_reducible refine gate_dst (N := 61) rfl ?_); refine wp_strof rfl _ _ _ _ rfl _ _ _ [48 + (y : Int) % 10] rfl Tryz.underlying22 Tryz.underlying5 Tryz.underlying9 (Bytes_at (by repeat first | (apply ha_at; (simp; done)) | apply ha_old) [48 + (y : Int) % 10] (by simp) rfl) ?_; rw [HS.out]))
          go_roundw
          case rel => exact ⟨y / 10, _, rfl, by first | rfl | simp, by omega, HD2, ⟨(by repeat (first | (with_reducible first | exact HB.out | apply below_alloc | apply pw_below_drewN | apply below_drew1) | exact HB.out))⟩⟩
          case measure => simp [intOf]; omega
        · obtain rfl : y = 0 := by omega
          have hN20 := dig_len u (by omega)
          obtain ⟨N, hN⟩ : ∃ N, baOf (Lib.decDigits u) = N := ⟨_, rfl⟩
          have zN : N.size ≤ 20 := by rw [← hN, ba_size]; exact hN20
          have HNE : Aside0 (N.toList.isEmpty = false) := ⟨by
            rw [← hN, ByteArray.toList_eq]
            show (Lib.decDigits u).isEmpty = false
            have := dig_ne u
            revert this
            cases Lib.decDigits u <;> simp⟩
          obtain ⟨m, h1, h2⟩ := order_p k u true hu hk0 hk3 HC.out
          rw [hN] at h1 h2
          have HN := Aside0.mk hN
          have HP := Aside0.mk (And.intro h1 h2)
          clear h1 h2 hN hN20
          go_upto_if 65 with fail
          go_cut [10] from 64 to 65 (fun sv wx => sv = .string N ∧ wx = wr)
          case first =>
            have hd := HD.out.2
            rw [if_pos rfl] at hd
            by_cases h0 : u = 0
            · rw [if_pos h0] at hd
              subst hd
              have hN0 : N = ⟨#[48]⟩ := by rw [← HN.out, h0, Lib.decDigits_one (by omega)]; rfl
              have hE0 : (⟨#[]⟩ : ByteArray).toList.isEmpty = true := by rw [ByteArray.toList_eq]; rfl
              go_wp2
              · go_meet
                case rel => exact ⟨by rw [hN0], rfl⟩
              · rename_i hx
                rw [hE0] at hx
                cases hx
            · rw [if_neg h0, HN.out] at hd
              subst hd
              have hNe := HNE.out
              go_wp2
              · rename_i hx
                rw [hNe] at hx
                cases hx
              · go_meet
                case rel => exact ⟨rfl, rfl⟩
          case rest =>
          obtain ⟨rfl, rfl⟩ := hcut
          have zE := size_E k ⟨#[84]⟩ N hk3 (by decide) zN
          have Z1 : Aside0 ((((((⟨#[109, 103, 32]⟩ ++ k) ++ ⟨#[32, 113, 32]⟩) ++ ⟨#[84]⟩) ++ N) ++ ⟨#[13, 10]⟩ : ByteArray).size ≤ 9223372036854775807) := ⟨Nat.le_trans zE.1 (by decide)⟩
          have Z2 : Aside0 ((((((⟨#[109, 103, 32]⟩ ++ k) ++ ⟨#[32]⟩) ++ ⟨#[84]⟩) ++ N) ++ ⟨#[32, 113, 13, 10]⟩ : ByteArray).size ≤ 9223372036854775807) := ⟨Nat.le_trans zE.2 (by decide)⟩
          obtain ⟨h1, h2⟩ := HP.out
          rw [if_pos hq] at h1 h2
          have HP1 : Aside0 (∀ (A : Option Addr) (c' : Nat) (w' : World), Bytes w' A (bytesOf (((((⟨#[109, 103, 32]⟩ ++ k) ++ ⟨#[32, 113, 32]⟩) ++ ⟨#[84]⟩) ++ N) ++ ⟨#[13, 10]⟩ : ByteArray)) → (bytesOf (((((⟨#[109, 103, 32]⟩ ++ k) ++ ⟨#[32, 113, 32]⟩) ++ ⟨#[84]⟩) ++ N) ++ ⟨#[13, 10]⟩ : ByteArray)).length ≤ c' → Tabs w' → Calls Tryz.prog 11 #[.slice A (bytesOf (((((⟨#[109, 103, 32]⟩ ++ k) ++ ⟨#[32, 113, 32]⟩) ++ ⟨#[84]⟩) ++ N) ++ ⟨#[13, 10]⟩ : ByteArray)).length c'] w' (PV w' (stepK k u true m) 1 true ⟨#[]⟩ m 0 false 0)) := ⟨fun A c' w' hC hc hT => parse_v _ _ rfl _ h1 _ _ _ _ _ _ _ rfl rfl rfl rfl rfl rfl rfl A c' w' hC hc (by rw [bytesOf_length]; exact Nat.le_trans zE.1 (by decide)) (B8_nums _) hT⟩
          have HP2 : Aside0 (∀ (A : Option Addr) (c' : Nat) (w' : World), Bytes w' A (bytesOf (((((⟨#[109, 103, 32]⟩ ++ k) ++ ⟨#[32]⟩) ++ ⟨#[84]⟩) ++ N) ++ ⟨#[32, 113, 13, 10]⟩ : ByteArray)) → (bytesOf (((((⟨#[109, 103, 32]⟩ ++ k) ++ ⟨#[32]⟩) ++ ⟨#[84]⟩) ++ N) ++ ⟨#[32, 113, 13, 10]⟩ : ByteArray)).length ≤ c' → Tabs w' → Calls Tryz.prog 11 #[.slice A (bytesOf (((((⟨#[109, 103, 32]⟩ ++ k) ++ ⟨#[32]⟩) ++ ⟨#[84]⟩) ++ N) ++ ⟨#[32, 113, 13, 10]⟩ : ByteArray)).length c'] w' (PV w' (stepK k u true m) 1 true ⟨#[]⟩ m 0 false 0)) := ⟨fun A c' w' hC hc hT => parse_v _ _ rfl _ h2 _ _ _ _ _ _ _ rfl rfl rfl rfl rfl rfl rfl A c' w' hC hc (by rw [bytesOf_length]; exact Nat.le_trans zE.2 (by decide)) (B8_nums _) hT⟩
          clear h1 h2 zE HP
          go_wp2_with (first
            | ((with_reducible refine gate_dst (N := 74) rfl ?_); refine wp_bytes rfl _ _ _ _ rfl _ rfl Tryz.underlying9 Tryz.underlying22 Tryz.underlying5 Z1.out ?_; intro Ab cb wb hcap hby hb; have HBY := Aside0.mk hby; have HCAP := Aside0.mk hcap; skip; have HBn := Aside0.mk (below_step (by repeat (first | (with_reducible first | exact HB.out | apply below_alloc | apply pw_below_drewN | apply below_drew1) | exact HB.out)) hb); clear HB; have HB := HBn; clear HBn; clear hcap hby hb)
            | ((go_at_call 11; (with_reducible refine (HP1.out _ _ _ HBY.out HCAP.out (Tabs.below HT.out (by repeat (first | (with_reducible first | exact HB.out | apply below_alloc | apply pw_below_drewN | apply below_drew1) | exact HB.out)))).mono ?_); rintro e w1 ⟨A0, c0, x1, x2, x3, x4, x6, x7, A8, n8, c8, A9, n9, c9, x10, rfl, hk, hb⟩; have HBn := Aside0.mk (below_step (by repeat (first | (with_reducible first | exact HB.out | apply below_alloc | apply pw_below_drewN | apply below_drew1) | exact HB.out)) hb); clear HB; have HB := HBn; clear HBn; have HW1 := Aside0.mk HB.out.size; have HK1 := Aside0.mk hk; have HB1 := Aside0.mk (Below.refl w1.heap.size w1); clear hk hb HBY HCAP); obtain ⟨b1, o1, A2, c2, rfl, hb1, hr1, -, -⟩ := cmd_v (step_C HK1.out) 0 _ rfl; have HR1 : Aside0 (w1.rangeAt b1 o1 [.int .i64 12, .string k, .slice A2 0 c2, .int .u32 0, .int .i64 ↑u, .int .u64 0, .int .u64 0, .int .u64 0, .bool false, .bool true]) := ⟨hr1⟩; have HBB := Aside0.mk hb1; clear hr1 hb1)
            | ((with_reducible refine gate_dst (N := 84) rfl ?_); refine wp_bytes rfl _ _ _ _ rfl _ rfl Tryz.underlying9 Tryz.underlying22 Tryz.underlying5 Z2.out ?_; intro Ab cb wb hcap hby hb; have HBY := Aside0.mk hby; have HCAP := Aside0.mk hcap; (try (have B1n := Aside0.mk (blk_below (g := w1.heap.size) (o := .cells #[.slice (some ⟨b1, o1, none⟩) 1 c0, .int .i64 x1, .string x2, .int .i64 x3, .int .u32 x4, .bool true, .bool x6, .string x7, .slice A8 n8 c8, .slice A9 n9 c9, .bool x10, .string ⟨#[]⟩, .int .i64 m, .int .i64 0, .bool false, .int .i64 0] 34 (0, 0)) (by repeat (first | exact B1.out | exact blk_at_new _ _ _ (by simp; done) | exact blk_at_new _ _ _ rfl | refine blk_alloc ?_ _ | refine blk_drew ?_ | refine blk_drewN ?_ _)) hb); have HB1n := Aside0.mk (below_step (by repeat (first | (with_reducible first | exact HB1.out | apply below_alloc | apply pw_below_drewN | apply below_drew1) | exact HB1.out)) hb); clear HB1; have HB1 := HB1n; clear HB1n; (try clear B1); have B1 := B1n; clear B1n)); have HBn := Aside0.mk (below_step (by repeat (first | (with_reducible first | exact HB.out | apply below_alloc | apply pw_below_drewN | apply below_drew1) | exact HB.out)) hb); clear HB; have HB := HBn; clear HBn; clear hcap hby hb)
            | (go_at_call 11; (with_reducible refine (HP2.out _ _ _ HBY.out HCAP.out (Tabs.below HT.out (by repeat (first | (with_reducible first | exact HB.out | apply below_alloc | apply pw_below_drewN | apply below_drew1) | exact HB.out)))).mono ?_); rintro e w2 ⟨B0, d0, y1, y2, y3, y4, y6, y7, B8, m8, d8, B9, m9, d9, y10, rfl, hk, hb⟩; (try (have B1n := Aside0.mk (blk_below (g := w1.heap.size) (o := .cells #[.slice (some ⟨b1, o1, none⟩) 1 c0, .int .i64 x1, .string x2, .int .i64 x3, .int .u32 x4, .bool true, .bool x6, .string x7, .slice A8 n8 c8, .slice A9 n9 c9, .bool x10, .string ⟨#[]⟩, .int .i64 m, .int .i64 0, .bool false, .int .i64 0] 34 (0, 0)) (by repeat (first | exact B1.out | exact blk_at_new _ _ _ (by simp; done) | exact blk_at_new _ _ _ rfl | refine blk_alloc ?_ _ | refine blk_drew ?_ | refine blk_drewN ?_ _)) hb); have HB1n := Aside0.mk (below_step (by repeat (first | (with_reducible first | exact HB1.out | apply below_alloc | apply pw_below_drewN | apply below_drew1) | exact HB1.out)) hb); clear HB1; have HB1 := HB1n; clear HB1n; (try clear B1); have B1 := B1n; clear B1n)); have HBn := Aside0.mk (below_step (by repeat (first | (with_reducible first | exact HB.out | apply below_alloc | apply pw_below_drewN | apply below_drew1) | exact HB.out)) hb); clear HB; have HB := HBn; clear HBn; have HK2 := Aside0.mk hk; have HB2 := Aside0.mk (Below.refl w2.heap.size w2); have l1 : w1.heap.size < w2.heap.size := blk_lt B1.out; clear hk hb HBY HCAP; have HST : Aside0 (∀ w', Below w1.heap.size w1 w' → Below w2.heap.size w2 w' → Calls Tryz.prog 10 #[.agg #[.slice (some ⟨b1, o1, none⟩) 1 c0, .int .i64 x1, .string x2, .int .i64 x3, .int .u32 x4, .bool true, .bool x6, .string x7, .slice A8 n8 c8, .slice A9 n9 c9, .bool x10, .string ⟨#[]⟩, .int .i64 m, .int .i64 0, .bool false, .int .i64 0], .agg #[.slice B0 1 d0, .int .i64 y1, .string y2, .int .i64 y3, .int .u32 y4, .bool true, .bool y6, .string y7, .slice B8 m8 d8, .slice B9 m9 d9, .bool y10, .string ⟨#[]⟩, .int .i64 m, .int .i64 0, .bool false, .int .i64 0]] w' fun e w'' => e = .returned (.bool true) ∧ Below w'.heap.size w' w'') := ⟨fun w' g1 g2 => steps_same _ _ _ w' (kStep.K_below g1 HK1.out) (kStep.K_below g2 HK2.out)⟩)
            | (refine wpList_load_row rfl 34 _ rfl (w1.heap.size) rfl 34 _ (0, 0) _ (blk_alloc B1.out _) Tryz.underlying34 rfl (by kernel_rfl) ?_)
            | (go_at_call 10; (with_reducible refine (HST.out _ (by repeat (first | (with_reducible first | exact HB1.out | apply below_alloc | apply pw_below_drewN | apply below_drew1) | exact HB1.out)) (by repeat (first | (with_reducible first | exact HB2.out | apply below_alloc | apply pw_below_drewN | apply below_drew1) | exact HB2.out))).mono ?_); rintro e w5 ⟨rfl, hb⟩; have B1n := Aside0.mk (blk_below (blk_alloc B1.out _) hb); have B2 := Aside0.mk (blk_below (g := w2.heap.size) (o := .cells #[.slice B0 1 d0, .int .i64 y1, .string y2, .int .i64 y3, .int .u32 y4, .bool true, .bool y6, .string y7, .slice B8 m8 d8, .slice B9 m9 d9, .bool y10, .string ⟨#[]⟩, .int .i64 m, .int .i64 0, .bool false, .int .i64 0] 34 (0, 0)) (blk_at_new _ _ _ rfl) hb); have HBn := Aside0.mk (below_step (by repeat (first | (with_reducible first | exact HB.out | apply below_alloc | apply pw_below_drewN | apply below_drew1) | exact HB.out)) hb); clear HB; have HB := HBn; clear HBn; have HB1n := Aside0.mk (below_step (by repeat (first | (with_reducible first | exact HB1.out | apply below_alloc | apply pw_below_drewN | apply below_drew1) | exact HB1.out)) hb); clear HB1; have HB1 := HB1n; clear HB1n; clear hb B1 l1; have B1 := B1n; clear B1n; have a15 : w5.cell? ⟨w1.heap.size, 15, none⟩ = some (.int .i64 0) := (blk_cell B1.out 15).trans rfl; have a0 : w5.cell? ⟨w1.heap.size, 0, none⟩ = some (.slice (some ⟨b1, o1, none⟩) 1 c0) := (blk_cell B1.out 0).trans rfl; have a5 : w5.cell? ⟨w1.heap.size, 5, none⟩ = some (.bool true) := (blk_cell B1.out 5).trans rfl; have l5 : w1.heap.size < w5.heap.size := blk_lt B1.out)
            | (refine wpList_load_mid rfl 40 _ rfl b1 o1 rfl [.int .i64 12, .string k, .slice A2 0 c2, .int .u32 0, .int .i64 ↑u, .int .u64 0, .int .u64 0, .int .u64 0, .bool false, .bool true] _ (range_below HR1.out (by repeat (first | (with_reducible first | exact HB1.out | apply below_alloc | apply pw_below_drewN | apply below_drew1) | exact HB1.out)) HBB.out) Tryz.underlying40 rfl (by kernel_rfl) ?_))
          go_ret
          exact ⟨rfl, (by repeat (first | (with_reducible first | exact HB.out | apply below_alloc | apply pw_below_drewN | apply below_drew1) | exact HB.out))⟩
set_option maxRecDepth 100000 in
set_option maxHeartbeats 2000000 in
theorem order_tbad (k : ByteArray) (u : Nat) (w : World) (hT : Tabs w) (hk0 : 1 ≤ k.size) (hk3 : k.size ≤ 300) (hu : u ≤ 1000000000) (hq : keyS k = false) :
    Calls Tryz.prog 6 #[.string k, .int .u32 (u : Int), .bool true] w fun e w' => e = .returned (.bool true) ∧ Below w.heap.size w w' := by
  have HB := Aside0.mk (Below.refl w.heap.size w)
  have HT := Aside0.mk hT
  have hki0 : ¬ (k.size : Int) < 1 := by omega
  have hki3 : ¬ (300 : Int) < ↑k.size := by omega
  have hui : ¬ (1000000000 : Int) < ↑u := by omega
  clear hT
  go_enter Tryz.func6, Tryz.ntmps6
  go_wp2_with (first | (go_at_call 9; (with_reducible refine (awake_calls _ (Tabs.below HT.out (by repeat (first | (with_reducible first | exact HB.out | apply below_alloc | apply pw_below_drewN | apply below_drew1) | exact HB.out)))).mono ?_); rintro e w0 ⟨rfl, hb⟩; have HBn := Aside0.mk (below_step (by repeat (first | (with_reducible first | exact HB.out | apply below_alloc | apply pw_below_drewN | apply below_drew1) | exact HB.out)) hb); clear HB; have HB := HBn; clear HBn; clear hb))
  go_loop [8] (fun si => ∃ i : Nat, si = .int .i64 i ∧ i ≤ k.size ∧ Aside0 (CleanK k i)) (fun si => k.size - (intOf si).toNat)
  case atStart => exact ⟨0, rfl, by omega, ⟨fun j _ h => absurd h (by omega)⟩⟩
  case round =>
    obtain ⟨i, rfl, hi, HC⟩ := hrel
    by_cases hlt : i < k.size
    · have hii : (i : Int) < ↑k.size := by omega
      by_cases hb1 : (k[i].toNat : Int) = 32
      · have hb1b : ((k[i].toNat : Int) == 32) = true := beq_iff_eq.2 hb1
        clear hb1
        go_wp2
        go_ret
        exact ⟨rfl, (by repeat (first | (with_reducible first | exact HB.out | apply below_alloc | apply pw_below_drewN | apply below_drew1) | exact HB.out))⟩
      have hb1b : ((k[i].toNat : Int) == 32) = false := beq_eq_false_iff_ne.2 hb1
      by_cases hb2 : (k[i].toNat : Int) = 10
      · have hb2b : ((k[i].toNat : Int) == 10) = true := beq_iff_eq.2 hb2
        clear hb1 hb2
        go_wp2
        go_ret
        exact ⟨rfl, (by repeat (first | (with_reducible first | exact HB.out | apply below_alloc | apply pw_below_drewN | apply below_drew1) | exact HB.out))⟩
      have hb2b : ((k[i].toNat : Int) == 10) = false := beq_eq_false_iff_ne.2 hb2
      have HC2 := Aside0.mk (cleank_step HC.out hlt hb1 hb2)
      clear hb1 hb2
      go_wp2
      go_round
      case rel => exact ⟨i + 1, by first | rfl | simp, by omega, HC2⟩
      case measure => simp [intOf]; omega
    · obtain rfl : i = k.size := by omega
      have hii : ¬ (k.size : Int) < ↑k.size := by omega
      clear hlt hi
      go_wp2
      go_loopw [10, 11] (fun sn sx wr => ∃ (y : Nat) (s : ByteArray), sn = .string s ∧ sx = .int .u32 y ∧ y ≤ u ∧ Aside0 (DigR u y s) ∧ Aside0 (Below w.heap.size w wr)) (fun _ sx _ => (intOf sx).toNat)
      case atStart => exact ⟨u, ⟨#[]⟩, rfl, rfl, Nat.le_refl _, ⟨dig_start u⟩, HB⟩
      case round =>
        obtain ⟨y, s, rfl, rfl, hy, HD, HBn⟩ := hrel
        clear HB
        have HB := HBn
        clear HBn
        have zs : s.size ≤ 20 := HD.out.1
        by_cases hy0 : 0 < y
        · have hyi : (0 : Int) < ↑y := by omega
          obtain ⟨D1, hD1⟩ : ∃ D : ByteArray, (⟨#[UInt8.ofNat (48 + y % 10)]⟩ : ByteArray) = D := ⟨_, rfl⟩
          have zD1 : D1.size ≤ 1 := by rw [← hD1]; exact Nat.le_refl 1
          have HD2 := Aside0.mk (dig_step HD.out hy0 hu hy)
          have HS := Aside0.mk (dig_byte y)
          rw [hD1] at HD2 HS
          clear hD1
          have hyu : (y : Int) ≤ 1000000000 := by omega
          clear HD
          go_wp2_with (first | ((with_reducible refine gate_dst (N := 61) rfl ?_); refine wp_strof rfl _ _ _ _ rfl _ _ _ [48 + (y : Int) % 10] rfl Tryz.underlying22 Tryz.underlying5 Tryz.underlying9 (Bytes_at (by repeat first | (apply ha_at; (simp; done)) | apply ha_old) [48 + (y : Int) % 10] (by simp) rfl) ?_; rw [HS.out]))
          go_roundw
          case rel => exact ⟨y / 10, _, rfl, by first | rfl | simp, by omega, HD2, ⟨(by repeat (first | (with_reducible first | exact HB.out | apply below_alloc | apply pw_below_drewN | apply below_drew1) | exact HB.out))⟩⟩
          case measure => simp [intOf]; omega
        · obtain rfl : y = 0 := by omega
          have hN20 := dig_len u (by omega)
          obtain ⟨N, hN⟩ : ∃ N, baOf (Lib.decDigits u) = N := ⟨_, rfl⟩
          have zN : N.size ≤ 20 := by rw [← hN, ba_size]; exact hN20
          have HNE : Aside0 (N.toList.isEmpty = false) := ⟨by
            rw [← hN, ByteArray.toList_eq]
            show (Lib.decDigits u).isEmpty = false
            have := dig_ne u
            revert this
            cases Lib.decDigits u <;> simp⟩
          obtain ⟨m, h1, h2⟩ := order_p k u true hu hk0 hk3 HC.out
          rw [hN] at h1 h2
          have HN := Aside0.mk hN
          have HP := Aside0.mk (And.intro h1 h2)
          clear h1 h2 hN hN20
          go_upto_if 65 with fail
          go_cut [10] from 64 to 65 (fun sv wx => sv = .string N ∧ wx = wr)
          case first =>
            have hd := HD.out.2
            rw [if_pos rfl] at hd
            by_cases h0 : u = 0
            · rw [if_pos h0] at hd
              subst hd
              have hN0 : N = ⟨#[48]⟩ := by rw [← HN.out, h0, Lib.decDigits_one (by omega)]; rfl
              have hE0 : (⟨#[]⟩ : ByteArray).toList.isEmpty = true := by rw [ByteArray.toList_eq]; rfl
              go_wp2
              · go_meet
                case rel => exact ⟨by rw [hN0], rfl⟩
              · rename_i hx
                rw [hE0] at hx
                cases hx
            · rw [if_neg h0, HN.out] at hd
              subst hd
              have hNe := HNE.out
              go_wp2
              · rename_i hx
                rw [hNe] at hx
                cases hx
              · go_meet
                case rel => exact ⟨rfl, rfl⟩
          case rest =>
          obtain ⟨rfl, rfl⟩ := hcut
          have zE := size_E k ⟨#[84]⟩ N hk3 (by decide) zN
          have Z1 : Aside0 ((((((⟨#[109, 103, 32]⟩ ++ k) ++ ⟨#[32, 113, 32]⟩) ++ ⟨#[84]⟩) ++ N) ++ ⟨#[13, 10]⟩ : ByteArray).size ≤ 9223372036854775807) := ⟨Nat.le_trans zE.1 (by decide)⟩
          have Z2 : Aside0 ((((((⟨#[109, 103, 32]⟩ ++ k) ++ ⟨#[32]⟩) ++ ⟨#[84]⟩) ++ N) ++ ⟨#[32, 113, 13, 10]⟩ : ByteArray).size ≤ 9223372036854775807) := ⟨Nat.le_trans zE.2 (by decide)⟩
          obtain ⟨h1, h2⟩ := HP.out
          rw [if_neg (by rw [hq]; decide)] at h1 h2
          have HP1 : Aside0 (∀ (A : Option Addr) (c' : Nat) (w' : World), Bytes w' A (bytesOf (((((⟨#[109, 103, 32]⟩ ++ k) ++ ⟨#[32, 113, 32]⟩) ++ ⟨#[84]⟩) ++ N) ++ ⟨#[13, 10]⟩ : ByteArray)) → (bytesOf (((((⟨#[109, 103, 32]⟩ ++ k) ++ ⟨#[32, 113, 32]⟩) ++ ⟨#[84]⟩) ++ N) ++ ⟨#[13, 10]⟩ : ByteArray)).length ≤ c' → Tabs w' → Calls Tryz.prog 11 #[.slice A (bytesOf (((((⟨#[109, 103, 32]⟩ ++ k) ++ ⟨#[32, 113, 32]⟩) ++ ⟨#[84]⟩) ++ N) ++ ⟨#[13, 10]⟩ : ByteArray)).length c'] w' (PV w' (stepFS m badT 0 false) 0 false (⟨#[67, 76, 73, 69, 78, 84, 95, 69, 82, 82, 79, 82, 32, 98, 97, 100, 32, 99, 111, 109, 109, 97, 110, 100, 32, 108, 105, 110, 101, 32, 102, 111, 114, 109, 97, 116, 13, 10]⟩ : ByteArray) m 0 false 2)) := ⟨fun A c' w' hC hc hT => parse_v _ _ rfl _ h1 _ _ _ _ _ _ _ rfl rfl rfl rfl rfl rfl rfl A c' w' hC hc (by rw [bytesOf_length]; exact Nat.le_trans zE.1 (by decide)) (B8_nums _) hT⟩
          have HP2 : Aside0 (∀ (A : Option Addr) (c' : Nat) (w' : World), Bytes w' A (bytesOf (((((⟨#[109, 103, 32]⟩ ++ k) ++ ⟨#[32]⟩) ++ ⟨#[84]⟩) ++ N) ++ ⟨#[32, 113, 13, 10]⟩ : ByteArray)) → (bytesOf (((((⟨#[109, 103, 32]⟩ ++ k) ++ ⟨#[32]⟩) ++ ⟨#[84]⟩) ++ N) ++ ⟨#[32, 113, 13, 10]⟩ : ByteArray)).length ≤ c' → Tabs w' → Calls Tryz.prog 11 #[.slice A (bytesOf (((((⟨#[109, 103, 32]⟩ ++ k) ++ ⟨#[32]⟩) ++ ⟨#[84]⟩) ++ N) ++ ⟨#[32, 113, 13, 10]⟩ : ByteArray)).length c'] w' (PV w' (stepFS m badT 0 false) 0 false (⟨#[67, 76, 73, 69, 78, 84, 95, 69, 82, 82, 79, 82, 32, 98, 97, 100, 32, 99, 111, 109, 109, 97, 110, 100, 32, 108, 105, 110, 101, 32, 102, 111, 114, 109, 97, 116, 13, 10]⟩ : ByteArray) m 0 false 2)) := ⟨fun A c' w' hC hc hT => parse_v _ _ rfl _ h2 _ _ _ _ _ _ _ rfl rfl rfl rfl rfl rfl rfl A c' w' hC hc (by rw [bytesOf_length]; exact Nat.le_trans zE.2 (by decide)) (B8_nums _) hT⟩
          clear h1 h2 zE HP
          go_wp2_with (first
            | ((with_reducible refine gate_dst (N := 74) rfl ?_); refine wp_bytes rfl _ _ _ _ rfl _ rfl Tryz.underlying9 Tryz.underlying22 Tryz.underlying5 Z1.out ?_; intro Ab cb wb hcap hby hb; have HBY := Aside0.mk hby; have HCAP := Aside0.mk hcap; skip; have HBn := Aside0.mk (below_step (by repeat (first | (with_reducible first | exact HB.out | apply below_alloc | apply pw_below_drewN | apply below_drew1) | exact HB.out)) hb); clear HB; have HB := HBn; clear HBn; clear hcap hby hb)
            | (go_at_call 11; (with_reducible refine (HP1.out _ _ _ HBY.out HCAP.out (Tabs.below HT.out (by repeat (first | (with_reducible first | exact HB.out | apply below_alloc | apply pw_below_drewN | apply below_drew1) | exact HB.out)))).mono ?_); rintro e w1 ⟨A0, c0, x1, x2, x3, x4, x6, x7, A8, n8, c8, A9, n9, c9, x10, rfl, hk, hb⟩; have HBn := Aside0.mk (below_step (by repeat (first | (with_reducible first | exact HB.out | apply below_alloc | apply pw_below_drewN | apply below_drew1) | exact HB.out)) hb); clear HB; have HB := HBn; clear HBn; have HW1 := Aside0.mk HB.out.size; have HK1 := Aside0.mk hk; have HB1 := Aside0.mk (Below.refl w1.heap.size w1); clear hk hb HBY HCAP)
            | ((with_reducible refine gate_dst (N := 84) rfl ?_); refine wp_bytes rfl _ _ _ _ rfl _ rfl Tryz.underlying9 Tryz.underlying22 Tryz.underlying5 Z2.out ?_; intro Ab cb wb hcap hby hb; have HBY := Aside0.mk hby; have HCAP := Aside0.mk hcap; (try (have B1n := Aside0.mk (blk_below (g := w1.heap.size) (o := .cells #[.slice A0 0 c0, .int .i64 x1, .string x2, .int .i64 x3, .int .u32 x4, .bool false, .bool x6, .string x7, .slice A8 n8 c8, .slice A9 n9 c9, .bool x10, .string (⟨#[67, 76, 73, 69, 78, 84, 95, 69, 82, 82, 79, 82, 32, 98, 97, 100, 32, 99, 111, 109, 109, 97, 110, 100, 32, 108, 105, 110, 101, 32, 102, 111, 114, 109, 97, 116, 13, 10]⟩ : ByteArray), .int .i64 m, .int .i64 0, .bool false, .int .i64 2] 34 (0, 0)) (by repeat (first | exact B1.out | exact blk_at_new _ _ _ (by simp; done) | exact blk_at_new _ _ _ rfl | refine blk_alloc ?_ _ | refine blk_drew ?_ | refine blk_drewN ?_ _)) hb); have HB1n := Aside0.mk (below_step (by repeat (first | (with_reducible first | exact HB1.out | apply below_alloc | apply pw_below_drewN | apply below_drew1) | exact HB1.out)) hb); clear HB1; have HB1 := HB1n; clear HB1n; (try clear B1); have B1 := B1n; clear B1n)); have HBn := Aside0.mk (below_step (by repeat (first | (with_reducible first | exact HB.out | apply below_alloc | apply pw_below_drewN | apply below_drew1) | exact HB.out)) hb); clear HB; have HB := HBn; clear HBn; clear hcap hby hb)
            | (go_at_call 11; (with_reducible refine (HP2.out _ _ _ HBY.out HCAP.out (Tabs.below HT.out (by repeat (first | (with_reducible first | exact HB.out | apply below_alloc | apply pw_below_drewN | apply below_drew1) | exact HB.out)))).mono ?_); rintro e w2 ⟨B0, d0, y1, y2, y3, y4, y6, y7, B8, m8, d8, B9, m9, d9, y10, rfl, hk, hb⟩; (try (have B1n := Aside0.mk (blk_below (g := w1.heap.size) (o := .cells #[.slice A0 0 c0, .int .i64 x1, .string x2, .int .i64 x3, .int .u32 x4, .bool false, .bool x6, .string x7, .slice A8 n8 c8, .slice A9 n9 c9, .bool x10, .string (⟨#[67, 76, 73, 69, 78, 84, 95, 69, 82, 82, 79, 82, 32, 98, 97, 100, 32, 99, 111, 109, 109, 97, 110, 100, 32, 108, 105, 110, 101, 32, 102, 111, 114, 109, 97, 116, 13, 10]⟩ : ByteArray), .int .i64 m, .int .i64 0, .bool false, .int .i64 2] 34 (0, 0)) (by repeat (first | exact B1.out | exact blk_at_new _ _ _ (by simp; done) | exact blk_at_new _ _ _ rfl | refine blk_alloc ?_ _ | refine blk_drew ?_ | refine blk_drewN ?_ _)) hb); have HB1n := Aside0.mk (below_step (by repeat (first | (with_reducible first | exact HB1.out | apply below_alloc | apply pw_below_drewN | apply below_drew1) | exact HB1.out)) hb); clear HB1; have HB1 := HB1n; clear HB1n; (try clear B1); have B1 := B1n; clear B1n)); have HBn := Aside0.mk (below_step (by repeat (first | (with_reducible first | exact HB.out | apply below_alloc | apply pw_below_drewN | apply below_drew1) | exact HB.out)) hb); clear HB; have HB := HBn; clear HBn; have HK2 := Aside0.mk hk; have HB2 := Aside0.mk (Below.refl w2.heap.size w2); have l1 : w1.heap.size < w2.heap.size := blk_lt B1.out; clear hk hb HBY HCAP; have HST : Aside0 (∀ w', Below w1.heap.size w1 w' → Below w2.heap.size w2 w' → Calls Tryz.prog 10 #[.agg #[.slice A0 0 c0, .int .i64 x1, .string x2, .int .i64 x3, .int .u32 x4, .bool false, .bool x6, .string x7, .slice A8 n8 c8, .slice A9 n9 c9, .bool x10, .string (⟨#[67, 76, 73, 69, 78, 84, 95, 69, 82, 82, 79, 82, 32, 98, 97, 100, 32, 99, 111, 109, 109, 97, 110, 100, 32, 108, 105, 110, 101, 32, 102, 111, 114, 109, 97, 116, 13, 10]⟩ : ByteArray), .int .i64 m, .int .i64 0, .bool false, .int .i64 2], .agg #[.slice B0 0 d0, .int .i64 y1, .string y2, .int .i64 y3, .int .u32 y4, .bool false, .bool y6, .string y7, .slice B8 m8 d8, .slice B9 m9 d9, .bool y10, .string (⟨#[67, 76, 73, 69, 78, 84, 95, 69, 82, 82, 79, 82, 32, 98, 97, 100, 32, 99, 111, 109, 109, 97, 110, 100, 32, 108, 105, 110, 101, 32, 102, 111, 114, 109, 97, 116, 13, 10]⟩ : ByteArray), .int .i64 m, .int .i64 0, .bool false, .int .i64 2]] w' fun e w'' => e = .returned (.bool true) ∧ Below w'.heap.size w' w'') := ⟨fun w' g1 g2 => steps_same _ _ _ w' (kStep.K_below g1 HK1.out) (kStep.K_below g2 HK2.out)⟩)
            | (refine wpList_load_row rfl 34 _ rfl (w1.heap.size) rfl 34 _ (0, 0) _ (blk_alloc B1.out _) Tryz.underlying34 rfl (by kernel_rfl) ?_)
            | (go_at_call 10; (with_reducible refine (HST.out _ (by repeat (first | (with_reducible first | exact HB1.out | apply below_alloc | apply pw_below_drewN | apply below_drew1) | exact HB1.out)) (by repeat (first | (with_reducible first | exact HB2.out | apply below_alloc | apply pw_below_drewN | apply below_drew1) | exact HB2.out))).mono ?_); rintro e w5 ⟨rfl, hb⟩; have B1n := Aside0.mk (blk_below (blk_alloc B1.out _) hb); have B2 := Aside0.mk (blk_below (g := w2.heap.size) (o := .cells #[.slice B0 0 d0, .int .i64 y1, .string y2, .int .i64 y3, .int .u32 y4, .bool false, .bool y6, .string y7, .slice B8 m8 d8, .slice B9 m9 d9, .bool y10, .string (⟨#[67, 76, 73, 69, 78, 84, 95, 69, 82, 82, 79, 82, 32, 98, 97, 100, 32, 99, 111, 109, 109, 97, 110, 100, 32, 108, 105, 110, 101, 32, 102, 111, 114, 109, 97, 116, 13, 10]⟩ : ByteArray), .int .i64 m, .int .i64 0, .bool false, .int .i64 2] 34 (0, 0)) (blk_at_new _ _ _ rfl) hb); have HBn := Aside0.mk (below_step (by repeat (first | (with_reducible first | exact HB.out | apply below_alloc | apply pw_below_drewN | apply below_drew1) | exact HB.out)) hb); clear HB; have HB := HBn; clear HBn; have HB1n := Aside0.mk (below_step (by repeat (first | (with_reducible first | exact HB1.out | apply below_alloc | apply pw_below_drewN | apply below_drew1) | exact HB1.out)) hb); clear HB1; have HB1 := HB1n; clear HB1n; clear hb B1 l1; have B1 := B1n; clear B1n; have a15 : w5.cell? ⟨w1.heap.size, 15, none⟩ = some (.int .i64 2) := (blk_cell B1.out 15).trans rfl; have d15 : w5.cell? ⟨w2.heap.size, 15, none⟩ = some (.int .i64 2) := (blk_cell B2.out 15).trans rfl))
          go_ret
          exact ⟨rfl, (by repeat (first | (with_reducible first | exact HB.out | apply below_alloc | apply pw_below_drewN | apply below_drew1) | exact HB.out))⟩
end Go.Proofs.YtdgeiadlijlkmaaGreatDoor.X
