/- TextinQuiet: its walk. -/
import Derived.Test.YtfljijpkeckeaaaGreatDoorZLawE0
namespace Go.Proofs.YtfljijpkeckeaaaGreatDoor.X
open Go.RowKit Go.Proofs.YtfljijpkeckeaaaGreatDoorW.PrintWords Go.Proofs.YtfljijpkeckeaaaGreatDoorW.PrintMore Go.Proofs.YtfljijpkeckeaaaGreatDoorW.PrintLast
set_option linter.unusedVariables false
set_option linter.unusedSimpArgs false
set_option maxRecDepth 100000 in
set_option maxHeartbeats 2000000 in
theorem quiet_a (s : ByteArray) (w : World) (hT : Tabs w) (hs : s.size ≤ 9223372036854775807) (h3 : ¬ 500 < s.size) (p1 p2 : Step) (hp1 : parseS (bytesOf (s ++ ⟨#[13, 10]⟩)) = p1) (hp2 : parseS (bytesOf (s ++ (⟨#[32, 110, 111, 114, 101, 112, 108, 121, 13, 10]⟩ : ByteArray))) = p2) (hm : p1.e ≠ 0) : Calls Tryz.prog 6 #[.string s] w fun e w' => e = .returned (.bool true) ∧ Below w.heap.size w w' := by
  have HB := Aside0.mk (Below.refl w.heap.size w)
  have HT := Aside0.mk hT
  clear hT
  have h3i : ¬ (500 : Int) < ↑s.size := by omega
  have H_hm := Aside0.mk hm
  have H_p1 := Aside0.mk hp1
  have H_p2 := Aside0.mk hp2
  clear hp1 hp2 hm
  go_enter Tryz.func6, Tryz.ntmps6
  go_wp2_with (first | (go_at_call 10; (with_reducible refine (awake_calls _ (Tabs.below HT.out (by repeat (first | (with_reducible first | exact HB.out | apply below_alloc | apply pw_below_drewN | apply below_drew1) | exact HB.out)))).mono ?_); rintro e w0 ⟨rfl, hb⟩; have HBn := Aside0.mk (below_step (by repeat (first | (with_reducible first | exact HB.out | apply below_alloc | apply pw_below_drewN | apply below_drew1) | exact HB.out)) hb); clear HB; have HB := HBn; clear HBn; clear hb))
  go_loop [4] (fun v => ∃ k : Nat, v = .int .i64 k ∧ k ≤ s.size ∧ Aside0 (CleanB s k)) (fun v => s.size - (intOf v).toNat)
  case atStart => exact ⟨0, rfl, by omega, ⟨fun j _ h => absurd h (by omega)⟩⟩
  case round =>
    obtain ⟨k, rfl, hk, HC⟩ := hrel
    by_cases hlt : k < s.size
    · have hki : (k : Int) < ↑s.size := by omega
      by_cases hb1 : (s[k].toNat : Int) = 10
      · have hb1b : ((s[k].toNat : Int) == 10) = true := beq_iff_eq.2 hb1
        clear hb1
        go_wp2
        go_ret
        exact ⟨rfl, (by repeat (first | (with_reducible first | exact HB.out | apply below_alloc | apply pw_below_drewN | apply below_drew1) | exact HB.out))⟩
      have hb1b : ((s[k].toNat : Int) == 10) = false := beq_eq_false_iff_ne.2 hb1
      by_cases hb2 : (s[k].toNat : Int) = 13
      · have hb2b : ((s[k].toNat : Int) == 13) = true := beq_iff_eq.2 hb2
        clear hb1 hb2
        go_wp2
        go_ret
        exact ⟨rfl, (by repeat (first | (with_reducible first | exact HB.out | apply below_alloc | apply pw_below_drewN | apply below_drew1) | exact HB.out))⟩
      have hb2b : ((s[k].toNat : Int) == 13) = false := beq_eq_false_iff_ne.2 hb2
      have HC2 := Aside0.mk (clean_step HC.out hlt hb1 hb2)
      clear hb1 hb2
      go_wp2
      go_round
      case rel => exact ⟨k + 1, by first | rfl | simp, by omega, HC2⟩
      case measure => simp [intOf]; omega
    · obtain rfl : k = s.size := by omega
      have hki : ¬ (s.size : Int) < ↑s.size := by omega
      have hnl := clean_nl HC.out
      have hm := H_hm.out
      have hp1 := H_p1.out
      have hp2 := H_p2.out
      clear H_p1 H_p2 H_hm
      have e1 : bytesOf (s ++ ⟨#[13, 10]⟩) = numsL s.data.toList ++ [13, 10] := bytes_app s [13, 10]
      have e2 : bytesOf (s ++ (⟨#[32, 110, 111, 114, 101, 112, 108, 121, 13, 10]⟩ : ByteArray)) = numsL (s.data.toList ++ [32, 110, 111, 114, 101, 112, 108, 121]) ++ [13, 10] := by
        rw [numsL_app, List.append_assoc]
        exact bytes_app s [32, 110, 111, 114, 101, 112, 108, 121, 13, 10]
      have z1 : (s ++ ⟨#[13, 10]⟩ : ByteArray).size = s.size + 2 := size_app _ _
      have z2 : (s ++ (⟨#[32, 110, 111, 114, 101, 112, 108, 121, 13, 10]⟩ : ByteArray) : ByteArray).size = s.size + 10 := size_app _ _
      have he : AskQ p1 → p2 = shiftU 8 (setQ p1) := fun h => by
        have := quiet_law s.data.toList hnl (by show s.size ≤ 500; omega) (by rw [← e1, hp1]; exact h)
        rw [← e1, ← e2, hp1, hp2] at this
        exact this
      have HE := Aside0.mk he
      have hg := good_parse (bytesOf (s ++ (⟨#[32, 110, 111, 114, 101, 112, 108, 121, 13, 10]⟩ : ByteArray)))
      rw [hp2] at hg
      have hu : 0 ≤ p2.used ∧ p2.used ≤ 1000 := by
        have hl : ((bytesOf (s ++ (⟨#[32, 110, 111, 114, 101, 112, 108, 121, 13, 10]⟩ : ByteArray))).length : Int) ≤ 510 := by rw [bytesOf_length, z2]; omega
        rcases hg with rfl | ⟨u, r, k, b, rfl, h0, h1, -⟩ | ⟨u, f, cs, rfl, h0, h1, -⟩
        · exact ⟨by decide, by decide⟩
        · exact ⟨by show 0 ≤ u; omega, by show u ≤ 1000; omega⟩
        · exact ⟨by show 0 ≤ u; omega, by show u ≤ 1000; omega⟩
      have HP1 : Aside0 (∀ (A : Option Addr) (c : Nat) (w' : World), Bytes w' A (bytesOf (s ++ ⟨#[13, 10]⟩)) → (bytesOf (s ++ ⟨#[13, 10]⟩)).length ≤ c → Tabs w' → Calls Tryz.prog 12 #[.slice A (bytesOf (s ++ ⟨#[13, 10]⟩)).length c] w' (PV w' p1 p1.req.cmds.length p1.req.form.quiet p1.reply p1.used p1.skip p1.line p1.e)) := ⟨fun A c w' hC hc hT => parse_v _ _ rfl p1 hp1 _ _ _ _ _ _ _ rfl rfl rfl rfl rfl rfl rfl A c w' hC hc (by rw [bytesOf_length, z1]; omega) (B8_nums _) hT⟩
      have HP2 : Aside0 (∀ (A : Option Addr) (c : Nat) (w' : World), Bytes w' A (bytesOf (s ++ (⟨#[32, 110, 111, 114, 101, 112, 108, 121, 13, 10]⟩ : ByteArray))) → (bytesOf (s ++ (⟨#[32, 110, 111, 114, 101, 112, 108, 121, 13, 10]⟩ : ByteArray))).length ≤ c → Tabs w' → Calls Tryz.prog 12 #[.slice A (bytesOf (s ++ (⟨#[32, 110, 111, 114, 101, 112, 108, 121, 13, 10]⟩ : ByteArray))).length c] w' (PV w' p2 p2.req.cmds.length p2.req.form.quiet p2.reply p2.used p2.skip p2.line p2.e)) := ⟨fun A c w' hC hc hT => parse_v _ _ rfl p2 hp2 _ _ _ _ _ _ _ rfl rfl rfl rfl rfl rfl rfl A c w' hC hc (by rw [bytesOf_length, z2]; omega) (B8_nums _) hT⟩
      have Z1 : Aside0 ((s ++ ⟨#[13, 10]⟩ : ByteArray).size ≤ 9223372036854775807) := ⟨by rw [z1]; omega⟩
      have Z2 : Aside0 ((s ++ (⟨#[32, 110, 111, 114, 101, 112, 108, 121, 13, 10]⟩ : ByteArray) : ByteArray).size ≤ 9223372036854775807) := ⟨by rw [z2]; omega⟩
      have hu1 : 0 ≤ p2.used := hu.1
      have hu2 : p2.used ≤ 1000 := hu.2
      have hu3 : -9223372036854775808 ≤ p2.used - 8 := by omega
      clear HC hp1 hp2 hg hu he e1 e2 z1 z2 hnl
      have hm1 : (p1.e == 0) = false := beq_eq_false_iff_ne.2 hm
      have hm2 : (p1.e != 0) = true := bne_iff_ne.2 hm
      clear hm
      go_wp2_with (first
        | ((with_reducible refine gate_dst (N := 33) rfl ?_); refine wp_bytes rfl _ _ _ _ rfl _ rfl Tryz.underlying9 Tryz.underlying22 Tryz.underlying5 Z1.out ?_; intro Ab cb wb hcap hby hb; have HBY := Aside0.mk hby; have HCAP := Aside0.mk hcap; skip; have HBn := Aside0.mk (below_step (by repeat (first | (with_reducible first | exact HB.out | apply below_alloc | apply pw_below_drewN | apply below_drew1) | exact HB.out)) hb); clear HB; have HB := HBn; clear HBn; clear hcap hby hb)
        | (go_at_call 12; (with_reducible refine (HP1.out _ _ _ HBY.out HCAP.out (Tabs.below HT.out (by repeat (first | (with_reducible first | exact HB.out | apply below_alloc | apply pw_below_drewN | apply below_drew1) | exact HB.out)))).mono ?_); rintro e w1 ⟨A0, c0, x1, x2, x3, x4, x6, x7, A8, n8, c8, A9, n9, c9, x10, rfl, hk, hb⟩; have HBn := Aside0.mk (below_step (by repeat (first | (with_reducible first | exact HB.out | apply below_alloc | apply pw_below_drewN | apply below_drew1) | exact HB.out)) hb); clear HB; have HB := HBn; clear HBn; have HW1 := Aside0.mk HB.out.size; have HK1 := Aside0.mk hk; have HB1 := Aside0.mk (Below.refl w1.heap.size w1); clear hk hb HBY HCAP)
        | ((with_reducible refine gate_dst (N := 37) rfl ?_); refine wp_bytes rfl _ _ _ _ rfl _ rfl Tryz.underlying9 Tryz.underlying22 Tryz.underlying5 Z2.out ?_; intro Ab cb wb hcap hby hb; have HBY := Aside0.mk hby; have HCAP := Aside0.mk hcap; (try (have B1n := Aside0.mk (blk_below (g := w1.heap.size) (o := .cells #[.slice A0 p1.req.cmds.length c0, .int .i64 x1, .string x2, .int .i64 x3, .int .u32 x4, .bool p1.req.form.quiet, .bool x6, .string x7, .slice A8 n8 c8, .slice A9 n9 c9, .bool x10, .string p1.reply, .int .i64 p1.used, .int .i64 p1.skip, .bool p1.line, .int .i64 p1.e] 34 (0, 0)) (by repeat (first | exact B1.out | exact blk_at_new _ _ _ (by simp; done) | exact blk_at_new _ _ _ rfl | refine blk_alloc ?_ _ | refine blk_drew ?_ | refine blk_drewN ?_ _)) hb); have HB1n := Aside0.mk (below_step (by repeat (first | (with_reducible first | exact HB1.out | apply below_alloc | apply pw_below_drewN | apply below_drew1) | exact HB1.out)) hb); clear HB1; have HB1 := HB1n; clear HB1n; (try clear B1); have B1 := B1n; clear B1n)); have HBn := Aside0.mk (below_step (by repeat (first | (with_reducible first | exact HB.out | apply below_alloc | apply pw_below_drewN | apply below_drew1) | exact HB.out)) hb); clear HB; have HB := HBn; clear HBn; clear hcap hby hb)
        | (go_at_call 12; (with_reducible refine (HP2.out _ _ _ HBY.out HCAP.out (Tabs.below HT.out (by repeat (first | (with_reducible first | exact HB.out | apply below_alloc | apply pw_below_drewN | apply below_drew1) | exact HB.out)))).mono ?_); rintro e w2 ⟨B0, d0, y1, y2, y3, y4, y6, y7, B8, m8, d8, B9, m9, d9, y10, rfl, hk, hb⟩; (try (have B1n := Aside0.mk (blk_below (g := w1.heap.size) (o := .cells #[.slice A0 p1.req.cmds.length c0, .int .i64 x1, .string x2, .int .i64 x3, .int .u32 x4, .bool p1.req.form.quiet, .bool x6, .string x7, .slice A8 n8 c8, .slice A9 n9 c9, .bool x10, .string p1.reply, .int .i64 p1.used, .int .i64 p1.skip, .bool p1.line, .int .i64 p1.e] 34 (0, 0)) (by repeat (first | exact B1.out | exact blk_at_new _ _ _ (by simp; done) | exact blk_at_new _ _ _ rfl | refine blk_alloc ?_ _ | refine blk_drew ?_ | refine blk_drewN ?_ _)) hb); have HB1n := Aside0.mk (below_step (by repeat (first | (with_reducible first | exact HB1.out | apply below_alloc | apply pw_below_drewN | apply below_drew1) | exact HB1.out)) hb); clear HB1; have HB1 := HB1n; clear HB1n; (try clear B1); have B1 := B1n; clear B1n)); have HBn := Aside0.mk (below_step (by repeat (first | (with_reducible first | exact HB.out | apply below_alloc | apply pw_below_drewN | apply below_drew1) | exact HB.out)) hb); clear HB; have HB := HBn; clear HBn; have HW2 := Aside0.mk HB.out.size; have HK2 := Aside0.mk hk; have HB2 := Aside0.mk (Below.refl w2.heap.size w2); have l1 : w1.heap.size < w2.heap.size := blk_lt B1.out; clear hk hb HBY HCAP; have a15 : w2.cell? ⟨w1.heap.size, 15, none⟩ = some (.int .i64 p1.e) := (blk_cell B1.out 15).trans rfl; have a5 : w2.cell? ⟨w1.heap.size, 5, none⟩ = some (.bool p1.req.form.quiet) := (blk_cell B1.out 5).trans rfl; have a0 : w2.cell? ⟨w1.heap.size, 0, none⟩ = some (.slice A0 p1.req.cmds.length c0) := (blk_cell B1.out 0).trans rfl; skip))
      go_ret
      exact ⟨rfl, (by repeat (first | (with_reducible first | exact HB.out | apply below_alloc | apply pw_below_drewN | apply below_drew1) | exact HB.out))⟩
set_option maxRecDepth 100000 in
set_option maxHeartbeats 2000000 in
theorem quiet_b (s : ByteArray) (w : World) (hT : Tabs w) (hs : s.size ≤ 9223372036854775807) (h3 : ¬ 500 < s.size) (p1 p2 : Step) (hp1 : parseS (bytesOf (s ++ ⟨#[13, 10]⟩)) = p1) (hp2 : parseS (bytesOf (s ++ (⟨#[32, 110, 111, 114, 101, 112, 108, 121, 13, 10]⟩ : ByteArray))) = p2) (hm : p1.e = 0) (hn : p1.req.cmds.length ≠ 1) : Calls Tryz.prog 6 #[.string s] w fun e w' => e = .returned (.bool true) ∧ Below w.heap.size w w' := by
  have HB := Aside0.mk (Below.refl w.heap.size w)
  have HT := Aside0.mk hT
  clear hT
  have h3i : ¬ (500 : Int) < ↑s.size := by omega
  have H_hm := Aside0.mk hm
  have H_hn := Aside0.mk hn
  have H_p1 := Aside0.mk hp1
  have H_p2 := Aside0.mk hp2
  clear hp1 hp2 hm hn
  go_enter Tryz.func6, Tryz.ntmps6
  go_wp2_with (first | (go_at_call 10; (with_reducible refine (awake_calls _ (Tabs.below HT.out (by repeat (first | (with_reducible first | exact HB.out | apply below_alloc | apply pw_below_drewN | apply below_drew1) | exact HB.out)))).mono ?_); rintro e w0 ⟨rfl, hb⟩; have HBn := Aside0.mk (below_step (by repeat (first | (with_reducible first | exact HB.out | apply below_alloc | apply pw_below_drewN | apply below_drew1) | exact HB.out)) hb); clear HB; have HB := HBn; clear HBn; clear hb))
  go_loop [4] (fun v => ∃ k : Nat, v = .int .i64 k ∧ k ≤ s.size ∧ Aside0 (CleanB s k)) (fun v => s.size - (intOf v).toNat)
  case atStart => exact ⟨0, rfl, by omega, ⟨fun j _ h => absurd h (by omega)⟩⟩
  case round =>
    obtain ⟨k, rfl, hk, HC⟩ := hrel
    by_cases hlt : k < s.size
    · have hki : (k : Int) < ↑s.size := by omega
      by_cases hb1 : (s[k].toNat : Int) = 10
      · have hb1b : ((s[k].toNat : Int) == 10) = true := beq_iff_eq.2 hb1
        clear hb1
        go_wp2
        go_ret
        exact ⟨rfl, (by repeat (first | (with_reducible first | exact HB.out | apply below_alloc | apply pw_below_drewN | apply below_drew1) | exact HB.out))⟩
      have hb1b : ((s[k].toNat : Int) == 10) = false := beq_eq_false_iff_ne.2 hb1
      by_cases hb2 : (s[k].toNat : Int) = 13
      · have hb2b : ((s[k].toNat : Int) == 13) = true := beq_iff_eq.2 hb2
        clear hb1 hb2
        go_wp2
        go_ret
        exact ⟨rfl, (by repeat (first | (with_reducible first | exact HB.out | apply below_alloc | apply pw_below_drewN | apply below_drew1) | exact HB.out))⟩
      have hb2b : ((s[k].toNat : Int) == 13) = false := beq_eq_false_iff_ne.2 hb2
      have HC2 := Aside0.mk (clean_step HC.out hlt hb1 hb2)
      clear hb1 hb2
      go_wp2
      go_round
      case rel => exact ⟨k + 1, by first | rfl | simp, by omega, HC2⟩
      case measure => simp [intOf]; omega
    · obtain rfl : k = s.size := by omega
      have hki : ¬ (s.size : Int) < ↑s.size := by omega
      have hnl := clean_nl HC.out
      have hm := H_hm.out
      have hn := H_hn.out
      have hp1 := H_p1.out
      have hp2 := H_p2.out
      clear H_p1 H_p2 H_hm H_hn
      have e1 : bytesOf (s ++ ⟨#[13, 10]⟩) = numsL s.data.toList ++ [13, 10] := bytes_app s [13, 10]
      have e2 : bytesOf (s ++ (⟨#[32, 110, 111, 114, 101, 112, 108, 121, 13, 10]⟩ : ByteArray)) = numsL (s.data.toList ++ [32, 110, 111, 114, 101, 112, 108, 121]) ++ [13, 10] := by
        rw [numsL_app, List.append_assoc]
        exact bytes_app s [32, 110, 111, 114, 101, 112, 108, 121, 13, 10]
      have z1 : (s ++ ⟨#[13, 10]⟩ : ByteArray).size = s.size + 2 := size_app _ _
      have z2 : (s ++ (⟨#[32, 110, 111, 114, 101, 112, 108, 121, 13, 10]⟩ : ByteArray) : ByteArray).size = s.size + 10 := size_app _ _
      have he : AskQ p1 → p2 = shiftU 8 (setQ p1) := fun h => by
        have := quiet_law s.data.toList hnl (by show s.size ≤ 500; omega) (by rw [← e1, hp1]; exact h)
        rw [← e1, ← e2, hp1, hp2] at this
        exact this
      have HE := Aside0.mk he
      have hg := good_parse (bytesOf (s ++ (⟨#[32, 110, 111, 114, 101, 112, 108, 121, 13, 10]⟩ : ByteArray)))
      rw [hp2] at hg
      have hu : 0 ≤ p2.used ∧ p2.used ≤ 1000 := by
        have hl : ((bytesOf (s ++ (⟨#[32, 110, 111, 114, 101, 112, 108, 121, 13, 10]⟩ : ByteArray))).length : Int) ≤ 510 := by rw [bytesOf_length, z2]; omega
        rcases hg with rfl | ⟨u, r, k, b, rfl, h0, h1, -⟩ | ⟨u, f, cs, rfl, h0, h1, -⟩
        · exact ⟨by decide, by decide⟩
        · exact ⟨by show 0 ≤ u; omega, by show u ≤ 1000; omega⟩
        · exact ⟨by show 0 ≤ u; omega, by show u ≤ 1000; omega⟩
      have HP1 : Aside0 (∀ (A : Option Addr) (c : Nat) (w' : World), Bytes w' A (bytesOf (s ++ ⟨#[13, 10]⟩)) → (bytesOf (s ++ ⟨#[13, 10]⟩)).length ≤ c → Tabs w' → Calls Tryz.prog 12 #[.slice A (bytesOf (s ++ ⟨#[13, 10]⟩)).length c] w' (PV w' p1 p1.req.cmds.length p1.req.form.quiet p1.reply p1.used p1.skip p1.line p1.e)) := ⟨fun A c w' hC hc hT => parse_v _ _ rfl p1 hp1 _ _ _ _ _ _ _ rfl rfl rfl rfl rfl rfl rfl A c w' hC hc (by rw [bytesOf_length, z1]; omega) (B8_nums _) hT⟩
      have HP2 : Aside0 (∀ (A : Option Addr) (c : Nat) (w' : World), Bytes w' A (bytesOf (s ++ (⟨#[32, 110, 111, 114, 101, 112, 108, 121, 13, 10]⟩ : ByteArray))) → (bytesOf (s ++ (⟨#[32, 110, 111, 114, 101, 112, 108, 121, 13, 10]⟩ : ByteArray))).length ≤ c → Tabs w' → Calls Tryz.prog 12 #[.slice A (bytesOf (s ++ (⟨#[32, 110, 111, 114, 101, 112, 108, 121, 13, 10]⟩ : ByteArray))).length c] w' (PV w' p2 p2.req.cmds.length p2.req.form.quiet p2.reply p2.used p2.skip p2.line p2.e)) := ⟨fun A c w' hC hc hT => parse_v _ _ rfl p2 hp2 _ _ _ _ _ _ _ rfl rfl rfl rfl rfl rfl rfl A c w' hC hc (by rw [bytesOf_length, z2]; omega) (B8_nums _) hT⟩
      have Z1 : Aside0 ((s ++ ⟨#[13, 10]⟩ : ByteArray).size ≤ 9223372036854775807) := ⟨by rw [z1]; omega⟩
      have Z2 : Aside0 ((s ++ (⟨#[32, 110, 111, 114, 101, 112, 108, 121, 13, 10]⟩ : ByteArray) : ByteArray).size ≤ 9223372036854775807) := ⟨by rw [z2]; omega⟩
      have hu1 : 0 ≤ p2.used := hu.1
      have hu2 : p2.used ≤ 1000 := hu.2
      have hu3 : -9223372036854775808 ≤ p2.used - 8 := by omega
      clear HC hp1 hp2 hg hu he e1 e2 z1 z2 hnl
      have hm1 : (p1.e == 0) = true := beq_iff_eq.2 hm
      have hm2 : (p1.e != 0) = false := by rw [hm]; rfl
      have hn1 : ((p1.req.cmds.length : Int) != 1) = true := bne_iff_ne.2 (by omega)
      have hn2 : ((p1.req.cmds.length : Int) == 1) = false := beq_eq_false_iff_ne.2 (by omega)
      clear hm hn
      go_wp2_with (first
        | ((with_reducible refine gate_dst (N := 33) rfl ?_); refine wp_bytes rfl _ _ _ _ rfl _ rfl Tryz.underlying9 Tryz.underlying22 Tryz.underlying5 Z1.out ?_; intro Ab cb wb hcap hby hb; have HBY := Aside0.mk hby; have HCAP := Aside0.mk hcap; skip; have HBn := Aside0.mk (below_step (by repeat (first | (with_reducible first | exact HB.out | apply below_alloc | apply pw_below_drewN | apply below_drew1) | exact HB.out)) hb); clear HB; have HB := HBn; clear HBn; clear hcap hby hb)
        | (go_at_call 12; (with_reducible refine (HP1.out _ _ _ HBY.out HCAP.out (Tabs.below HT.out (by repeat (first | (with_reducible first | exact HB.out | apply below_alloc | apply pw_below_drewN | apply below_drew1) | exact HB.out)))).mono ?_); rintro e w1 ⟨A0, c0, x1, x2, x3, x4, x6, x7, A8, n8, c8, A9, n9, c9, x10, rfl, hk, hb⟩; have HBn := Aside0.mk (below_step (by repeat (first | (with_reducible first | exact HB.out | apply below_alloc | apply pw_below_drewN | apply below_drew1) | exact HB.out)) hb); clear HB; have HB := HBn; clear HBn; have HW1 := Aside0.mk HB.out.size; have HK1 := Aside0.mk hk; have HB1 := Aside0.mk (Below.refl w1.heap.size w1); clear hk hb HBY HCAP)
        | ((with_reducible refine gate_dst (N := 37) rfl ?_); refine wp_bytes rfl _ _ _ _ rfl _ rfl Tryz.underlying9 Tryz.underlying22 Tryz.underlying5 Z2.out ?_; intro Ab cb wb hcap hby hb; have HBY := Aside0.mk hby; have HCAP := Aside0.mk hcap; (try (have B1n := Aside0.mk (blk_below (g := w1.heap.size) (o := .cells #[.slice A0 p1.req.cmds.length c0, .int .i64 x1, .string x2, .int .i64 x3, .int .u32 x4, .bool p1.req.form.quiet, .bool x6, .string x7, .slice A8 n8 c8, .slice A9 n9 c9, .bool x10, .string p1.reply, .int .i64 p1.used, .int .i64 p1.skip, .bool p1.line, .int .i64 p1.e] 34 (0, 0)) (by repeat (first | exact B1.out | exact blk_at_new _ _ _ (by simp; done) | exact blk_at_new _ _ _ rfl | refine blk_alloc ?_ _ | refine blk_drew ?_ | refine blk_drewN ?_ _)) hb); have HB1n := Aside0.mk (below_step (by repeat (first | (with_reducible first | exact HB1.out | apply below_alloc | apply pw_below_drewN | apply below_drew1) | exact HB1.out)) hb); clear HB1; have HB1 := HB1n; clear HB1n; (try clear B1); have B1 := B1n; clear B1n)); have HBn := Aside0.mk (below_step (by repeat (first | (with_reducible first | exact HB.out | apply below_alloc | apply pw_below_drewN | apply below_drew1) | exact HB.out)) hb); clear HB; have HB := HBn; clear HBn; clear hcap hby hb)
        | (go_at_call 12; (with_reducible refine (HP2.out _ _ _ HBY.out HCAP.out (Tabs.below HT.out (by repeat (first | (with_reducible first | exact HB.out | apply below_alloc | apply pw_below_drewN | apply below_drew1) | exact HB.out)))).mono ?_); rintro e w2 ⟨B0, d0, y1, y2, y3, y4, y6, y7, B8, m8, d8, B9, m9, d9, y10, rfl, hk, hb⟩; (try (have B1n := Aside0.mk (blk_below (g := w1.heap.size) (o := .cells #[.slice A0 p1.req.cmds.length c0, .int .i64 x1, .string x2, .int .i64 x3, .int .u32 x4, .bool p1.req.form.quiet, .bool x6, .string x7, .slice A8 n8 c8, .slice A9 n9 c9, .bool x10, .string p1.reply, .int .i64 p1.used, .int .i64 p1.skip, .bool p1.line, .int .i64 p1.e] 34 (0, 0)) (by repeat (first | exact B1.out | exact blk_at_new _ _ _ (by simp; done) | exact blk_at_new _ _ _ rfl | refine blk_alloc ?_ _ | refine blk_drew ?_ | refine blk_drewN ?_ _)) hb); have HB1n := Aside0.mk (below_step (by repeat (first | (with_reducible first | exact HB1.out | apply below_alloc | apply pw_below_drewN | apply below_drew1) | exact HB1.out)) hb); clear HB1; have HB1 := HB1n; clear HB1n; (try clear B1); have B1 := B1n; clear B1n)); have HBn := Aside0.mk (below_step (by repeat (first | (with_reducible first | exact HB.out | apply below_alloc | apply pw_below_drewN | apply below_drew1) | exact HB.out)) hb); clear HB; have HB := HBn; clear HBn; have HW2 := Aside0.mk HB.out.size; have HK2 := Aside0.mk hk; have HB2 := Aside0.mk (Below.refl w2.heap.size w2); have l1 : w1.heap.size < w2.heap.size := blk_lt B1.out; clear hk hb HBY HCAP; have a15 : w2.cell? ⟨w1.heap.size, 15, none⟩ = some (.int .i64 p1.e) := (blk_cell B1.out 15).trans rfl; have a5 : w2.cell? ⟨w1.heap.size, 5, none⟩ = some (.bool p1.req.form.quiet) := (blk_cell B1.out 5).trans rfl; have a0 : w2.cell? ⟨w1.heap.size, 0, none⟩ = some (.slice A0 p1.req.cmds.length c0) := (blk_cell B1.out 0).trans rfl; skip))
      go_ret
      exact ⟨rfl, (by repeat (first | (with_reducible first | exact HB.out | apply below_alloc | apply pw_below_drewN | apply below_drew1) | exact HB.out))⟩
set_option maxRecDepth 100000 in
set_option maxHeartbeats 2000000 in
theorem quiet_c (s : ByteArray) (w : World) (hT : Tabs w) (hs : s.size ≤ 9223372036854775807) (h3 : ¬ 500 < s.size) (p1 p2 : Step) (hp1 : parseS (bytesOf (s ++ ⟨#[13, 10]⟩)) = p1) (hp2 : parseS (bytesOf (s ++ (⟨#[32, 110, 111, 114, 101, 112, 108, 121, 13, 10]⟩ : ByteArray))) = p2) (hm : p1.e = 0) (hn : p1.req.cmds.length = 1) (hq : p1.req.form.quiet = true) : Calls Tryz.prog 6 #[.string s] w fun e w' => e = .returned (.bool true) ∧ Below w.heap.size w w' := by
  have HB := Aside0.mk (Below.refl w.heap.size w)
  have HT := Aside0.mk hT
  clear hT
  have h3i : ¬ (500 : Int) < ↑s.size := by omega
  have H_hm := Aside0.mk hm
  have H_hn := Aside0.mk hn
  have H_hq := Aside0.mk hq
  have H_p1 := Aside0.mk hp1
  have H_p2 := Aside0.mk hp2
  clear hp1 hp2 hm hn hq
  go_enter Tryz.func6, Tryz.ntmps6
  go_wp2_with (first | (go_at_call 10; (with_reducible refine (awake_calls _ (Tabs.below HT.out (by repeat (first | (with_reducible first | exact HB.out | apply below_alloc | apply pw_below_drewN | apply below_drew1) | exact HB.out)))).mono ?_); rintro e w0 ⟨rfl, hb⟩; have HBn := Aside0.mk (below_step (by repeat (first | (with_reducible first | exact HB.out | apply below_alloc | apply pw_below_drewN | apply below_drew1) | exact HB.out)) hb); clear HB; have HB := HBn; clear HBn; clear hb))
  go_loop [4] (fun v => ∃ k : Nat, v = .int .i64 k ∧ k ≤ s.size ∧ Aside0 (CleanB s k)) (fun v => s.size - (intOf v).toNat)
  case atStart => exact ⟨0, rfl, by omega, ⟨fun j _ h => absurd h (by omega)⟩⟩
  case round =>
    obtain ⟨k, rfl, hk, HC⟩ := hrel
    by_cases hlt : k < s.size
    · have hki : (k : Int) < ↑s.size := by omega
      by_cases hb1 : (s[k].toNat : Int) = 10
      · have hb1b : ((s[k].toNat : Int) == 10) = true := beq_iff_eq.2 hb1
        clear hb1
        go_wp2
        go_ret
        exact ⟨rfl, (by repeat (first | (with_reducible first | exact HB.out | apply below_alloc | apply pw_below_drewN | apply below_drew1) | exact HB.out))⟩
      have hb1b : ((s[k].toNat : Int) == 10) = false := beq_eq_false_iff_ne.2 hb1
      by_cases hb2 : (s[k].toNat : Int) = 13
      · have hb2b : ((s[k].toNat : Int) == 13) = true := beq_iff_eq.2 hb2
        clear hb1 hb2
        go_wp2
        go_ret
        exact ⟨rfl, (by repeat (first | (with_reducible first | exact HB.out | apply below_alloc | apply pw_below_drewN | apply below_drew1) | exact HB.out))⟩
      have hb2b : ((s[k].toNat : Int) == 13) = false := beq_eq_false_iff_ne.2 hb2
      have HC2 := Aside0.mk (clean_step HC.out hlt hb1 hb2)
      clear hb1 hb2
      go_wp2
      go_round
      case rel => exact ⟨k + 1, by first | rfl | simp, by omega, HC2⟩
      case measure => simp [intOf]; omega
    · obtain rfl : k = s.size := by omega
      have hki : ¬ (s.size : Int) < ↑s.size := by omega
      have hnl := clean_nl HC.out
      have hm := H_hm.out
      have hn := H_hn.out
      have hq := H_hq.out
      have hp1 := H_p1.out
      have hp2 := H_p2.out
      clear H_p1 H_p2 H_hm H_hn H_hq
      have e1 : bytesOf (s ++ ⟨#[13, 10]⟩) = numsL s.data.toList ++ [13, 10] := bytes_app s [13, 10]
      have e2 : bytesOf (s ++ (⟨#[32, 110, 111, 114, 101, 112, 108, 121, 13, 10]⟩ : ByteArray)) = numsL (s.data.toList ++ [32, 110, 111, 114, 101, 112, 108, 121]) ++ [13, 10] := by
        rw [numsL_app, List.append_assoc]
        exact bytes_app s [32, 110, 111, 114, 101, 112, 108, 121, 13, 10]
      have z1 : (s ++ ⟨#[13, 10]⟩ : ByteArray).size = s.size + 2 := size_app _ _
      have z2 : (s ++ (⟨#[32, 110, 111, 114, 101, 112, 108, 121, 13, 10]⟩ : ByteArray) : ByteArray).size = s.size + 10 := size_app _ _
      have he : AskQ p1 → p2 = shiftU 8 (setQ p1) := fun h => by
        have := quiet_law s.data.toList hnl (by show s.size ≤ 500; omega) (by rw [← e1, hp1]; exact h)
        rw [← e1, ← e2, hp1, hp2] at this
        exact this
      have HE := Aside0.mk he
      have hg := good_parse (bytesOf (s ++ (⟨#[32, 110, 111, 114, 101, 112, 108, 121, 13, 10]⟩ : ByteArray)))
      rw [hp2] at hg
      have hu : 0 ≤ p2.used ∧ p2.used ≤ 1000 := by
        have hl : ((bytesOf (s ++ (⟨#[32, 110, 111, 114, 101, 112, 108, 121, 13, 10]⟩ : ByteArray))).length : Int) ≤ 510 := by rw [bytesOf_length, z2]; omega
        rcases hg with rfl | ⟨u, r, k, b, rfl, h0, h1, -⟩ | ⟨u, f, cs, rfl, h0, h1, -⟩
        · exact ⟨by decide, by decide⟩
        · exact ⟨by show 0 ≤ u; omega, by show u ≤ 1000; omega⟩
        · exact ⟨by show 0 ≤ u; omega, by show u ≤ 1000; omega⟩
      have HP1 : Aside0 (∀ (A : Option Addr) (c : Nat) (w' : World), Bytes w' A (bytesOf (s ++ ⟨#[13, 10]⟩)) → (bytesOf (s ++ ⟨#[13, 10]⟩)).length ≤ c → Tabs w' → Calls Tryz.prog 12 #[.slice A (bytesOf (s ++ ⟨#[13, 10]⟩)).length c] w' (PV w' p1 p1.req.cmds.length p1.req.form.quiet p1.reply p1.used p1.skip p1.line p1.e)) := ⟨fun A c w' hC hc hT => parse_v _ _ rfl p1 hp1 _ _ _ _ _ _ _ rfl rfl rfl rfl rfl rfl rfl A c w' hC hc (by rw [bytesOf_length, z1]; omega) (B8_nums _) hT⟩
      have HP2 : Aside0 (∀ (A : Option Addr) (c : Nat) (w' : World), Bytes w' A (bytesOf (s ++ (⟨#[32, 110, 111, 114, 101, 112, 108, 121, 13, 10]⟩ : ByteArray))) → (bytesOf (s ++ (⟨#[32, 110, 111, 114, 101, 112, 108, 121, 13, 10]⟩ : ByteArray))).length ≤ c → Tabs w' → Calls Tryz.prog 12 #[.slice A (bytesOf (s ++ (⟨#[32, 110, 111, 114, 101, 112, 108, 121, 13, 10]⟩ : ByteArray))).length c] w' (PV w' p2 p2.req.cmds.length p2.req.form.quiet p2.reply p2.used p2.skip p2.line p2.e)) := ⟨fun A c w' hC hc hT => parse_v _ _ rfl p2 hp2 _ _ _ _ _ _ _ rfl rfl rfl rfl rfl rfl rfl A c w' hC hc (by rw [bytesOf_length, z2]; omega) (B8_nums _) hT⟩
      have Z1 : Aside0 ((s ++ ⟨#[13, 10]⟩ : ByteArray).size ≤ 9223372036854775807) := ⟨by rw [z1]; omega⟩
      have Z2 : Aside0 ((s ++ (⟨#[32, 110, 111, 114, 101, 112, 108, 121, 13, 10]⟩ : ByteArray) : ByteArray).size ≤ 9223372036854775807) := ⟨by rw [z2]; omega⟩
      have hu1 : 0 ≤ p2.used := hu.1
      have hu2 : p2.used ≤ 1000 := hu.2
      have hu3 : -9223372036854775808 ≤ p2.used - 8 := by omega
      clear HC hp1 hp2 hg hu he e1 e2 z1 z2 hnl
      have hm1 : (p1.e == 0) = true := beq_iff_eq.2 hm
      have hm2 : (p1.e != 0) = false := by rw [hm]; rfl
      have hn1 : ((p1.req.cmds.length : Int) != 1) = false := by rw [hn]; rfl
      rw [hq] at HP1
      clear hm hn hq
      go_wp2_with (first
        | ((with_reducible refine gate_dst (N := 33) rfl ?_); refine wp_bytes rfl _ _ _ _ rfl _ rfl Tryz.underlying9 Tryz.underlying22 Tryz.underlying5 Z1.out ?_; intro Ab cb wb hcap hby hb; have HBY := Aside0.mk hby; have HCAP := Aside0.mk hcap; skip; have HBn := Aside0.mk (below_step (by repeat (first | (with_reducible first | exact HB.out | apply below_alloc | apply pw_below_drewN | apply below_drew1) | exact HB.out)) hb); clear HB; have HB := HBn; clear HBn; clear hcap hby hb)
        | (go_at_call 12; (with_reducible refine (HP1.out _ _ _ HBY.out HCAP.out (Tabs.below HT.out (by repeat (first | (with_reducible first | exact HB.out | apply below_alloc | apply pw_below_drewN | apply below_drew1) | exact HB.out)))).mono ?_); rintro e w1 ⟨A0, c0, x1, x2, x3, x4, x6, x7, A8, n8, c8, A9, n9, c9, x10, rfl, hk, hb⟩; have HBn := Aside0.mk (below_step (by repeat (first | (with_reducible first | exact HB.out | apply below_alloc | apply pw_below_drewN | apply below_drew1) | exact HB.out)) hb); clear HB; have HB := HBn; clear HBn; have HW1 := Aside0.mk HB.out.size; have HK1 := Aside0.mk hk; have HB1 := Aside0.mk (Below.refl w1.heap.size w1); clear hk hb HBY HCAP)
        | ((with_reducible refine gate_dst (N := 37) rfl ?_); refine wp_bytes rfl _ _ _ _ rfl _ rfl Tryz.underlying9 Tryz.underlying22 Tryz.underlying5 Z2.out ?_; intro Ab cb wb hcap hby hb; have HBY := Aside0.mk hby; have HCAP := Aside0.mk hcap; (try (have B1n := Aside0.mk (blk_below (g := w1.heap.size) (o := .cells #[.slice A0 p1.req.cmds.length c0, .int .i64 x1, .string x2, .int .i64 x3, .int .u32 x4, .bool true, .bool x6, .string x7, .slice A8 n8 c8, .slice A9 n9 c9, .bool x10, .string p1.reply, .int .i64 p1.used, .int .i64 p1.skip, .bool p1.line, .int .i64 p1.e] 34 (0, 0)) (by repeat (first | exact B1.out | exact blk_at_new _ _ _ (by simp; done) | exact blk_at_new _ _ _ rfl | refine blk_alloc ?_ _ | refine blk_drew ?_ | refine blk_drewN ?_ _)) hb); have HB1n := Aside0.mk (below_step (by repeat (first | (with_reducible first | exact HB1.out | apply below_alloc | apply pw_below_drewN | apply below_drew1) | exact HB1.out)) hb); clear HB1; have HB1 := HB1n; clear HB1n; (try clear B1); have B1 := B1n; clear B1n)); have HBn := Aside0.mk (below_step (by repeat (first | (with_reducible first | exact HB.out | apply below_alloc | apply pw_below_drewN | apply below_drew1) | exact HB.out)) hb); clear HB; have HB := HBn; clear HBn; clear hcap hby hb)
        | (go_at_call 12; (with_reducible refine (HP2.out _ _ _ HBY.out HCAP.out (Tabs.below HT.out (by repeat (first | (with_reducible first | exact HB.out | apply below_alloc | apply pw_below_drewN | apply below_drew1) | exact HB.out)))).mono ?_); rintro e w2 ⟨B0, d0, y1, y2, y3, y4, y6, y7, B8, m8, d8, B9, m9, d9, y10, rfl, hk, hb⟩; (try (have B1n := Aside0.mk (blk_below (g := w1.heap.size) (o := .cells #[.slice A0 p1.req.cmds.length c0, .int .i64 x1, .string x2, .int .i64 x3, .int .u32 x4, .bool true, .bool x6, .string x7, .slice A8 n8 c8, .slice A9 n9 c9, .bool x10, .string p1.reply, .int .i64 p1.used, .int .i64 p1.skip, .bool p1.line, .int .i64 p1.e] 34 (0, 0)) (by repeat (first | exact B1.out | exact blk_at_new _ _ _ (by simp; done) | exact blk_at_new _ _ _ rfl | refine blk_alloc ?_ _ | refine blk_drew ?_ | refine blk_drewN ?_ _)) hb); have HB1n := Aside0.mk (below_step (by repeat (first | (with_reducible first | exact HB1.out | apply below_alloc | apply pw_below_drewN | apply below_drew1) | exact HB1.out)) hb); clear HB1; have HB1 := HB1n; clear HB1n; (try clear B1); have B1 := B1n; clear B1n)); have HBn := Aside0.mk (below_step (by repeat (first | (with_reducible first | exact HB.out | apply below_alloc | apply pw_below_drewN | apply below_drew1) | exact HB.out)) hb); clear HB; have HB := HBn; clear HBn; have HW2 := Aside0.mk HB.out.size; have HK2 := Aside0.mk hk; have HB2 := Aside0.mk (Below.refl w2.heap.size w2); have l1 : w1.heap.size < w2.heap.size := blk_lt B1.out; clear hk hb HBY HCAP; have a15 : w2.cell? ⟨w1.heap.size, 15, none⟩ = some (.int .i64 p1.e) := (blk_cell B1.out 15).trans rfl; have a5 : w2.cell? ⟨w1.heap.size, 5, none⟩ = some (.bool true) := (blk_cell B1.out 5).trans rfl; have a0 : w2.cell? ⟨w1.heap.size, 0, none⟩ = some (.slice A0 p1.req.cmds.length c0) := (blk_cell B1.out 0).trans rfl; skip))
      go_ret
      exact ⟨rfl, (by repeat (first | (with_reducible first | exact HB.out | apply below_alloc | apply pw_below_drewN | apply below_drew1) | exact HB.out))⟩
set_option maxRecDepth 100000 in
set_option maxHeartbeats 2000000 in
theorem quiet_d (s : ByteArray) (w : World) (hT : Tabs w) (hs : s.size ≤ 9223372036854775807) (h3 : ¬ 500 < s.size) (p1 p2 : Step) (hp1 : parseS (bytesOf (s ++ ⟨#[13, 10]⟩)) = p1) (hp2 : parseS (bytesOf (s ++ (⟨#[32, 110, 111, 114, 101, 112, 108, 121, 13, 10]⟩ : ByteArray))) = p2) (hm : p1.e = 0) (hn : p1.req.cmds.length = 1) (hq : p1.req.form.quiet = false) (ho0 : opOf p1 = 8 ∨ opOf p1 = 2 ∨ opOf p1 = 10 ∨ opOf p1 = 11 ∨ opOf p1 = 13) : Calls Tryz.prog 6 #[.string s] w fun e w' => e = .returned (.bool true) ∧ Below w.heap.size w w' := by
  have HB := Aside0.mk (Below.refl w.heap.size w)
  have HT := Aside0.mk hT
  clear hT
  have h3i : ¬ (500 : Int) < ↑s.size := by omega
  have H_hm := Aside0.mk hm
  have H_hn := Aside0.mk hn
  have H_hq := Aside0.mk hq
  have H_ho0 := Aside0.mk ho0
  have H_p1 := Aside0.mk hp1
  have H_p2 := Aside0.mk hp2
  clear hp1 hp2 hm hn hq ho0
  go_enter Tryz.func6, Tryz.ntmps6
  go_wp2_with (first | (go_at_call 10; (with_reducible refine (awake_calls _ (Tabs.below HT.out (by repeat (first | (with_reducible first | exact HB.out | apply below_alloc | apply pw_below_drewN | apply below_drew1) | exact HB.out)))).mono ?_); rintro e w0 ⟨rfl, hb⟩; have HBn := Aside0.mk (below_step (by repeat (first | (with_reducible first | exact HB.out | apply below_alloc | apply pw_below_drewN | apply below_drew1) | exact HB.out)) hb); clear HB; have HB := HBn; clear HBn; clear hb))
  go_loop [4] (fun v => ∃ k : Nat, v = .int .i64 k ∧ k ≤ s.size ∧ Aside0 (CleanB s k)) (fun v => s.size - (intOf v).toNat)
  case atStart => exact ⟨0, rfl, by omega, ⟨fun j _ h => absurd h (by omega)⟩⟩
  case round =>
    obtain ⟨k, rfl, hk, HC⟩ := hrel
    by_cases hlt : k < s.size
    · have hki : (k : Int) < ↑s.size := by omega
      by_cases hb1 : (s[k].toNat : Int) = 10
      · have hb1b : ((s[k].toNat : Int) == 10) = true := beq_iff_eq.2 hb1
        clear hb1
        go_wp2
        go_ret
        exact ⟨rfl, (by repeat (first | (with_reducible first | exact HB.out | apply below_alloc | apply pw_below_drewN | apply below_drew1) | exact HB.out))⟩
      have hb1b : ((s[k].toNat : Int) == 10) = false := beq_eq_false_iff_ne.2 hb1
      by_cases hb2 : (s[k].toNat : Int) = 13
      · have hb2b : ((s[k].toNat : Int) == 13) = true := beq_iff_eq.2 hb2
        clear hb1 hb2
        go_wp2
        go_ret
        exact ⟨rfl, (by repeat (first | (with_reducible first | exact HB.out | apply below_alloc | apply pw_below_drewN | apply below_drew1) | exact HB.out))⟩
      have hb2b : ((s[k].toNat : Int) == 13) = false := beq_eq_false_iff_ne.2 hb2
      have HC2 := Aside0.mk (clean_step HC.out hlt hb1 hb2)
      clear hb1 hb2
      go_wp2
      go_round
      case rel => exact ⟨k + 1, by first | rfl | simp, by omega, HC2⟩
      case measure => simp [intOf]; omega
    · obtain rfl : k = s.size := by omega
      have hki : ¬ (s.size : Int) < ↑s.size := by omega
      have hnl := clean_nl HC.out
      have hm := H_hm.out
      have hn := H_hn.out
      have hq := H_hq.out
      have ho0 := H_ho0.out
      have hp1 := H_p1.out
      have hp2 := H_p2.out
      clear H_p1 H_p2 H_hm H_hn H_hq H_ho0
      have e1 : bytesOf (s ++ ⟨#[13, 10]⟩) = numsL s.data.toList ++ [13, 10] := bytes_app s [13, 10]
      have e2 : bytesOf (s ++ (⟨#[32, 110, 111, 114, 101, 112, 108, 121, 13, 10]⟩ : ByteArray)) = numsL (s.data.toList ++ [32, 110, 111, 114, 101, 112, 108, 121]) ++ [13, 10] := by
        rw [numsL_app, List.append_assoc]
        exact bytes_app s [32, 110, 111, 114, 101, 112, 108, 121, 13, 10]
      have z1 : (s ++ ⟨#[13, 10]⟩ : ByteArray).size = s.size + 2 := size_app _ _
      have z2 : (s ++ (⟨#[32, 110, 111, 114, 101, 112, 108, 121, 13, 10]⟩ : ByteArray) : ByteArray).size = s.size + 10 := size_app _ _
      have he : AskQ p1 → p2 = shiftU 8 (setQ p1) := fun h => by
        have := quiet_law s.data.toList hnl (by show s.size ≤ 500; omega) (by rw [← e1, hp1]; exact h)
        rw [← e1, ← e2, hp1, hp2] at this
        exact this
      have HE := Aside0.mk he
      have hg := good_parse (bytesOf (s ++ (⟨#[32, 110, 111, 114, 101, 112, 108, 121, 13, 10]⟩ : ByteArray)))
      rw [hp2] at hg
      have hu : 0 ≤ p2.used ∧ p2.used ≤ 1000 := by
        have hl : ((bytesOf (s ++ (⟨#[32, 110, 111, 114, 101, 112, 108, 121, 13, 10]⟩ : ByteArray))).length : Int) ≤ 510 := by rw [bytesOf_length, z2]; omega
        rcases hg with rfl | ⟨u, r, k, b, rfl, h0, h1, -⟩ | ⟨u, f, cs, rfl, h0, h1, -⟩
        · exact ⟨by decide, by decide⟩
        · exact ⟨by show 0 ≤ u; omega, by show u ≤ 1000; omega⟩
        · exact ⟨by show 0 ≤ u; omega, by show u ≤ 1000; omega⟩
      have HP1 : Aside0 (∀ (A : Option Addr) (c : Nat) (w' : World), Bytes w' A (bytesOf (s ++ ⟨#[13, 10]⟩)) → (bytesOf (s ++ ⟨#[13, 10]⟩)).length ≤ c → Tabs w' → Calls Tryz.prog 12 #[.slice A (bytesOf (s ++ ⟨#[13, 10]⟩)).length c] w' (PV w' p1 p1.req.cmds.length p1.req.form.quiet p1.reply p1.used p1.skip p1.line p1.e)) := ⟨fun A c w' hC hc hT => parse_v _ _ rfl p1 hp1 _ _ _ _ _ _ _ rfl rfl rfl rfl rfl rfl rfl A c w' hC hc (by rw [bytesOf_length, z1]; omega) (B8_nums _) hT⟩
      have HP2 : Aside0 (∀ (A : Option Addr) (c : Nat) (w' : World), Bytes w' A (bytesOf (s ++ (⟨#[32, 110, 111, 114, 101, 112, 108, 121, 13, 10]⟩ : ByteArray))) → (bytesOf (s ++ (⟨#[32, 110, 111, 114, 101, 112, 108, 121, 13, 10]⟩ : ByteArray))).length ≤ c → Tabs w' → Calls Tryz.prog 12 #[.slice A (bytesOf (s ++ (⟨#[32, 110, 111, 114, 101, 112, 108, 121, 13, 10]⟩ : ByteArray))).length c] w' (PV w' p2 p2.req.cmds.length p2.req.form.quiet p2.reply p2.used p2.skip p2.line p2.e)) := ⟨fun A c w' hC hc hT => parse_v _ _ rfl p2 hp2 _ _ _ _ _ _ _ rfl rfl rfl rfl rfl rfl rfl A c w' hC hc (by rw [bytesOf_length, z2]; omega) (B8_nums _) hT⟩
      have Z1 : Aside0 ((s ++ ⟨#[13, 10]⟩ : ByteArray).size ≤ 9223372036854775807) := ⟨by rw [z1]; omega⟩
      have Z2 : Aside0 ((s ++ (⟨#[32, 110, 111, 114, 101, 112, 108, 121, 13, 10]⟩ : ByteArray) : ByteArray).size ≤ 9223372036854775807) := ⟨by rw [z2]; omega⟩
      have hu1 : 0 ≤ p2.used := hu.1
      have hu2 : p2.used ≤ 1000 := hu.2
      have hu3 : -9223372036854775808 ≤ p2.used - 8 := by omega
      clear HC hp1 hp2 hg hu he e1 e2 z1 z2 hnl
      have hm1 : (p1.e == 0) = true := beq_iff_eq.2 hm
      have hm2 : (p1.e != 0) = false := by rw [hm]; rfl
      have hn1 : ((p1.req.cmds.length : Int) != 1) = false := by rw [hn]; rfl
      obtain ⟨x, hx⟩ := len1 hn
      have HX : Aside0 (p1.req.cmds[0]? = some x) := ⟨by rw [hx]; rfl⟩
      have hop : opOf p1 = x.op := by unfold opOf; rw [hx]; rfl
      rw [hq, hn] at HP1
      have ho := ho0
      rw [hop] at ho
      clear ho0
      have ha : AskQ p1 := ⟨hm, hn, hq, by rw [hop]; exact ho⟩
      have he := HE.out ha
      have hs1 : setQ p1 = { p1 with req := { p1.req with form := { p1.req.form with quiet := true } } } := if_pos hm
      have hs2 : p2 = { p1 with used := p1.used + 8, req := { p1.req with form := { p1.req.form with quiet := true } } } := by
        rw [he, hs1, sh_used (by show p1.e ≠ 3; rw [hm]; decide)]
      have hq2 : p2.req.form.quiet = true := by rw [hs2]
      have HEQ : Aside0 (({ p2 with used := p2.used - 8, req := { p2.req with form := { p2.req.form with quiet := false } } } : Step) = p1) := ⟨by
        rw [hs2]
        show ({ p1 with used := p1.used + 8 - 8, req := { p1.req with form := { p1.req.form with quiet := false } } } : Step) = p1
        rw [Int.add_sub_cancel, ← hq]⟩
      rw [hq2] at HP2
      have HO := Aside0.mk ho
      clear hm hn hq hx hop ho ha he hs1 hs2 hq2 HE
      go_upto_region 14 with (first
        | ((with_reducible refine gate_dst (N := 33) rfl ?_); refine wp_bytes rfl _ _ _ _ rfl _ rfl Tryz.underlying9 Tryz.underlying22 Tryz.underlying5 Z1.out ?_; intro Ab cb wb hcap hby hb; have HBY := Aside0.mk hby; have HCAP := Aside0.mk hcap; skip; have HBn := Aside0.mk (below_step (by repeat (first | (with_reducible first | exact HB.out | apply below_alloc | apply pw_below_drewN | apply below_drew1) | exact HB.out)) hb); clear HB; have HB := HBn; clear HBn; clear hcap hby hb)
        | (go_at_call 12; (with_reducible refine (HP1.out _ _ _ HBY.out HCAP.out (Tabs.below HT.out (by repeat (first | (with_reducible first | exact HB.out | apply below_alloc | apply pw_below_drewN | apply below_drew1) | exact HB.out)))).mono ?_); rintro e w1 ⟨A0, c0, x1, x2, x3, x4, x6, x7, A8, n8, c8, A9, n9, c9, x10, rfl, hk, hb⟩; have HBn := Aside0.mk (below_step (by repeat (first | (with_reducible first | exact HB.out | apply below_alloc | apply pw_below_drewN | apply below_drew1) | exact HB.out)) hb); clear HB; have HB := HBn; clear HBn; have HW1 := Aside0.mk HB.out.size; have HK1 := Aside0.mk hk; have HB1 := Aside0.mk (Below.refl w1.heap.size w1); clear hk hb HBY HCAP)
        | ((with_reducible refine gate_dst (N := 37) rfl ?_); refine wp_bytes rfl _ _ _ _ rfl _ rfl Tryz.underlying9 Tryz.underlying22 Tryz.underlying5 Z2.out ?_; intro Ab cb wb hcap hby hb; have HBY := Aside0.mk hby; have HCAP := Aside0.mk hcap; (try (have B1n := Aside0.mk (blk_below (g := w1.heap.size) (o := .cells #[.slice A0 1 c0, .int .i64 x1, .string x2, .int .i64 x3, .int .u32 x4, .bool false, .bool x6, .string x7, .slice A8 n8 c8, .slice A9 n9 c9, .bool x10, .string p1.reply, .int .i64 p1.used, .int .i64 p1.skip, .bool p1.line, .int .i64 p1.e] 34 (0, 0)) (by repeat (first | exact B1.out | exact blk_at_new _ _ _ (by simp; done) | exact blk_at_new _ _ _ rfl | refine blk_alloc ?_ _ | refine blk_drew ?_ | refine blk_drewN ?_ _)) hb); have HB1n := Aside0.mk (below_step (by repeat (first | (with_reducible first | exact HB1.out | apply below_alloc | apply pw_below_drewN | apply below_drew1) | exact HB1.out)) hb); clear HB1; have HB1 := HB1n; clear HB1n; (try clear B1); have B1 := B1n; clear B1n)); have HBn := Aside0.mk (below_step (by repeat (first | (with_reducible first | exact HB.out | apply below_alloc | apply pw_below_drewN | apply below_drew1) | exact HB.out)) hb); clear HB; have HB := HBn; clear HBn; clear hcap hby hb)
        | (go_at_call 12; (with_reducible refine (HP2.out _ _ _ HBY.out HCAP.out (Tabs.below HT.out (by repeat (first | (with_reducible first | exact HB.out | apply below_alloc | apply pw_below_drewN | apply below_drew1) | exact HB.out)))).mono ?_); rintro e w2 ⟨B0, d0, y1, y2, y3, y4, y6, y7, B8, m8, d8, B9, m9, d9, y10, rfl, hk, hb⟩; (try (have B1n := Aside0.mk (blk_below (g := w1.heap.size) (o := .cells #[.slice A0 1 c0, .int .i64 x1, .string x2, .int .i64 x3, .int .u32 x4, .bool false, .bool x6, .string x7, .slice A8 n8 c8, .slice A9 n9 c9, .bool x10, .string p1.reply, .int .i64 p1.used, .int .i64 p1.skip, .bool p1.line, .int .i64 p1.e] 34 (0, 0)) (by repeat (first | exact B1.out | exact blk_at_new _ _ _ (by simp; done) | exact blk_at_new _ _ _ rfl | refine blk_alloc ?_ _ | refine blk_drew ?_ | refine blk_drewN ?_ _)) hb); have HB1n := Aside0.mk (below_step (by repeat (first | (with_reducible first | exact HB1.out | apply below_alloc | apply pw_below_drewN | apply below_drew1) | exact HB1.out)) hb); clear HB1; have HB1 := HB1n; clear HB1n; (try clear B1); have B1 := B1n; clear B1n)); have HBn := Aside0.mk (below_step (by repeat (first | (with_reducible first | exact HB.out | apply below_alloc | apply pw_below_drewN | apply below_drew1) | exact HB.out)) hb); clear HB; have HB := HBn; clear HBn; have HW2 := Aside0.mk HB.out.size; have HK2 := Aside0.mk hk; have HB2 := Aside0.mk (Below.refl w2.heap.size w2); have l1 : w1.heap.size < w2.heap.size := blk_lt B1.out; clear hk hb HBY HCAP; have a15 : w2.cell? ⟨w1.heap.size, 15, none⟩ = some (.int .i64 p1.e) := (blk_cell B1.out 15).trans rfl; have a5 : w2.cell? ⟨w1.heap.size, 5, none⟩ = some (.bool false) := (blk_cell B1.out 5).trans rfl; obtain ⟨b1, o1, E1, f1, rfl, hb1, hr1, -, -⟩ := cmd_v (step_C HK1.out) 0 x HX.out; have lb1 : b1 < w2.heap.size := Nat.lt_of_lt_of_le hb1 HB1.out.size; have k1 : w2.cell? ⟨b1, o1, none⟩ = some (.int .i64 x.op) := (HB1.out.cell (p := ⟨b1, o1, none⟩) hb1).trans (hr1 0 _ rfl); clear hr1; have a0 : w2.cell? ⟨w1.heap.size, 0, none⟩ = some (.slice (some ⟨b1, o1, none⟩) 1 c0) := (blk_cell B1.out 0).trans rfl; have B1A := B1; have HST : Aside0 (∀ w', Below w1.heap.size w1 w' → Below w2.heap.size w2 w' → Calls Tryz.prog 11 #[.agg #[.slice (some ⟨b1, o1, none⟩) 1 c0, .int .i64 x1, .string x2, .int .i64 x3, .int .u32 x4, .bool false, .bool x6, .string x7, .slice A8 n8 c8, .slice A9 n9 c9, .bool x10, .string p1.reply, .int .i64 p1.used, .int .i64 p1.skip, .bool p1.line, .int .i64 p1.e], .agg #[.slice B0 p2.req.cmds.length d0, .int .i64 y1, .string y2, .int .i64 y3, .int .u32 y4, .bool false, .bool y6, .string y7, .slice B8 m8 d8, .slice B9 m9 d9, .bool y10, .string p2.reply, .int .i64 (p2.used - 8), .int .i64 p2.skip, .bool p2.line, .int .i64 p2.e]] w' fun e w'' => e = .returned (.bool true) ∧ Below w'.heap.size w' w'') := ⟨fun w' g1 g2 => (by have k2 := step_set (kStep.K_below g2 HK2.out) (p2.used - 8) false; rw [HEQ.out] at k2; exact steps_same p1 _ _ w' (kStep.K_below g1 HK1.out) k2)⟩))
      go_cut [83] (fun sv wx => sv = .bool false ∧ wx = w2.alloc (.cells #[.slice B0 p2.req.cmds.length d0, .int .i64 y1, .string y2, .int .i64 y3, .int .u32 y4, .bool true, .bool y6, .string y7, .slice B8 m8 d8, .slice B9 m9 d9, .bool y10, .string p2.reply, .int .i64 (p2.used), .int .i64 p2.skip, .bool p2.line, .int .i64 p2.e] 34 (0, 0)))
      case first =>
        rcases HO.out with h | h | h | h | h
        · have g0 : (x.op != 8) = false := (by rw [h]; rfl); clear h; go_wp2; go_meet; case rel => exact ⟨rfl, rfl⟩
        · have g0 : (x.op != 8) = true := (by rw [h]; rfl); have g1 : (x.op != 2) = false := (by rw [h]; rfl); clear h; go_wp2; go_meet; case rel => exact ⟨rfl, rfl⟩
        · have g0 : (x.op != 8) = true := (by rw [h]; rfl); have g1 : (x.op != 2) = true := (by rw [h]; rfl); have g2 : (x.op != 10) = false := (by rw [h]; rfl); clear h; go_wp2; go_meet; case rel => exact ⟨rfl, rfl⟩
        · have g0 : (x.op != 8) = true := (by rw [h]; rfl); have g1 : (x.op != 2) = true := (by rw [h]; rfl); have g2 : (x.op != 10) = true := (by rw [h]; rfl); have g3 : (x.op != 11) = false := (by rw [h]; rfl); clear h; go_wp2; go_meet; case rel => exact ⟨rfl, rfl⟩
        · have g0 : (x.op != 8) = true := (by rw [h]; rfl); have g1 : (x.op != 2) = true := (by rw [h]; rfl); have g2 : (x.op != 10) = true := (by rw [h]; rfl); have g3 : (x.op != 11) = true := (by rw [h]; rfl); have g4 : (x.op != 13) = false := (by rw [h]; rfl); clear h; go_wp2; go_meet; case rel => exact ⟨rfl, rfl⟩
      case rest =>
      obtain ⟨rfl, rfl⟩ := hcut
      go_wp2_with (first
        | (go_at_call 11; (with_reducible refine (HST.out _ (by repeat (first | (with_reducible first | exact HB1.out | apply below_alloc | apply pw_below_drewN | apply below_drew1) | exact HB1.out)) (by repeat (first | (with_reducible first | exact HB2.out | apply below_alloc | apply pw_below_drewN | apply below_drew1) | exact HB2.out))).mono ?_); rintro e w5 ⟨rfl, hb⟩; have HBn := Aside0.mk (below_step (by repeat (first | (with_reducible first | exact HB.out | apply below_alloc | apply pw_below_drewN | apply below_drew1) | exact HB.out)) hb); clear HB; have HB := HBn; clear HBn; clear hb)
        | (refine wpList_load_row rfl 34 _ rfl (w1.heap.size) rfl 34 _ (0, 0) _ (blk_alloc B1A.out _) Tryz.underlying34 rfl (by kernel_rfl) ?_))
      go_ret
      exact ⟨rfl, (by repeat (first | (with_reducible first | exact HB.out | apply below_alloc | apply pw_below_drewN | apply below_drew1) | exact HB.out))⟩
set_option maxRecDepth 100000 in
set_option maxHeartbeats 2000000 in
theorem quiet_e (s : ByteArray) (w : World) (hT : Tabs w) (hs : s.size ≤ 9223372036854775807) (h3 : ¬ 500 < s.size) (p1 p2 : Step) (hp1 : parseS (bytesOf (s ++ ⟨#[13, 10]⟩)) = p1) (hp2 : parseS (bytesOf (s ++ (⟨#[32, 110, 111, 114, 101, 112, 108, 121, 13, 10]⟩ : ByteArray))) = p2) (hm : p1.e = 0) (hn : p1.req.cmds.length = 1) (hq : p1.req.form.quiet = false) (ho0 : ¬ (opOf p1 = 8 ∨ opOf p1 = 2 ∨ opOf p1 = 10 ∨ opOf p1 = 11 ∨ opOf p1 = 13)) : Calls Tryz.prog 6 #[.string s] w fun e w' => e = .returned (.bool true) ∧ Below w.heap.size w w' := by
  have HB := Aside0.mk (Below.refl w.heap.size w)
  have HT := Aside0.mk hT
  clear hT
  have h3i : ¬ (500 : Int) < ↑s.size := by omega
  have H_hm := Aside0.mk hm
  have H_hn := Aside0.mk hn
  have H_hq := Aside0.mk hq
  have H_ho0 := Aside0.mk ho0
  have H_p1 := Aside0.mk hp1
  have H_p2 := Aside0.mk hp2
  clear hp1 hp2 hm hn hq ho0
  go_enter Tryz.func6, Tryz.ntmps6
  go_wp2_with (first | (go_at_call 10; (with_reducible refine (awake_calls _ (Tabs.below HT.out (by repeat (first | (with_reducible first | exact HB.out | apply below_alloc | apply pw_below_drewN | apply below_drew1) | exact HB.out)))).mono ?_); rintro e w0 ⟨rfl, hb⟩; have HBn := Aside0.mk (below_step (by repeat (first | (with_reducible first | exact HB.out | apply below_alloc | apply pw_below_drewN | apply below_drew1) | exact HB.out)) hb); clear HB; have HB := HBn; clear HBn; clear hb))
  go_loop [4] (fun v => ∃ k : Nat, v = .int .i64 k ∧ k ≤ s.size ∧ Aside0 (CleanB s k)) (fun v => s.size - (intOf v).toNat)
  case atStart => exact ⟨0, rfl, by omega, ⟨fun j _ h => absurd h (by omega)⟩⟩
  case round =>
    obtain ⟨k, rfl, hk, HC⟩ := hrel
    by_cases hlt : k < s.size
    · have hki : (k : Int) < ↑s.size := by omega
      by_cases hb1 : (s[k].toNat : Int) = 10
      · have hb1b : ((s[k].toNat : Int) == 10) = true := beq_iff_eq.2 hb1
        clear hb1
        go_wp2
        go_ret
        exact ⟨rfl, (by repeat (first | (with_reducible first | exact HB.out | apply below_alloc | apply pw_below_drewN | apply below_drew1) | exact HB.out))⟩
      have hb1b : ((s[k].toNat : Int) == 10) = false := beq_eq_false_iff_ne.2 hb1
      by_cases hb2 : (s[k].toNat : Int) = 13
      · have hb2b : ((s[k].toNat : Int) == 13) = true := beq_iff_eq.2 hb2
        clear hb1 hb2
        go_wp2
        go_ret
        exact ⟨rfl, (by repeat (first | (with_reducible first | exact HB.out | apply below_alloc | apply pw_below_drewN | apply below_drew1) | exact HB.out))⟩
      have hb2b : ((s[k].toNat : Int) == 13) = false := beq_eq_false_iff_ne.2 hb2
      have HC2 := Aside0.mk (clean_step HC.out hlt hb1 hb2)
      clear hb1 hb2
      go_wp2
      go_round
      case rel => exact ⟨k + 1, by first | rfl | simp, by omega, HC2⟩
      case measure => simp [intOf]; omega
    · obtain rfl : k = s.size := by omega
      have hki : ¬ (s.size : Int) < ↑s.size := by omega
      have hnl := clean_nl HC.out
      have hm := H_hm.out
      have hn := H_hn.out
      have hq := H_hq.out
      have ho0 := H_ho0.out
      have hp1 := H_p1.out
      have hp2 := H_p2.out
      clear H_p1 H_p2 H_hm H_hn H_hq H_ho0
      have e1 : bytesOf (s ++ ⟨#[13, 10]⟩) = numsL s.data.toList ++ [13, 10] := bytes_app s [13, 10]
      have e2 : bytesOf (s ++ (⟨#[32, 110, 111, 114, 101, 112, 108, 121, 13, 10]⟩ : ByteArray)) = numsL (s.data.toList ++ [32, 110, 111, 114, 101, 112, 108, 121]) ++ [13, 10] := by
        rw [numsL_app, List.append_assoc]
        exact bytes_app s [32, 110, 111, 114, 101, 112, 108, 121, 13, 10]
      have z1 : (s ++ ⟨#[13, 10]⟩ : ByteArray).size = s.size + 2 := size_app _ _
      have z2 : (s ++ (⟨#[32, 110, 111, 114, 101, 112, 108, 121, 13, 10]⟩ : ByteArray) : ByteArray).size = s.size + 10 := size_app _ _
      have he : AskQ p1 → p2 = shiftU 8 (setQ p1) := fun h => by
        have := quiet_law s.data.toList hnl (by show s.size ≤ 500; omega) (by rw [← e1, hp1]; exact h)
        rw [← e1, ← e2, hp1, hp2] at this
        exact this
      have HE := Aside0.mk he
      have hg := good_parse (bytesOf (s ++ (⟨#[32, 110, 111, 114, 101, 112, 108, 121, 13, 10]⟩ : ByteArray)))
      rw [hp2] at hg
      have hu : 0 ≤ p2.used ∧ p2.used ≤ 1000 := by
        have hl : ((bytesOf (s ++ (⟨#[32, 110, 111, 114, 101, 112, 108, 121, 13, 10]⟩ : ByteArray))).length : Int) ≤ 510 := by rw [bytesOf_length, z2]; omega
        rcases hg with rfl | ⟨u, r, k, b, rfl, h0, h1, -⟩ | ⟨u, f, cs, rfl, h0, h1, -⟩
        · exact ⟨by decide, by decide⟩
        · exact ⟨by show 0 ≤ u; omega, by show u ≤ 1000; omega⟩
        · exact ⟨by show 0 ≤ u; omega, by show u ≤ 1000; omega⟩
      have HP1 : Aside0 (∀ (A : Option Addr) (c : Nat) (w' : World), Bytes w' A (bytesOf (s ++ ⟨#[13, 10]⟩)) → (bytesOf (s ++ ⟨#[13, 10]⟩)).length ≤ c → Tabs w' → Calls Tryz.prog 12 #[.slice A (bytesOf (s ++ ⟨#[13, 10]⟩)).length c] w' (PV w' p1 p1.req.cmds.length p1.req.form.quiet p1.reply p1.used p1.skip p1.line p1.e)) := ⟨fun A c w' hC hc hT => parse_v _ _ rfl p1 hp1 _ _ _ _ _ _ _ rfl rfl rfl rfl rfl rfl rfl A c w' hC hc (by rw [bytesOf_length, z1]; omega) (B8_nums _) hT⟩
      have HP2 : Aside0 (∀ (A : Option Addr) (c : Nat) (w' : World), Bytes w' A (bytesOf (s ++ (⟨#[32, 110, 111, 114, 101, 112, 108, 121, 13, 10]⟩ : ByteArray))) → (bytesOf (s ++ (⟨#[32, 110, 111, 114, 101, 112, 108, 121, 13, 10]⟩ : ByteArray))).length ≤ c → Tabs w' → Calls Tryz.prog 12 #[.slice A (bytesOf (s ++ (⟨#[32, 110, 111, 114, 101, 112, 108, 121, 13, 10]⟩ : ByteArray))).length c] w' (PV w' p2 p2.req.cmds.length p2.req.form.quiet p2.reply p2.used p2.skip p2.line p2.e)) := ⟨fun A c w' hC hc hT => parse_v _ _ rfl p2 hp2 _ _ _ _ _ _ _ rfl rfl rfl rfl rfl rfl rfl A c w' hC hc (by rw [bytesOf_length, z2]; omega) (B8_nums _) hT⟩
      have Z1 : Aside0 ((s ++ ⟨#[13, 10]⟩ : ByteArray).size ≤ 9223372036854775807) := ⟨by rw [z1]; omega⟩
      have Z2 : Aside0 ((s ++ (⟨#[32, 110, 111, 114, 101, 112, 108, 121, 13, 10]⟩ : ByteArray) : ByteArray).size ≤ 9223372036854775807) := ⟨by rw [z2]; omega⟩
      have hu1 : 0 ≤ p2.used := hu.1
      have hu2 : p2.used ≤ 1000 := hu.2
      have hu3 : -9223372036854775808 ≤ p2.used - 8 := by omega
      clear HC hp1 hp2 hg hu he e1 e2 z1 z2 hnl
      have hm1 : (p1.e == 0) = true := beq_iff_eq.2 hm
      have hm2 : (p1.e != 0) = false := by rw [hm]; rfl
      have hn1 : ((p1.req.cmds.length : Int) != 1) = false := by rw [hn]; rfl
      obtain ⟨x, hx⟩ := len1 hn
      have HX : Aside0 (p1.req.cmds[0]? = some x) := ⟨by rw [hx]; rfl⟩
      have hop : opOf p1 = x.op := by unfold opOf; rw [hx]; rfl
      rw [hq, hn] at HP1
      have ho := ho0
      rw [hop] at ho
      clear ho0
      have g1 : (x.op != 8) = true := bne_iff_ne.2 (fun e => ho (.inl e))
      have g2 : (x.op != 2) = true := bne_iff_ne.2 (fun e => ho (.inr (.inl e)))
      have g3 : (x.op != 10) = true := bne_iff_ne.2 (fun e => ho (.inr (.inr (.inl e))))
      have g4 : (x.op != 11) = true := bne_iff_ne.2 (fun e => ho (.inr (.inr (.inr (.inl e)))))
      have g5 : (x.op != 13) = true := bne_iff_ne.2 (fun e => ho (.inr (.inr (.inr (.inr e)))))
      clear hm hn hq hx hop ho HE
      go_wp2_with (first
        | ((with_reducible refine gate_dst (N := 33) rfl ?_); refine wp_bytes rfl _ _ _ _ rfl _ rfl Tryz.underlying9 Tryz.underlying22 Tryz.underlying5 Z1.out ?_; intro Ab cb wb hcap hby hb; have HBY := Aside0.mk hby; have HCAP := Aside0.mk hcap; skip; have HBn := Aside0.mk (below_step (by repeat (first | (with_reducible first | exact HB.out | apply below_alloc | apply pw_below_drewN | apply below_drew1) | exact HB.out)) hb); clear HB; have HB := HBn; clear HBn; clear hcap hby hb)
        | (go_at_call 12; (with_reducible refine (HP1.out _ _ _ HBY.out HCAP.out (Tabs.below HT.out (by repeat (first | (with_reducible first | exact HB.out | apply below_alloc | apply pw_below_drewN | apply below_drew1) | exact HB.out)))).mono ?_); rintro e w1 ⟨A0, c0, x1, x2, x3, x4, x6, x7, A8, n8, c8, A9, n9, c9, x10, rfl, hk, hb⟩; have HBn := Aside0.mk (below_step (by repeat (first | (with_reducible first | exact HB.out | apply below_alloc | apply pw_below_drewN | apply below_drew1) | exact HB.out)) hb); clear HB; have HB := HBn; clear HBn; have HW1 := Aside0.mk HB.out.size; have HK1 := Aside0.mk hk; have HB1 := Aside0.mk (Below.refl w1.heap.size w1); clear hk hb HBY HCAP)
        | ((with_reducible refine gate_dst (N := 37) rfl ?_); refine wp_bytes rfl _ _ _ _ rfl _ rfl Tryz.underlying9 Tryz.underlying22 Tryz.underlying5 Z2.out ?_; intro Ab cb wb hcap hby hb; have HBY := Aside0.mk hby; have HCAP := Aside0.mk hcap; (try (have B1n := Aside0.mk (blk_below (g := w1.heap.size) (o := .cells #[.slice A0 1 c0, .int .i64 x1, .string x2, .int .i64 x3, .int .u32 x4, .bool false, .bool x6, .string x7, .slice A8 n8 c8, .slice A9 n9 c9, .bool x10, .string p1.reply, .int .i64 p1.used, .int .i64 p1.skip, .bool p1.line, .int .i64 p1.e] 34 (0, 0)) (by repeat (first | exact B1.out | exact blk_at_new _ _ _ (by simp; done) | exact blk_at_new _ _ _ rfl | refine blk_alloc ?_ _ | refine blk_drew ?_ | refine blk_drewN ?_ _)) hb); have HB1n := Aside0.mk (below_step (by repeat (first | (with_reducible first | exact HB1.out | apply below_alloc | apply pw_below_drewN | apply below_drew1) | exact HB1.out)) hb); clear HB1; have HB1 := HB1n; clear HB1n; (try clear B1); have B1 := B1n; clear B1n)); have HBn := Aside0.mk (below_step (by repeat (first | (with_reducible first | exact HB.out | apply below_alloc | apply pw_below_drewN | apply below_drew1) | exact HB.out)) hb); clear HB; have HB := HBn; clear HBn; clear hcap hby hb)
        | (go_at_call 12; (with_reducible refine (HP2.out _ _ _ HBY.out HCAP.out (Tabs.below HT.out (by repeat (first | (with_reducible first | exact HB.out | apply below_alloc | apply pw_below_drewN | apply below_drew1) | exact HB.out)))).mono ?_); rintro e w2 ⟨B0, d0, y1, y2, y3, y4, y6, y7, B8, m8, d8, B9, m9, d9, y10, rfl, hk, hb⟩; (try (have B1n := Aside0.mk (blk_below (g := w1.heap.size) (o := .cells #[.slice A0 1 c0, .int .i64 x1, .string x2, .int .i64 x3, .int .u32 x4, .bool false, .bool x6, .string x7, .slice A8 n8 c8, .slice A9 n9 c9, .bool x10, .string p1.reply, .int .i64 p1.used, .int .i64 p1.skip, .bool p1.line, .int .i64 p1.e] 34 (0, 0)) (by repeat (first | exact B1.out | exact blk_at_new _ _ _ (by simp; done) | exact blk_at_new _ _ _ rfl | refine blk_alloc ?_ _ | refine blk_drew ?_ | refine blk_drewN ?_ _)) hb); have HB1n := Aside0.mk (below_step (by repeat (first | (with_reducible first | exact HB1.out | apply below_alloc | apply pw_below_drewN | apply below_drew1) | exact HB1.out)) hb); clear HB1; have HB1 := HB1n; clear HB1n; (try clear B1); have B1 := B1n; clear B1n)); have HBn := Aside0.mk (below_step (by repeat (first | (with_reducible first | exact HB.out | apply below_alloc | apply pw_below_drewN | apply below_drew1) | exact HB.out)) hb); clear HB; have HB := HBn; clear HBn; have HW2 := Aside0.mk HB.out.size; have HK2 := Aside0.mk hk; have HB2 := Aside0.mk (Below.refl w2.heap.size w2); have l1 : w1.heap.size < w2.heap.size := blk_lt B1.out; clear hk hb HBY HCAP; have a15 : w2.cell? ⟨w1.heap.size, 15, none⟩ = some (.int .i64 p1.e) := (blk_cell B1.out 15).trans rfl; have a5 : w2.cell? ⟨w1.heap.size, 5, none⟩ = some (.bool false) := (blk_cell B1.out 5).trans rfl; obtain ⟨b1, o1, E1, f1, rfl, hb1, hr1, -, -⟩ := cmd_v (step_C HK1.out) 0 x HX.out; have lb1 : b1 < w2.heap.size := Nat.lt_of_lt_of_le hb1 HB1.out.size; have k1 : w2.cell? ⟨b1, o1, none⟩ = some (.int .i64 x.op) := (HB1.out.cell (p := ⟨b1, o1, none⟩) hb1).trans (hr1 0 _ rfl); clear hr1; have a0 : w2.cell? ⟨w1.heap.size, 0, none⟩ = some (.slice (some ⟨b1, o1, none⟩) 1 c0) := (blk_cell B1.out 0).trans rfl))
      go_ret
      exact ⟨rfl, (by repeat (first | (with_reducible first | exact HB.out | apply below_alloc | apply pw_below_drewN | apply below_drew1) | exact HB.out))⟩
set_option maxRecDepth 100000 in
set_option maxHeartbeats 2000000 in
theorem quiet_calls (s : ByteArray) (w : World) (hT : Tabs w) (hs : s.size ≤ 9223372036854775807) : Calls Tryz.prog 6 #[.string s] w fun e w' => e = .returned (.bool true) ∧ Below w.heap.size w w' := by
  by_cases h3 : 500 < s.size
  · have HB := Aside0.mk (Below.refl w.heap.size w)
    have HT := Aside0.mk hT
    clear hT
    have h3i : (500 : Int) < ↑s.size := by omega
    go_enter Tryz.func6, Tryz.ntmps6
    go_wp2_with (first | (go_at_call 10; (with_reducible refine (awake_calls _ (Tabs.below HT.out (by repeat (first | (with_reducible first | exact HB.out | apply below_alloc | apply pw_below_drewN | apply below_drew1) | exact HB.out)))).mono ?_); rintro e w0 ⟨rfl, hb⟩; have HBn := Aside0.mk (below_step (by repeat (first | (with_reducible first | exact HB.out | apply below_alloc | apply pw_below_drewN | apply below_drew1) | exact HB.out)) hb); clear HB; have HB := HBn; clear HBn; clear hb))
    go_ret
    exact ⟨rfl, (by repeat (first | (with_reducible first | exact HB.out | apply below_alloc | apply pw_below_drewN | apply below_drew1) | exact HB.out))⟩
  obtain ⟨p1, hp1⟩ : ∃ p, parseS (bytesOf (s ++ ⟨#[13, 10]⟩)) = p := ⟨_, rfl⟩
  obtain ⟨p2, hp2⟩ : ∃ p, parseS (bytesOf (s ++ (⟨#[32, 110, 111, 114, 101, 112, 108, 121, 13, 10]⟩ : ByteArray))) = p := ⟨_, rfl⟩
  by_cases hm : p1.e ≠ 0
  · exact quiet_a s w hT hs h3 p1 p2 hp1 hp2 hm
  have hm : p1.e = 0 := Classical.not_not.1 hm
  by_cases hn : p1.req.cmds.length ≠ 1
  · exact quiet_b s w hT hs h3 p1 p2 hp1 hp2 hm hn
  have hn : p1.req.cmds.length = 1 := Classical.not_not.1 hn
  by_cases hq : p1.req.form.quiet = true
  · exact quiet_c s w hT hs h3 p1 p2 hp1 hp2 hm hn hq
  have hq : p1.req.form.quiet = false := by revert hq; cases p1.req.form.quiet <;> simp
  by_cases ho : opOf p1 = 8 ∨ opOf p1 = 2 ∨ opOf p1 = 10 ∨ opOf p1 = 11 ∨ opOf p1 = 13
  · exact quiet_d s w hT hs h3 p1 p2 hp1 hp2 hm hn hq ho
  · exact quiet_e s w hT hs h3 p1 p2 hp1 hp2 hm hn hq ho
end Go.Proofs.YtfljijpkeckeaaaGreatDoor.X
