/- TextinEnds: its walk. -/
import Derived.Test.YtfljijpkeckeaaaGreatDoorZLawE0
import Derived.Test.YtfljijpkeckeaaaGreatDoorZParse3
namespace Go.Proofs.YtfljijpkeckeaaaGreatDoor.X
open Go.RowKit Go.Proofs.YtfljijpkeckeaaaGreatDoorW.PrintWords Go.Proofs.YtfljijpkeckeaaaGreatDoorW.PrintMore Go.Proofs.YtfljijpkeckeaaaGreatDoorW.PrintLast
set_option linter.unusedVariables false
set_option linter.unusedSimpArgs false
def PVF (F : Nat → Prop) (w : World) (st : Step) (n : Nat) (q : Bool) (r : ByteArray) (u k : Int) (b : Bool) (er : Int) (e : Ending) (w' : World) : Prop := ∃ (A0 : Option Addr) (c0 : Nat) (x1 : Int) (x2 : ByteArray) (x3 x4 : Int) (x6 : Bool) (x7 : ByteArray) (A8 : Option Addr) (n8 c8 : Nat) (A9 : Option Addr) (n9 c9 : Nat) (x10 : Bool), e = .returned (.agg ([.slice A0 n c0, .int .i64 x1, .string x2, .int .i64 x3, .int .u32 x4, .bool q, .bool x6, .string x7, .slice A8 n8 c8, .slice A9 n9 c9, .bool x10, .string r, .int .i64 u, .int .i64 k, .bool b, .int .i64 er] : List Value).toArray) ∧ HolF (fun k => k < w.heap.size → F k) w' (fun w2 => kStep.K w2 st [.slice A0 n c0, .int .i64 x1, .string x2, .int .i64 x3, .int .u32 x4, .bool q, .bool x6, .string x7, .slice A8 n8 c8, .slice A9 n9 c9, .bool x10, .string r, .int .i64 u, .int .i64 k, .bool b, .int .i64 er]) ∧ Below w.heap.size w w'
theorem parse_vF (F : Nat → Prop) (l : List Int) (N : Nat) (hN : l.length = N) (st : Step) (hst : parseS l = st) (n : Nat) (q : Bool) (r : ByteArray) (u k : Int) (b : Bool) (er : Int) (hn : st.req.cmds.length = n) (hq : st.req.form.quiet = q) (hr : st.reply = r) (hu : st.used = u) (hk : st.skip = k) (hb : st.line = b) (he : st.e = er)
    (A : Option Addr) (c : Nat) (w : World) (hC : (Kd.int .u8).C w A l.length l) (hc : N ≤ c) (hl : l.length ≤ 1000000) (h8 : B8 l) (hT : Tabs w) (hF : ∀ b o, A = some ⟨b, o, none⟩ → F b) : Calls Tryz.prog 12 #[.slice A N c] w (PVF F w st n q r u k b er) := by
  subst hN hst hn hq hr hu hk hb he
  refine (parse_callsF l A F hF c w hC hc hl h8 hT).mono ?_
  rintro e w' ⟨⟨cs, rfl, hk⟩, hb⟩
  have hK := hk.now
  obtain ⟨A0, c0, A8, c8, A9, c9, rfl, -⟩ := kStep_open hK
  exact ⟨A0, c0, _, _, _, _, _, _, A8, _, c8, A9, _, c9, _, rfl, hk, hb⟩
section
variable {P : Program} {ops : Array Oper} {rest : List Oper} {o : Oper} {a : Act} {Q : Exit → Act → World → Prop} {W : World}
theorem wp_bytesA (hgd : o.guard = none) (src dst e : TypeId) (x : Operand) (ho : o.op = .convert src dst x) (s : ByteArray) (hx : a.eval x = .string s)
    (hs : P.underlying src = some .string) (hdt : P.underlying dst = some (.slice e)) (he : P.underlying e = some (.int .u8)) (hl : s.size ≤ 9223372036854775807)
    (h : ∀ A c w1, (∀ b f, A = some ⟨b, f, none⟩ → b = W.heap.size) → (bytesOf s).length ≤ c → Bytes w1 A (bytesOf s) → Below W.heap.size W w1 → wpList P ops Q rest (a.put o.dst (.slice A (bytesOf s).length c)) w1) : wpList P ops Q (o :: rest) a W := by
  refine Kd.event_run hgd (v := .slice (some ⟨W.heap.size, 0, none⟩) (bytesOf s).length (grownCap W s.size 0 e)) (w1 := Lib.bytesWorld W e s) ?_ (h _ _ _ (fun b f h => by cases h; rfl) (by rw [bytesOf_length]; exact grownCap_ge _ _ _ _) (bytesWorld_C W e s hl) (bytesWorld_below W e s))
  have hr := Lib.run_convert_string_bytes (P := P) W src dst e s hs hdt he
  simp [execOp, ho, hx, hr, bytesOf_length]
end
set_option maxRecDepth 100000 in
set_option maxHeartbeats 2000000 in
theorem ends_calls (s : ByteArray) (w : World) (hT : Tabs w) (hs : s.size ≤ 9223372036854775807) : Calls Tryz.prog 8 #[.string s] w fun e w' => e = .returned (.bool true) ∧ Below w.heap.size w w' := by
  have HB := Aside0.mk (Below.refl w.heap.size w)
  have HT := Aside0.mk hT
  clear hT
  by_cases h3 : 300 < s.size
  · have h3i : (300 : Int) < ↑s.size := by omega
    go_enter Tryz.func8, Tryz.ntmps8
    go_wp2_with (first | (go_at_call 10; (with_reducible refine (awake_calls _ (Tabs.below HT.out (by repeat (first | (with_reducible first | exact HB.out | apply below_alloc | apply pw_below_drewN | apply below_drew1) | exact HB.out)))).mono ?_); rintro e w0 ⟨rfl, hb⟩; have HBn := Aside0.mk (below_step (by repeat (first | (with_reducible first | exact HB.out | apply below_alloc | apply pw_below_drewN | apply below_drew1) | exact HB.out)) hb); clear HB; have HB := HBn; clear HBn; clear hb))
    go_ret
    exact ⟨rfl, (by repeat (first | (with_reducible first | exact HB.out | apply below_alloc | apply pw_below_drewN | apply below_drew1) | exact HB.out))⟩
  have h3i : ¬ (300 : Int) < ↑s.size := by omega
  go_enter Tryz.func8, Tryz.ntmps8
  go_wp2_with (first | (go_at_call 10; (with_reducible refine (awake_calls _ (Tabs.below HT.out (by repeat (first | (with_reducible first | exact HB.out | apply below_alloc | apply pw_below_drewN | apply below_drew1) | exact HB.out)))).mono ?_); rintro e w0 ⟨rfl, hb⟩; have HBn := Aside0.mk (below_step (by repeat (first | (with_reducible first | exact HB.out | apply below_alloc | apply pw_below_drewN | apply below_drew1) | exact HB.out)) hb); clear HB; have HB := HBn; clear HBn; clear hb))
  go_loop [4] (fun v => ∃ k : Nat, v = .int .i64 k ∧ k ≤ s.size ∧ Aside0 (CleanB s k)) (fun v => s.size - (intOf v).toNat)
  case atStart => exact ⟨0, rfl, by omega, ⟨fun j _ h => absurd h (by omega)⟩⟩
  case round =>
    obtain ⟨k, rfl, hk, HC⟩ := hrel
    by_cases hlt : k < s.size
    · have hki : (k : Int) < ↑s.size := by omega
      by_cases hb1 : (s[k].toNat : Int) = 10
      · have hb1b : ((s[k].toNat : Int) == 10) = true := beq_iff_eq.2 hb1
        clear hb1
        go_wp2
        go_ret
        exact ⟨rfl, (by repeat (first | (with_reducible first | exact HB.out | apply below_alloc | apply pw_below_drewN | apply below_drew1) | exact HB.out))⟩
      have hb1b : ((s[k].toNat : Int) == 10) = false := beq_eq_false_iff_ne.2 hb1
      by_cases hb2 : (s[k].toNat : Int) = 13
      · have hb2b : ((s[k].toNat : Int) == 13) = true := beq_iff_eq.2 hb2
        clear hb1 hb2
        go_wp2
        go_ret
        exact ⟨rfl, (by repeat (first | (with_reducible first | exact HB.out | apply below_alloc | apply pw_below_drewN | apply below_drew1) | exact HB.out))⟩
      have hb2b : ((s[k].toNat : Int) == 13) = false := beq_eq_false_iff_ne.2 hb2
      have HC2 := Aside0.mk (clean_step HC.out hlt hb1 hb2)
      clear hb1 hb2
      go_wp2
      go_round
      case rel => exact ⟨k + 1, by first | rfl | simp, by omega, HC2⟩
      case measure => simp [intOf]; omega
    · obtain rfl : k = s.size := by omega
      have hki : ¬ (s.size : Int) < ↑s.size := by omega
      have hnl := clean_nl HC.out
      have he := ends_law s.data.toList hnl (by show s.size ≤ 2048; omega)
      have e1 : bytesOf (s ++ ⟨#[13, 10]⟩) = numsL s.data.toList ++ [13, 10] := bytes_app s [13, 10]
      have e2 : bytesOf (s ++ ⟨#[10]⟩) = numsL s.data.toList ++ [10] := bytes_app s [10]
      have z1 : (s ++ ⟨#[13, 10]⟩ : ByteArray).size = s.size + 2 := size_app _ _
      have z2 : (s ++ ⟨#[10]⟩ : ByteArray).size = s.size + 1 := size_app _ _
      obtain ⟨p1, hp1⟩ : ∃ p, parseS (bytesOf (s ++ ⟨#[13, 10]⟩)) = p := ⟨_, rfl⟩
      obtain ⟨p2, hp2⟩ : ∃ p, parseS (bytesOf (s ++ ⟨#[10]⟩)) = p := ⟨_, rfl⟩
      have hg := good_parse (bytesOf (s ++ ⟨#[13, 10]⟩))
      rw [hp1] at hg
      have hu : 0 ≤ p1.used ∧ p1.used ≤ 1000 := by
        have hl : ((bytesOf (s ++ ⟨#[13, 10]⟩)).length : Int) ≤ 302 := by rw [bytesOf_length, z1]; omega
        rcases hg with rfl | ⟨u, r, k, b, rfl, h0, h1, -⟩ | ⟨u, f, cs, rfl, h0, h1, -⟩
        · exact ⟨by decide, by decide⟩
        · exact ⟨by show 0 ≤ u; omega, by show u ≤ 1000; omega⟩
        · exact ⟨by show 0 ≤ u; omega, by show u ≤ 1000; omega⟩
      rw [← e1, ← e2, hp1, hp2] at he
      have HP1 : Aside0 (∀ (A : Option Addr) (c : Nat) (w' : World), Bytes w' A (bytesOf (s ++ ⟨#[13, 10]⟩)) → (bytesOf (s ++ ⟨#[13, 10]⟩)).length ≤ c → Tabs w' → Calls Tryz.prog 12 #[.slice A (bytesOf (s ++ ⟨#[13, 10]⟩)).length c] w' (PV w' p1 p1.req.cmds.length p1.req.form.quiet p1.reply p1.used p1.skip p1.line p1.e)) := ⟨fun A c w' hC hc hT => parse_v _ _ rfl p1 hp1 _ _ _ _ _ _ _ rfl rfl rfl rfl rfl rfl rfl A c w' hC hc (by rw [bytesOf_length, z1]; omega) (B8_nums _) hT⟩
      have HP2 : Aside0 (∀ (g : Nat) (A : Option Addr) (c : Nat) (w' : World), Bytes w' A (bytesOf (s ++ ⟨#[10]⟩)) → (bytesOf (s ++ ⟨#[10]⟩)).length ≤ c → Tabs w' → (∀ b o, A = some ⟨b, o, none⟩ → b ≠ g) → Calls Tryz.prog 12 #[.slice A (bytesOf (s ++ ⟨#[10]⟩)).length c] w' (PVF (fun k => k ≠ g) w' p2 p2.req.cmds.length p2.req.form.quiet p2.reply p2.used p2.skip p2.line p2.e)) := ⟨fun g A c w' hC hc hT hF => parse_vF (fun k => k ≠ g) _ _ rfl p2 hp2 _ _ _ _ _ _ _ rfl rfl rfl rfl rfl rfl rfl A c w' hC hc (by rw [bytesOf_length, z2]; omega) (B8_nums _) hT hF⟩
      have Z1 : Aside0 ((s ++ ⟨#[13, 10]⟩ : ByteArray).size ≤ 9223372036854775807) := ⟨by rw [z1]; omega⟩
      have Z2 : Aside0 ((s ++ ⟨#[10]⟩ : ByteArray).size ≤ 9223372036854775807) := ⟨by rw [z2]; omega⟩
      have hee : p1.e = p2.e := by rw [he, sh_e]
      have hu1 : 0 ≤ p1.used := hu.1
      have hu2 : p1.used ≤ 1000 := hu.2
      have hu3 : -9223372036854775808 ≤ p1.used - 1 := by omega
      have HEE := Aside0.mk hee
      have HE := Aside0.mk he
      have hem : (p1.e == p2.e) = true := beq_iff_eq.2 hee
      clear HC hp1 hp2 hg hu he e1 e2 z1 z2 hee
      by_cases hm : p1.e = 3
      · have hm1 : (p1.e == 3) = true := beq_iff_eq.2 hm
        have hm2 : (p2.e == 3) = true := beq_iff_eq.2 (by rw [← HEE.out]; exact hm)
        clear hm
        go_wp2_with (first
          | ((with_reducible refine gate_dst (N := 34) rfl ?_); refine wp_bytes rfl _ _ _ _ rfl _ rfl Tryz.underlying9 Tryz.underlying22 Tryz.underlying5 Z1.out ?_; intro Ab cb wb hcap hby hb; have HBY := Aside0.mk hby; have HCAP := Aside0.mk hcap; skip; have HBn := Aside0.mk (below_step (by repeat (first | (with_reducible first | exact HB.out | apply below_alloc | apply pw_below_drewN | apply below_drew1) | exact HB.out)) hb); clear HB; have HB := HBn; clear HBn; clear hcap hby hb)
          | (go_at_call 12; (with_reducible refine (HP1.out _ _ _ HBY.out HCAP.out (Tabs.below HT.out (by repeat (first | (with_reducible first | exact HB.out | apply below_alloc | apply pw_below_drewN | apply below_drew1) | exact HB.out)))).mono ?_); rintro e w1 ⟨A0, c0, x1, x2, x3, x4, x6, x7, A8, n8, c8, A9, n9, c9, x10, rfl, hk, hb⟩; have HBn := Aside0.mk (below_step (by repeat (first | (with_reducible first | exact HB.out | apply below_alloc | apply pw_below_drewN | apply below_drew1) | exact HB.out)) hb); clear HB; have HB := HBn; clear HBn; have HW1 := Aside0.mk HB.out.size; have HK1 := Aside0.mk hk; have HB1 := Aside0.mk (Below.refl w1.heap.size w1); clear hk hb HBY HCAP)
          | ((with_reducible refine gate_dst (N := 38) rfl ?_); refine wp_bytesA rfl _ _ _ _ rfl _ rfl Tryz.underlying9 Tryz.underlying22 Tryz.underlying5 Z2.out ?_; intro Ab cb wb hnb hcap hby hb; have HBY := Aside0.mk hby; have HCAP := Aside0.mk hcap; have HNB := Aside0.mk (show ∀ b f, Ab = some ⟨b, f, none⟩ → b ≠ w1.heap.size from fun b f h => by rw [hnb b f h]; exact Nat.ne_of_gt (blk_lt (g := w1.heap.size) (o := .cells #[.slice A0 p1.req.cmds.length c0, .int .i64 x1, .string x2, .int .i64 x3, .int .u32 x4, .bool p1.req.form.quiet, .bool x6, .string x7, .slice A8 n8 c8, .slice A9 n9 c9, .bool x10, .string p1.reply, .int .i64 p1.used, .int .i64 p1.skip, .bool p1.line, .int .i64 p1.e] 34 (0, 0)) (by repeat (first | exact blk_at_new _ _ _ (by simp; done) | exact blk_at_new _ _ _ rfl | refine blk_alloc ?_ _ | refine blk_drew ?_ | refine blk_drewN ?_ _)))); have B1n := Aside0.mk (blk_below (g := w1.heap.size) (o := .cells #[.slice A0 p1.req.cmds.length c0, .int .i64 x1, .string x2, .int .i64 x3, .int .u32 x4, .bool p1.req.form.quiet, .bool x6, .string x7, .slice A8 n8 c8, .slice A9 n9 c9, .bool x10, .string p1.reply, .int .i64 p1.used, .int .i64 p1.skip, .bool p1.line, .int .i64 p1.e] 34 (0, 0)) (by repeat (first | exact blk_at_new _ _ _ (by simp; done) | exact blk_at_new _ _ _ rfl | refine blk_alloc ?_ _ | refine blk_drew ?_ | refine blk_drewN ?_ _)) hb); have HB1n := Aside0.mk (below_step (by repeat (first | (with_reducible first | exact HB1.out | apply below_alloc | apply pw_below_drewN | apply below_drew1) | exact HB1.out)) hb); clear HB1; have HB1 := HB1n; clear HB1n; have B1 := B1n; clear B1n; have HBn := Aside0.mk (below_step (by repeat (first | (with_reducible first | exact HB.out | apply below_alloc | apply pw_below_drewN | apply below_drew1) | exact HB.out)) hb); clear HB; have HB := HBn; clear HBn; clear hcap hby hb hnb)
          | (go_at_call 12; (with_reducible refine (HP2.out w1.heap.size _ _ _ HBY.out HCAP.out (Tabs.below HT.out (by repeat (first | (with_reducible first | exact HB.out | apply below_alloc | apply pw_below_drewN | apply below_drew1) | exact HB.out))) HNB.out).mono ?_); rintro e w2 ⟨B0, d0, y1, y2, y3, y4, y6, y7, B8, m8, d8, B9, m9, d9, y10, rfl, hk, hb⟩; have HLT := Aside0.mk (blk_lt B1.out); have B1n := Aside0.mk (blk_below B1.out hb); have HB1n := Aside0.mk (below_step (by repeat (first | (with_reducible first | exact HB1.out | apply below_alloc | apply pw_below_drewN | apply below_drew1) | exact HB1.out)) hb); clear HB1; have HB1 := HB1n; clear HB1n; have HBn := Aside0.mk (below_step (by repeat (first | (with_reducible first | exact HB.out | apply below_alloc | apply pw_below_drewN | apply below_drew1) | exact HB.out)) hb); clear HB; have HB := HBn; clear HBn; clear B1; have B1 := B1n; clear B1n; have HK2 := Aside0.mk hk; have l1 : w1.heap.size < w2.heap.size := blk_lt B1.out; have a12 : w2.cell? ⟨w1.heap.size, 12, none⟩ = some (.int .i64 p1.used) := (blk_cell B1.out 12).trans rfl; clear hk hb HBY HCAP)
          | (refine wpList_store_1 rfl 3 _ _ rfl w1.heap.size 12 (.int .i64 (p1.used - 1)) rfl rfl rfl 34 _ #[.slice A0 p1.req.cmds.length c0, .int .i64 x1, .string x2, .int .i64 x3, .int .u32 x4, .bool p1.req.form.quiet, .bool x6, .string x7, .slice A8 n8 c8, .slice A9 n9 c9, .bool x10, .string p1.reply, .int .i64 (p1.used - 1), .int .i64 p1.skip, .bool p1.line, .int .i64 p1.e] (blk_alloc B1.out _) (by simp) (by kernel_rfl) rfl ?_; intro w4 hbk hst; have BX := Aside0.mk hbk; have BY := Aside0.mk (hst.blk (k := w2.heap.size) (o := .cells #[.slice B0 p2.req.cmds.length d0, .int .i64 y1, .string y2, .int .i64 y3, .int .u32 y4, .bool p2.req.form.quiet, .bool y6, .string y7, .slice B8 m8 d8, .slice B9 m9 d9, .bool y10, .string p2.reply, .int .i64 p2.used, .int .i64 p2.skip, .bool p2.line, .int .i64 p2.e] 34 (0, 0)) (blk_at_new _ _ _ rfl) (by omega)); have HB4 := Aside0.mk (hst.up (by repeat (first | (with_reducible first | exact HB.out | apply below_alloc | apply pw_below_drewN | apply below_drew1) | exact HB.out)) HW1.out); have HB14 := Aside0.mk (hst.up (by repeat (first | (with_reducible first | exact HB1.out | apply below_alloc | apply pw_below_drewN | apply below_drew1) | exact HB1.out)) (Nat.le_refl _)); clear a12; have a15 : w4.cell? ⟨w1.heap.size, 15, none⟩ = some (.int .i64 p1.e) := (blk_cell BX.out 15).trans rfl; have d15 : w4.cell? ⟨w2.heap.size, 15, none⟩ = some (.int .i64 p2.e) := (blk_cell BY.out 15).trans rfl; have HST := Aside0.mk hst; clear hbk hst HB; have HB := HB4; clear HB4))
        go_ret
        exact ⟨rfl, (by repeat (first | (with_reducible first | exact HB.out | apply below_alloc | apply pw_below_drewN | apply below_drew1) | exact HB.out))⟩
      · have hm1 : (p1.e == 3) = false := beq_eq_false_iff_ne.2 hm
        have hm2 : (p2.e == 3) = false := beq_eq_false_iff_ne.2 (by rw [← HEE.out]; exact hm)
        have HEQ : Aside0 (({ p1 with used := p1.used - 1, req := { p1.req with form := { p1.req.form with quiet := p1.req.form.quiet } } } : Step) = p2) := ⟨by
          have h3 : p2.e ≠ 3 := by rw [← HEE.out]; exact hm
          have hE := HE.out.trans (sh_used h3)
          rw [hE]
          show ({ p2 with used := p2.used + 1 - 1 } : Step) = p2
          rw [Int.add_sub_cancel]⟩
        have HM := Aside0.mk hm
        clear hm
        go_wp2_with (first
          | ((with_reducible refine gate_dst (N := 34) rfl ?_); refine wp_bytes rfl _ _ _ _ rfl _ rfl Tryz.underlying9 Tryz.underlying22 Tryz.underlying5 Z1.out ?_; intro Ab cb wb hcap hby hb; have HBY := Aside0.mk hby; have HCAP := Aside0.mk hcap; skip; have HBn := Aside0.mk (below_step (by repeat (first | (with_reducible first | exact HB.out | apply below_alloc | apply pw_below_drewN | apply below_drew1) | exact HB.out)) hb); clear HB; have HB := HBn; clear HBn; clear hcap hby hb)
          | (go_at_call 12; (with_reducible refine (HP1.out _ _ _ HBY.out HCAP.out (Tabs.below HT.out (by repeat (first | (with_reducible first | exact HB.out | apply below_alloc | apply pw_below_drewN | apply below_drew1) | exact HB.out)))).mono ?_); rintro e w1 ⟨A0, c0, x1, x2, x3, x4, x6, x7, A8, n8, c8, A9, n9, c9, x10, rfl, hk, hb⟩; have HBn := Aside0.mk (below_step (by repeat (first | (with_reducible first | exact HB.out | apply below_alloc | apply pw_below_drewN | apply below_drew1) | exact HB.out)) hb); clear HB; have HB := HBn; clear HBn; have HW1 := Aside0.mk HB.out.size; have HK1 := Aside0.mk hk; have HB1 := Aside0.mk (Below.refl w1.heap.size w1); clear hk hb HBY HCAP)
          | ((with_reducible refine gate_dst (N := 38) rfl ?_); refine wp_bytesA rfl _ _ _ _ rfl _ rfl Tryz.underlying9 Tryz.underlying22 Tryz.underlying5 Z2.out ?_; intro Ab cb wb hnb hcap hby hb; have HBY := Aside0.mk hby; have HCAP := Aside0.mk hcap; have HNB := Aside0.mk (show ∀ b f, Ab = some ⟨b, f, none⟩ → b ≠ w1.heap.size from fun b f h => by rw [hnb b f h]; exact Nat.ne_of_gt (blk_lt (g := w1.heap.size) (o := .cells #[.slice A0 p1.req.cmds.length c0, .int .i64 x1, .string x2, .int .i64 x3, .int .u32 x4, .bool p1.req.form.quiet, .bool x6, .string x7, .slice A8 n8 c8, .slice A9 n9 c9, .bool x10, .string p1.reply, .int .i64 p1.used, .int .i64 p1.skip, .bool p1.line, .int .i64 p1.e] 34 (0, 0)) (by repeat (first | exact blk_at_new _ _ _ (by simp; done) | exact blk_at_new _ _ _ rfl | refine blk_alloc ?_ _ | refine blk_drew ?_ | refine blk_drewN ?_ _)))); have B1n := Aside0.mk (blk_below (g := w1.heap.size) (o := .cells #[.slice A0 p1.req.cmds.length c0, .int .i64 x1, .string x2, .int .i64 x3, .int .u32 x4, .bool p1.req.form.quiet, .bool x6, .string x7, .slice A8 n8 c8, .slice A9 n9 c9, .bool x10, .string p1.reply, .int .i64 p1.used, .int .i64 p1.skip, .bool p1.line, .int .i64 p1.e] 34 (0, 0)) (by repeat (first | exact blk_at_new _ _ _ (by simp; done) | exact blk_at_new _ _ _ rfl | refine blk_alloc ?_ _ | refine blk_drew ?_ | refine blk_drewN ?_ _)) hb); have HB1n := Aside0.mk (below_step (by repeat (first | (with_reducible first | exact HB1.out | apply below_alloc | apply pw_below_drewN | apply below_drew1) | exact HB1.out)) hb); clear HB1; have HB1 := HB1n; clear HB1n; have B1 := B1n; clear B1n; have HBn := Aside0.mk (below_step (by repeat (first | (with_reducible first | exact HB.out | apply below_alloc | apply pw_below_drewN | apply below_drew1) | exact HB.out)) hb); clear HB; have HB := HBn; clear HBn; clear hcap hby hb hnb)
          | (go_at_call 12; (with_reducible refine (HP2.out w1.heap.size _ _ _ HBY.out HCAP.out (Tabs.below HT.out (by repeat (first | (with_reducible first | exact HB.out | apply below_alloc | apply pw_below_drewN | apply below_drew1) | exact HB.out))) HNB.out).mono ?_); rintro e w2 ⟨B0, d0, y1, y2, y3, y4, y6, y7, B8, m8, d8, B9, m9, d9, y10, rfl, hk, hb⟩; have HLT := Aside0.mk (blk_lt B1.out); have B1n := Aside0.mk (blk_below B1.out hb); have HB1n := Aside0.mk (below_step (by repeat (first | (with_reducible first | exact HB1.out | apply below_alloc | apply pw_below_drewN | apply below_drew1) | exact HB1.out)) hb); clear HB1; have HB1 := HB1n; clear HB1n; have HBn := Aside0.mk (below_step (by repeat (first | (with_reducible first | exact HB.out | apply below_alloc | apply pw_below_drewN | apply below_drew1) | exact HB.out)) hb); clear HB; have HB := HBn; clear HBn; clear B1; have B1 := B1n; clear B1n; have HK2 := Aside0.mk hk; have l1 : w1.heap.size < w2.heap.size := blk_lt B1.out; have a12 : w2.cell? ⟨w1.heap.size, 12, none⟩ = some (.int .i64 p1.used) := (blk_cell B1.out 12).trans rfl; clear hk hb HBY HCAP)
          | (refine wpList_store_1 rfl 3 _ _ rfl w1.heap.size 12 (.int .i64 (p1.used - 1)) rfl rfl rfl 34 _ #[.slice A0 p1.req.cmds.length c0, .int .i64 x1, .string x2, .int .i64 x3, .int .u32 x4, .bool p1.req.form.quiet, .bool x6, .string x7, .slice A8 n8 c8, .slice A9 n9 c9, .bool x10, .string p1.reply, .int .i64 (p1.used - 1), .int .i64 p1.skip, .bool p1.line, .int .i64 p1.e] (blk_alloc B1.out _) (by simp) (by kernel_rfl) rfl ?_; intro w4 hbk hst; have BX := Aside0.mk hbk; have BY := Aside0.mk (hst.blk (k := w2.heap.size) (o := .cells #[.slice B0 p2.req.cmds.length d0, .int .i64 y1, .string y2, .int .i64 y3, .int .u32 y4, .bool p2.req.form.quiet, .bool y6, .string y7, .slice B8 m8 d8, .slice B9 m9 d9, .bool y10, .string p2.reply, .int .i64 p2.used, .int .i64 p2.skip, .bool p2.line, .int .i64 p2.e] 34 (0, 0)) (blk_at_new _ _ _ rfl) (by omega)); have HB4 := Aside0.mk (hst.up (by repeat (first | (with_reducible first | exact HB.out | apply below_alloc | apply pw_below_drewN | apply below_drew1) | exact HB.out)) HW1.out); have HB14 := Aside0.mk (hst.up (by repeat (first | (with_reducible first | exact HB1.out | apply below_alloc | apply pw_below_drewN | apply below_drew1) | exact HB1.out)) (Nat.le_refl _)); clear a12; have a15 : w4.cell? ⟨w1.heap.size, 15, none⟩ = some (.int .i64 p1.e) := (blk_cell BX.out 15).trans rfl; have d15 : w4.cell? ⟨w2.heap.size, 15, none⟩ = some (.int .i64 p2.e) := (blk_cell BY.out 15).trans rfl; have HK24 := Aside0.mk (hst.hol (HK2.out.below ((Below.refl w2.heap.size w2).alloc (Nat.le_refl _) _)) (fun h => h HLT.out rfl)); have HB1 := HB14; have HB2 := Aside0.mk (Below.refl w4.heap.size w4); have HSTP : Aside0 (∀ w', Below w1.heap.size w1 w' → Below w4.heap.size w4 w' → Calls Tryz.prog 11 #[.agg #[.slice A0 p1.req.cmds.length c0, .int .i64 x1, .string x2, .int .i64 x3, .int .u32 x4, .bool p1.req.form.quiet, .bool x6, .string x7, .slice A8 n8 c8, .slice A9 n9 c9, .bool x10, .string p1.reply, .int .i64 (p1.used - 1), .int .i64 p1.skip, .bool p1.line, .int .i64 p1.e], .agg #[.slice B0 p2.req.cmds.length d0, .int .i64 y1, .string y2, .int .i64 y3, .int .u32 y4, .bool p2.req.form.quiet, .bool y6, .string y7, .slice B8 m8 d8, .slice B9 m9 d9, .bool y10, .string p2.reply, .int .i64 p2.used, .int .i64 p2.skip, .bool p2.line, .int .i64 p2.e]] w' fun e w'' => e = .returned (.bool true) ∧ Below w'.heap.size w' w'') := ⟨fun w' g1 g2 => (by have k2 := step_set (kStep.K_below g1 HK1.out) (p1.used - 1) p1.req.form.quiet; rw [HEQ.out] at k2; exact steps_same p2 _ _ w' k2 (HK24.out.below g2).now)⟩; clear hbk hst HB; have HB := HB4; clear HB4)
          | (refine wpList_load_row rfl 34 _ rfl (w1.heap.size) rfl 34 _ (0, 0) _ BX.out Tryz.underlying34 rfl (by kernel_rfl) ?_)
          | (refine wpList_load_row rfl 34 _ rfl (w2.heap.size) rfl 34 _ (0, 0) _ BY.out Tryz.underlying34 rfl (by kernel_rfl) ?_)
          | (go_at_call 11; (with_reducible refine (HSTP.out _ (by repeat (first | (with_reducible first | exact HB1.out | apply below_alloc | apply pw_below_drewN | apply below_drew1) | exact HB1.out)) (by repeat (first | (with_reducible first | exact HB2.out | apply below_alloc | apply pw_below_drewN | apply below_drew1) | exact HB2.out))).mono ?_); rintro e w5 ⟨rfl, hb⟩; have HBn := Aside0.mk (below_step (by repeat (first | (with_reducible first | exact HB.out | apply below_alloc | apply pw_below_drewN | apply below_drew1) | exact HB.out)) hb); clear HB; have HB := HBn; clear HBn; clear hb))
        go_ret
        exact ⟨rfl, (by repeat (first | (with_reducible first | exact HB.out | apply below_alloc | apply pw_below_drewN | apply below_drew1) | exact HB.out))⟩
end Go.Proofs.YtfljijpkeckeaaaGreatDoor.X
