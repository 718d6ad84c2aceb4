/- MetainBlanks: its walk. -/
import Derived.Test.YtdgeiadlijlkmaaGreatDoorZLawE0
namespace Go.Proofs.YtdgeiadlijlkmaaGreatDoor.X
open Go.RowKit Go.Proofs.YtdgeiadlijlkmaaGreatDoorW.PrintWords Go.Proofs.YtdgeiadlijlkmaaGreatDoorW.PrintMore Go.Proofs.YtdgeiadlijlkmaaGreatDoorW.PrintLast
set_option linter.unusedVariables false
set_option linter.unusedSimpArgs false
def repB (k : Nat) : ByteArray := ⟨(List.replicate k 32).toArray⟩
def longB (k : Nat) (s : ByteArray) (j : Nat) : ByteArray := ⟨(List.replicate k 32 ++ exB k (s.data.toList.take j)).toArray⟩
theorem repB_size (k : Nat) : (repB k).size = k := by
  unfold repB
  simp [ByteArray.size]
theorem repB_succ (k : Nat) : repB k ++ ⟨#[32]⟩ = repB (k + 1) := by
  apply ByteArray.ext
  apply Array.ext'
  rw [ByteArray.data_append, Array.toList_append]
  unfold repB
  rw [List.replicate_succ']
theorem longB_size (k : Nat) (s : ByteArray) (j : Nat) (hk : k ≤ 3) (hs : s.size ≤ 300) : (longB k s j).size ≤ 1300 := by
  have h1 := exB_len k (s.data.toList.take j)
  have h2 : (s.data.toList.take j).length ≤ 300 := by
    rw [List.length_take]
    have : s.data.toList.length = s.size := rfl
    omega
  have h3 : (k + 1) * (s.data.toList.take j).length ≤ 4 * 300 := Nat.mul_le_mul (by omega) h2
  have : (longB k s j).size = k + (exB k (s.data.toList.take j)).length := by
    unfold longB
    simp [ByteArray.size]
  omega
theorem longB_zero (k : Nat) (s : ByteArray) : longB k s 0 = repB k := by
  unfold longB repB
  rw [List.take_zero]
  simp [exB]
theorem ext_one (s : ByteArray) (j : Nat) (h : j < s.size) : (s.extract j (j + 1)).data.toList = [s[j]] := by
  obtain ⟨⟨l⟩⟩ := s
  have hl : j < l.length := by simpa [ByteArray.size] using h
  have e : (List.drop j l).take 1 = [l[j]] := by
    rw [List.drop_eq_getElem_cons hl]
    rfl
  simp only [ByteArray.data_extract, Array.toList_extract]
  rw [List.extract_eq_take_drop, Nat.add_sub_cancel_left, e]
  rfl
theorem take_one (s : ByteArray) (j : Nat) (h : j < s.size) : s.data.toList.take (j + 1) = s.data.toList.take j ++ [s[j]] := by
  rw [List.take_succ_eq_append_getElem (by simpa using h)]
  rfl
theorem longB_blank (k : Nat) (s : ByteArray) (j : Nat) (h : j < s.size) (hb : (s[j].toNat : Int) = 32) : longB k s j ++ repB k ++ s.extract j (j + 1) = longB k s (j + 1) := by
  apply ByteArray.ext
  apply Array.ext'
  rw [ByteArray.data_append, ByteArray.data_append, Array.toList_append, Array.toList_append, ext_one s j h]
  unfold longB repB
  rw [take_one s j h, exB_app]
  have e : s[j] = 32 := by
    apply UInt8.toNat_inj.1
    show s[j].toNat = 32
    omega
  have e2 : exB k [s[j]] = List.replicate k 32 ++ [s[j]] := by
    unfold exB
    simp [e]
  rw [e2]
  simp
theorem longB_other (k : Nat) (s : ByteArray) (j : Nat) (h : j < s.size) (hb : ¬ (s[j].toNat : Int) = 32) : longB k s j ++ s.extract j (j + 1) = longB k s (j + 1) := by
  apply ByteArray.ext
  apply Array.ext'
  rw [ByteArray.data_append, Array.toList_append, ext_one s j h]
  unfold longB
  rw [take_one s j h, exB_app]
  have e : ¬ s[j] = 32 := fun e => hb (by rw [e]; rfl)
  have e2 : exB k [s[j]] = [s[j]] := by
    unfold exB
    simp [e]
  rw [e2]
  simp
set_option maxRecDepth 100000 in
set_option maxHeartbeats 2000000 in
theorem blanks_a (s : ByteArray) (k : Nat) (w : World) (hT : Tabs w) (h3 : s.size ≤ 300) (hk1 : 1 ≤ k) (hk3 : k ≤ 3) (p1 p2 : Step) (hp1 : parseMP (bytesOf (s ++ ⟨#[13, 10]⟩)) = p1) (hp2 : parseMP (bytesOf (longB k s s.size ++ repB k ++ ⟨#[13, 10]⟩)) = p2) (hee : CleanB s s.size → p1.e = p2.e) (hm : p1.e = 3) :
    Calls Tryz.prog 7 #[.string s, .int .i64 (k : Int)] w fun e w' => e = .returned (.bool true) ∧ Below w.heap.size w w' := by
  have HB := Aside0.mk (Below.refl w.heap.size w)
  have HT := Aside0.mk hT
  have hg := good_parse (bytesOf (longB k s s.size ++ repB k ++ ⟨#[13, 10]⟩))
  rw [hp2] at hg
  have zr := repB_size k
  have zl := longB_size k s s.size hk3 h3
  have z1 : (s ++ ⟨#[13, 10]⟩ : ByteArray).size = s.size + 2 := size_app _ _
  have z2 : (longB k s s.size ++ repB k ++ ⟨#[13, 10]⟩ : ByteArray).size = (longB k s s.size).size + k + 2 := by
    rw [size_app, size_app, zr]
    rfl
  have hu : 0 ≤ p2.used ∧ p2.used ≤ 2000 := by
    have hl : ((bytesOf (longB k s s.size ++ repB k ++ ⟨#[13, 10]⟩)).length : Int) ≤ 1310 := by rw [bytesOf_length, z2]; omega
    rcases hg with rfl | ⟨u, r, k, b, rfl, h0, h1, -⟩ | ⟨u, f, cs, rfl, h0, h1, -⟩
    · exact ⟨by decide, by decide⟩
    · exact ⟨by show 0 ≤ u; omega, by show u ≤ 2000; omega⟩
    · exact ⟨by show 0 ≤ u; omega, by show u ≤ 2000; omega⟩
  have HP1 : Aside0 (∀ (A : Option Addr) (c : Nat) (w' : World), Bytes w' A (bytesOf (s ++ ⟨#[13, 10]⟩)) → (bytesOf (s ++ ⟨#[13, 10]⟩)).length ≤ c → Tabs w' → Calls Tryz.prog 11 #[.slice A (bytesOf (s ++ ⟨#[13, 10]⟩)).length c] w' (PV w' p1 p1.req.cmds.length p1.req.form.quiet p1.reply p1.used p1.skip p1.line p1.e)) := ⟨fun A c w' hC hc hT => parse_v _ _ rfl p1 hp1 _ _ _ _ _ _ _ rfl rfl rfl rfl rfl rfl rfl A c w' hC hc (by rw [bytesOf_length, z1]; omega) (B8_nums _) hT⟩
  have HP2 : Aside0 (∀ (A : Option Addr) (c : Nat) (w' : World), Bytes w' A (bytesOf (longB k s s.size ++ repB k ++ ⟨#[13, 10]⟩)) → (bytesOf (longB k s s.size ++ repB k ++ ⟨#[13, 10]⟩)).length ≤ c → Tabs w' → Calls Tryz.prog 11 #[.slice A (bytesOf (longB k s s.size ++ repB k ++ ⟨#[13, 10]⟩)).length c] w' (PV w' p2 p2.req.cmds.length p2.req.form.quiet p2.reply p2.used p2.skip p2.line p2.e)) := ⟨fun A c w' hC hc hT => parse_v _ _ rfl p2 hp2 _ _ _ _ _ _ _ rfl rfl rfl rfl rfl rfl rfl A c w' hC hc (by rw [bytesOf_length, z2]; omega) (B8_nums _) hT⟩
  have Z1 : Aside0 ((s ++ ⟨#[13, 10]⟩ : ByteArray).size ≤ 9223372036854775807) := ⟨by rw [z1]; omega⟩
  have Z2 : Aside0 ((longB k s s.size ++ repB k ++ ⟨#[13, 10]⟩ : ByteArray).size ≤ 9223372036854775807) := ⟨by rw [z2]; omega⟩
  have HEE := Aside0.mk hee
  have HM := Aside0.mk hm
  clear hm
  have hu1 : 0 ≤ p2.used := hu.1
  have hu2 : p2.used ≤ 2000 := hu.2
  have h3i : ¬ (300 : Int) < ↑s.size := by omega
  have hki1 : ¬ (k : Int) < 1 := by omega
  have hki3 : ¬ (3 : Int) < ↑k := by omega
  have H3 := Aside0.mk h3
  have HK3 := Aside0.mk hk3
  clear hT hp1 hp2 hg hu z1 z2 zl zr hee
  go_enter Tryz.func7, Tryz.ntmps7
  go_wp2_with (first | (go_at_call 9; (with_reducible refine (awake_calls _ (Tabs.below HT.out (by repeat (first | (with_reducible first | exact HB.out | apply below_alloc | apply pw_below_drewN | apply below_drew1) | exact HB.out)))).mono ?_); rintro e w0 ⟨rfl, hb⟩; have HBn := Aside0.mk (below_step (by repeat (first | (with_reducible first | exact HB.out | apply below_alloc | apply pw_below_drewN | apply below_drew1) | exact HB.out)) hb); clear HB; have HB := HBn; clear HBn; clear hb))
  go_loop [6, 7] (fun sw si => ∃ j : Nat, si = .int .i64 j ∧ j ≤ k ∧ sw = .string (repB j)) (fun _ si => k - (intOf si).toNat)
  case atStart => exact ⟨0, rfl, by omega, rfl⟩
  case round =>
    obtain ⟨j, rfl, hj, rfl⟩ := hrel
    have zj : (repB j).size ≤ 3 := by rw [repB_size]; omega
    by_cases hlt : j < k
    · have hji : (j : Int) < ↑k := by omega
      have HSU := Aside0.mk (repB_succ j)
      go_wp2
      go_round
      case rel => exact ⟨j + 1, by first | rfl | simp, by omega, by rw [← HSU.out]⟩
      case measure => simp [intOf]; omega
    · obtain rfl : k = j := by omega
      have hji : ¬ (k : Int) < ↑k := by omega
      clear hlt hj
      go_wp2
      go_loop [8, 9] (fun sl si => ∃ i : Nat, si = .int .i64 i ∧ i ≤ s.size ∧ sl = .string (longB k s i) ∧ Aside0 (CleanB s i)) (fun _ si => s.size - (intOf si).toNat)
      case atStart => exact ⟨0, rfl, by omega, by rw [longB_zero], ⟨fun j _ h => absurd h (by omega)⟩⟩
      case round =>
        obtain ⟨i, rfl, hi, rfl, HC⟩ := hrel
        have zi : (longB k s i).size ≤ 1300 := longB_size k s i HK3.out H3.out
        by_cases hlt : i < s.size
        · have hii : (i : Int) < ↑s.size := by omega
          have hi1 : (i : Int) + 1 ≤ ↑s.size := by omega
          by_cases hb1 : (s[i].toNat : Int) = 10
          · have hb1b : ((s[i].toNat : Int) == 10) = true := beq_iff_eq.2 hb1
            clear hb1
            go_wp2
            go_ret
            exact ⟨rfl, (by repeat (first | (with_reducible first | exact HB.out | apply below_alloc | apply pw_below_drewN | apply below_drew1) | exact HB.out))⟩
          have hb1b : ((s[i].toNat : Int) == 10) = false := beq_eq_false_iff_ne.2 hb1
          by_cases hb2 : (s[i].toNat : Int) = 13
          · have hb2b : ((s[i].toNat : Int) == 13) = true := beq_iff_eq.2 hb2
            clear hb1 hb2
            go_wp2
            go_ret
            exact ⟨rfl, (by repeat (first | (with_reducible first | exact HB.out | apply below_alloc | apply pw_below_drewN | apply below_drew1) | exact HB.out))⟩
          have hb2b : ((s[i].toNat : Int) == 13) = false := beq_eq_false_iff_ne.2 hb2
          have HC2 := Aside0.mk (clean_step HC.out hlt hb1 hb2)
          clear hb1 hb2
          have ze : (s.extract i (i + 1)).size ≤ 300 := by rw [ByteArray.size_extract]; have := H3.out; omega
          by_cases hb3 : (s[i].toNat : Int) = 32
          · have hb3b : ((s[i].toNat : Int) == 32) = true := beq_iff_eq.2 hb3
            have HL := Aside0.mk (longB_blank k s i hlt hb3)
            clear hb3
            go_wp2
            go_round
            case rel => exact ⟨i + 1, by first | rfl | simp, by omega, by rw [← HL.out], HC2⟩
            case measure => simp [intOf]; omega
          · have hb3b : ((s[i].toNat : Int) == 32) = false := beq_eq_false_iff_ne.2 hb3
            have HL := Aside0.mk (longB_other k s i hlt hb3)
            clear hb3
            go_wp2
            go_round
            case rel => exact ⟨i + 1, by first | rfl | simp, by omega, by rw [← HL.out], HC2⟩
            case measure => simp [intOf]; omega
        · obtain rfl : i = s.size := by omega
          have hii : ¬ (s.size : Int) < ↑s.size := by omega
          have hem2 := HEE.out HC.out
          have HCL := HC
          clear HC hlt hi
          have hem : (p1.e == p2.e) = true := beq_iff_eq.2 hem2
          have hm1 : (p1.e == 3) = true := beq_iff_eq.2 HM.out
          have hm2 : (p2.e == 3) = true := beq_iff_eq.2 (by rw [← hem2]; exact HM.out)
          clear hem2
          go_wp2_with (first
            | ((with_reducible refine gate_dst (N := 69) rfl ?_); refine wp_bytes rfl _ _ _ _ rfl _ rfl Tryz.underlying9 Tryz.underlying22 Tryz.underlying5 Z1.out ?_; intro Ab cb wb hcap hby hb; have HBY := Aside0.mk hby; have HCAP := Aside0.mk hcap; skip; have HBn := Aside0.mk (below_step (by repeat (first | (with_reducible first | exact HB.out | apply below_alloc | apply pw_below_drewN | apply below_drew1) | exact HB.out)) hb); clear HB; have HB := HBn; clear HBn; clear hcap hby hb)
            | (go_at_call 11; (with_reducible refine (HP1.out _ _ _ HBY.out HCAP.out (Tabs.below HT.out (by repeat (first | (with_reducible first | exact HB.out | apply below_alloc | apply pw_below_drewN | apply below_drew1) | exact HB.out)))).mono ?_); rintro e w1 ⟨A0, c0, x1, x2, x3, x4, x6, x7, A8, n8, c8, A9, n9, c9, x10, rfl, hk, hb⟩; have HBn := Aside0.mk (below_step (by repeat (first | (with_reducible first | exact HB.out | apply below_alloc | apply pw_below_drewN | apply below_drew1) | exact HB.out)) hb); clear HB; have HB := HBn; clear HBn; have HW1 := Aside0.mk HB.out.size; have HK1 := Aside0.mk hk; have HB1 := Aside0.mk (Below.refl w1.heap.size w1); clear hk hb HBY HCAP)
            | ((with_reducible refine gate_dst (N := 75) rfl ?_); refine wp_bytes rfl _ _ _ _ rfl _ rfl Tryz.underlying9 Tryz.underlying22 Tryz.underlying5 Z2.out ?_; intro Ab cb wb hcap hby hb; have HBY := Aside0.mk hby; have HCAP := Aside0.mk hcap; (try (have B1n := Aside0.mk (blk_below (g := w1.heap.size) (o := .cells #[.slice A0 p1.req.cmds.length c0, .int .i64 x1, .string x2, .int .i64 x3, .int .u32 x4, .bool p1.req.form.quiet, .bool x6, .string x7, .slice A8 n8 c8, .slice A9 n9 c9, .bool x10, .string p1.reply, .int .i64 p1.used, .int .i64 p1.skip, .bool p1.line, .int .i64 p1.e] 34 (0, 0)) (by repeat (first | exact B1.out | exact blk_at_new _ _ _ (by simp; done) | exact blk_at_new _ _ _ rfl | refine blk_alloc ?_ _ | refine blk_drew ?_ | refine blk_drewN ?_ _)) hb); have HB1n := Aside0.mk (below_step (by repeat (first | (with_reducible first | exact HB1.out | apply below_alloc | apply pw_below_drewN | apply below_drew1) | exact HB1.out)) hb); clear HB1; have HB1 := HB1n; clear HB1n; (try clear B1); have B1 := B1n; clear B1n)); have HBn := Aside0.mk (below_step (by repeat (first | (with_reducible first | exact HB.out | apply below_alloc | apply pw_below_drewN | apply below_drew1) | exact HB.out)) hb); clear HB; have HB := HBn; clear HBn; clear hcap hby hb)
            | (go_at_call 11; (with_reducible refine (HP2.out _ _ _ HBY.out HCAP.out (Tabs.below HT.out (by repeat (first | (with_reducible first | exact HB.out | apply below_alloc | apply pw_below_drewN | apply below_drew1) | exact HB.out)))).mono ?_); rintro e w2 ⟨B0, d0, y1, y2, y3, y4, y6, y7, B8, m8, d8, B9, m9, d9, y10, rfl, hk, hb⟩; (try (have B1n := Aside0.mk (blk_below (g := w1.heap.size) (o := .cells #[.slice A0 p1.req.cmds.length c0, .int .i64 x1, .string x2, .int .i64 x3, .int .u32 x4, .bool p1.req.form.quiet, .bool x6, .string x7, .slice A8 n8 c8, .slice A9 n9 c9, .bool x10, .string p1.reply, .int .i64 p1.used, .int .i64 p1.skip, .bool p1.line, .int .i64 p1.e] 34 (0, 0)) (by repeat (first | exact B1.out | exact blk_at_new _ _ _ (by simp; done) | exact blk_at_new _ _ _ rfl | refine blk_alloc ?_ _ | refine blk_drew ?_ | refine blk_drewN ?_ _)) hb); have HB1n := Aside0.mk (below_step (by repeat (first | (with_reducible first | exact HB1.out | apply below_alloc | apply pw_below_drewN | apply below_drew1) | exact HB1.out)) hb); clear HB1; have HB1 := HB1n; clear HB1n; (try clear B1); have B1 := B1n; clear B1n)); have HBn := Aside0.mk (below_step (by repeat (first | (with_reducible first | exact HB.out | apply below_alloc | apply pw_below_drewN | apply below_drew1) | exact HB.out)) hb); clear HB; have HB := HBn; clear HBn; have l1 : w1.heap.size < w2.heap.size := blk_lt B1.out; clear hk hb HBY HCAP; have a15 : w2.cell? ⟨w1.heap.size, 15, none⟩ = some (.int .i64 p1.e) := (blk_cell B1.out 15).trans rfl))
          go_ret
          exact ⟨rfl, (by repeat (first | (with_reducible first | exact HB.out | apply below_alloc | apply pw_below_drewN | apply below_drew1) | exact HB.out))⟩
set_option maxRecDepth 100000 in
set_option maxHeartbeats 2000000 in
theorem blanks_b (s : ByteArray) (k : Nat) (w : World) (hT : Tabs w) (h3 : s.size ≤ 300) (hk1 : 1 ≤ k) (hk3 : k ≤ 3) (p1 p2 : Step) (hp1 : parseMP (bytesOf (s ++ ⟨#[13, 10]⟩)) = p1) (hp2 : parseMP (bytesOf (longB k s s.size ++ repB k ++ ⟨#[13, 10]⟩)) = p2) (hee : CleanB s s.size → p1.e = p2.e) (hm : p1.e ≠ 3) (heq : CleanB s s.size → ({ p2 with used := p2.used - ↑(longB k s s.size).size - ↑k + ↑s.size, req := { p2.req with form := { p2.req.form with quiet := p2.req.form.quiet } } } : Step) = p1) :
    Calls Tryz.prog 7 #[.string s, .int .i64 (k : Int)] w fun e w' => e = .returned (.bool true) ∧ Below w.heap.size w w' := by
  have HB := Aside0.mk (Below.refl w.heap.size w)
  have HT := Aside0.mk hT
  have hg := good_parse (bytesOf (longB k s s.size ++ repB k ++ ⟨#[13, 10]⟩))
  rw [hp2] at hg
  have zr := repB_size k
  have zl := longB_size k s s.size hk3 h3
  have z1 : (s ++ ⟨#[13, 10]⟩ : ByteArray).size = s.size + 2 := size_app _ _
  have z2 : (longB k s s.size ++ repB k ++ ⟨#[13, 10]⟩ : ByteArray).size = (longB k s s.size).size + k + 2 := by
    rw [size_app, size_app, zr]
    rfl
  have hu : 0 ≤ p2.used ∧ p2.used ≤ 2000 := by
    have hl : ((bytesOf (longB k s s.size ++ repB k ++ ⟨#[13, 10]⟩)).length : Int) ≤ 1310 := by rw [bytesOf_length, z2]; omega
    rcases hg with rfl | ⟨u, r, k, b, rfl, h0, h1, -⟩ | ⟨u, f, cs, rfl, h0, h1, -⟩
    · exact ⟨by decide, by decide⟩
    · exact ⟨by show 0 ≤ u; omega, by show u ≤ 2000; omega⟩
    · exact ⟨by show 0 ≤ u; omega, by show u ≤ 2000; omega⟩
  have HP1 : Aside0 (∀ (A : Option Addr) (c : Nat) (w' : World), Bytes w' A (bytesOf (s ++ ⟨#[13, 10]⟩)) → (bytesOf (s ++ ⟨#[13, 10]⟩)).length ≤ c → Tabs w' → Calls Tryz.prog 11 #[.slice A (bytesOf (s ++ ⟨#[13, 10]⟩)).length c] w' (PV w' p1 p1.req.cmds.length p1.req.form.quiet p1.reply p1.used p1.skip p1.line p1.e)) := ⟨fun A c w' hC hc hT => parse_v _ _ rfl p1 hp1 _ _ _ _ _ _ _ rfl rfl rfl rfl rfl rfl rfl A c w' hC hc (by rw [bytesOf_length, z1]; omega) (B8_nums _) hT⟩
  have HP2 : Aside0 (∀ (A : Option Addr) (c : Nat) (w' : World), Bytes w' A (bytesOf (longB k s s.size ++ repB k ++ ⟨#[13, 10]⟩)) → (bytesOf (longB k s s.size ++ repB k ++ ⟨#[13, 10]⟩)).length ≤ c → Tabs w' → Calls Tryz.prog 11 #[.slice A (bytesOf (longB k s s.size ++ repB k ++ ⟨#[13, 10]⟩)).length c] w' (PV w' p2 p2.req.cmds.length p2.req.form.quiet p2.reply p2.used p2.skip p2.line p2.e)) := ⟨fun A c w' hC hc hT => parse_v _ _ rfl p2 hp2 _ _ _ _ _ _ _ rfl rfl rfl rfl rfl rfl rfl A c w' hC hc (by rw [bytesOf_length, z2]; omega) (B8_nums _) hT⟩
  have Z1 : Aside0 ((s ++ ⟨#[13, 10]⟩ : ByteArray).size ≤ 9223372036854775807) := ⟨by rw [z1]; omega⟩
  have Z2 : Aside0 ((longB k s s.size ++ repB k ++ ⟨#[13, 10]⟩ : ByteArray).size ≤ 9223372036854775807) := ⟨by rw [z2]; omega⟩
  have HEE := Aside0.mk hee
  have HM := Aside0.mk hm
  have HQ0 := Aside0.mk heq
  clear hm heq
  have hu1 : 0 ≤ p2.used := hu.1
  have hu2 : p2.used ≤ 2000 := hu.2
  have h3i : ¬ (300 : Int) < ↑s.size := by omega
  have hki1 : ¬ (k : Int) < 1 := by omega
  have hki3 : ¬ (3 : Int) < ↑k := by omega
  have H3 := Aside0.mk h3
  have HK3 := Aside0.mk hk3
  clear hT hp1 hp2 hg hu z1 z2 zl zr hee
  go_enter Tryz.func7, Tryz.ntmps7
  go_wp2_with (first | (go_at_call 9; (with_reducible refine (awake_calls _ (Tabs.below HT.out (by repeat (first | (with_reducible first | exact HB.out | apply below_alloc | apply pw_below_drewN | apply below_drew1) | exact HB.out)))).mono ?_); rintro e w0 ⟨rfl, hb⟩; have HBn := Aside0.mk (below_step (by repeat (first | (with_reducible first | exact HB.out | apply below_alloc | apply pw_below_drewN | apply below_drew1) | exact HB.out)) hb); clear HB; have HB := HBn; clear HBn; clear hb))
  go_loop [6, 7] (fun sw si => ∃ j : Nat, si = .int .i64 j ∧ j ≤ k ∧ sw = .string (repB j)) (fun _ si => k - (intOf si).toNat)
  case atStart => exact ⟨0, rfl, by omega, rfl⟩
  case round =>
    obtain ⟨j, rfl, hj, rfl⟩ := hrel
    have zj : (repB j).size ≤ 3 := by rw [repB_size]; omega
    by_cases hlt : j < k
    · have hji : (j : Int) < ↑k := by omega
      have HSU := Aside0.mk (repB_succ j)
      go_wp2
      go_round
      case rel => exact ⟨j + 1, by first | rfl | simp, by omega, by rw [← HSU.out]⟩
      case measure => simp [intOf]; omega
    · obtain rfl : k = j := by omega
      have hji : ¬ (k : Int) < ↑k := by omega
      clear hlt hj
      go_wp2
      go_loop [8, 9] (fun sl si => ∃ i : Nat, si = .int .i64 i ∧ i ≤ s.size ∧ sl = .string (longB k s i) ∧ Aside0 (CleanB s i)) (fun _ si => s.size - (intOf si).toNat)
      case atStart => exact ⟨0, rfl, by omega, by rw [longB_zero], ⟨fun j _ h => absurd h (by omega)⟩⟩
      case round =>
        obtain ⟨i, rfl, hi, rfl, HC⟩ := hrel
        have zi : (longB k s i).size ≤ 1300 := longB_size k s i HK3.out H3.out
        by_cases hlt : i < s.size
        · have hii : (i : Int) < ↑s.size := by omega
          have hi1 : (i : Int) + 1 ≤ ↑s.size := by omega
          by_cases hb1 : (s[i].toNat : Int) = 10
          · have hb1b : ((s[i].toNat : Int) == 10) = true := beq_iff_eq.2 hb1
            clear hb1
            go_wp2
            go_ret
            exact ⟨rfl, (by repeat (first | (with_reducible first | exact HB.out | apply below_alloc | apply pw_below_drewN | apply below_drew1) | exact HB.out))⟩
          have hb1b : ((s[i].toNat : Int) == 10) = false := beq_eq_false_iff_ne.2 hb1
          by_cases hb2 : (s[i].toNat : Int) = 13
          · have hb2b : ((s[i].toNat : Int) == 13) = true := beq_iff_eq.2 hb2
            clear hb1 hb2
            go_wp2
            go_ret
            exact ⟨rfl, (by repeat (first | (with_reducible first | exact HB.out | apply below_alloc | apply pw_below_drewN | apply below_drew1) | exact HB.out))⟩
          have hb2b : ((s[i].toNat : Int) == 13) = false := beq_eq_false_iff_ne.2 hb2
          have HC2 := Aside0.mk (clean_step HC.out hlt hb1 hb2)
          clear hb1 hb2
          have ze : (s.extract i (i + 1)).size ≤ 300 := by rw [ByteArray.size_extract]; have := H3.out; omega
          by_cases hb3 : (s[i].toNat : Int) = 32
          · have hb3b : ((s[i].toNat : Int) == 32) = true := beq_iff_eq.2 hb3
            have HL := Aside0.mk (longB_blank k s i hlt hb3)
            clear hb3
            go_wp2
            go_round
            case rel => exact ⟨i + 1, by first | rfl | simp, by omega, by rw [← HL.out], HC2⟩
            case measure => simp [intOf]; omega
          · have hb3b : ((s[i].toNat : Int) == 32) = false := beq_eq_false_iff_ne.2 hb3
            have HL := Aside0.mk (longB_other k s i hlt hb3)
            clear hb3
            go_wp2
            go_round
            case rel => exact ⟨i + 1, by first | rfl | simp, by omega, by rw [← HL.out], HC2⟩
            case measure => simp [intOf]; omega
        · obtain rfl : i = s.size := by omega
          have hii : ¬ (s.size : Int) < ↑s.size := by omega
          have hem2 := HEE.out HC.out
          have HCL := HC
          clear HC hlt hi
          have hem : (p1.e == p2.e) = true := beq_iff_eq.2 hem2
          have hm1 : (p1.e == 3) = false := beq_eq_false_iff_ne.2 HM.out
          have hm2 : (p2.e == 3) = false := beq_eq_false_iff_ne.2 (by rw [← hem2]; exact HM.out)
          have HEQ := Aside0.mk (HQ0.out HCL.out)
          clear hem2 HQ0
          go_wp2_with (first
            | ((with_reducible refine gate_dst (N := 69) rfl ?_); refine wp_bytes rfl _ _ _ _ rfl _ rfl Tryz.underlying9 Tryz.underlying22 Tryz.underlying5 Z1.out ?_; intro Ab cb wb hcap hby hb; have HBY := Aside0.mk hby; have HCAP := Aside0.mk hcap; skip; have HBn := Aside0.mk (below_step (by repeat (first | (with_reducible first | exact HB.out | apply below_alloc | apply pw_below_drewN | apply below_drew1) | exact HB.out)) hb); clear HB; have HB := HBn; clear HBn; clear hcap hby hb)
            | (go_at_call 11; (with_reducible refine (HP1.out _ _ _ HBY.out HCAP.out (Tabs.below HT.out (by repeat (first | (with_reducible first | exact HB.out | apply below_alloc | apply pw_below_drewN | apply below_drew1) | exact HB.out)))).mono ?_); rintro e w1 ⟨A0, c0, x1, x2, x3, x4, x6, x7, A8, n8, c8, A9, n9, c9, x10, rfl, hk, hb⟩; have HBn := Aside0.mk (below_step (by repeat (first | (with_reducible first | exact HB.out | apply below_alloc | apply pw_below_drewN | apply below_drew1) | exact HB.out)) hb); clear HB; have HB := HBn; clear HBn; have HW1 := Aside0.mk HB.out.size; have HK1 := Aside0.mk hk; have HB1 := Aside0.mk (Below.refl w1.heap.size w1); clear hk hb HBY HCAP)
            | ((with_reducible refine gate_dst (N := 75) rfl ?_); refine wp_bytes rfl _ _ _ _ rfl _ rfl Tryz.underlying9 Tryz.underlying22 Tryz.underlying5 Z2.out ?_; intro Ab cb wb hcap hby hb; have HBY := Aside0.mk hby; have HCAP := Aside0.mk hcap; (try (have B1n := Aside0.mk (blk_below (g := w1.heap.size) (o := .cells #[.slice A0 p1.req.cmds.length c0, .int .i64 x1, .string x2, .int .i64 x3, .int .u32 x4, .bool p1.req.form.quiet, .bool x6, .string x7, .slice A8 n8 c8, .slice A9 n9 c9, .bool x10, .string p1.reply, .int .i64 p1.used, .int .i64 p1.skip, .bool p1.line, .int .i64 p1.e] 34 (0, 0)) (by repeat (first | exact B1.out | exact blk_at_new _ _ _ (by simp; done) | exact blk_at_new _ _ _ rfl | refine blk_alloc ?_ _ | refine blk_drew ?_ | refine blk_drewN ?_ _)) hb); have HB1n := Aside0.mk (below_step (by repeat (first | (with_reducible first | exact HB1.out | apply below_alloc | apply pw_below_drewN | apply below_drew1) | exact HB1.out)) hb); clear HB1; have HB1 := HB1n; clear HB1n; (try clear B1); have B1 := B1n; clear B1n)); have HBn := Aside0.mk (below_step (by repeat (first | (with_reducible first | exact HB.out | apply below_alloc | apply pw_below_drewN | apply below_drew1) | exact HB.out)) hb); clear HB; have HB := HBn; clear HBn; clear hcap hby hb)
            | (go_at_call 11; (with_reducible refine (HP2.out _ _ _ HBY.out HCAP.out (Tabs.below HT.out (by repeat (first | (with_reducible first | exact HB.out | apply below_alloc | apply pw_below_drewN | apply below_drew1) | exact HB.out)))).mono ?_); rintro e w2 ⟨B0, d0, y1, y2, y3, y4, y6, y7, B8, m8, d8, B9, m9, d9, y10, rfl, hk, hb⟩; (try (have B1n := Aside0.mk (blk_below (g := w1.heap.size) (o := .cells #[.slice A0 p1.req.cmds.length c0, .int .i64 x1, .string x2, .int .i64 x3, .int .u32 x4, .bool p1.req.form.quiet, .bool x6, .string x7, .slice A8 n8 c8, .slice A9 n9 c9, .bool x10, .string p1.reply, .int .i64 p1.used, .int .i64 p1.skip, .bool p1.line, .int .i64 p1.e] 34 (0, 0)) (by repeat (first | exact B1.out | exact blk_at_new _ _ _ (by simp; done) | exact blk_at_new _ _ _ rfl | refine blk_alloc ?_ _ | refine blk_drew ?_ | refine blk_drewN ?_ _)) hb); have HB1n := Aside0.mk (below_step (by repeat (first | (with_reducible first | exact HB1.out | apply below_alloc | apply pw_below_drewN | apply below_drew1) | exact HB1.out)) hb); clear HB1; have HB1 := HB1n; clear HB1n; (try clear B1); have B1 := B1n; clear B1n)); have HBn := Aside0.mk (below_step (by repeat (first | (with_reducible first | exact HB.out | apply below_alloc | apply pw_below_drewN | apply below_drew1) | exact HB.out)) hb); clear HB; have HB := HBn; clear HBn; have HK2 := Aside0.mk hk; have HB2 := Aside0.mk (Below.refl w2.heap.size w2); have l1 : w1.heap.size < w2.heap.size := blk_lt B1.out; clear hk hb HBY HCAP; have a15 : w2.cell? ⟨w1.heap.size, 15, none⟩ = some (.int .i64 p1.e) := (blk_cell B1.out 15).trans rfl; have HST : Aside0 (∀ w', Below w1.heap.size w1 w' → Below w2.heap.size w2 w' → Calls Tryz.prog 10 #[.agg #[.slice A0 p1.req.cmds.length c0, .int .i64 x1, .string x2, .int .i64 x3, .int .u32 x4, .bool p1.req.form.quiet, .bool x6, .string x7, .slice A8 n8 c8, .slice A9 n9 c9, .bool x10, .string p1.reply, .int .i64 p1.used, .int .i64 p1.skip, .bool p1.line, .int .i64 p1.e], .agg #[.slice B0 p2.req.cmds.length d0, .int .i64 y1, .string y2, .int .i64 y3, .int .u32 y4, .bool p2.req.form.quiet, .bool y6, .string y7, .slice B8 m8 d8, .slice B9 m9 d9, .bool y10, .string p2.reply, .int .i64 (p2.used - ↑(longB k s s.size).size - ↑k + ↑s.size), .int .i64 p2.skip, .bool p2.line, .int .i64 p2.e]] w' fun e w'' => e = .returned (.bool true) ∧ Below w'.heap.size w' w'') := ⟨fun w' g1 g2 => (by have k2 := step_set (kStep.K_below g2 HK2.out) (p2.used - ↑(longB k s s.size).size - ↑k + ↑s.size) p2.req.form.quiet; rw [HEQ.out] at k2; exact steps_same p1 _ _ w' (kStep.K_below g1 HK1.out) k2)⟩)
            | (refine wpList_load_row rfl 34 _ rfl (w1.heap.size) rfl 34 _ (0, 0) _ (blk_alloc B1.out _) Tryz.underlying34 rfl (by kernel_rfl) ?_)
            | (go_at_call 10; (with_reducible refine (HST.out _ (by repeat (first | (with_reducible first | exact HB1.out | apply below_alloc | apply pw_below_drewN | apply below_drew1) | exact HB1.out)) (by repeat (first | (with_reducible first | exact HB2.out | apply below_alloc | apply pw_below_drewN | apply below_drew1) | exact HB2.out))).mono ?_); rintro e w5 ⟨rfl, hb⟩; have HBn := Aside0.mk (below_step (by repeat (first | (with_reducible first | exact HB.out | apply below_alloc | apply pw_below_drewN | apply below_drew1) | exact HB.out)) hb); clear HB; have HB := HBn; clear HBn; clear hb))
          go_ret
          exact ⟨rfl, (by repeat (first | (with_reducible first | exact HB.out | apply below_alloc | apply pw_below_drewN | apply below_drew1) | exact HB.out))⟩
set_option maxRecDepth 100000 in
set_option maxHeartbeats 2000000 in
theorem blanks_big (s : ByteArray) (n : Int) (w : World) (hT : Tabs w) (h : 300 < s.size ∨ s.size ≤ 300 ∧ n < 1 ∨ s.size ≤ 300 ∧ 1 ≤ n ∧ 3 < n) :
    Calls Tryz.prog 7 #[.string s, .int .i64 n] w fun e w' => e = .returned (.bool true) ∧ Below w.heap.size w w' := by
  have HB := Aside0.mk (Below.refl w.heap.size w)
  have HT := Aside0.mk hT
  clear hT
  rcases h with h | ⟨h, h1⟩ | ⟨h, h1, h2⟩
  · have h3i : (300 : Int) < ↑s.size := by omega
    clear h
    go_enter Tryz.func7, Tryz.ntmps7
    go_wp2_with (first | (go_at_call 9; (with_reducible refine (awake_calls _ (Tabs.below HT.out (by repeat (first | (with_reducible first | exact HB.out | apply below_alloc | apply pw_below_drewN | apply below_drew1) | exact HB.out)))).mono ?_); rintro e w0 ⟨rfl, hb⟩; have HBn := Aside0.mk (below_step (by repeat (first | (with_reducible first | exact HB.out | apply below_alloc | apply pw_below_drewN | apply below_drew1) | exact HB.out)) hb); clear HB; have HB := HBn; clear HBn; clear hb))
    go_ret
    exact ⟨rfl, (by repeat (first | (with_reducible first | exact HB.out | apply below_alloc | apply pw_below_drewN | apply below_drew1) | exact HB.out))⟩
  · have h3i : ¬ (300 : Int) < ↑s.size := by omega
    clear h
    go_enter Tryz.func7, Tryz.ntmps7
    go_wp2_with (first | (go_at_call 9; (with_reducible refine (awake_calls _ (Tabs.below HT.out (by repeat (first | (with_reducible first | exact HB.out | apply below_alloc | apply pw_below_drewN | apply below_drew1) | exact HB.out)))).mono ?_); rintro e w0 ⟨rfl, hb⟩; have HBn := Aside0.mk (below_step (by repeat (first | (with_reducible first | exact HB.out | apply below_alloc | apply pw_below_drewN | apply below_drew1) | exact HB.out)) hb); clear HB; have HB := HBn; clear HBn; clear hb))
    go_ret
    exact ⟨rfl, (by repeat (first | (with_reducible first | exact HB.out | apply below_alloc | apply pw_below_drewN | apply below_drew1) | exact HB.out))⟩
  · have h3i : ¬ (300 : Int) < ↑s.size := by omega
    have h1i : ¬ n < 1 := by omega
    clear h h1
    go_enter Tryz.func7, Tryz.ntmps7
    go_wp2_with (first | (go_at_call 9; (with_reducible refine (awake_calls _ (Tabs.below HT.out (by repeat (first | (with_reducible first | exact HB.out | apply below_alloc | apply pw_below_drewN | apply below_drew1) | exact HB.out)))).mono ?_); rintro e w0 ⟨rfl, hb⟩; have HBn := Aside0.mk (below_step (by repeat (first | (with_reducible first | exact HB.out | apply below_alloc | apply pw_below_drewN | apply below_drew1) | exact HB.out)) hb); clear HB; have HB := HBn; clear HBn; clear hb))
    go_ret
    exact ⟨rfl, (by repeat (first | (with_reducible first | exact HB.out | apply below_alloc | apply pw_below_drewN | apply below_drew1) | exact HB.out))⟩
theorem long_bytes (k : Nat) (s : ByteArray) : bytesOf (longB k s s.size ++ repB k ++ ⟨#[13, 10]⟩) = numsL ((List.replicate k 32 ++ exB k s.data.toList) ++ List.replicate k 32) ++ [13, 10] := by
  have e : (longB k s s.size ++ repB k ++ ⟨#[13, 10]⟩ : ByteArray).data.toList = (List.replicate k 32 ++ exB k s.data.toList) ++ List.replicate k 32 ++ [13, 10] := by
    rw [ByteArray.data_append, ByteArray.data_append, Array.toList_append, Array.toList_append]
    unfold longB repB
    rw [List.take_of_length_le (show s.data.toList.length ≤ s.size from Nat.le_refl _)]
  unfold bytesOf
  rw [e]
  unfold numsL
  rw [List.map_append]
  rfl
theorem blanks_calls (s : ByteArray) (n : Int) (w : World) (hT : Tabs w) (hs : s.size ≤ 9223372036854775807) :
    Calls Tryz.prog 7 #[.string s, .int .i64 n] w fun e w' => e = .returned (.bool true) ∧ Below w.heap.size w w' := by
  by_cases h3 : 300 < s.size
  · exact blanks_big s n w hT (.inl h3)
  by_cases h1 : n < 1
  · exact blanks_big s n w hT (.inr (.inl ⟨by omega, h1⟩))
  by_cases h2 : 3 < n
  · exact blanks_big s n w hT (.inr (.inr ⟨by omega, by omega, h2⟩))
  obtain ⟨k, rfl⟩ : ∃ k : Nat, n = k := ⟨n.toNat, by omega⟩
  obtain ⟨p1, hp1⟩ : ∃ p, parseMP (bytesOf (s ++ ⟨#[13, 10]⟩)) = p := ⟨_, rfl⟩
  obtain ⟨p2, hp2⟩ : ∃ p, parseMP (bytesOf (longB k s s.size ++ repB k ++ ⟨#[13, 10]⟩)) = p := ⟨_, rfl⟩
  have he : CleanB s s.size → p2 = shiftU (((List.replicate k (32 : UInt8) ++ exB k s.data.toList).length : Int) + k - s.data.toList.length) p1 := fun h => by
    have := blanks_law s.data.toList k (clean_nl h) (by show s.size ≤ 300; omega) (by omega)
    rw [← long_bytes, hp2] at this
    have e1 : bytesOf (s ++ ⟨#[13, 10]⟩) = numsL s.data.toList ++ [13, 10] := bytes_app s [13, 10]
    rw [← e1, hp1] at this
    exact this
  have hee : CleanB s s.size → p1.e = p2.e := fun h => by rw [he h, sh_e]
  have hlen : ((List.replicate k (32 : UInt8) ++ exB k s.data.toList).length : Int) = (longB k s s.size).size := by
    unfold longB
    rw [List.take_of_length_le (show s.data.toList.length ≤ s.size from Nat.le_refl _)]
    simp [ByteArray.size]
  by_cases hm : p1.e = 3
  · exact blanks_a s k w hT (by omega) (by omega) (by omega) p1 p2 hp1 hp2 hee hm
  · refine blanks_b s k w hT (by omega) (by omega) (by omega) p1 p2 hp1 hp2 hee hm (fun h => ?_)
    have hs2 := (he h).trans (sh_used hm)
    rw [hs2]
    show ({ p1 with used := p1.used + (((List.replicate k (32 : UInt8) ++ exB k s.data.toList).length : Int) + k - s.data.toList.length) - ↑(longB k s s.size).size - ↑k + ↑s.size } : Step) = p1
    have hss : (s.data.toList.length : Int) = s.size := rfl
    rw [hlen, hss, show p1.used + (((longB k s s.size).size : Int) + ↑k - ↑s.size) - ↑(longB k s s.size).size - ↑k + ↑s.size = p1.used by omega]
end Go.Proofs.YtdgeiadlijlkmaaGreatDoor.X
