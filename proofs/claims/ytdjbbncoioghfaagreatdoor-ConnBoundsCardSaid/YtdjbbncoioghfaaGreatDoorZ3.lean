/- Texts of this work, merged in build order: Keyed, Keyed2, Sum, CmdR, Mem, Conn, Conn2, Gets, Gets2, Gats, Gats2. -/
import Derived.Test.YtdjbbncoioghfaaGreatDoorZ2
import Derived.Laws.CopyOwn
import Derived.Deep.OwnRows
import Derived.Deep.RegionHeld3
namespace Go.Proofs.YtdjbbncoioghfaaGreatDoor.X
open Go.RowKit Go.Proofs.YtdjbbncoioghfaaGreatDoorW.PrintWords Go.Proofs.YtdjbbncoioghfaaGreatDoorW.PrintMore
set_option linter.unusedVariables false
set_option linter.unusedSimpArgs false
def cmdK (op exp delta : Int) (key : ByteArray) : Cmd := { zCmd with op := op, key := key, exp := exp, delta := delta }
def keyedSt (verb : ByteArray) (quiet : Bool) (used : Int) (words : List ByteArray) (many : Nat) (op exp delta : Int) (wrong : ByteArray) : Step :=
  if words.length ≠ many then stepF used (⟨#[69, 82, 82, 79, 82]⟩ : ByteArray) else if keyS (words.getD 0 ⟨#[]⟩) = false then stepF used badT else if wrong.size ≠ 0 then stepF used wrong
  else stepO used (formT verb quiet [words.getD 0 ⟨#[]⟩]) (cmdK op exp delta (words.getD 0 ⟨#[]⟩))
set_option maxRecDepth 100000 in
set_option maxHeartbeats 1000000 in
theorem keyedD_calls (x : TextinLine) (cx : List Value) (F : Nat → Prop) (w : World) (hx : kTextinLine.K w x cx) (k : ByteArray) (hw : x.words = [k]) (hk : k.size ≤ 1000000) :
    Calls Tryz.prog 94 #[.agg cx.toArray, .int .i64 1, .func (.func 95) #[] #[]] w (StepR F w (keyedSt x.verb x.quiet x.used x.words 1 8 0 0 ⟨#[]⟩)) := by
  have HB := Aside0.mk (Below.refl w.heap.size w)
  have HX := Aside0.mk hx
  obtain ⟨A1, c1, A4, c4, rfl, hl1, hg1, hl4, hg4⟩ := kTextinLine_open hx
  obtain ⟨b, o, rfl, hb0, hcell⟩ := S_cell hg1 0 (by rw [hw]; exact Nat.one_pos)
  rw [hw, Nat.add_zero] at hcell
  have hcell : w.cell? ⟨b, o, none⟩ = some (.string k) := hcell
  have HCL := Aside0.mk hcell
  rw [hw] at HX hl1 ⊢
  have HKY := Aside0.mk (fun w => fkey_calls k w hk)
  clear hx hg1 hg4 hw
  obtain ⟨q, hq⟩ : ∃ q, keyS k = q := ⟨_, rfl⟩
  rw [hq] at HKY
  have hc1 : 1 ≤ c1 := hl1
  have HO2 : Aside0 (∀ w', Below w.heap.size w w' → Calls Tryz.prog 50 #[.agg #[.string x.verb, .slice (some ⟨b, o, none⟩) 1 c1, .bool x.quiet, .int .i64 x.used, .slice A4 x.rest.length c4], .string (⟨#[67, 76, 73, 69, 78, 84, 95, 69, 82, 82, 79, 82, 32, 98, 97, 100, 32, 99, 111, 109, 109, 97, 110, 100, 32, 108, 105, 110, 101, 32, 102, 111, 114, 109, 97, 116]⟩ : ByteArray)] w' (StepR (fun k => k < w.heap.size ∧ F k) w' (stepF x.used badT))) := ⟨fun w' hb => fault_calls x _ _ _ w' (kTextinLine.K_below hb HX.out) (by decide)⟩
  cases q
  · have hr : keyedSt x.verb x.quiet x.used [k] 1 8 0 0 ⟨#[]⟩ = stepF x.used badT := by
      unfold keyedSt
      rw [if_neg (by simp), if_pos (by exact hq)]
    rw [hr]
    clear hr hq
    go_enter Tryz.func94, Tryz.ntmps94
    go_wp2_with (first | (go_at_call 129; (with_reducible refine (HKY.out _).mono ?_); rintro e w1 ⟨rfl, hb⟩; have BX := Aside0.mk (blk_below (g := w.heap.size) (o := .cells #[.string x.verb, .slice (some ⟨b, o, none⟩) 1 c1, .bool x.quiet, .int .i64 x.used, .slice A4 x.rest.length c4] 90 (0, 0)) (by repeat (first | exact blk_at_new _ _ _ (by simp; done) | exact blk_at_new _ _ _ rfl | refine blk_alloc ?_ _ | refine blk_drew ?_ | refine blk_drewN ?_ _)) hb); have BR := Aside0.mk (blk_below (g := w.heap.size + 1) (by repeat (first | exact blk_at_new _ _ _ (by simp; done) | exact blk_at_new _ _ _ rfl | refine blk_alloc ?_ _ | refine blk_drew ?_ | refine blk_drewN ?_ _)) hb); have GLT := Aside0.mk (blk_lt BR.out); have HBn := Aside0.mk (below_step (by repeat (first | (with_reducible first | exact HB.out | apply below_alloc | apply pw_below_drewN | apply below_drew1) | exact HB.out)) hb); clear HB; have HB := HBn; clear HBn; clear hb; have t0 : w1.cell? ⟨w.heap.size, 0, none⟩ = some (.string x.verb) := (blk_cell BX.out 0).trans rfl; have t1 : w1.cell? ⟨w.heap.size, 1, none⟩ = some (.slice (some ⟨b, o, none⟩) 1 c1) := (blk_cell BX.out 1).trans rfl; have t2 : w1.cell? ⟨w.heap.size, 2, none⟩ = some (.bool x.quiet) := (blk_cell BX.out 2).trans rfl; have t3 : w1.cell? ⟨w.heap.size, 3, none⟩ = some (.int .i64 x.used) := (blk_cell BX.out 3).trans rfl; have t4 : w1.cell? ⟨w.heap.size, 4, none⟩ = some (.slice A4 x.rest.length c4) := (blk_cell BX.out 4).trans rfl; have t5 : w1.cell? ⟨b, o, none⟩ = some (.string k) := (Below.cell HB.out (p := ⟨b, o, none⟩) hb0).trans HCL.out) | (refine wpList_store_K HK.out.now rfl 61 _ _ rfl (w.heap.size + 1) rfl rfl 61 _ BK.out (by kernel_rfl) rfl ?_; intro w2 hbk hlow hfar; have HK2 := Aside0.mk (hfar _ _ (fun h => absurd (h GLT.out).1 (by omega)) HK.out); clear BK; have BK := Aside0.mk hbk; have HL := Aside0.mk hlow; clear hbk hlow hfar) | go_at_call 50; (with_reducible refine (HO2.out _ (by repeat (first | (with_reducible first | exact HB.out | apply below_alloc | apply pw_below_drewN | apply below_drew1) | exact HB.out))).mono ?_); rintro e w1 ⟨⟨cs, rfl, hk⟩, hb⟩; have BK := Aside0.mk (blk_below BR.out hb); have HBn := Aside0.mk (below_step (by repeat (first | (with_reducible first | exact HB.out | apply below_alloc | apply pw_below_drewN | apply below_drew1) | exact HB.out)) hb); clear HB; have HB := HBn; clear HBn; have HK := Aside0.mk hk; clear hb hk)
    ((try simp only [Exit.inBlock, Exit.then]); refine bodyPost_ret (results_cell_row rfl _ _ (w.heap.size + 1) 61 _ (0, 0) _ rfl BK.out Tryz.underlying61 rfl (by rw [List.size_toArray, kStep.K_len HK.out.now]; kernel_rfl)) rfl ?_)
    exact ⟨⟨_, rfl, HK2.out.mono (fun k hk h3 => (hk (by have := GLT.out; omega)).2)⟩, HB.out.trans (HL.out _ (by omega))⟩
  · have hr : keyedSt x.verb x.quiet x.used [k] 1 8 0 0 ⟨#[]⟩ = stepO x.used (formT x.verb x.quiet [k]) (cmdK 8 0 0 k) := by
      unfold keyedSt
      rw [if_neg (by simp), if_neg (by show ¬ keyS k = false; rw [hq]; decide), if_neg (by decide)]
      rfl
    rw [hr]
    have hks : keysOf (cmdK 8 0 0 k).key = [k] := by
      unfold keysOf
      refine if_neg (fun h => ?_)
      have h : k.size = 0 := h
      have : keyS k = false := by unfold keyS; rw [decide_eq_false (by omega), Bool.false_and]
      rw [this] at hq
      cases hq
    clear hr hq
    have HC : Aside0 (∀ w', kCmd.K w' (cmdK 8 0 0 k) [.int .i64 8, .string k, .slice none 0 0, .int .u32 0, .int .i64 0, .int .u64 0, .int .u64 0, .int .u64 0, .bool false, .bool false]) := ⟨fun w' => kCmd_mk w' (cmdK 8 0 0 k) (Nat.le_refl _) (C_nil _ _)⟩
    have HO3 : Aside0 (∀ w', Below w.heap.size w w' → Calls Tryz.prog 135 #[.agg #[.string x.verb, .slice (some ⟨b, o, none⟩) 1 c1, .bool x.quiet, .int .i64 x.used, .slice A4 x.rest.length c4], .agg #[.int .i64 8, .string k, .slice none 0 0, .int .u32 0, .int .i64 0, .int .u64 0, .int .u64 0, .int .u64 0, .bool false, .bool false]] w' (StepR (fun k => k < w.heap.size ∧ F k) w' (stepO x.used (formT x.verb x.quiet [k]) (cmdK 8 0 0 k)))) := ⟨fun w' hb => by
      have := one_calls x (cmdK 8 0 0 k) _ _ (fun k => k < w.heap.size ∧ F k) w' (kTextinLine.K_below hb HX.out) (fun w2 _ _ => HC.out w2)
      rw [hks] at this
      exact this⟩
    clear hks
    go_enter Tryz.func94, Tryz.ntmps94
    go_wp2_with (first | (go_at_call 129; (with_reducible refine (HKY.out _).mono ?_); rintro e w1 ⟨rfl, hb⟩; have BX := Aside0.mk (blk_below (g := w.heap.size) (o := .cells #[.string x.verb, .slice (some ⟨b, o, none⟩) 1 c1, .bool x.quiet, .int .i64 x.used, .slice A4 x.rest.length c4] 90 (0, 0)) (by repeat (first | exact blk_at_new _ _ _ (by simp; done) | exact blk_at_new _ _ _ rfl | refine blk_alloc ?_ _ | refine blk_drew ?_ | refine blk_drewN ?_ _)) hb); have BR := Aside0.mk (blk_below (g := w.heap.size + 1) (by repeat (first | exact blk_at_new _ _ _ (by simp; done) | exact blk_at_new _ _ _ rfl | refine blk_alloc ?_ _ | refine blk_drew ?_ | refine blk_drewN ?_ _)) hb); have GLT := Aside0.mk (blk_lt BR.out); have HBn := Aside0.mk (below_step (by repeat (first | (with_reducible first | exact HB.out | apply below_alloc | apply pw_below_drewN | apply below_drew1) | exact HB.out)) hb); clear HB; have HB := HBn; clear HBn; clear hb; have t0 : w1.cell? ⟨w.heap.size, 0, none⟩ = some (.string x.verb) := (blk_cell BX.out 0).trans rfl; have t1 : w1.cell? ⟨w.heap.size, 1, none⟩ = some (.slice (some ⟨b, o, none⟩) 1 c1) := (blk_cell BX.out 1).trans rfl; have t2 : w1.cell? ⟨w.heap.size, 2, none⟩ = some (.bool x.quiet) := (blk_cell BX.out 2).trans rfl; have t3 : w1.cell? ⟨w.heap.size, 3, none⟩ = some (.int .i64 x.used) := (blk_cell BX.out 3).trans rfl; have t4 : w1.cell? ⟨w.heap.size, 4, none⟩ = some (.slice A4 x.rest.length c4) := (blk_cell BX.out 4).trans rfl; have t5 : w1.cell? ⟨b, o, none⟩ = some (.string k) := (Below.cell HB.out (p := ⟨b, o, none⟩) hb0).trans HCL.out) | (refine wpList_store_K HK.out.now rfl 61 _ _ rfl (w.heap.size + 1) rfl rfl 61 _ BK.out (by kernel_rfl) rfl ?_; intro w4 hbk hlow hfar; have HK2 := Aside0.mk (hfar _ _ (fun h => absurd (h (by have := GLT2.out; simp; omega)).1 (by omega)) HK.out); clear BK; have BK := Aside0.mk hbk; have HL := Aside0.mk hlow; clear hbk hlow hfar) | (go_at_call 95; (with_reducible refine (other1_calls k _).mono ?_); (rintro e w1 ⟨rfl, hb⟩; unfold cloV; have BXn := Aside0.mk (blk_below BX.out hb); have BRn := Aside0.mk (blk_below BR.out hb); clear BX BR t0 t1 t2 t3 t4 t5; have BX := BXn; have BR := BRn; clear BXn BRn; have GLT2 := Aside0.mk (blk_lt BR.out); have HBn := Aside0.mk (below_step (by repeat (first | (with_reducible first | exact HB.out | apply below_alloc | apply pw_below_drewN | apply below_drew1) | exact HB.out)) hb); clear HB; have HB := HBn; clear HBn; clear hb; have hb1 : b < w1.heap.size := Nat.lt_of_lt_of_le hb0 HB.out.size; have hx1 : w.heap.size < w1.heap.size := blk_lt BX.out; have t0 : w1.cell? ⟨w.heap.size, 0, none⟩ = some (.string x.verb) := (blk_cell BX.out 0).trans rfl; have t1 : w1.cell? ⟨w.heap.size, 1, none⟩ = some (.slice (some ⟨b, o, none⟩) 1 c1) := (blk_cell BX.out 1).trans rfl; have t2 : w1.cell? ⟨w.heap.size, 2, none⟩ = some (.bool x.quiet) := (blk_cell BX.out 2).trans rfl; have t3 : w1.cell? ⟨w.heap.size, 3, none⟩ = some (.int .i64 x.used) := (blk_cell BX.out 3).trans rfl; have t4 : w1.cell? ⟨w.heap.size, 4, none⟩ = some (.slice A4 x.rest.length c4) := (blk_cell BX.out 4).trans rfl; have t5 : w1.cell? ⟨b, o, none⟩ = some (.string k) := (Below.cell HB.out (p := ⟨b, o, none⟩) hb0).trans HCL.out)) | (go_at_call 135; (with_reducible refine (HO3.out _ (by repeat (first | (with_reducible first | exact HB.out | apply below_alloc | apply pw_below_drewN | apply below_drew1) | exact HB.out))).mono ?_); rintro e w3 ⟨⟨cs, rfl, hk⟩, hb⟩; have BK := Aside0.mk (blk_below (blk_alloc BR.out _) hb); have HBn := Aside0.mk (below_step (by repeat (first | (with_reducible first | exact HB.out | apply below_alloc | apply pw_below_drewN | apply below_drew1) | exact HB.out)) hb); clear HB; have HB := HBn; clear HBn; have HK := Aside0.mk hk; clear hb hk))
    ((try simp only [Exit.inBlock, Exit.then]); refine bodyPost_ret (results_cell_row rfl _ _ (w.heap.size + 1) 61 _ (0, 0) _ rfl BK.out Tryz.underlying61 rfl (by rw [List.size_toArray, kStep.K_len HK.out.now]; kernel_rfl)) rfl ?_)
    exact ⟨⟨_, rfl, HK2.out.mono (fun k hk h3 => (hk (by have := GLT2.out; simp; omega)).2)⟩, HB.out.trans (HL.out _ (by omega))⟩
set_option maxRecDepth 100000 in
set_option maxHeartbeats 1000000 in
theorem keyedE_calls (x : TextinLine) (cx : List Value) (F : Nat → Prop) (w : World) (hx : kTextinLine.K w x cx) (many : Int) (fv : Value) (hw : (x.words.length : Int) ≠ many) :
    Calls Tryz.prog 94 #[.agg cx.toArray, .int .i64 many, fv] w (StepR F w (stepF x.used (⟨#[69, 82, 82, 79, 82]⟩ : ByteArray))) := by
  have HB := Aside0.mk (Below.refl w.heap.size w)
  have HX := Aside0.mk hx
  obtain ⟨A1, c1, A4, c4, rfl, hl1, hg1, hl4, hg4⟩ := kTextinLine_open hx
  have HO : Aside0 (∀ w', Below w.heap.size w w' → Calls Tryz.prog 50 #[.agg #[.string x.verb, .slice A1 x.words.length c1, .bool x.quiet, .int .i64 x.used, .slice A4 x.rest.length c4], .string (⟨#[69, 82, 82, 79, 82]⟩ : ByteArray)] w' (StepR (fun k => k < w.heap.size ∧ F k) w' (stepF x.used (⟨#[69, 82, 82, 79, 82]⟩ : ByteArray)))) := ⟨fun w' hb => fault_calls x _ _ _ w' (kTextinLine.K_below hb HX.out) (by decide)⟩
  clear hx hg1 hg4
  have hwb : ((x.words.length : Int) == many) = false := beq_eq_false_iff_ne.2 hw
  go_enter Tryz.func94, Tryz.ntmps94
  go_wp2_with (first | (refine wpList_store_K HK.out.now rfl 61 _ _ rfl (w.heap.size + 1) rfl rfl 61 _ BK.out (by kernel_rfl) rfl ?_; intro w2 hbk hlow hfar; have HK2 := Aside0.mk (hfar _ _ (fun h => absurd (h (by simp)).1 (by simp)) HK.out); clear BK; have BK := Aside0.mk hbk; have HL := Aside0.mk hlow; clear hbk hlow hfar) | go_at_call 50; (with_reducible refine (HO.out _ (by repeat (first | (with_reducible first | exact HB.out | apply below_alloc | apply pw_below_drewN | apply below_drew1) | exact HB.out))).mono ?_); rintro e w1 ⟨⟨cs, rfl, hk⟩, hb⟩; have BK := Aside0.mk (blk_below (g := w.heap.size + 1) (by repeat (first | exact blk_at_new _ _ _ (by simp; done) | exact blk_at_new _ _ _ rfl | refine blk_alloc ?_ _ | refine blk_drew ?_ | refine blk_drewN ?_ _)) hb); have HBn := Aside0.mk (below_step (by repeat (first | (with_reducible first | exact HB.out | apply below_alloc | apply pw_below_drewN | apply below_drew1) | exact HB.out)) hb); clear HB; have HB := HBn; clear HBn; have HK := Aside0.mk hk; clear hb hk)
  ((try simp only [Exit.inBlock, Exit.then]); refine bodyPost_ret (results_cell_row rfl _ _ (w.heap.size + 1) 61 _ (0, 0) _ rfl BK.out Tryz.underlying61 rfl (by rw [List.size_toArray, kStep.K_len HK.out.now]; kernel_rfl)) rfl ?_)
  exact ⟨⟨_, rfl, HK2.out.mono (fun k hk h3 => (hk (by simp; omega)).2)⟩, HB.out.trans (HL.out _ (by omega))⟩
end Go.Proofs.YtdjbbncoioghfaaGreatDoor.X
namespace Go.Proofs.YtdjbbncoioghfaaGreatDoor.X
open Go.RowKit Go.Proofs.YtdjbbncoioghfaaGreatDoorW.PrintWords Go.Proofs.YtdjbbncoioghfaaGreatDoorW.PrintMore
set_option linter.unusedVariables false
set_option linter.unusedSimpArgs false
set_option maxRecDepth 100000 in
set_option maxHeartbeats 1000000 in
theorem keyedT_calls (x : TextinLine) (cx : List Value) (F : Nat → Prop) (w : World) (hx : kTextinLine.K w x cx) (hT : Tabs w) (k v : ByteArray) (hw : x.words = [k, v]) (hk : k.size ≤ 1000000) :
    Calls Tryz.prog 94 #[.agg cx.toArray, .int .i64 2, .func (.func 97) #[.agg cx.toArray] #[]] w (StepR F w (if (sgnS v).2 = true then keyedSt x.verb x.quiet x.used x.words 2 2 (sgnS v).1 0 ⟨#[]⟩ else keyedSt x.verb x.quiet x.used x.words 2 0 0 0 badT)) := by
  have HB := Aside0.mk (Below.refl w.heap.size w)
  have HX := Aside0.mk hx
  have HT := Aside0.mk hT
  obtain ⟨A1, c1, A4, c4, rfl, hl1, hg1, hl4, hg4⟩ := kTextinLine_open hx
  obtain ⟨b, o, rfl, hb0, hcell⟩ := S_cell hg1 0 (by rw [hw]; simp)
  obtain ⟨b', o', e', -, hcell2⟩ := S_cell hg1 1 (by rw [hw]; simp)
  obtain ⟨rfl, rfl⟩ : b = b' ∧ o = o' := by simpa using e'
  rw [hw, Nat.add_zero] at hcell
  rw [hw] at hcell2
  have hcell : w.cell? ⟨b, o, none⟩ = some (.string k) := hcell
  have hcell2 : w.cell? ⟨b, o + 1, none⟩ = some (.string v) := hcell2
  have HCL := Aside0.mk hcell
  have HCV := Aside0.mk hcell2
  rw [hw] at HX hl1 ⊢
  have HKY := Aside0.mk (fun w => fkey_calls k w hk)
  clear hx hg1 hg4 hw e' hT
  obtain ⟨q, hq⟩ : ∃ q, keyS k = q := ⟨_, rfl⟩
  rw [hq] at HKY
  have hc1 : 2 ≤ c1 := hl1
  obtain ⟨z, hz⟩ : ∃ z, sgnS v = z := ⟨_, rfl⟩
  have HCLO : Aside0 (∀ w', Below w.heap.size w w' → Calls Tryz.prog 97 #[.agg #[.string x.verb, .slice (some ⟨b, o, none⟩) 2 c1, .bool x.quiet, .int .i64 x.used, .slice A4 x.rest.length c4], .string v] w' fun e w'' => e = .returned (touchV (sgnS v)) ∧ Below w'.heap.size w' w'') := ⟨fun w' hb => touch_calls x _ v w' (kTextinLine.K_below hb HX.out) (Tabs.below HT.out hb)⟩
  rw [hz]
  rw [hz] at HCLO
  clear hz
  obtain ⟨z, p⟩ := z
  dsimp only
  have HO2 : Aside0 (∀ w', Below w.heap.size w w' → Calls Tryz.prog 50 #[.agg #[.string x.verb, .slice (some ⟨b, o, none⟩) 2 c1, .bool x.quiet, .int .i64 x.used, .slice A4 x.rest.length c4], .string (⟨#[67, 76, 73, 69, 78, 84, 95, 69, 82, 82, 79, 82, 32, 98, 97, 100, 32, 99, 111, 109, 109, 97, 110, 100, 32, 108, 105, 110, 101, 32, 102, 111, 114, 109, 97, 116]⟩ : ByteArray)] w' (StepR (fun k => k < w.heap.size ∧ F k) w' (stepF x.used badT))) := ⟨fun w' hb => fault_calls x _ _ _ w' (kTextinLine.K_below hb HX.out) (by decide)⟩
  cases q
  · have hr : (if p = true then keyedSt x.verb x.quiet x.used [k, v] 2 2 z 0 ⟨#[]⟩ else keyedSt x.verb x.quiet x.used [k, v] 2 0 0 0 badT) = stepF x.used badT := by
      unfold keyedSt
      split
      all_goals rw [if_neg (by simp), if_pos (by exact hq)]
    rw [hr]
    clear hr hq HCLO hcell2
    go_enter Tryz.func94, Tryz.ntmps94
    go_wp2_with (first | (go_at_call 129; (with_reducible refine (HKY.out _).mono ?_); rintro e w1 ⟨rfl, hb⟩; have BX := Aside0.mk (blk_below (g := w.heap.size) (o := .cells #[.string x.verb, .slice (some ⟨b, o, none⟩) 2 c1, .bool x.quiet, .int .i64 x.used, .slice A4 x.rest.length c4] 90 (0, 0)) (by repeat (first | exact blk_at_new _ _ _ (by simp; done) | exact blk_at_new _ _ _ rfl | refine blk_alloc ?_ _ | refine blk_drew ?_ | refine blk_drewN ?_ _)) hb); have BR := Aside0.mk (blk_below (g := w.heap.size + 1) (by repeat (first | exact blk_at_new _ _ _ (by simp; done) | exact blk_at_new _ _ _ rfl | refine blk_alloc ?_ _ | refine blk_drew ?_ | refine blk_drewN ?_ _)) hb); have GLT := Aside0.mk (blk_lt BR.out); have HBn := Aside0.mk (below_step (by repeat (first | (with_reducible first | exact HB.out | apply below_alloc | apply pw_below_drewN | apply below_drew1) | exact HB.out)) hb); clear HB; have HB := HBn; clear HBn; clear hb; have t0 : w1.cell? ⟨w.heap.size, 0, none⟩ = some (.string x.verb) := (blk_cell BX.out 0).trans rfl; have t1 : w1.cell? ⟨w.heap.size, 1, none⟩ = some (.slice (some ⟨b, o, none⟩) 2 c1) := (blk_cell BX.out 1).trans rfl; have t2 : w1.cell? ⟨w.heap.size, 2, none⟩ = some (.bool x.quiet) := (blk_cell BX.out 2).trans rfl; have t3 : w1.cell? ⟨w.heap.size, 3, none⟩ = some (.int .i64 x.used) := (blk_cell BX.out 3).trans rfl; have t4 : w1.cell? ⟨w.heap.size, 4, none⟩ = some (.slice A4 x.rest.length c4) := (blk_cell BX.out 4).trans rfl; have t5 : w1.cell? ⟨b, o, none⟩ = some (.string k) := (Below.cell HB.out (p := ⟨b, o, none⟩) hb0).trans HCL.out; have t6 : w1.cell? ⟨b, o + 1, none⟩ = some (.string v) := (Below.cell HB.out (p := ⟨b, o + 1, none⟩) hb0).trans HCV.out) | (refine wpList_store_K HK.out.now rfl 61 _ _ rfl (w.heap.size + 1) rfl rfl 61 _ BK.out (by kernel_rfl) rfl ?_; intro w2 hbk hlow hfar; have HK2 := Aside0.mk (hfar _ _ (fun h => absurd (h GLT.out).1 (by omega)) HK.out); clear BK; have BK := Aside0.mk hbk; have HL := Aside0.mk hlow; clear hbk hlow hfar) | go_at_call 50; (with_reducible refine (HO2.out _ (by repeat (first | (with_reducible first | exact HB.out | apply below_alloc | apply pw_below_drewN | apply below_drew1) | exact HB.out))).mono ?_); rintro e w1 ⟨⟨cs, rfl, hk⟩, hb⟩; have BK := Aside0.mk (blk_below BR.out hb); have HBn := Aside0.mk (below_step (by repeat (first | (with_reducible first | exact HB.out | apply below_alloc | apply pw_below_drewN | apply below_drew1) | exact HB.out)) hb); clear HB; have HB := HBn; clear HBn; have HK := Aside0.mk hk; clear hb hk)
    ((try simp only [Exit.inBlock, Exit.then]); refine bodyPost_ret (results_cell_row rfl _ _ (w.heap.size + 1) 61 _ (0, 0) _ rfl BK.out Tryz.underlying61 rfl (by rw [List.size_toArray, kStep.K_len HK.out.now]; kernel_rfl)) rfl ?_)
    exact ⟨⟨_, rfl, HK2.out.mono (fun k hk h3 => (hk (by have := GLT.out; omega)).2)⟩, HB.out.trans (HL.out _ (by omega))⟩
  cases p
  · have hr : (if false = true then keyedSt x.verb x.quiet x.used [k, v] 2 2 z 0 ⟨#[]⟩ else keyedSt x.verb x.quiet x.used [k, v] 2 0 0 0 badT) = stepF x.used badT := by
      rw [if_neg (by decide)]
      unfold keyedSt
      rw [if_neg (by simp), if_neg (by show ¬ keyS k = false; rw [hq]; decide), if_pos (by decide)]
    rw [hr]
    clear hr hq
    unfold touchV badT at HCLO
    rw [if_neg (show ¬ (false = true) by decide)] at HCLO
    go_enter Tryz.func94, Tryz.ntmps94
    go_wp2_with (first | (go_at_call 129; (with_reducible refine (HKY.out _).mono ?_); rintro e w1 ⟨rfl, hb⟩; have BX := Aside0.mk (blk_below (g := w.heap.size) (o := .cells #[.string x.verb, .slice (some ⟨b, o, none⟩) 2 c1, .bool x.quiet, .int .i64 x.used, .slice A4 x.rest.length c4] 90 (0, 0)) (by repeat (first | exact blk_at_new _ _ _ (by simp; done) | exact blk_at_new _ _ _ rfl | refine blk_alloc ?_ _ | refine blk_drew ?_ | refine blk_drewN ?_ _)) hb); have BR := Aside0.mk (blk_below (g := w.heap.size + 1) (by repeat (first | exact blk_at_new _ _ _ (by simp; done) | exact blk_at_new _ _ _ rfl | refine blk_alloc ?_ _ | refine blk_drew ?_ | refine blk_drewN ?_ _)) hb); have GLT := Aside0.mk (blk_lt BR.out); have HBn := Aside0.mk (below_step (by repeat (first | (with_reducible first | exact HB.out | apply below_alloc | apply pw_below_drewN | apply below_drew1) | exact HB.out)) hb); clear HB; have HB := HBn; clear HBn; clear hb; have t0 : w1.cell? ⟨w.heap.size, 0, none⟩ = some (.string x.verb) := (blk_cell BX.out 0).trans rfl; have t1 : w1.cell? ⟨w.heap.size, 1, none⟩ = some (.slice (some ⟨b, o, none⟩) 2 c1) := (blk_cell BX.out 1).trans rfl; have t2 : w1.cell? ⟨w.heap.size, 2, none⟩ = some (.bool x.quiet) := (blk_cell BX.out 2).trans rfl; have t3 : w1.cell? ⟨w.heap.size, 3, none⟩ = some (.int .i64 x.used) := (blk_cell BX.out 3).trans rfl; have t4 : w1.cell? ⟨w.heap.size, 4, none⟩ = some (.slice A4 x.rest.length c4) := (blk_cell BX.out 4).trans rfl; have t5 : w1.cell? ⟨b, o, none⟩ = some (.string k) := (Below.cell HB.out (p := ⟨b, o, none⟩) hb0).trans HCL.out; have t6 : w1.cell? ⟨b, o + 1, none⟩ = some (.string v) := (Below.cell HB.out (p := ⟨b, o + 1, none⟩) hb0).trans HCV.out) | (refine wpList_store_K HK.out.now rfl 61 _ _ rfl (w.heap.size + 1) rfl rfl 61 _ BK.out (by kernel_rfl) rfl ?_; intro w4 hbk hlow hfar; have HK2 := Aside0.mk (hfar _ _ (fun h => absurd (h (by have := GLT2.out; simp; omega)).1 (by omega)) HK.out); clear BK; have BK := Aside0.mk hbk; have HL := Aside0.mk hlow; clear hbk hlow hfar) | (go_at_call 97; (with_reducible refine (HCLO.out _ (by repeat (first | (with_reducible first | exact HB.out | apply below_alloc | apply pw_below_drewN | apply below_drew1) | exact HB.out))).mono ?_); (rintro e w1 ⟨rfl, hb⟩; unfold cloV; have BXn := Aside0.mk (blk_below BX.out hb); have BRn := Aside0.mk (blk_below BR.out hb); clear BX BR t0 t1 t2 t3 t4 t5 t6; have BX := BXn; have BR := BRn; clear BXn BRn; have GLT2 := Aside0.mk (blk_lt BR.out); have HBn := Aside0.mk (below_step (by repeat (first | (with_reducible first | exact HB.out | apply below_alloc | apply pw_below_drewN | apply below_drew1) | exact HB.out)) hb); clear HB; have HB := HBn; clear HBn; clear hb; have hb1 : b < w1.heap.size := Nat.lt_of_lt_of_le hb0 HB.out.size; have hx1 : w.heap.size < w1.heap.size := blk_lt BX.out; have t0 : w1.cell? ⟨w.heap.size, 0, none⟩ = some (.string x.verb) := (blk_cell BX.out 0).trans rfl; have t1 : w1.cell? ⟨w.heap.size, 1, none⟩ = some (.slice (some ⟨b, o, none⟩) 2 c1) := (blk_cell BX.out 1).trans rfl; have t2 : w1.cell? ⟨w.heap.size, 2, none⟩ = some (.bool x.quiet) := (blk_cell BX.out 2).trans rfl; have t3 : w1.cell? ⟨w.heap.size, 3, none⟩ = some (.int .i64 x.used) := (blk_cell BX.out 3).trans rfl; have t4 : w1.cell? ⟨w.heap.size, 4, none⟩ = some (.slice A4 x.rest.length c4) := (blk_cell BX.out 4).trans rfl; have t5 : w1.cell? ⟨b, o, none⟩ = some (.string k) := (Below.cell HB.out (p := ⟨b, o, none⟩) hb0).trans HCL.out; have t6 : w1.cell? ⟨b, o + 1, none⟩ = some (.string v) := (Below.cell HB.out (p := ⟨b, o + 1, none⟩) hb0).trans HCV.out)) | (go_at_call 50; (with_reducible refine (HO2.out _ (by repeat (first | (with_reducible first | exact HB.out | apply below_alloc | apply pw_below_drewN | apply below_drew1) | exact HB.out))).mono ?_); rintro e w3 ⟨⟨cs, rfl, hk⟩, hb⟩; have BK := Aside0.mk (blk_below (blk_alloc BR.out _) hb); have HBn := Aside0.mk (below_step (by repeat (first | (with_reducible first | exact HB.out | apply below_alloc | apply pw_below_drewN | apply below_drew1) | exact HB.out)) hb); clear HB; have HB := HBn; clear HBn; have HK := Aside0.mk hk; clear hb hk))
    ((try simp only [Exit.inBlock, Exit.then]); refine bodyPost_ret (results_cell_row rfl _ _ (w.heap.size + 1) 61 _ (0, 0) _ rfl BK.out Tryz.underlying61 rfl (by rw [List.size_toArray, kStep.K_len HK.out.now]; kernel_rfl)) rfl ?_)
    exact ⟨⟨_, rfl, HK2.out.mono (fun k hk h3 => (hk (by have := GLT2.out; simp; omega)).2)⟩, HB.out.trans (HL.out _ (by omega))⟩
  · have hr : (if true = true then keyedSt x.verb x.quiet x.used [k, v] 2 2 z 0 ⟨#[]⟩ else keyedSt x.verb x.quiet x.used [k, v] 2 0 0 0 badT) = stepO x.used (formT x.verb x.quiet [k]) (cmdK 2 z 0 k) := by
      rw [if_pos rfl]
      unfold keyedSt
      rw [if_neg (by simp), if_neg (by show ¬ keyS k = false; rw [hq]; decide), if_neg (by decide)]
      rfl
    rw [hr]
    have hks : keysOf (cmdK 2 z 0 k).key = [k] := by
      unfold keysOf
      refine if_neg (fun h => ?_)
      have h : k.size = 0 := h
      have : keyS k = false := by unfold keyS; rw [decide_eq_false (by omega), Bool.false_and]
      rw [this] at hq
      cases hq
    clear hr hq
    unfold touchV badT at HCLO
    rw [if_pos rfl] at HCLO
    have HC : Aside0 (∀ w', kCmd.K w' (cmdK 2 z 0 k) [.int .i64 2, .string k, .slice none 0 0, .int .u32 0, .int .i64 z, .int .u64 0, .int .u64 0, .int .u64 0, .bool false, .bool false]) := ⟨fun w' => kCmd_mk w' (cmdK 2 z 0 k) (Nat.le_refl _) (C_nil _ _)⟩
    have HO3 : Aside0 (∀ w', Below w.heap.size w w' → Calls Tryz.prog 135 #[.agg #[.string x.verb, .slice (some ⟨b, o, none⟩) 2 c1, .bool x.quiet, .int .i64 x.used, .slice A4 x.rest.length c4], .agg #[.int .i64 2, .string k, .slice none 0 0, .int .u32 0, .int .i64 z, .int .u64 0, .int .u64 0, .int .u64 0, .bool false, .bool false]] w' (StepR (fun k => k < w.heap.size ∧ F k) w' (stepO x.used (formT x.verb x.quiet [k]) (cmdK 2 z 0 k)))) := ⟨fun w' hb => by
      have := one_calls x (cmdK 2 z 0 k) _ _ (fun k => k < w.heap.size ∧ F k) w' (kTextinLine.K_below hb HX.out) (fun w2 _ _ => HC.out w2)
      rw [hks] at this
      exact this⟩
    clear hks
    go_enter Tryz.func94, Tryz.ntmps94
    go_wp2_with (first | (go_at_call 129; (with_reducible refine (HKY.out _).mono ?_); rintro e w1 ⟨rfl, hb⟩; have BX := Aside0.mk (blk_below (g := w.heap.size) (o := .cells #[.string x.verb, .slice (some ⟨b, o, none⟩) 2 c1, .bool x.quiet, .int .i64 x.used, .slice A4 x.rest.length c4] 90 (0, 0)) (by repeat (first | exact blk_at_new _ _ _ (by simp; done) | exact blk_at_new _ _ _ rfl | refine blk_alloc ?_ _ | refine blk_drew ?_ | refine blk_drewN ?_ _)) hb); have BR := Aside0.mk (blk_below (g := w.heap.size + 1) (by repeat (first | exact blk_at_new _ _ _ (by simp; done) | exact blk_at_new _ _ _ rfl | refine blk_alloc ?_ _ | refine blk_drew ?_ | refine blk_drewN ?_ _)) hb); have GLT := Aside0.mk (blk_lt BR.out); have HBn := Aside0.mk (below_step (by repeat (first | (with_reducible first | exact HB.out | apply below_alloc | apply pw_below_drewN | apply below_drew1) | exact HB.out)) hb); clear HB; have HB := HBn; clear HBn; clear hb; have t0 : w1.cell? ⟨w.heap.size, 0, none⟩ = some (.string x.verb) := (blk_cell BX.out 0).trans rfl; have t1 : w1.cell? ⟨w.heap.size, 1, none⟩ = some (.slice (some ⟨b, o, none⟩) 2 c1) := (blk_cell BX.out 1).trans rfl; have t2 : w1.cell? ⟨w.heap.size, 2, none⟩ = some (.bool x.quiet) := (blk_cell BX.out 2).trans rfl; have t3 : w1.cell? ⟨w.heap.size, 3, none⟩ = some (.int .i64 x.used) := (blk_cell BX.out 3).trans rfl; have t4 : w1.cell? ⟨w.heap.size, 4, none⟩ = some (.slice A4 x.rest.length c4) := (blk_cell BX.out 4).trans rfl; have t5 : w1.cell? ⟨b, o, none⟩ = some (.string k) := (Below.cell HB.out (p := ⟨b, o, none⟩) hb0).trans HCL.out; have t6 : w1.cell? ⟨b, o + 1, none⟩ = some (.string v) := (Below.cell HB.out (p := ⟨b, o + 1, none⟩) hb0).trans HCV.out) | (refine wpList_store_K HK.out.now rfl 61 _ _ rfl (w.heap.size + 1) rfl rfl 61 _ BK.out (by kernel_rfl) rfl ?_; intro w4 hbk hlow hfar; have HK2 := Aside0.mk (hfar _ _ (fun h => absurd (h (by have := GLT2.out; simp; omega)).1 (by omega)) HK.out); clear BK; have BK := Aside0.mk hbk; have HL := Aside0.mk hlow; clear hbk hlow hfar) | (go_at_call 97; (with_reducible refine (HCLO.out _ (by repeat (first | (with_reducible first | exact HB.out | apply below_alloc | apply pw_below_drewN | apply below_drew1) | exact HB.out))).mono ?_); (rintro e w1 ⟨rfl, hb⟩; unfold cloV; have BXn := Aside0.mk (blk_below BX.out hb); have BRn := Aside0.mk (blk_below BR.out hb); clear BX BR t0 t1 t2 t3 t4 t5 t6; have BX := BXn; have BR := BRn; clear BXn BRn; have GLT2 := Aside0.mk (blk_lt BR.out); have HBn := Aside0.mk (below_step (by repeat (first | (with_reducible first | exact HB.out | apply below_alloc | apply pw_below_drewN | apply below_drew1) | exact HB.out)) hb); clear HB; have HB := HBn; clear HBn; clear hb; have hb1 : b < w1.heap.size := Nat.lt_of_lt_of_le hb0 HB.out.size; have hx1 : w.heap.size < w1.heap.size := blk_lt BX.out; have t0 : w1.cell? ⟨w.heap.size, 0, none⟩ = some (.string x.verb) := (blk_cell BX.out 0).trans rfl; have t1 : w1.cell? ⟨w.heap.size, 1, none⟩ = some (.slice (some ⟨b, o, none⟩) 2 c1) := (blk_cell BX.out 1).trans rfl; have t2 : w1.cell? ⟨w.heap.size, 2, none⟩ = some (.bool x.quiet) := (blk_cell BX.out 2).trans rfl; have t3 : w1.cell? ⟨w.heap.size, 3, none⟩ = some (.int .i64 x.used) := (blk_cell BX.out 3).trans rfl; have t4 : w1.cell? ⟨w.heap.size, 4, none⟩ = some (.slice A4 x.rest.length c4) := (blk_cell BX.out 4).trans rfl; have t5 : w1.cell? ⟨b, o, none⟩ = some (.string k) := (Below.cell HB.out (p := ⟨b, o, none⟩) hb0).trans HCL.out; have t6 : w1.cell? ⟨b, o + 1, none⟩ = some (.string v) := (Below.cell HB.out (p := ⟨b, o + 1, none⟩) hb0).trans HCV.out)) | (go_at_call 135; (with_reducible refine (HO3.out _ (by repeat (first | (with_reducible first | exact HB.out | apply below_alloc | apply pw_below_drewN | apply below_drew1) | exact HB.out))).mono ?_); rintro e w3 ⟨⟨cs, rfl, hk⟩, hb⟩; have BK := Aside0.mk (blk_below (blk_alloc BR.out _) hb); have HBn := Aside0.mk (below_step (by repeat (first | (with_reducible first | exact HB.out | apply below_alloc | apply pw_below_drewN | apply below_drew1) | exact HB.out)) hb); clear HB; have HB := HBn; clear HBn; have HK := Aside0.mk hk; clear hb hk))
    ((try simp only [Exit.inBlock, Exit.then]); refine bodyPost_ret (results_cell_row rfl _ _ (w.heap.size + 1) 61 _ (0, 0) _ rfl BK.out Tryz.underlying61 rfl (by rw [List.size_toArray, kStep.K_len HK.out.now]; kernel_rfl)) rfl ?_)
    exact ⟨⟨_, rfl, HK2.out.mono (fun k hk h3 => (hk (by have := GLT2.out; simp; omega)).2)⟩, HB.out.trans (HL.out _ (by omega))⟩
set_option maxRecDepth 100000 in
set_option maxHeartbeats 1000000 in
theorem keyedS_calls (x : TextinLine) (cx : List Value) (F : Nat → Prop) (w : World) (g : Nat) (op : Int) (hx : kTextinLine.K w x cx) (hT : Tabs w) (hop : w.heap[g]? = some (.cells #[.int .i64 op] 3 (0, 0))) (k v : ByteArray) (hw : x.words = [k, v]) (hk : k.size ≤ 1000000) :
    Calls Tryz.prog 94 #[.agg cx.toArray, .int .i64 2, .func (.func 137) #[] #[.pointer (some ⟨g, 0, none⟩)]] w (StepR F w (if (decS v).2 = true then keyedSt x.verb x.quiet x.used x.words 2 op 0 (decS v).1 ⟨#[]⟩ else keyedSt x.verb x.quiet x.used x.words 2 0 0 0 deltaT)) := by
  have HB := Aside0.mk (Below.refl w.heap.size w)
  have HX := Aside0.mk hx
  have HT := Aside0.mk hT
  have HOP := Aside0.mk hop
  obtain ⟨A1, c1, A4, c4, rfl, hl1, hg1, hl4, hg4⟩ := kTextinLine_open hx
  obtain ⟨b, o, rfl, hb0, hcell⟩ := S_cell hg1 0 (by rw [hw]; simp)
  obtain ⟨b', o', e', -, hcell2⟩ := S_cell hg1 1 (by rw [hw]; simp)
  obtain ⟨rfl, rfl⟩ : b = b' ∧ o = o' := by simpa using e'
  rw [hw, Nat.add_zero] at hcell
  rw [hw] at hcell2
  have hcell : w.cell? ⟨b, o, none⟩ = some (.string k) := hcell
  have hcell2 : w.cell? ⟨b, o + 1, none⟩ = some (.string v) := hcell2
  have HCL := Aside0.mk hcell
  have HCV := Aside0.mk hcell2
  rw [hw] at HX hl1 ⊢
  have HKY := Aside0.mk (fun w => fkey_calls k w hk)
  clear hx hg1 hg4 hw e' hT hop
  obtain ⟨q, hq⟩ : ∃ q, keyS k = q := ⟨_, rfl⟩
  rw [hq] at HKY
  have hc1 : 2 ≤ c1 := hl1
  obtain ⟨z, hz⟩ : ∃ z, decS v = z := ⟨_, rfl⟩
  have HCLO : Aside0 (∀ w', Below w.heap.size w w' → Calls Tryz.prog 137 #[.string v, .pointer (some ⟨g, 0, none⟩)] w' fun e w'' => e = .returned (sumV op (decS v)) ∧ Below w'.heap.size w' w'') := ⟨fun w' hb => sum1_calls g op v w' (Tabs.below HT.out hb) (blk_below HOP.out hb)⟩
  rw [hz]
  rw [hz] at HCLO
  clear hz
  obtain ⟨z, p⟩ := z
  dsimp only
  have HO2 : Aside0 (∀ w', Below w.heap.size w w' → Calls Tryz.prog 50 #[.agg #[.string x.verb, .slice (some ⟨b, o, none⟩) 2 c1, .bool x.quiet, .int .i64 x.used, .slice A4 x.rest.length c4], .string (⟨#[67, 76, 73, 69, 78, 84, 95, 69, 82, 82, 79, 82, 32, 98, 97, 100, 32, 99, 111, 109, 109, 97, 110, 100, 32, 108, 105, 110, 101, 32, 102, 111, 114, 109, 97, 116]⟩ : ByteArray)] w' (StepR (fun k => k < w.heap.size ∧ F k) w' (stepF x.used badT))) := ⟨fun w' hb => fault_calls x _ _ _ w' (kTextinLine.K_below hb HX.out) (by decide)⟩
  have HO5 : Aside0 (∀ w', Below w.heap.size w w' → Calls Tryz.prog 50 #[.agg #[.string x.verb, .slice (some ⟨b, o, none⟩) 2 c1, .bool x.quiet, .int .i64 x.used, .slice A4 x.rest.length c4], .string (⟨#[67, 76, 73, 69, 78, 84, 95, 69, 82, 82, 79, 82, 32, 105, 110, 118, 97, 108, 105, 100, 32, 110, 117, 109, 101, 114, 105, 99, 32, 100, 101, 108, 116, 97, 32, 97, 114, 103, 117, 109, 101, 110, 116]⟩ : ByteArray)] w' (StepR (fun k => k < w.heap.size ∧ F k) w' (stepF x.used deltaT))) := ⟨fun w' hb => fault_calls x _ _ _ w' (kTextinLine.K_below hb HX.out) (by decide)⟩
  cases q
  · have hr : (if p = true then keyedSt x.verb x.quiet x.used [k, v] 2 op 0 z ⟨#[]⟩ else keyedSt x.verb x.quiet x.used [k, v] 2 0 0 0 deltaT) = stepF x.used badT := by
      unfold keyedSt
      split
      all_goals rw [if_neg (by simp), if_pos (by exact hq)]
    rw [hr]
    clear hr hq HCLO hcell2
    go_enter Tryz.func94, Tryz.ntmps94
    go_wp2_with (first | (go_at_call 129; (with_reducible refine (HKY.out _).mono ?_); rintro e w1 ⟨rfl, hb⟩; have BX := Aside0.mk (blk_below (g := w.heap.size) (o := .cells #[.string x.verb, .slice (some ⟨b, o, none⟩) 2 c1, .bool x.quiet, .int .i64 x.used, .slice A4 x.rest.length c4] 90 (0, 0)) (by repeat (first | exact blk_at_new _ _ _ (by simp; done) | exact blk_at_new _ _ _ rfl | refine blk_alloc ?_ _ | refine blk_drew ?_ | refine blk_drewN ?_ _)) hb); have BR := Aside0.mk (blk_below (g := w.heap.size + 1) (by repeat (first | exact blk_at_new _ _ _ (by simp; done) | exact blk_at_new _ _ _ rfl | refine blk_alloc ?_ _ | refine blk_drew ?_ | refine blk_drewN ?_ _)) hb); have GLT := Aside0.mk (blk_lt BR.out); have HBn := Aside0.mk (below_step (by repeat (first | (with_reducible first | exact HB.out | apply below_alloc | apply pw_below_drewN | apply below_drew1) | exact HB.out)) hb); clear HB; have HB := HBn; clear HBn; clear hb; have t0 : w1.cell? ⟨w.heap.size, 0, none⟩ = some (.string x.verb) := (blk_cell BX.out 0).trans rfl; have t1 : w1.cell? ⟨w.heap.size, 1, none⟩ = some (.slice (some ⟨b, o, none⟩) 2 c1) := (blk_cell BX.out 1).trans rfl; have t2 : w1.cell? ⟨w.heap.size, 2, none⟩ = some (.bool x.quiet) := (blk_cell BX.out 2).trans rfl; have t3 : w1.cell? ⟨w.heap.size, 3, none⟩ = some (.int .i64 x.used) := (blk_cell BX.out 3).trans rfl; have t4 : w1.cell? ⟨w.heap.size, 4, none⟩ = some (.slice A4 x.rest.length c4) := (blk_cell BX.out 4).trans rfl; have t5 : w1.cell? ⟨b, o, none⟩ = some (.string k) := (Below.cell HB.out (p := ⟨b, o, none⟩) hb0).trans HCL.out; have t6 : w1.cell? ⟨b, o + 1, none⟩ = some (.string v) := (Below.cell HB.out (p := ⟨b, o + 1, none⟩) hb0).trans HCV.out) | (refine wpList_store_K HK.out.now rfl 61 _ _ rfl (w.heap.size + 1) rfl rfl 61 _ BK.out (by kernel_rfl) rfl ?_; intro w2 hbk hlow hfar; have HK2 := Aside0.mk (hfar _ _ (fun h => absurd (h GLT.out).1 (by omega)) HK.out); clear BK; have BK := Aside0.mk hbk; have HL := Aside0.mk hlow; clear hbk hlow hfar) | go_at_call 50; (with_reducible refine (HO2.out _ (by repeat (first | (with_reducible first | exact HB.out | apply below_alloc | apply pw_below_drewN | apply below_drew1) | exact HB.out))).mono ?_); rintro e w1 ⟨⟨cs, rfl, hk⟩, hb⟩; have BK := Aside0.mk (blk_below BR.out hb); have HBn := Aside0.mk (below_step (by repeat (first | (with_reducible first | exact HB.out | apply below_alloc | apply pw_below_drewN | apply below_drew1) | exact HB.out)) hb); clear HB; have HB := HBn; clear HBn; have HK := Aside0.mk hk; clear hb hk)
    ((try simp only [Exit.inBlock, Exit.then]); refine bodyPost_ret (results_cell_row rfl _ _ (w.heap.size + 1) 61 _ (0, 0) _ rfl BK.out Tryz.underlying61 rfl (by rw [List.size_toArray, kStep.K_len HK.out.now]; kernel_rfl)) rfl ?_)
    exact ⟨⟨_, rfl, HK2.out.mono (fun k hk h3 => (hk (by have := GLT.out; omega)).2)⟩, HB.out.trans (HL.out _ (by omega))⟩
  cases p
  · have hr : (if false = true then keyedSt x.verb x.quiet x.used [k, v] 2 op 0 z ⟨#[]⟩ else keyedSt x.verb x.quiet x.used [k, v] 2 0 0 0 deltaT) = stepF x.used deltaT := by
      rw [if_neg (by decide)]
      unfold keyedSt
      rw [if_neg (by simp), if_neg (by show ¬ keyS k = false; rw [hq]; decide), if_pos (by decide)]
    rw [hr]
    clear hr hq
    unfold sumV deltaT at HCLO
    rw [if_neg (show ¬ (false = true) by decide)] at HCLO
    go_enter Tryz.func94, Tryz.ntmps94
    go_wp2_with (first | (go_at_call 129; (with_reducible refine (HKY.out _).mono ?_); rintro e w1 ⟨rfl, hb⟩; have BX := Aside0.mk (blk_below (g := w.heap.size) (o := .cells #[.string x.verb, .slice (some ⟨b, o, none⟩) 2 c1, .bool x.quiet, .int .i64 x.used, .slice A4 x.rest.length c4] 90 (0, 0)) (by repeat (first | exact blk_at_new _ _ _ (by simp; done) | exact blk_at_new _ _ _ rfl | refine blk_alloc ?_ _ | refine blk_drew ?_ | refine blk_drewN ?_ _)) hb); have BR := Aside0.mk (blk_below (g := w.heap.size + 1) (by repeat (first | exact blk_at_new _ _ _ (by simp; done) | exact blk_at_new _ _ _ rfl | refine blk_alloc ?_ _ | refine blk_drew ?_ | refine blk_drewN ?_ _)) hb); have GLT := Aside0.mk (blk_lt BR.out); have HBn := Aside0.mk (below_step (by repeat (first | (with_reducible first | exact HB.out | apply below_alloc | apply pw_below_drewN | apply below_drew1) | exact HB.out)) hb); clear HB; have HB := HBn; clear HBn; clear hb; have t0 : w1.cell? ⟨w.heap.size, 0, none⟩ = some (.string x.verb) := (blk_cell BX.out 0).trans rfl; have t1 : w1.cell? ⟨w.heap.size, 1, none⟩ = some (.slice (some ⟨b, o, none⟩) 2 c1) := (blk_cell BX.out 1).trans rfl; have t2 : w1.cell? ⟨w.heap.size, 2, none⟩ = some (.bool x.quiet) := (blk_cell BX.out 2).trans rfl; have t3 : w1.cell? ⟨w.heap.size, 3, none⟩ = some (.int .i64 x.used) := (blk_cell BX.out 3).trans rfl; have t4 : w1.cell? ⟨w.heap.size, 4, none⟩ = some (.slice A4 x.rest.length c4) := (blk_cell BX.out 4).trans rfl; have t5 : w1.cell? ⟨b, o, none⟩ = some (.string k) := (Below.cell HB.out (p := ⟨b, o, none⟩) hb0).trans HCL.out; have t6 : w1.cell? ⟨b, o + 1, none⟩ = some (.string v) := (Below.cell HB.out (p := ⟨b, o + 1, none⟩) hb0).trans HCV.out) | (refine wpList_store_K HK.out.now rfl 61 _ _ rfl (w.heap.size + 1) rfl rfl 61 _ BK.out (by kernel_rfl) rfl ?_; intro w4 hbk hlow hfar; have HK2 := Aside0.mk (hfar _ _ (fun h => absurd (h (by have := GLT2.out; simp; omega)).1 (by omega)) HK.out); clear BK; have BK := Aside0.mk hbk; have HL := Aside0.mk hlow; clear hbk hlow hfar) | (go_at_call 137; (with_reducible refine (HCLO.out _ (by repeat (first | (with_reducible first | exact HB.out | apply below_alloc | apply pw_below_drewN | apply below_drew1) | exact HB.out))).mono ?_); (rintro e w1 ⟨rfl, hb⟩; unfold cloV; have BXn := Aside0.mk (blk_below BX.out hb); have BRn := Aside0.mk (blk_below BR.out hb); clear BX BR t0 t1 t2 t3 t4 t5 t6; have BX := BXn; have BR := BRn; clear BXn BRn; have GLT2 := Aside0.mk (blk_lt BR.out); have HBn := Aside0.mk (below_step (by repeat (first | (with_reducible first | exact HB.out | apply below_alloc | apply pw_below_drewN | apply below_drew1) | exact HB.out)) hb); clear HB; have HB := HBn; clear HBn; clear hb; have hb1 : b < w1.heap.size := Nat.lt_of_lt_of_le hb0 HB.out.size; have hx1 : w.heap.size < w1.heap.size := blk_lt BX.out; have t0 : w1.cell? ⟨w.heap.size, 0, none⟩ = some (.string x.verb) := (blk_cell BX.out 0).trans rfl; have t1 : w1.cell? ⟨w.heap.size, 1, none⟩ = some (.slice (some ⟨b, o, none⟩) 2 c1) := (blk_cell BX.out 1).trans rfl; have t2 : w1.cell? ⟨w.heap.size, 2, none⟩ = some (.bool x.quiet) := (blk_cell BX.out 2).trans rfl; have t3 : w1.cell? ⟨w.heap.size, 3, none⟩ = some (.int .i64 x.used) := (blk_cell BX.out 3).trans rfl; have t4 : w1.cell? ⟨w.heap.size, 4, none⟩ = some (.slice A4 x.rest.length c4) := (blk_cell BX.out 4).trans rfl; have t5 : w1.cell? ⟨b, o, none⟩ = some (.string k) := (Below.cell HB.out (p := ⟨b, o, none⟩) hb0).trans HCL.out; have t6 : w1.cell? ⟨b, o + 1, none⟩ = some (.string v) := (Below.cell HB.out (p := ⟨b, o + 1, none⟩) hb0).trans HCV.out)) | (go_at_call 50; (with_reducible refine (HO5.out _ (by repeat (first | (with_reducible first | exact HB.out | apply below_alloc | apply pw_below_drewN | apply below_drew1) | exact HB.out))).mono ?_); rintro e w3 ⟨⟨cs, rfl, hk⟩, hb⟩; have BK := Aside0.mk (blk_below (blk_alloc BR.out _) hb); have HBn := Aside0.mk (below_step (by repeat (first | (with_reducible first | exact HB.out | apply below_alloc | apply pw_below_drewN | apply below_drew1) | exact HB.out)) hb); clear HB; have HB := HBn; clear HBn; have HK := Aside0.mk hk; clear hb hk))
    ((try simp only [Exit.inBlock, Exit.then]); refine bodyPost_ret (results_cell_row rfl _ _ (w.heap.size + 1) 61 _ (0, 0) _ rfl BK.out Tryz.underlying61 rfl (by rw [List.size_toArray, kStep.K_len HK.out.now]; kernel_rfl)) rfl ?_)
    exact ⟨⟨_, rfl, HK2.out.mono (fun k hk h3 => (hk (by have := GLT2.out; simp; omega)).2)⟩, HB.out.trans (HL.out _ (by omega))⟩
  · have hr : (if true = true then keyedSt x.verb x.quiet x.used [k, v] 2 op 0 z ⟨#[]⟩ else keyedSt x.verb x.quiet x.used [k, v] 2 0 0 0 deltaT) = stepO x.used (formT x.verb x.quiet [k]) (cmdK op 0 z k) := by
      rw [if_pos rfl]
      unfold keyedSt
      rw [if_neg (by simp), if_neg (by show ¬ keyS k = false; rw [hq]; decide), if_neg (by decide)]
      rfl
    rw [hr]
    have hks : keysOf (cmdK op 0 z k).key = [k] := by
      unfold keysOf
      refine if_neg (fun h => ?_)
      have h : k.size = 0 := h
      have : keyS k = false := by unfold keyS; rw [decide_eq_false (by omega), Bool.false_and]
      rw [this] at hq
      cases hq
    clear hr hq
    unfold sumV deltaT at HCLO
    rw [if_pos rfl] at HCLO
    have HC : Aside0 (∀ w', kCmd.K w' (cmdK op 0 z k) [.int .i64 op, .string k, .slice none 0 0, .int .u32 0, .int .i64 0, .int .u64 0, .int .u64 z, .int .u64 0, .bool false, .bool false]) := ⟨fun w' => kCmd_mk w' (cmdK op 0 z k) (Nat.le_refl _) (C_nil _ _)⟩
    have HO3 : Aside0 (∀ w', Below w.heap.size w w' → Calls Tryz.prog 135 #[.agg #[.string x.verb, .slice (some ⟨b, o, none⟩) 2 c1, .bool x.quiet, .int .i64 x.used, .slice A4 x.rest.length c4], .agg #[.int .i64 op, .string k, .slice none 0 0, .int .u32 0, .int .i64 0, .int .u64 0, .int .u64 z, .int .u64 0, .bool false, .bool false]] w' (StepR (fun k => k < w.heap.size ∧ F k) w' (stepO x.used (formT x.verb x.quiet [k]) (cmdK op 0 z k)))) := ⟨fun w' hb => by
      have := one_calls x (cmdK op 0 z k) _ _ (fun k => k < w.heap.size ∧ F k) w' (kTextinLine.K_below hb HX.out) (fun w2 _ _ => HC.out w2)
      rw [hks] at this
      exact this⟩
    clear hks
    go_enter Tryz.func94, Tryz.ntmps94
    go_wp2_with (first | (go_at_call 129; (with_reducible refine (HKY.out _).mono ?_); rintro e w1 ⟨rfl, hb⟩; have BX := Aside0.mk (blk_below (g := w.heap.size) (o := .cells #[.string x.verb, .slice (some ⟨b, o, none⟩) 2 c1, .bool x.quiet, .int .i64 x.used, .slice A4 x.rest.length c4] 90 (0, 0)) (by repeat (first | exact blk_at_new _ _ _ (by simp; done) | exact blk_at_new _ _ _ rfl | refine blk_alloc ?_ _ | refine blk_drew ?_ | refine blk_drewN ?_ _)) hb); have BR := Aside0.mk (blk_below (g := w.heap.size + 1) (by repeat (first | exact blk_at_new _ _ _ (by simp; done) | exact blk_at_new _ _ _ rfl | refine blk_alloc ?_ _ | refine blk_drew ?_ | refine blk_drewN ?_ _)) hb); have GLT := Aside0.mk (blk_lt BR.out); have HBn := Aside0.mk (below_step (by repeat (first | (with_reducible first | exact HB.out | apply below_alloc | apply pw_below_drewN | apply below_drew1) | exact HB.out)) hb); clear HB; have HB := HBn; clear HBn; clear hb; have t0 : w1.cell? ⟨w.heap.size, 0, none⟩ = some (.string x.verb) := (blk_cell BX.out 0).trans rfl; have t1 : w1.cell? ⟨w.heap.size, 1, none⟩ = some (.slice (some ⟨b, o, none⟩) 2 c1) := (blk_cell BX.out 1).trans rfl; have t2 : w1.cell? ⟨w.heap.size, 2, none⟩ = some (.bool x.quiet) := (blk_cell BX.out 2).trans rfl; have t3 : w1.cell? ⟨w.heap.size, 3, none⟩ = some (.int .i64 x.used) := (blk_cell BX.out 3).trans rfl; have t4 : w1.cell? ⟨w.heap.size, 4, none⟩ = some (.slice A4 x.rest.length c4) := (blk_cell BX.out 4).trans rfl; have t5 : w1.cell? ⟨b, o, none⟩ = some (.string k) := (Below.cell HB.out (p := ⟨b, o, none⟩) hb0).trans HCL.out; have t6 : w1.cell? ⟨b, o + 1, none⟩ = some (.string v) := (Below.cell HB.out (p := ⟨b, o + 1, none⟩) hb0).trans HCV.out) | (refine wpList_store_K HK.out.now rfl 61 _ _ rfl (w.heap.size + 1) rfl rfl 61 _ BK.out (by kernel_rfl) rfl ?_; intro w4 hbk hlow hfar; have HK2 := Aside0.mk (hfar _ _ (fun h => absurd (h (by have := GLT2.out; simp; omega)).1 (by omega)) HK.out); clear BK; have BK := Aside0.mk hbk; have HL := Aside0.mk hlow; clear hbk hlow hfar) | (go_at_call 137; (with_reducible refine (HCLO.out _ (by repeat (first | (with_reducible first | exact HB.out | apply below_alloc | apply pw_below_drewN | apply below_drew1) | exact HB.out))).mono ?_); (rintro e w1 ⟨rfl, hb⟩; unfold cloV; have BXn := Aside0.mk (blk_below BX.out hb); have BRn := Aside0.mk (blk_below BR.out hb); clear BX BR t0 t1 t2 t3 t4 t5 t6; have BX := BXn; have BR := BRn; clear BXn BRn; have GLT2 := Aside0.mk (blk_lt BR.out); have HBn := Aside0.mk (below_step (by repeat (first | (with_reducible first | exact HB.out | apply below_alloc | apply pw_below_drewN | apply below_drew1) | exact HB.out)) hb); clear HB; have HB := HBn; clear HBn; clear hb; have hb1 : b < w1.heap.size := Nat.lt_of_lt_of_le hb0 HB.out.size; have hx1 : w.heap.size < w1.heap.size := blk_lt BX.out; have t0 : w1.cell? ⟨w.heap.size, 0, none⟩ = some (.string x.verb) := (blk_cell BX.out 0).trans rfl; have t1 : w1.cell? ⟨w.heap.size, 1, none⟩ = some (.slice (some ⟨b, o, none⟩) 2 c1) := (blk_cell BX.out 1).trans rfl; have t2 : w1.cell? ⟨w.heap.size, 2, none⟩ = some (.bool x.quiet) := (blk_cell BX.out 2).trans rfl; have t3 : w1.cell? ⟨w.heap.size, 3, none⟩ = some (.int .i64 x.used) := (blk_cell BX.out 3).trans rfl; have t4 : w1.cell? ⟨w.heap.size, 4, none⟩ = some (.slice A4 x.rest.length c4) := (blk_cell BX.out 4).trans rfl; have t5 : w1.cell? ⟨b, o, none⟩ = some (.string k) := (Below.cell HB.out (p := ⟨b, o, none⟩) hb0).trans HCL.out; have t6 : w1.cell? ⟨b, o + 1, none⟩ = some (.string v) := (Below.cell HB.out (p := ⟨b, o + 1, none⟩) hb0).trans HCV.out)) | (go_at_call 135; (with_reducible refine (HO3.out _ (by repeat (first | (with_reducible first | exact HB.out | apply below_alloc | apply pw_below_drewN | apply below_drew1) | exact HB.out))).mono ?_); rintro e w3 ⟨⟨cs, rfl, hk⟩, hb⟩; have BK := Aside0.mk (blk_below (blk_alloc BR.out _) hb); have HBn := Aside0.mk (below_step (by repeat (first | (with_reducible first | exact HB.out | apply below_alloc | apply pw_below_drewN | apply below_drew1) | exact HB.out)) hb); clear HB; have HB := HBn; clear HBn; have HK := Aside0.mk hk; clear hb hk))
    ((try simp only [Exit.inBlock, Exit.then]); refine bodyPost_ret (results_cell_row rfl _ _ (w.heap.size + 1) 61 _ (0, 0) _ rfl BK.out Tryz.underlying61 rfl (by rw [List.size_toArray, kStep.K_len HK.out.now]; kernel_rfl)) rfl ?_)
    exact ⟨⟨_, rfl, HK2.out.mono (fun k hk h3 => (hk (by have := GLT2.out; simp; omega)).2)⟩, HB.out.trans (HL.out _ (by omega))⟩
end Go.Proofs.YtdjbbncoioghfaaGreatDoor.X
namespace Go.Proofs.YtdjbbncoioghfaaGreatDoor.X
open Go.RowKit Go.Proofs.YtdjbbncoioghfaaGreatDoorW.PrintWords Go.Proofs.YtdjbbncoioghfaaGreatDoorW.PrintMore
set_option linter.unusedVariables false
set_option linter.unusedSimpArgs false
theorem keyedSt_no (verb : ByteArray) (quiet : Bool) (used : Int) (words : List ByteArray) (many : Nat) (op exp delta : Int) (wrong : ByteArray) (h : words.length ≠ many) : keyedSt verb quiet used words many op exp delta wrong = stepF used (⟨#[69, 82, 82, 79, 82]⟩ : ByteArray) := by
  unfold keyedSt
  exact if_pos h
def delS (verb : ByteArray) (quiet : Bool) (used : Int) (words : List ByteArray) : Step := keyedSt verb quiet used words 1 8 0 0 ⟨#[]⟩
def touchS (verb : ByteArray) (quiet : Bool) (used : Int) (words : List ByteArray) : Step :=
  if (sgnS (words.getD 1 ⟨#[]⟩)).2 = true then keyedSt verb quiet used words 2 2 (sgnS (words.getD 1 ⟨#[]⟩)).1 0 ⟨#[]⟩ else keyedSt verb quiet used words 2 0 0 0 badT
def sumS (verb : ByteArray) (quiet : Bool) (used : Int) (words : List ByteArray) (op : Int) : Step :=
  if (decS (words.getD 1 ⟨#[]⟩)).2 = true then keyedSt verb quiet used words 2 op 0 (decS (words.getD 1 ⟨#[]⟩)).1 ⟨#[]⟩ else keyedSt verb quiet used words 2 0 0 0 deltaT
theorem len2 {α : Type} : ∀ {l : List α}, l.length = 2 → ∃ a b, l = [a, b]
  | [a, b], _ => ⟨a, b, rfl⟩
theorem len1 {α : Type} : ∀ {l : List α}, l.length = 1 → ∃ a, l = [a]
  | [a], _ => ⟨a, rfl⟩
theorem keyedDU (x : TextinLine) (cx : List Value) (F : Nat → Prop) (w : World) (hx : kTextinLine.K w x cx) (hk : ∀ k ∈ x.words, k.size ≤ 1000000) :
    Calls Tryz.prog 94 #[.agg cx.toArray, .int .i64 1, .func (.func 95) #[] #[]] w (StepR F w (delS x.verb x.quiet x.used x.words)) := by
  by_cases hn : x.words.length = 1
  · obtain ⟨k, hw⟩ := len1 hn
    exact keyedD_calls x cx F w hx k hw (hk k (by rw [hw]; simp))
  · have := keyedE_calls x cx F w hx 1 (.func (.func 95) #[] #[]) (by omega)
    unfold delS
    rw [keyedSt_no _ _ _ _ _ _ _ _ _ hn]
    exact this
theorem keyedTU (x : TextinLine) (cx : List Value) (F : Nat → Prop) (w : World) (hx : kTextinLine.K w x cx) (hT : Tabs w) (hk : ∀ k ∈ x.words, k.size ≤ 1000000) :
    Calls Tryz.prog 94 #[.agg cx.toArray, .int .i64 2, .func (.func 97) #[.agg cx.toArray] #[]] w (StepR F w (touchS x.verb x.quiet x.used x.words)) := by
  unfold touchS
  by_cases hn : x.words.length = 2
  · obtain ⟨k, v, hw⟩ := len2 hn
    have := keyedT_calls x cx F w hx hT k v hw (hk k (by rw [hw]; simp))
    rw [show x.words.getD 1 ⟨#[]⟩ = v from by rw [hw]; rfl]
    exact this
  · have := keyedE_calls x cx F w hx 2 (.func (.func 97) #[.agg cx.toArray] #[]) (by omega)
    rw [keyedSt_no _ _ _ _ _ _ _ _ _ hn, keyedSt_no _ _ _ _ _ _ _ _ _ hn, ite_self]
    exact this
theorem keyedSU (x : TextinLine) (cx : List Value) (F : Nat → Prop) (w : World) (g : Nat) (op : Int) (hx : kTextinLine.K w x cx) (hT : Tabs w) (hop : w.heap[g]? = some (.cells #[.int .i64 op] 3 (0, 0))) (hk : ∀ k ∈ x.words, k.size ≤ 1000000) :
    Calls Tryz.prog 94 #[.agg cx.toArray, .int .i64 2, .func (.func 137) #[] #[.pointer (some ⟨g, 0, none⟩)]] w (StepR F w (sumS x.verb x.quiet x.used x.words op)) := by
  unfold sumS
  by_cases hn : x.words.length = 2
  · obtain ⟨k, v, hw⟩ := len2 hn
    have := keyedS_calls x cx F w g op hx hT hop k v hw (hk k (by rw [hw]; simp))
    rw [show x.words.getD 1 ⟨#[]⟩ = v from by rw [hw]; rfl]
    exact this
  · have := keyedE_calls x cx F w hx 2 (.func (.func 137) #[] #[.pointer (some ⟨g, 0, none⟩)]) (by omega)
    rw [keyedSt_no _ _ _ _ _ _ _ _ _ hn, keyedSt_no _ _ _ _ _ _ _ _ _ hn, ite_self]
    exact this
set_option maxRecDepth 100000 in
set_option maxHeartbeats 1000000 in
theorem sum_calls (x : TextinLine) (cx : List Value) (op : Int) (F : Nat → Prop) (w : World) (hx : kTextinLine.K w x cx) (hT : Tabs w) (hk : ∀ k ∈ x.words, k.size ≤ 1000000) :
    Calls Tryz.prog 96 #[.agg cx.toArray, .int .i64 op] w (StepR F w (sumS x.verb x.quiet x.used x.words op)) := by
  have HB := Aside0.mk (Below.refl w.heap.size w)
  have HX := Aside0.mk hx
  have HT := Aside0.mk hT
  obtain ⟨A1, c1, A4, c4, rfl, hl1, hg1, hl4, hg4⟩ := kTextinLine_open hx
  obtain ⟨r, hr⟩ : ∃ r, sumS x.verb x.quiet x.used x.words op = r := ⟨_, rfl⟩
  rw [hr]
  have HO : Aside0 (∀ w', Below w.heap.size w w' → w'.heap[w.heap.size + 1]? = some (.cells #[.int .i64 op] 3 (0, 0)) → Calls Tryz.prog 94 #[.agg #[.string x.verb, .slice A1 x.words.length c1, .bool x.quiet, .int .i64 x.used, .slice A4 x.rest.length c4], .int .i64 2, .func (.func 137) #[] #[.pointer (some ⟨w.heap.size + 1, 0, none⟩)]] w' (StepR (fun k => k < w.heap.size ∧ F k) w' r)) := ⟨fun w' hb h2 => hr ▸ keyedSU x _ _ w' (w.heap.size + 1) op (kTextinLine.K_below hb HX.out) (Tabs.below HT.out hb) h2 hk⟩
  clear hx hg1 hg4 hT hr hk
  go_enter Tryz.func96, Tryz.ntmps96
  go_wp2_with (first | (refine wpList_store_K HK.out.now rfl 61 _ _ rfl (w.heap.size + 1 + 1) rfl rfl 61 _ BK.out (by kernel_rfl) rfl ?_; intro w2 hbk hlow hfar; have HK2 := Aside0.mk (hfar _ _ (fun h => absurd (h (by simp <;> omega)).1 (by omega)) HK.out); clear BK; have BK := Aside0.mk hbk; have HL := Aside0.mk hlow; clear hbk hlow hfar) | go_at_call 94; (with_reducible refine (HO.out _ (by repeat (first | (with_reducible first | exact HB.out | apply below_alloc | apply pw_below_drewN | apply below_drew1) | exact HB.out)) (by repeat (first | exact blk_at_new _ _ _ (by simp; done) | exact blk_at_new _ _ _ rfl | refine blk_alloc ?_ _ | refine blk_drew ?_ | refine blk_drewN ?_ _))).mono ?_); rintro e w1 ⟨⟨cs, rfl, hk⟩, hb⟩; have BK := Aside0.mk (blk_below (g := w.heap.size + 1 + 1) (by repeat (first | exact blk_at_new _ _ _ (by simp; done) | exact blk_at_new _ _ _ rfl | refine blk_alloc ?_ _ | refine blk_drew ?_ | refine blk_drewN ?_ _)) hb); have HBn := Aside0.mk (below_step (by repeat (first | (with_reducible first | exact HB.out | apply below_alloc | apply pw_below_drewN | apply below_drew1) | exact HB.out)) hb); clear HB; have HB := HBn; clear HBn; have HK := Aside0.mk hk; clear hb hk)
  ((try simp only [Exit.inBlock, Exit.then]); refine bodyPost_ret (results_cell_row rfl _ _ (w.heap.size + 1 + 1) 61 _ (0, 0) _ rfl BK.out Tryz.underlying61 rfl (by rw [List.size_toArray, kStep.K_len HK.out.now]; kernel_rfl)) rfl ?_)
  exact ⟨⟨_, rfl, HK2.out.mono (fun k hk h3 => (hk (by simp; omega)).2)⟩, HB.out.trans (HL.out _ (by omega))⟩
end Go.Proofs.YtdjbbncoioghfaaGreatDoor.X
namespace Go.Proofs.YtdjbbncoioghfaaGreatDoor.X
open Go.RowKit Go.Proofs.YtdjbbncoioghfaaGreatDoorW.PrintWords Go.Proofs.YtdjbbncoioghfaaGreatDoorW.PrintMore
set_option linter.unusedVariables false
set_option linter.unusedSimpArgs false
def cmdC (op exp : Int) (k : ByteArray) : List Value := [.int .i64 op, .string k, .slice none 0 0, .int .u32 0, .int .i64 exp, .int .u64 0, .int .u64 0, .int .u64 0, .bool false, .bool false]
def rowsC (op exp : Int) (ks : List ByteArray) : List Value := ks.flatMap (cmdC op exp)
theorem rowsC_snoc (op exp : Int) (ks : List ByteArray) (k : ByteArray) : rowsC op exp (ks ++ [k]) = rowsC op exp ks ++ cmdC op exp k := by
  unfold rowsC
  rw [List.flatMap_append, List.flatMap_cons, List.flatMap_nil, List.append_nil]
theorem rowsC_get (op exp : Int) : ∀ (ks : List ByteArray) (j : Nat) (k : ByteArray), ks[j]? = some k → ∀ i u, (cmdC op exp k)[i]? = some u → (rowsC op exp ks)[j * 10 + i]? = some u
  | [], _, _, h, _, _, _ => by simp at h
  | a :: l, 0, k, h, i, u, hu => by
    obtain rfl : a = k := by simpa using h
    have hi : i < (cmdC op exp a).length := (List.getElem?_eq_some_iff.1 hu).1
    show (cmdC op exp a ++ rowsC op exp l)[0 * 10 + i]? = some u
    rw [Nat.zero_mul, Nat.zero_add, List.getElem?_append_left hi]
    exact hu
  | a :: l, j + 1, k, h, i, u, hu => by
    have h : l[j]? = some k := by simpa using h
    show (cmdC op exp a ++ rowsC op exp l)[(j + 1) * 10 + i]? = some u
    rw [List.getElem?_append_right (by show 10 ≤ _; omega), show (j + 1) * 10 + i - (cmdC op exp a).length = j * 10 + i from by show (j + 1) * 10 + i - 10 = _; omega]
    exact rowsC_get op exp l j k h i u hu
theorem cmdC_one (op exp : Int) (k : ByteArray) : ∀ u ∈ cmdC op exp k, u.oneCell' = true := by
  intro u hu
  simp only [cmdC, List.mem_cons, List.not_mem_nil, or_false] at hu
  rcases hu with h | h | h | h | h | h | h | h | h | h <;> subst h <;> rfl
theorem K_cmdC (w : World) (op exp : Int) (k : ByteArray) : kCmd.K w (cmdK op exp 0 k) (cmdC op exp k) := kCmd_mk w (cmdK op exp 0 k) (Nat.le_refl _) (C_nil _ _)
theorem own_C {W : World} {base : Nat} {v : Value} {op exp : Int} {ks : List ByteArray} (h : W.ownsRow base 57 10 v ks.length (rowsC op exp ks)) :
    ∃ A c, v = .slice A ks.length c ∧ ks.length ≤ c ∧ kCmd.C W A ks.length (ks.map (cmdK op exp 0)) := by
  rcases h.2 with ⟨rfl, h0⟩ | ⟨g, cap, cur, rfl, hb, hh, hn, hcm, hcs, htake⟩
  · obtain rfl : ks = [] := List.eq_nil_of_length_eq_zero h0
    exact ⟨none, 0, rfl, Nat.le_refl _, C_nil _ _⟩
  · refine ⟨some ⟨g, 0, none⟩, cap, rfl, hn, ?_⟩
    refine ⟨by simp, by unfold maxLen at hcm; omega, fun _ => ⟨_, rfl, fun j p hj => ?_⟩⟩
    rw [List.getElem?_map] at hj
    obtain ⟨k, hk, rfl⟩ := Option.map_eq_some_iff.1 hj
    exact ⟨cmdC op exp k, rfl, K_cmdC W op exp k, fun i u hu => h.cells (g := g) rfl (j * 10 + i) u (rowsC_get op exp ks j k hk i u hu)⟩
theorem own_keep {w w1 : World} {base : Nat} {e : TypeId} {size n : Nat} {v : Value} {xs : List Value} (h : w.ownsRow base e size v n xs) (hm : ∀ k, base ≤ k → k < w.heap.size → w1.heap[k]? = w.heap[k]?) : w1.ownsRow base e size v n xs :=
  own_move h (fun k hk => hm k (own_base h k hk) (own_lt h k hk))
end Go.Proofs.YtdjbbncoioghfaaGreatDoor.X
namespace Go.Proofs.YtdjbbncoioghfaaGreatDoor.X
open Go.RowKit Go.Proofs.YtdjbbncoioghfaaGreatDoorW.PrintWords Go.Proofs.YtdjbbncoioghfaaGreatDoorW.PrintMore
set_option linter.unusedVariables false
set_option linter.unusedSimpArgs false
/-- w' is w but for block g. -/
structure StoreTo (g : Nat) (w w' : World) : Prop where
  below : ∀ B, B ≤ g → Below B w w'
  block : ∀ k, k ≠ g → w'.heap[k]? = w.heap[k]?
  size : w'.heap.size = w.heap.size
theorem StoreTo.row (w : World) (g : Nat) (cs : Array Value) : StoreTo g w (w.setRow g cs) :=
  ⟨fun _ hB => below_setRow (Below.refl _ _) hB _, fun k hk => setRow_other _ _ _ _ hk, by simp [World.setRow]⟩
theorem StoreTo.zero {g : Nat} {w w' : World} (h : StoreTo g w w') : Below 0 w w' := h.below 0 (Nat.zero_le _)
theorem StoreTo.blk {g k : Nat} {w w' : World} {o : Obj} (h : StoreTo g w w') (hb : w.heap[k]? = some o) (hk : k ≠ g) : w'.heap[k]? = some o := (h.block k hk).trans hb
theorem StoreTo.up {g B : Nat} {w0 w w' : World} (h : StoreTo g w w') (hb : Below B w0 w) (hg : B ≤ g) : Below B w0 w' := hb.trans (h.below B hg)
theorem StoreTo.hol {g : Nat} {w w' : World} {F : Nat → Prop} {Φ : World → Prop} (h : StoreTo g w w') (hh : HolF F w Φ) (hg : ¬ F g) : HolF F w' Φ := hh.kept h.zero (fun k _ hF => h.block k (fun e => hg (e ▸ hF)))
theorem StoreTo.own {g : Nat} {w w' : World} {base n size : Nat} {e : TypeId} {v : Value} {xs : List Value} (h : StoreTo g w w') (ho : w.ownsRow base e size v n xs) (hg : g < base) : w'.ownsRow base e size v n xs :=
  own_keep ho (fun k hk _ => h.block k (by omega))
theorem StoreTo.own' {g : Nat} {w w' : World} {base n size : Nat} {e : TypeId} {v : Value} {xs : List Value} (h : StoreTo g w w') (ho : w.ownsRow base e size v n xs) (hg : some g ≠ v.ownBlock) : w'.ownsRow base e size v n xs :=
  own_move ho (fun k hk => h.block k (fun e => hg (by rw [← e]; exact hk.symm)))
theorem own_not {w : World} {base n size g : Nat} {e : TypeId} {v : Value} {xs : List Value} (ho : w.ownsRow base e size v n xs) (hg : w.heap.size ≤ g) : some g ≠ v.ownBlock := fun e => absurd (own_lt ho _ e.symm) (by omega)
theorem cells_one {u : Value} (h1 : u.oneCell' = true) : u.cells = #[u] := by cases u <;> first | rfl | cases h1
theorem run_storeVar_F {P : Program} (w : World) (g i : Nat) (t ty : TypeId) (cur : Array Value) (v : Value) (vs : List Value) (hv : v.cells = vs.toArray) (hg : w.heap[g]? = some (.cells cur t (0, 0))) (hi : (P.info? ty).map (·.size) = some vs.length)
    (hfit : i + vs.length ≤ cur.size) (h1 : ∀ u ∈ vs, u.oneCell' = true) : (storeVar ty ⟨g, i, none⟩ v).run P w = .ok () (w.setRow g (cur.toList.take i ++ vs ++ cur.toList.drop (i + vs.length)).toArray) := by
  have := run_storeCells_at (P := P) g i t vs 0 cur w hg (by omega) h1
  cases hq : P.info? ty with
  | none => simp [hq] at hi
  | some j =>
    have hs : j.size = vs.length := by simpa [hq] using hi
    simp only [Nat.add_zero] at this
    simp [storeVar, sizeOf, typeInfo, hq, hv, hs, this]
theorem wpList_store_F {P : Program} {ops : Array Oper} {rest : List Oper} {o : Oper} {a : Act} {w : World} {Q : Exit → Act → World → Prop} (hgd : o.guard = none) (ty : TypeId) (x y : Operand) (ho : o.op = .store ty x y)
    (g i : Nat) (vs : List Value) (hx : a.eval x = .pointer (some ⟨g, i, none⟩)) (hv : (a.eval y).cells = vs.toArray) (h1 : ∀ u ∈ vs, u.oneCell' = true)
    (t : TypeId) (cur new : Array Value) (hg : w.heap[g]? = some (.cells cur t (0, 0))) (hfit : i + vs.length ≤ cur.size) (hi : (P.info? ty).map (·.size) = some vs.length) (hnew : (cur.toList.take i ++ vs ++ cur.toList.drop (i + vs.length)).toArray = new)
    (h : ∀ w', w'.heap[g]? = some (.cells new t (0, 0)) → StoreTo g w w' → wpList P ops Q rest (a.put o.dst undef) w') : wpList P ops Q (o :: rest) a w :=
  wpList_plain hgd fun _ hK => by
    unfold Oper.wp execOp
    simp only [ho, hx, Instr.storeAt, Instr.sureAddr, Sem.run_bind, Sem.run_pure, Result.andThen_ok, run_storeVar_F w g i t ty cur _ vs hv hg hi hfit h1]
    rw [hnew]
    exact hK _ _ (h _ (setRow_heap w g cur _ t _ hg) (StoreTo.row w g new))
theorem wpList_store_1 {P : Program} {ops : Array Oper} {rest : List Oper} {o : Oper} {a : Act} {w : World} {Q : Exit → Act → World → Prop} (hgd : o.guard = none) (ty : TypeId) (x y : Operand) (ho : o.op = .store ty x y)
    (g i : Nat) (v : Value) (hx : a.eval x = .pointer (some ⟨g, i, none⟩)) (hv : a.eval y = v) (h1 : v.oneCell' = true)
    (t : TypeId) (cur new : Array Value) (hg : w.heap[g]? = some (.cells cur t (0, 0))) (hfit : i + 1 ≤ cur.size) (hi : (P.info? ty).map (·.size) = some 1) (hnew : (cur.toList.take i ++ [v] ++ cur.toList.drop (i + 1)).toArray = new)
    (h : ∀ w', w'.heap[g]? = some (.cells new t (0, 0)) → StoreTo g w w' → wpList P ops Q rest (a.put o.dst undef) w') : wpList P ops Q (o :: rest) a w :=
  wpList_store_F hgd ty x y ho g i [v] hx (by rw [hv]; exact cells_one h1) (by intro u hu; simp only [List.mem_singleton] at hu; subst hu; exact h1) t cur new hg hfit hi hnew h
theorem step_store_F {P : Program} {ops : Array Oper} {o : Oper} {a : Act} {w : World} {K : Act → World → Prop} {Q : Exit → Act → World → Prop} (hw : Region.wanted o (yielded ops a.tmps) = true) (ty : TypeId) (x y : Operand) (ho : o.op = .store ty x y)
    (g i : Nat) (vs : List Value) (hx : a.eval x = .pointer (some ⟨g, i, none⟩)) (hv : (a.eval y).cells = vs.toArray) (h1 : ∀ u ∈ vs, u.oneCell' = true)
    (t : TypeId) (cur new : Array Value) (hg : w.heap[g]? = some (.cells cur t (0, 0))) (hfit : i + vs.length ≤ cur.size) (hi : (P.info? ty).map (·.size) = some vs.length) (hnew : (cur.toList.take i ++ vs ++ cur.toList.drop (i + vs.length)).toArray = new)
    (h : ∀ w', w'.heap[g]? = some (.cells new t (0, 0)) → StoreTo g w w' → K (a.put o.dst undef) w') :
    if Region.wanted o (yielded ops a.tmps) = true then Oper.wp P o a w K Q else K (a.put o.dst undef) w := by
  rw [if_pos hw]
  unfold Oper.wp execOp
  simp only [ho, hx, Instr.storeAt, Instr.sureAddr, Sem.run_bind, Sem.run_pure, Result.andThen_ok, run_storeVar_F w g i t ty cur _ vs hv hg hi hfit h1]
  rw [hnew]
  exact h _ (setRow_heap w g cur _ t _ hg) (StoreTo.row w g new)
theorem own_some {w : World} {base n size : Nat} {e : TypeId} {v : Value} {xs : List Value} (h : w.ownsRow base e size v n xs) (hn : n ≠ 0) : ∃ g cap, v = .slice (some ⟨g, 0, none⟩) n cap := by
  rcases h.2 with ⟨rfl, h0⟩ | ⟨g, cap, cur, rfl, _⟩
  · exact absurd h0 hn
  · exact ⟨g, cap, rfl⟩
theorem own_up {w w1 : World} {base n size : Nat} {e : TypeId} {v : Value} {xs : List Value} (h : w.ownsRow base e size v n xs) (hb : Below w.heap.size w w1) : w1.ownsRow base e size v n xs := own_move h (fun k hk => hb.block k (own_lt h k hk))
theorem own_one {w : World} {base n size : Nat} {e : TypeId} {v : Value} {xs : List Value} (h : w.ownsRow base e size v n xs) : v.oneCell' = true := by
  rcases h.2 with ⟨rfl, _⟩ | ⟨g, cap, cur, rfl, _⟩ <;> rfl
theorem own_apart {w : World} {base n size : Nat} {e : TypeId} {v : Value} {xs : List Value} (h : w.ownsRow base e size v n xs) {k : Nat} (hk : k < base) : some k ≠ v.ownBlock := fun e => absurd (own_base h _ e.symm) (by omega)
end Go.Proofs.YtdjbbncoioghfaaGreatDoor.X
namespace Go.Proofs.YtdjbbncoioghfaaGreatDoor.X
open Go.RowKit Go.Proofs.YtdjbbncoioghfaaGreatDoorW.PrintWords Go.Proofs.YtdjbbncoioghfaaGreatDoorW.PrintMore
set_option linter.unusedVariables false
set_option linter.unusedSimpArgs false
/-- All but one block stay. -/
structure But (g : Nat) (w w' : World) : Prop where
  low : ∀ B, B ≤ g → Below B w w'
  blk : ∀ k, k < w.heap.size → k ≠ g → w'.heap[k]? = w.heap[k]?
def cnC (vin vout : Value) (d sk : Int) (ln cl : Bool) : Array Value := #[vin, vout, .int .i64 d, .int .i64 sk, .bool ln, .bool cl]
set_option maxRecDepth 100000 in
theorem new_calls (w : World) : Calls Tryz.prog 9 #[] w fun e w' => e = .returned (.pointer (some ⟨w.heap.size, 0, none⟩)) ∧ w'.heap[w.heap.size]? = some (.cells (cnC (.slice none 0 0) (.slice none 0 0) 0 0 false false) 59 (0, 0)) ∧ Below w.heap.size w w' := by
  have HB := Aside0.mk (Below.refl w.heap.size w)
  go_enter Tryz.func9, Tryz.ntmps9
  go_wp2
  go_ret
  exact ⟨rfl, blk_at_new _ _ _ rfl, (by repeat (first | (with_reducible first | exact HB.out | apply below_alloc | apply pw_below_drewN | apply below_drew1) | exact HB.out))⟩
theorem app_len (l m : List Int) : (l ++ m).length = l.length + m.length := List.length_append
theorem app_row {P : Program} {ops : Array Oper} {rest : List Oper} {o : Oper} {a : Act} {Q : Exit → Act → World → Prop} {w0 W : World} (base : Nat) (hgd : o.guard = none) (s x : Operand) (t e : TypeId)
    (ho : o.op = .call { callee := .builtin .append, args := #[s, x], argTypes := #[t, t] })
    (ht : P.underlying t = some (.slice e)) (hinfo : (P.info? e).map (fun i => (i.zero, i.size, i.bytes)) = some (some (.int .u8 0), 1, 1))
    (v : Value) (xs ys : List Int) (A : Option Addr) (c : Nat) (hs : a.eval s = v) (hx : a.eval x = .slice A ys.length c)
    (HO : W.ownsRow base e 1 v xs.length (encs (Value.int .u8) xs)) (HR : (Kd.int .u8).C W A ys.length ys) (HB : Below base w0 W) (hbase : base ≤ W.heap.size) (hl : xs.length + ys.length ≤ 1000000)
    (h : ∀ v1 w1, w1.ownsRow base e 1 v1 (xs ++ ys).length (encs (Value.int .u8) (xs ++ ys)) → Below base w0 w1 → wpList P ops Q rest (a.put o.dst v1) w1) :
    wpList P ops Q (o :: rest) a W := by
  obtain ⟨i0, hi, hzz⟩ := Option.map_eq_some_iff.1 hinfo
  simp only [Prod.mk.injEq] at hzz
  obtain ⟨hz0, hz1, hz2⟩ := hzz
  have hrun : ∃ v1 w1, (Builtin.append_ #[t, t] o.type #[v, .slice A ys.length c]).run P W = .ok v1 w1 ∧ w1.ownsRow base e 1 v1 (xs ++ ys).length (encs (Value.int .u8) (xs ++ ys)) ∧ W.grownBy w1 v.ownBlock := by
    rcases A with _ | ad
    · have h0 : ys.length = 0 := by
        rcases Nat.eq_zero_or_pos ys.length with h0 | h0
        · exact h0
        · obtain ⟨ad, h, _⟩ := HR.2.2 h0
          cases h
      obtain rfl : ys = [] := List.eq_nil_of_length_eq_zero h0
      refine ⟨v, W, ?_, by simpa using HO, World.grownBy.refl W _⟩
      rcases HO.2 with ⟨rfl, hn⟩ | ⟨g, cap, cur, rfl, _, _, hnc, _⟩
      · simp [Builtin.append_, run_underlying ht, sizeOf, typeInfo, hi, Builtin.lenOf, Builtin.firstCells]
      · simp [Builtin.append_, run_underlying ht, sizeOf, typeInfo, hi, Builtin.lenOf, Builtin.firstCells, hnc, storeCells]
    · have hcells : ∀ j u, (encs (Value.int .u8) ys)[j]? = some u → W.cell? (ad.add j) = some u := by
        intro j u hu
        have hj : j < ys.length := by
          rcases Nat.lt_or_ge j ys.length with h | h
          · exact h
          · simp [encs, List.getElem?_eq_none h] at hu
        obtain ⟨ad', h', hc⟩ := HR.2.2 (by omega)
        injection h' with h'
        subst h'
        obtain ⟨cs, hlen, hK, hcell⟩ := hc j _ (List.getElem?_eq_getElem hj)
        obtain rfl : cs = [Value.int .u8 ys[j]] := hK
        have := hcell 0 _ rfl
        simp [encs, List.getElem?_eq_getElem hj] at hu
        subst hu
        rw [← this]
        congr 2
        show j = j * 1 + 0
        omega
      obtain ⟨v1, w1, hr, h2, h3, _, h5⟩ := run_append_own_at (P := P) W base t o.type e i0 (.int .u8 0) 1 1 ht hi hz0 hz1 hz2 rfl (by omega) v xs.length (encs (Value.int .u8) xs) HO ad ys.length c (encs (Value.int .u8) ys) (by simp [encs]) hcells
        (by intro u hu; simp only [encs, List.mem_map] at hu; obtain ⟨q, _, rfl⟩ := hu; rfl) (by simp only [maxLen]; omega) (by omega) hbase
      exact ⟨v1, w1, hr, by simpa [encs] using h2, h3⟩
  obtain ⟨v1, w1, hr, hown, hg⟩ := hrun
  refine wpList_plain hgd fun K hK => ?_
  unfold Oper.wp execOp
  simp only [ho, resolve, invoke, builtin, Sem.run_bind, Sem.run_pure, Result.andThen_ok, List.map_toArray, List.map_cons, List.map_nil, hs, hx, hr]
  exact hK _ _ (h v1 w1 hown (HB.grown hg hbase (own_base HO)))
theorem own_rd {W : World} {base : Nat} {v : Value} {l : List Int} (h : W.ownsRow base 5 1 v l.length (encs (Value.int .u8) l)) : ∃ A c, v = .slice A l.length c ∧ l.length ≤ c ∧ (Kd.int .u8).C W A l.length l := Kd.R_reads (Kd.R_of_own (h1 := fun _ => rfl) (ok := fun _ => True) h (fun _ _ => trivial))
set_option maxRecDepth 100000 in
set_option maxHeartbeats 2000000 in
/-- Bytes that come, where there is room. -/
theorem feed_ok (l m : List Int) (vin vout : Value) (d sk : Int) (ln : Bool) (g : Nat) (B : Option Addr) (n c : Nat) (w : World) (hmn : m.length = n) (hg : w.heap[g]? = some (.cells (cnC (vin) (vout) (d) (sk) ln false) 59 (0, 0))) (ho : w.ownsRow (g + 1) 5 1 vin l.length (encs (Value.int .u8) l)) (hB : (Kd.int .u8).C w B m.length m) (hc : n ≤ c) (hn : l.length + m.length ≤ 16384) :
    Calls Tryz.prog 10 #[.pointer (some ⟨g, 0, none⟩), .slice B n c] w fun e w' => ∃ v, e = .returned (.int .i64 0) ∧ w'.heap[g]? = some (.cells (cnC (v) (vout) (d) (sk) ln false) 59 (0, 0)) ∧ w'.ownsRow (g + 1) 5 1 v (l ++ m).length (encs (Value.int .u8) (l ++ m)) ∧ Below g w w' := by
  subst hmn
  have BX := Aside0.mk hg
  have HO := Aside0.mk ho
  have HC := Aside0.mk hB
  have HG := Aside0.mk (blk_lt hg)
  obtain ⟨A0, c0, rfl, hl0, -⟩ := own_rd ho
  have t0 : w.cell? ⟨g, 0, none⟩ = some (.slice A0 l.length c0) := (blk_cell hg 0).trans rfl
  have t5 : w.cell? ⟨g, 5, none⟩ = some (.bool false) := (blk_cell hg 5).trans rfl
  have hfi : ¬ (16384 - (l.length : Int) < ↑m.length) := by omega
  have hne : Aside0 (some g ≠ (Value.slice A0 l.length c0).ownBlock) := ⟨own_apart ho (Nat.lt_succ_self g)⟩
  clear hg ho hB
  go_enter Tryz.func10, Tryz.ntmps10
  go_wp2_with (first | at_builtin; refine app_row (w0 := w) (g + 1) rfl _ _ 22 5 rfl Tryz.underlying22 (by kernel_rfl) (.slice A0 l.length c0) l m B c rfl rfl HO.out HC.out (Below.refl _ _) HG.out (by omega) ?_; intro v1 w1 hown hb1; have HO1 := Aside0.mk hown; have HB1 := Aside0.mk hb1; have BX1 := Aside0.mk ((hb1.block g (Nat.lt_succ_self g)).trans BX.out); clear hown hb1 | (refine wpList_store_1 rfl 22 _ _ rfl g 0 v1 rfl rfl (own_one HO1.out) 59 _ (cnC v1 vout d sk ln false) BX1.out (by simp [cnC]) (by kernel_rfl) rfl ?_; intro w2 hbk hst; have BX2 := Aside0.mk hbk; have HO2 := Aside0.mk (hst.own HO1.out (Nat.lt_succ_self g)); have HB2 := Aside0.mk (hst.up (HB1.out.mono (Nat.le_succ g)) (Nat.le_refl g)); clear hbk hst))
  go_ret
  first | exact ⟨v1, rfl, BX2.out, HO2.out, HB2.out⟩ | exact ⟨rfl, v1, BX2.out, (by simpa using HO2.out), HB2.out⟩
set_option maxRecDepth 100000 in
set_option maxHeartbeats 2000000 in
/-- Bytes that come, where there is none. -/
theorem feed_full (ln0 : Nat) (A0 : Option Addr) (c0 : Nat) (vout : Value) (d sk : Int) (ln : Bool) (g : Nat) (B : Option Addr) (n c : Nat) (w : World) (hg : w.heap[g]? = some (.cells (cnC (.slice A0 ln0 c0) (vout) (d) (sk) ln false) 59 (0, 0))) (h0 : ln0 ≤ 16384) (hn : 16384 < ln0 + n) :
    Calls Tryz.prog 10 #[.pointer (some ⟨g, 0, none⟩), .slice B n c] w fun e w' => e = .returned (.int .i64 5) ∧ Below w.heap.size w w' := by
  have t0 : w.cell? ⟨g, 0, none⟩ = some (.slice A0 ln0 c0) := (blk_cell hg 0).trans rfl
  have t5 : w.cell? ⟨g, 5, none⟩ = some (.bool false) := (blk_cell hg 5).trans rfl
  have hfi : (16384 - (ln0 : Int) < ↑n) := by omega
  have HB := Aside0.mk (Below.refl w.heap.size w)
  clear hg
  go_enter Tryz.func10, Tryz.ntmps10
  go_wp2
  go_ret
  exact ⟨rfl, (by repeat (first | (with_reducible first | exact HB.out | apply below_alloc | apply pw_below_drewN | apply below_drew1) | exact HB.out))⟩
set_option maxRecDepth 100000 in
theorem waits_calls (n : Nat) (A0 : Option Addr) (c0 : Nat) (vout : Value) (d sk : Int) (ln cl : Bool) (g : Nat) (w : World) (hg : w.heap[g]? = some (.cells (cnC (.slice A0 n c0) (vout) (d) (sk) ln cl) 59 (0, 0))) :
    Calls Tryz.prog 17 #[.pointer (some ⟨g, 0, none⟩)] w fun e w' => e = .returned (.int .i64 (n : Int)) ∧ Below w.heap.size w w' := by
  have t0 : w.cell? ⟨g, 0, none⟩ = some (.slice A0 n c0) := (blk_cell hg 0).trans rfl
  have HB := Aside0.mk (Below.refl w.heap.size w)
  clear hg
  go_enter Tryz.func17, Tryz.ntmps17
  go_wp2
  go_ret
  exact ⟨rfl, (by repeat (first | (with_reducible first | exact HB.out | apply below_alloc | apply pw_below_drewN | apply below_drew1) | exact HB.out))⟩
set_option maxRecDepth 100000 in
theorem dialect_calls (vin vout : Value) (d sk : Int) (ln cl : Bool) (g : Nat) (w : World) (hg : w.heap[g]? = some (.cells (cnC (vin) (vout) (d) (sk) ln cl) 59 (0, 0))) :
    Calls Tryz.prog 12 #[.pointer (some ⟨g, 0, none⟩)] w fun e w' => e = .returned (.int .i64 d) ∧ Below w.heap.size w w' := by
  have t0 : w.cell? ⟨g, 2, none⟩ = some (.int .i64 d) := (blk_cell hg 2).trans rfl
  have HB := Aside0.mk (Below.refl w.heap.size w)
  clear hg
  go_enter Tryz.func12, Tryz.ntmps12
  go_wp2
  go_ret
  exact ⟨rfl, (by repeat (first | (with_reducible first | exact HB.out | apply below_alloc | apply pw_below_drewN | apply below_drew1) | exact HB.out))⟩
set_option maxRecDepth 100000 in
theorem take_calls (n : Nat) (A0 : Option Addr) (c0 : Nat) (vin : Value) (d sk : Int) (ln cl : Bool) (g : Nat) (w : World) (hg : w.heap[g]? = some (.cells (cnC (vin) (.slice A0 n c0) (d) (sk) ln cl) 59 (0, 0))) :
    Calls Tryz.prog 16 #[.pointer (some ⟨g, 0, none⟩)] w fun e w' => e = .returned (.slice A0 n c0) ∧ w'.heap[g]? = some (.cells (cnC (vin) (.slice none 0 0) (d) (sk) ln cl) 59 (0, 0)) ∧ StoreTo g w w' := by
  have BX := Aside0.mk hg
  have t0 : w.cell? ⟨g, 1, none⟩ = some (.slice A0 n c0) := (blk_cell hg 1).trans rfl
  clear hg
  go_enter Tryz.func16, Tryz.ntmps16
  go_wp2_with (refine wpList_store_1 rfl 22 _ _ rfl g 1 (.slice none 0 0) rfl rfl rfl 59 _ (cnC vin (.slice none 0 0) d sk ln cl) BX.out (by simp [cnC]) (by kernel_rfl) rfl ?_; intro w2 hbk hst; have BX2 := Aside0.mk hbk; have HST := Aside0.mk hst; clear hbk hst)
  go_ret
  exact ⟨rfl, BX2.out, HST.out⟩
set_option maxRecDepth 100000 in
set_option maxHeartbeats 2000000 in
/-- Bytes that go, the first ones. -/
theorem say_calls (m : List Int) (vin : Value) (d sk : Int) (ln cl : Bool) (g : Nat) (B : Option Addr) (n c : Nat) (w : World) (hmn : m.length = n) (hg : w.heap[g]? = some (.cells (cnC (vin) (.slice none 0 0) (d) (sk) ln cl) 59 (0, 0))) (hB : (Kd.int .u8).C w B m.length m) (hc : n ≤ c) (hn : m.length ≤ 1000000) :
    Calls Tryz.prog 21 #[.pointer (some ⟨g, 0, none⟩), .slice B n c] w fun e w' => e = .returned (.tuple #[]) ∧ ∃ v, w'.heap[g]? = some (.cells (cnC (vin) (v) (d) (sk) ln cl) 59 (0, 0)) ∧ w'.ownsRow w.heap.size 5 1 v m.length (encs (Value.int .u8) m) ∧ But g w w' := by
  subst hmn
  have BX := Aside0.mk hg
  have HC := Aside0.mk hB
  have HG := Aside0.mk (blk_lt hg)
  have t0 : w.cell? ⟨g, 1, none⟩ = some (.slice none 0 0) := (blk_cell hg 1).trans rfl
  clear hg hB
  go_enter Tryz.func21, Tryz.ntmps21
  go_wp2_with (first | at_builtin; refine app_row (w0 := w) w.heap.size rfl _ _ 22 5 rfl Tryz.underlying22 (by kernel_rfl) (.slice none 0 0) [] m B c rfl rfl (own_nil _ _ _ _) HC.out (Below.refl _ _) (Nat.le_refl _) (by simpa using hn) ?_; intro v1 w1 hown hb1; have HO1 := Aside0.mk (show w1.ownsRow w.heap.size 5 1 v1 m.length (encs (Value.int .u8) m) from hown); have HB1 := Aside0.mk hb1; have BX1 := Aside0.mk ((hb1.block g HG.out).trans BX.out); clear hown hb1 | (refine wpList_store_1 rfl 22 _ _ rfl g 1 v1 rfl rfl (own_one HO1.out) 59 _ (cnC vin v1 d sk ln cl) BX1.out (by simp [cnC]) (by kernel_rfl) rfl ?_; intro w2 hbk hst; have BX2 := Aside0.mk hbk; have HO2 := Aside0.mk (hst.own HO1.out HG.out); have HST := Aside0.mk hst; clear hbk hst))
  go_end0
  exact ⟨rfl, v1, BX2.out, HO2.out, ⟨fun B hB => HST.out.up (HB1.out.mono (by have := HG.out; omega)) hB, fun k hk hkg => (HST.out.block k hkg).trans (HB1.out.block k hk)⟩⟩
end Go.Proofs.YtdjbbncoioghfaaGreatDoor.X
namespace Go.Proofs.YtdjbbncoioghfaaGreatDoor.X
open Go.RowKit Go.Proofs.YtdjbbncoioghfaaGreatDoorW.PrintWords Go.Proofs.YtdjbbncoioghfaaGreatDoorW.PrintMore
set_option linter.unusedVariables false
set_option linter.unusedSimpArgs false
theorem But.refl (g : Nat) (w : World) : But g w w := ⟨fun B _ => Below.refl _ _, fun _ _ _ => rfl⟩
theorem But.drew {g : Nat} {w w1 : World} (h : But g w w1) : But g w w1.drew := ⟨fun B hB => below_drew1 (h.low B hB), fun k hk hkg => h.blk k hk hkg⟩
theorem StoreTo.But_of {g : Nat} {w w1 w' : World} (h : StoreTo g w1 w') (hb : But g w w1) : But g w w' := ⟨fun B hB => h.up (hb.low B hB) hB, fun k hk hkg => (h.block k hkg).trans (hb.blk k hk hkg)⟩
theorem But.below {g : Nat} {w w1 w' : World} (hb : But g w w1) (h : Below w1.heap.size w1 w') (hg : g < w.heap.size) : But g w w' := ⟨fun B hB => (hb.low B hB).trans (h.mono (by have := (hb.low B hB).size; omega)), fun k hk hkg => (h.block k (by have := (hb.low 0 (Nat.zero_le _)).size; omega)).trans (hb.blk k hk hkg)⟩
theorem But.trans {g : Nat} {w w1 w' : World} (h : But g w w1) (h' : But g w1 w') : But g w w' := ⟨fun B hB => (h.low B hB).trans (h'.low B hB), fun k hk hkg => (h'.blk k (by have := (h.low 0 (Nat.zero_le _)).size; omega) hkg).trans (h.blk k hk hkg)⟩
theorem StoreTo.But {g : Nat} {w w' : World} (h : StoreTo g w w') : But g w w' := ⟨fun B hB => h.up (Below.refl _ _) hB, fun k _ hkg => h.block k hkg⟩
set_option maxRecDepth 100000 in
set_option maxHeartbeats 2000000 in
/-- Nothing to pass over. -/
theorem fpass0 (A : Option Addr) (n c : Nat) (w : World) : Calls Tryz.prog 32 #[.slice A n c, .int .i64 0, .bool false] w fun e w' => e = .returned (.tuple #[.int .i64 0, .int .i64 0, .bool false]) ∧ w' = w := by
  go_enter Tryz.func32, Tryz.ntmps32
  go_wp2
  go_ret3
  exact ⟨rfl, rfl⟩
set_option maxRecDepth 100000 in
set_option maxHeartbeats 2000000 in
theorem pass_calls (b o n c : Nat) (vout : Value) (d : Int) (g : Nat) (w : World) (hn : 0 < n) (hc : n ≤ c) (hg : w.heap[g]? = some (.cells (cnC (.slice (some ⟨b, o, none⟩) n c) (vout) (d) (0) false false) 59 (0, 0))) :
    Calls Tryz.prog 25 #[.pointer (some ⟨g, 0, none⟩)] w fun e w' => e = .returned (.bool true) ∧ w'.heap[g]? = some (.cells (cnC (.slice (some ⟨b, o, none⟩) n c) (vout) (d) (0) false false) 59 (0, 0)) ∧ But g w w' := by
  have BX := Aside0.mk hg
  have HG := Aside0.mk (blk_lt hg)
  have t0 : w.cell? ⟨g, 0, none⟩ = some (.slice (some ⟨b, o, none⟩) n c) := (blk_cell hg 0).trans rfl
  have t3 : w.cell? ⟨g, 3, none⟩ = some (.int .i64 0) := (blk_cell hg 3).trans rfl
  have t4 : w.cell? ⟨g, 4, none⟩ = some (.bool false) := (blk_cell hg 4).trans rfl
  have hc0 : ¬ (c = 0) := by omega
  have hnp : (0 : Int) < ↑n := by omega
  have hnc : (n : Int) ≤ ↑c := by omega
  have HFP := Aside0.mk (fun w' => fpass0 (some ⟨b, o, none⟩) n c w')
  have HB := Aside0.mk (Below.refl w.heap.size w)
  clear hg
  go_enter Tryz.func25, Tryz.ntmps25
  go_upto_region 1 with fail
  go_region_held3 (fun w' => w'.cell? ⟨g, 0, none⟩ = some (.slice (some ⟨b, o, none⟩) n c) ∧ w'.cell? ⟨g, 3, none⟩ = some (.int .i64 0) ∧ w'.cell? ⟨g, 4, none⟩ = some (.bool false)) (go_keep) (first | (go_at_call 32; (with_reducible refine (HFP.out _).mono ?_); rintro e w1 ⟨rfl, rfl⟩))
  go_wp2_with (first
    | (refine wpList_store_1 rfl 22 _ _ rfl g 0 (.slice (some ⟨b, o, none⟩) n c) rfl rfl rfl 59 _ (cnC (.slice (some ⟨b, o, none⟩) n c) vout d 0 false false) (blk_drew BX.out) (by simp [cnC]) (by kernel_rfl) rfl ?_; intro w2 hbk hst; have BX2 := Aside0.mk hbk; have HB2 := Aside0.mk (hst.But_of (But.drew (But.refl _ _))); clear hbk hst)
    | (refine wpList_store_1 rfl 3 _ _ rfl g 3 (.int .i64 0) rfl rfl rfl 59 _ (cnC (.slice (some ⟨b, o, none⟩) n c) vout d 0 false false) BX2.out (by simp [cnC]) (by kernel_rfl) rfl ?_; intro w3 hbk hst; have BX3 := Aside0.mk hbk; have HB3 := Aside0.mk (hst.But_of HB2.out); clear hbk hst)
    | (refine wpList_store_1 rfl 4 _ _ rfl g 4 (.bool false) rfl rfl rfl 59 _ (cnC (.slice (some ⟨b, o, none⟩) n c) vout d 0 false false) BX3.out (by simp [cnC]) (by kernel_rfl) rfl ?_; intro w4 hbk hst; have BX4 := Aside0.mk hbk; have HB4 := Aside0.mk (hst.But_of HB3.out); have q0 : w4.cell? ⟨g, 0, none⟩ = some (.slice (some ⟨b, o, none⟩) n c) := (blk_cell BX4.out 0).trans rfl; clear hbk hst))
  go_ret
  exact ⟨rfl, BX4.out, HB4.out⟩
set_option maxRecDepth 100000 in
set_option maxHeartbeats 2000000 in
theorem detect1 (b o n c : Nat) (vout : Value) (g : Nat) (w : World) (hn : 0 < n) (hc : n ≤ c) (hg : w.heap[g]? = some (.cells (cnC (.slice (some ⟨b, o, none⟩) n c) (vout) (0) (0) false false) 59 (0, 0))) (x : Int) (hx : w.cell? ⟨b, o, none⟩ = some (.int .u8 x)) (h1 : x ≠ 128) (h2 : x ≠ 109) :
    Calls Tryz.prog 26 #[.pointer (some ⟨g, 0, none⟩)] w fun e w' => e = .returned (.tuple #[]) ∧ w'.heap[g]? = some (.cells (cnC (.slice (some ⟨b, o, none⟩) n c) (vout) (1) (0) false false) 59 (0, 0)) ∧ StoreTo g w w' := by
  have BX := Aside0.mk hg
  have t0 : w.cell? ⟨g, 0, none⟩ = some (.slice (some ⟨b, o, none⟩) n c) := (blk_cell hg 0).trans rfl
  have t2 : w.cell? ⟨g, 2, none⟩ = some (.int .i64 0) := (blk_cell hg 2).trans rfl
  have hnp : (0 : Int) < ↑n := by omega
  clear hg
  go_enter Tryz.func26, Tryz.ntmps26
  go_wp2_with (refine wpList_store_1 rfl 3 _ _ rfl g 2 (.int .i64 1) rfl rfl rfl 59 _ (cnC (.slice (some ⟨b, o, none⟩) n c) vout 1 0 false false) BX.out (by simp [cnC]) (by kernel_rfl) rfl ?_; intro w2 hbk hst; have BX2 := Aside0.mk hbk; have HST := Aside0.mk hst; clear hbk hst)
  go_end0
  exact ⟨rfl, BX2.out, HST.out⟩
set_option maxRecDepth 100000 in
theorem detect2 (vin vout : Value) (g : Nat) (w : World) (hg : w.heap[g]? = some (.cells (cnC (vin) (vout) (1) (0) false false) 59 (0, 0))) :
    Calls Tryz.prog 26 #[.pointer (some ⟨g, 0, none⟩)] w fun e w' => e = .returned (.tuple #[]) ∧ Below w.heap.size w w' := by
  have t2 : w.cell? ⟨g, 2, none⟩ = some (.int .i64 1) := (blk_cell hg 2).trans rfl
  have HB := Aside0.mk (Below.refl w.heap.size w)
  clear hg
  go_enter Tryz.func26, Tryz.ntmps26
  go_wp2
  go_end0
  exact ⟨rfl, (by repeat (first | (with_reducible first | exact HB.out | apply below_alloc | apply pw_below_drewN | apply below_drew1) | exact HB.out))⟩
end Go.Proofs.YtdjbbncoioghfaaGreatDoor.X
namespace Go.Proofs.YtdjbbncoioghfaaGreatDoor.X
open Go.RowKit Go.Proofs.YtdjbbncoioghfaaGreatDoorW.PrintWords Go.Proofs.YtdjbbncoioghfaaGreatDoorW.PrintMore
set_option linter.unusedVariables false
set_option linter.unusedSimpArgs false
set_option maxRecDepth 100000 in
set_option maxHeartbeats 1000000 in
theorem gets_no (x : TextinLine) (cx : List Value) (op : Int) (A : Option Addr) (c : Nat) (F : Nat → Prop) (w : World) (hx : kTextinLine.K w x cx) :
    Calls Tryz.prog 89 #[.agg cx.toArray, .agg (cmdC op 0 ⟨#[]⟩).toArray, .slice A 0 c] w (StepR F w (stepF x.used (⟨#[69, 82, 82, 79, 82]⟩ : ByteArray))) := by
  have HB := Aside0.mk (Below.refl w.heap.size w)
  have HX := Aside0.mk hx
  obtain ⟨A1, c1, A4, c4, rfl, hl1, hg1, hl4, hg4⟩ := kTextinLine_open hx
  have HO : Aside0 (∀ w', Below w.heap.size w w' → Calls Tryz.prog 50 #[.agg #[.string x.verb, .slice A1 x.words.length c1, .bool x.quiet, .int .i64 x.used, .slice A4 x.rest.length c4], .string (⟨#[69, 82, 82, 79, 82]⟩ : ByteArray)] w' (StepR (fun k => k < w.heap.size ∧ F k) w' (stepF x.used (⟨#[69, 82, 82, 79, 82]⟩ : ByteArray)))) := ⟨fun w' hb => fault_calls x _ _ _ w' (kTextinLine.K_below hb HX.out) (by decide)⟩
  clear hx hg1 hg4
  unfold cmdC
  go_enter Tryz.func89, Tryz.ntmps89
  go_wp2_with (first | (refine wpList_store_K HK.out.now rfl 61 _ _ rfl (w.heap.size + 1 + 1) rfl rfl 61 _ BK.out (by kernel_rfl) rfl ?_; intro w2 hbk hlow hfar; have HK2 := Aside0.mk (hfar _ _ (fun h => absurd (h (by simp <;> omega)).1 (by omega)) HK.out); clear BK; have BK := Aside0.mk hbk; have HL := Aside0.mk hlow; clear hbk hlow hfar) | go_at_call 50; (with_reducible refine (HO.out _ (by repeat (first | (with_reducible first | exact HB.out | apply below_alloc | apply pw_below_drewN | apply below_drew1) | exact HB.out))).mono ?_); rintro e w1 ⟨⟨cs, rfl, hk⟩, hb⟩; have BK := Aside0.mk (blk_below (g := w.heap.size + 1 + 1) (by repeat (first | exact blk_at_new _ _ _ (by simp; done) | exact blk_at_new _ _ _ rfl | refine blk_alloc ?_ _ | refine blk_drew ?_ | refine blk_drewN ?_ _)) hb); have HBn := Aside0.mk (below_step (by repeat (first | (with_reducible first | exact HB.out | apply below_alloc | apply pw_below_drewN | apply below_drew1) | exact HB.out)) hb); clear HB; have HB := HBn; clear HBn; have HK := Aside0.mk hk; clear hb hk)
  ((try simp only [Exit.inBlock, Exit.then]); refine bodyPost_ret (results_cell_row rfl _ _ (w.heap.size + 1 + 1) 61 _ (0, 0) _ rfl BK.out Tryz.underlying61 rfl (by rw [List.size_toArray, kStep.K_len HK.out.now]; kernel_rfl)) rfl ?_)
  exact ⟨⟨_, rfl, HK2.out.mono (fun k hk h3 => (hk (by simp; omega)).2)⟩, HB.out.trans (HL.out _ (by omega))⟩
set_option maxRecDepth 100000 in
set_option maxHeartbeats 1000000 in
theorem gets_bad (x : TextinLine) (cx : List Value) (op : Int) (keys : List ByteArray) (A : Option Addr) (c : Nat) (F : Nat → Prop) (w : World) (hx : kTextinLine.K w x cx) (h0 : keys.length ≠ 0) (hl : keys.length ≤ 1000000) (hs : ∀ k ∈ keys, k.size ≤ 1000000)
    (hC : Kd.string.C w A keys.length keys) (hc : keys.length ≤ c) (hk : keysS keys = false) :
    Calls Tryz.prog 89 #[.agg cx.toArray, .agg (cmdC op 0 ⟨#[]⟩).toArray, .slice A keys.length c] w (StepR F w (stepF x.used badT)) := by
  have HB := Aside0.mk (Below.refl w.heap.size w)
  have HX := Aside0.mk hx
  have HC := Aside0.mk hC
  obtain ⟨A1, c1, A4, c4, rfl, hl1, hg1, hl4, hg4⟩ := kTextinLine_open hx
  have HO : Aside0 (∀ w', Below w.heap.size w w' → Calls Tryz.prog 50 #[.agg #[.string x.verb, .slice A1 x.words.length c1, .bool x.quiet, .int .i64 x.used, .slice A4 x.rest.length c4], .string (⟨#[67, 76, 73, 69, 78, 84, 95, 69, 82, 82, 79, 82, 32, 98, 97, 100, 32, 99, 111, 109, 109, 97, 110, 100, 32, 108, 105, 110, 101, 32, 102, 111, 114, 109, 97, 116]⟩ : ByteArray)] w' (StepR (fun k => k < w.heap.size ∧ F k) w' (stepF x.used badT))) := ⟨fun w' hb => fault_calls x _ _ _ w' (kTextinLine.K_below hb HX.out) (by decide)⟩
  have HCF : Aside0 (∀ w', Below w.heap.size w w' → Calls Tryz.prog 131 #[.slice A keys.length c, .func (.func 132) #[] #[]] w' fun e w'' => e = .returned (.bool (keys.any badK)) ∧ Below w'.heap.size w' w'') := ⟨fun w' hb => cfnS_calls keys A c w' (Kd.C_below HC.out hb) hc hl hs⟩
  clear hx hg1 hg4 hC hs
  have hkn : 0 < (keys.length : Int) := by omega
  by_cases hlt : 16 < keys.length
  · unfold cmdC
    clear hk
    go_enter Tryz.func89, Tryz.ntmps89
    go_wp2_with (first | (refine wpList_store_K HK.out.now rfl 61 _ _ rfl (w.heap.size + 1 + 1) rfl rfl 61 _ BK.out (by kernel_rfl) rfl ?_; intro w2 hbk hlow hfar; have HK2 := Aside0.mk (hfar _ _ (fun h => absurd (h (by simp <;> omega)).1 (by omega)) HK.out); clear BK; have BK := Aside0.mk hbk; have HL := Aside0.mk hlow; clear hbk hlow hfar) | go_at_call 50; (with_reducible refine (HO.out _ (by repeat (first | (with_reducible first | exact HB.out | apply below_alloc | apply pw_below_drewN | apply below_drew1) | exact HB.out))).mono ?_); rintro e w1 ⟨⟨cs, rfl, hk⟩, hb⟩; have BK := Aside0.mk (blk_below (g := w.heap.size + 1 + 1) (by repeat (first | exact blk_at_new _ _ _ (by simp; done) | exact blk_at_new _ _ _ rfl | refine blk_alloc ?_ _ | refine blk_drew ?_ | refine blk_drewN ?_ _)) hb); have HBn := Aside0.mk (below_step (by repeat (first | (with_reducible first | exact HB.out | apply below_alloc | apply pw_below_drewN | apply below_drew1) | exact HB.out)) hb); clear HB; have HB := HBn; clear HBn; have HK := Aside0.mk hk; clear hb hk)
    ((try simp only [Exit.inBlock, Exit.then]); refine bodyPost_ret (results_cell_row rfl _ _ (w.heap.size + 1 + 1) 61 _ (0, 0) _ rfl BK.out Tryz.underlying61 rfl (by rw [List.size_toArray, kStep.K_len HK.out.now]; kernel_rfl)) rfl ?_)
    exact ⟨⟨_, rfl, HK2.out.mono (fun k hk h3 => (hk (by simp; omega)).2)⟩, HB.out.trans (HL.out _ (by omega))⟩
  · have hany : keys.any badK = true := by
      unfold keysS at hk
      rw [decide_eq_true (by omega), Bool.true_and] at hk
      cases h : keys.any badK
      · rw [h] at hk; cases hk
      · rfl
    rw [hany] at HCF
    clear hk hany
    unfold cmdC
    go_enter Tryz.func89, Tryz.ntmps89
    go_wp2_with (first | (go_at_call 131; (with_reducible refine (HCF.out _ (by repeat (first | (with_reducible first | exact HB.out | apply below_alloc | apply pw_below_drewN | apply below_drew1) | exact HB.out))).mono ?_); rintro e w1 ⟨rfl, hb⟩; have BX := Aside0.mk (blk_below (g := w.heap.size) (o := .cells #[.string x.verb, .slice A1 x.words.length c1, .bool x.quiet, .int .i64 x.used, .slice A4 x.rest.length c4] 90 (0, 0)) (by repeat (first | exact blk_at_new _ _ _ (by simp; done) | exact blk_at_new _ _ _ rfl | refine blk_alloc ?_ _ | refine blk_drew ?_ | refine blk_drewN ?_ _)) hb); have BC := Aside0.mk (blk_below (g := w.heap.size + 1) (o := .cells (cmdC op 0 ⟨#[]⟩).toArray 57 (0, 0)) (by repeat (first | exact blk_at_new _ _ _ (by simp; done) | exact blk_at_new _ _ _ rfl | refine blk_alloc ?_ _ | refine blk_drew ?_ | refine blk_drewN ?_ _)) hb); have BR := Aside0.mk (blk_below (g := w.heap.size + 1 + 1) (by repeat (first | exact blk_at_new _ _ _ (by simp; done) | exact blk_at_new _ _ _ rfl | refine blk_alloc ?_ _ | refine blk_drew ?_ | refine blk_drewN ?_ _)) hb); have GLT := Aside0.mk (blk_lt BR.out); have HBn := Aside0.mk (below_step (by repeat (first | (with_reducible first | exact HB.out | apply below_alloc | apply pw_below_drewN | apply below_drew1) | exact HB.out)) hb); clear HB; have HB := HBn; clear HBn; clear hb; have t0 : w1.cell? ⟨w.heap.size, 0, none⟩ = some (.string x.verb) := (blk_cell BX.out 0).trans rfl; have t1 : w1.cell? ⟨w.heap.size, 1, none⟩ = some (.slice A1 x.words.length c1) := (blk_cell BX.out 1).trans rfl; have t2 : w1.cell? ⟨w.heap.size, 2, none⟩ = some (.bool x.quiet) := (blk_cell BX.out 2).trans rfl; have t3 : w1.cell? ⟨w.heap.size, 3, none⟩ = some (.int .i64 x.used) := (blk_cell BX.out 3).trans rfl; have t4 : w1.cell? ⟨w.heap.size, 4, none⟩ = some (.slice A4 x.rest.length c4) := (blk_cell BX.out 4).trans rfl; have hx1 : w.heap.size < w1.heap.size := blk_lt BX.out) | (refine wpList_store_K HK.out.now rfl 61 _ _ rfl (w.heap.size + 1 + 1) rfl rfl 61 _ BK.out (by kernel_rfl) rfl ?_; intro w2 hbk hlow hfar; have HK2 := Aside0.mk (hfar _ _ (fun h => absurd (h GLT.out).1 (by omega)) HK.out); clear BK; have BK := Aside0.mk hbk; have HL := Aside0.mk hlow; clear hbk hlow hfar) | go_at_call 50; (with_reducible refine (HO.out _ (by repeat (first | (with_reducible first | exact HB.out | apply below_alloc | apply pw_below_drewN | apply below_drew1) | exact HB.out))).mono ?_); rintro e w1 ⟨⟨cs, rfl, hk⟩, hb⟩; have BK := Aside0.mk (blk_below BR.out hb); have HBn := Aside0.mk (below_step (by repeat (first | (with_reducible first | exact HB.out | apply below_alloc | apply pw_below_drewN | apply below_drew1) | exact HB.out)) hb); clear HB; have HB := HBn; clear HBn; have HK := Aside0.mk hk; clear hb hk)
    ((try simp only [Exit.inBlock, Exit.then]); refine bodyPost_ret (results_cell_row rfl _ _ (w.heap.size + 1 + 1) 61 _ (0, 0) _ rfl BK.out Tryz.underlying61 rfl (by rw [List.size_toArray, kStep.K_len HK.out.now]; kernel_rfl)) rfl ?_)
    exact ⟨⟨_, rfl, HK2.out.mono (fun k hk h3 => (hk (by have := GLT.out; omega)).2)⟩, HB.out.trans (HL.out _ (by omega))⟩
def reqC (V : Value) (verb : ByteArray) (q : Bool) (A : Option Addr) (n c : Nat) : Array Value := #[V, .int .i64 1, .string verb, .int .i64 0, .int .u32 0, .bool false, .bool q, .string ⟨#[]⟩, .slice none 0 0, .slice A n c, .bool false]
def zStepC : Array Value := #[.slice none 0 0, .int .i64 0, .string ⟨#[]⟩, .int .i64 0, .int .u32 0, .bool false, .bool false, .string ⟨#[]⟩, .slice none 0 0, .slice none 0 0, .bool false, .string ⟨#[]⟩, .int .i64 0, .int .i64 0, .bool false, .int .i64 0]
set_option maxRecDepth 100000 in
set_option maxHeartbeats 1000000 in
theorem gets_ok (x : TextinLine) (cx : List Value) (op : Int) (keys : List ByteArray) (A : Option Addr) (c : Nat) (w : World) (hx : kTextinLine.K w x cx) (h0 : keys.length ≠ 0) (hs : ∀ k ∈ keys, k.size ≤ 1000000) (hv : x.verb.size ≤ 1000000)
    (hC : Kd.string.C w A keys.length keys) (hc : keys.length ≤ c) (hk : keysS keys = true) :
    Calls Tryz.prog 89 #[.agg cx.toArray, .agg (cmdC op 0 ⟨#[]⟩).toArray, .slice A keys.length c] w fun e w' => ∃ v, e = .returned (.agg #[v, .int .i64 1, .string x.verb, .int .i64 0, .int .u32 0, .bool false, .bool (Lib.hasSuffix x.verb.data.toList [115]), .string ⟨#[]⟩, .slice none 0 0, .slice A keys.length c, .bool false, .string ⟨#[]⟩, .int .i64 x.used, .int .i64 0, .bool false, .int .i64 0])
      ∧ w'.ownsRow w.heap.size 57 10 v keys.length (rowsC op 0 keys) ∧ Below w.heap.size w w' := by
  have HB := Aside0.mk (Below.refl w.heap.size w)
  have HC := Aside0.mk hC
  obtain ⟨A1, c1, A4, c4, rfl, hl1, hg1, hl4, hg4⟩ := kTextinLine_open hx
  have hl16 : keys.length ≤ 16 := by
    unfold keysS at hk
    rw [Bool.and_eq_true] at hk
    exact of_decide_eq_true hk.1
  have hany : keys.any badK = false := by
    unfold keysS at hk
    rw [Bool.and_eq_true] at hk
    cases h : keys.any badK
    · rfl
    · rw [h] at hk; cases hk.2
  have HCF : Aside0 (∀ w', Below w.heap.size w w' → Calls Tryz.prog 131 #[.slice A keys.length c, .func (.func 132) #[] #[]] w' fun e w'' => e = .returned (.bool (keys.any badK)) ∧ Below w'.heap.size w' w'') := ⟨fun w' hb => cfnS_calls keys A c w' (Kd.C_below HC.out hb) hc (by omega) hs⟩
  have HHS : Aside0 (∀ w', Calls Tryz.prog 133 #[.string x.verb, .string (⟨#[115]⟩ : ByteArray)] w' fun e w'' => e = .returned (.bool (Lib.hasSuffix x.verb.data.toList [115])) ∧ w'' = w') := ⟨fun w' => Tryz.strings_HasSuffix x.verb _ w' (by omega)⟩
  rw [hany] at HCF
  obtain ⟨q, hq⟩ : ∃ q, Lib.hasSuffix x.verb.data.toList [115] = q := ⟨_, rfl⟩
  rw [hq] at HHS ⊢
  clear hx hg1 hg4 hC hs hk hany hq
  have hkn : 0 < (keys.length : Int) := by omega
  unfold cmdC
  go_enter Tryz.func89, Tryz.ntmps89
  go_wp2_with (first | (go_at_call 131; (with_reducible refine (HCF.out _ (by repeat (first | (with_reducible first | exact HB.out | apply below_alloc | apply pw_below_drewN | apply below_drew1) | exact HB.out))).mono ?_); rintro e w1 ⟨rfl, hb⟩; have BX := Aside0.mk (blk_below (g := w.heap.size) (o := .cells #[.string x.verb, .slice A1 x.words.length c1, .bool x.quiet, .int .i64 x.used, .slice A4 x.rest.length c4] 90 (0, 0)) (by repeat (first | exact blk_at_new _ _ _ (by simp; done) | exact blk_at_new _ _ _ rfl | refine blk_alloc ?_ _ | refine blk_drew ?_ | refine blk_drewN ?_ _)) hb); have BC := Aside0.mk (blk_below (g := w.heap.size + 1) (o := .cells (cmdC op 0 ⟨#[]⟩).toArray 57 (0, 0)) (by repeat (first | exact blk_at_new _ _ _ (by simp; done) | exact blk_at_new _ _ _ rfl | refine blk_alloc ?_ _ | refine blk_drew ?_ | refine blk_drewN ?_ _)) hb); have BR := Aside0.mk (blk_below (g := w.heap.size + 1 + 1) (by repeat (first | exact blk_at_new _ _ _ (by simp; done) | exact blk_at_new _ _ _ rfl | refine blk_alloc ?_ _ | refine blk_drew ?_ | refine blk_drewN ?_ _)) hb); have GLT := Aside0.mk (blk_lt BR.out); have HBn := Aside0.mk (below_step (by repeat (first | (with_reducible first | exact HB.out | apply below_alloc | apply pw_below_drewN | apply below_drew1) | exact HB.out)) hb); clear HB; have HB := HBn; clear HBn; clear hb; have t0 : w1.cell? ⟨w.heap.size, 0, none⟩ = some (.string x.verb) := (blk_cell BX.out 0).trans rfl; have t1 : w1.cell? ⟨w.heap.size, 1, none⟩ = some (.slice A1 x.words.length c1) := (blk_cell BX.out 1).trans rfl; have t2 : w1.cell? ⟨w.heap.size, 2, none⟩ = some (.bool x.quiet) := (blk_cell BX.out 2).trans rfl; have t3 : w1.cell? ⟨w.heap.size, 3, none⟩ = some (.int .i64 x.used) := (blk_cell BX.out 3).trans rfl; have t4 : w1.cell? ⟨w.heap.size, 4, none⟩ = some (.slice A4 x.rest.length c4) := (blk_cell BX.out 4).trans rfl; have hx1 : w.heap.size < w1.heap.size := blk_lt BX.out))
  go_region_held3 (fun w' => w'.cell? ⟨w.heap.size, 0, none⟩ = some (.string x.verb)) (go_keep) (first | (go_at_call 133; (with_reducible refine (HHS.out _).mono ?_); rintro e w' ⟨rfl, rfl⟩))
  all_goals
    obtain ⟨W, hW⟩ : ∃ W, (w1.alloc (.cells (reqC (.slice none 0 0) x.verb q A keys.length c) 34 (0, 0))).drew = W := ⟨_, rfl⟩
    have hW2 := hW
    unfold reqC at hW2
    rw [hW2]
    have BQ0 := Aside0.mk (show W.heap[w1.heap.size]? = _ from hW ▸ blk_drew (blk_at_new _ _ _ rfl))
    have BX0 := Aside0.mk (show W.heap[w.heap.size]? = _ from hW ▸ blk_drew (blk_alloc BX.out _))
    have BC0 := Aside0.mk (show W.heap[w.heap.size + 1]? = _ from hW ▸ blk_drew (blk_alloc BC.out _))
    have BR0 := Aside0.mk (show W.heap[w.heap.size + 1 + 1]? = _ from hW ▸ blk_drew (blk_alloc BR.out _))
    have HB0 : Aside0 (Below w.heap.size w W) := ⟨hW ▸ (by repeat (first | (with_reducible first | exact HB.out | apply below_alloc | apply pw_below_drewN | apply below_drew1) | exact HB.out))⟩
    have hgl : w.heap.size + 1 + 1 < w1.heap.size := GLT.out
    clear BX BC BR GLT HB t0 t1 t2 t3 t4 hx1 hW hW2 HCF HHS
    obtain ⟨g, hg⟩ : ∃ g, w1.heap.size = g := ⟨_, rfl⟩
    rw [hg] at BQ0 hgl
    rw [hg]
    clear hg
    go_wp2
    go_loopw [34] (fun v wr => ∃ k : Nat, v = .int .i64 k ∧ k ≤ keys.length ∧ Aside0 (∃ V kk, wr.heap[g]? = some (.cells (reqC V x.verb q A keys.length c) 34 (0, 0)) ∧ wr.heap[w.heap.size + 1]? = some (.cells (cmdC op 0 kk).toArray 57 (0, 0)) ∧ wr.ownsRow (g + 1) 57 10 V k (rowsC op 0 (keys.take k)) ∧ wr.heap[w.heap.size]? = some (.cells #[.string x.verb, .slice A1 x.words.length c1, .bool x.quiet, .int .i64 x.used, .slice A4 x.rest.length c4] 90 (0, 0)) ∧ wr.heap[w.heap.size + 1 + 1]? = some (.cells zStepC 61 (0, 0)) ∧ Below w.heap.size w wr ∧ g < wr.heap.size)) (fun v _ => keys.length - (intOf v).toNat)
    case atStart => exact ⟨0, rfl, by omega, ⟨⟨_, _, BQ0.out, BC0.out, World.ownsRow_nil _ _ _ _, BX0.out, BR0.out, HB0.out, blk_lt BQ0.out⟩⟩⟩
    case round =>
      obtain ⟨k, rfl, hk, HI⟩ := hrel
      obtain ⟨V, kk, hq, hc0, ho, hx0, hr0, hB, hgr⟩ := HI.out
      have BQ := Aside0.mk hq
      have BC := Aside0.mk hc0
      have HOw := Aside0.mk ho
      have BX := Aside0.mk hx0
      have BR := Aside0.mk hr0
      have HB := Aside0.mk hB
      clear hq hc0 ho hx0 hr0 hB HI BQ0 BX0 BC0 BR0 HB0
      by_cases hlt : k < keys.length
      · obtain ⟨b, o, rfl, hb0, hcell⟩ := S_cell (Kd.C_below HC.out HB.out) k hlt
        have htk : keys.take (k + 1) = keys.take k ++ [keys.getD k ⟨#[]⟩] := by
          rw [List.take_succ_eq_append_getElem hlt, List.getD_eq_getElem?_getD, List.getElem?_eq_getElem hlt]; rfl
        obtain ⟨kv, hkv⟩ : ∃ v, keys.getD k ⟨#[]⟩ = v := ⟨_, rfl⟩
        rw [hkv] at hcell htk
        have HTK := Aside0.mk htk
        clear htk hkv
        go_wp2_with (first | (refine wpList_store_1 rfl 9 _ _ rfl (w.heap.size + 1) 1 (.string kv) rfl rfl rfl 57 _ (cmdC op 0 kv).toArray BC.out (by simp [cmdC]) (by kernel_rfl) rfl ?_; intro w2 hbk hst; have BC2 := Aside0.mk hbk; have BQ2 := Aside0.mk (hst.blk BQ.out (by omega)); have BX2 := Aside0.mk (hst.blk BX.out (by omega)); have BR2 := Aside0.mk (hst.blk BR.out (by omega)); have HO2 := Aside0.mk (hst.own HOw.out (by omega)); have HB2 := Aside0.mk (hst.up HB.out (by omega)); have hg2 : g < w2.heap.size := blk_lt BQ2.out; clear hbk hst; have e0 : w2.cell? ⟨g, 0, none⟩ = some V := (blk_cell BQ2.out 0).trans rfl; have d0 : w2.cell? ⟨w.heap.size + 1, 0, none⟩ = some (.int .i64 op) := (blk_cell BC2.out 0).trans rfl; have d1 : w2.cell? ⟨w.heap.size + 1, 1, none⟩ = some (.string kv) := (blk_cell BC2.out 1).trans rfl; have d2 : w2.cell? ⟨w.heap.size + 1, 2, none⟩ = some (.slice none 0 0) := (blk_cell BC2.out 2).trans rfl; have d3 : w2.cell? ⟨w.heap.size + 1, 3, none⟩ = some (.int .u32 0) := (blk_cell BC2.out 3).trans rfl; have d4 : w2.cell? ⟨w.heap.size + 1, 4, none⟩ = some (.int .i64 0) := (blk_cell BC2.out 4).trans rfl; have d5 : w2.cell? ⟨w.heap.size + 1, 5, none⟩ = some (.int .u64 0) := (blk_cell BC2.out 5).trans rfl; have d6 : w2.cell? ⟨w.heap.size + 1, 6, none⟩ = some (.int .u64 0) := (blk_cell BC2.out 6).trans rfl; have d7 : w2.cell? ⟨w.heap.size + 1, 7, none⟩ = some (.int .u64 0) := (blk_cell BC2.out 7).trans rfl; have d8 : w2.cell? ⟨w.heap.size + 1, 8, none⟩ = some (.bool false) := (blk_cell BC2.out 8).trans rfl; have d9 : w2.cell? ⟨w.heap.size + 1, 9, none⟩ = some (.bool false) := (blk_cell BC2.out 9).trans rfl) | ((with_reducible refine gate_builtin (b := .append) (xs := #[.tmp 40, .tmp 42]) rfl ?_); at_builtin; refine print_append_cells (w0 := w2) (W := w2) (g + 1) rfl (.tmp 40) (.tmp 42) 28 57 _ 10 96 rfl Tryz.underlying28 info57 rfl (by decide) (by decide) V k (rowsC op 0 (keys.take k)) (cmdC op 0 kv) rfl rfl rfl (cmdC_one _ _ _) HO2.out (Below.refl _ _) (by omega) (by omega) ?_; intro v1 w3 ho3 hb3 hg3 hat3; have BQ3 := Aside0.mk (blk_grown BQ2.out hg3 (own_apart HO2.out (by omega))); have BX3 := Aside0.mk (blk_grown BX2.out hg3 (own_apart HO2.out (by omega))); have BC3 := Aside0.mk (blk_grown BC2.out hg3 (own_apart HO2.out (by omega))); have BR3 := Aside0.mk (blk_grown BR2.out hg3 (own_apart HO2.out (by omega))); have HO3 := Aside0.mk ho3; have HB3 := Aside0.mk (HB2.out.trans (hb3.mono (by omega))); clear ho3 hb3 hg3 hat3) | (refine wpList_store_1 rfl 28 _ _ rfl g 0 v1 rfl rfl (own_one HO3.out) 34 _ (reqC v1 x.verb q _ keys.length c) BQ3.out (by simp [reqC]) (by kernel_rfl) rfl ?_; intro w4 hbk hst; have BQ4 := Aside0.mk hbk; have BC4 := Aside0.mk (hst.blk BC3.out (by omega)); have BX4 := Aside0.mk (hst.blk BX3.out (by omega)); have BR4 := Aside0.mk (hst.blk BR3.out (by omega)); have HO4 := Aside0.mk (hst.own HO3.out (by omega)); have HB4 := Aside0.mk (hst.up HB3.out (by omega)); clear hbk hst))
        go_round
        case rel => exact ⟨k + 1, by first | rfl | simp, by omega, ⟨⟨v1, kv, BQ4.out, BC4.out, by rw [HTK.out, rowsC_snoc]; exact HO4.out, BX4.out, BR4.out, HB4.out, by have := blk_lt BQ4.out; exact this⟩⟩⟩
        case measure => simp [intOf]; omega
      · have hkl : k = keys.length := by omega
        subst hkl
        have HO1 := HOw.out
        rw [List.take_of_length_le (Nat.le_refl _)] at HO1
        obtain ⟨A', c', rfl, hc', -⟩ := own_C HO1
        have HO2 := Aside0.mk HO1
        clear HO1 HOw
        have e0 : wr.cell? ⟨g, 0, none⟩ = some (.slice A' keys.length c') := (blk_cell BQ.out 0).trans rfl; have e1 : wr.cell? ⟨g, 1, none⟩ = some (.int .i64 1) := (blk_cell BQ.out 1).trans rfl; have e2 : wr.cell? ⟨g, 2, none⟩ = some (.string x.verb) := (blk_cell BQ.out 2).trans rfl; have e3 : wr.cell? ⟨g, 3, none⟩ = some (.int .i64 0) := (blk_cell BQ.out 3).trans rfl; have e4 : wr.cell? ⟨g, 4, none⟩ = some (.int .u32 0) := (blk_cell BQ.out 4).trans rfl; have e5 : wr.cell? ⟨g, 5, none⟩ = some (.bool false) := (blk_cell BQ.out 5).trans rfl; have e6 : wr.cell? ⟨g, 6, none⟩ = some (.bool q) := (blk_cell BQ.out 6).trans rfl; have e7 : wr.cell? ⟨g, 7, none⟩ = some (.string ⟨#[]⟩) := (blk_cell BQ.out 7).trans rfl; have e8 : wr.cell? ⟨g, 8, none⟩ = some (.slice none 0 0) := (blk_cell BQ.out 8).trans rfl; have e9 : wr.cell? ⟨g, 9, none⟩ = some (.slice A keys.length c) := (blk_cell BQ.out 9).trans rfl; have e10 : wr.cell? ⟨g, 10, none⟩ = some (.bool false) := (blk_cell BQ.out 10).trans rfl
        have t3 : wr.cell? ⟨w.heap.size, 3, none⟩ = some (.int .i64 x.used) := (blk_cell BX.out 3).trans rfl
        go_wp2_with (first | (refine wpList_store_F rfl 61 _ _ rfl (w.heap.size + 1 + 1) 0 _ rfl rfl (by simp [Value.oneCell']) 61 _ _ BR.out (by simp [zStepC]) (by kernel_rfl) rfl ?_; intro w5 hbk hst; have BR5 := Aside0.mk hbk; have HO5 := Aside0.mk (hst.own HO2.out (by omega)); have HB5 := Aside0.mk (hst.up HB.out (by omega)); clear hbk hst))
        (try simp only [Exit.inBlock, Exit.then]); refine bodyPost_ret (results_cell_row rfl _ _ (w.heap.size + 1 + 1) 61 _ (0, 0) _ rfl BR5.out Tryz.underlying61 rfl (by kernel_rfl)) rfl ?_
        exact ⟨_, rfl, own_weaken HO5.out (by omega), HB5.out⟩
end Go.Proofs.YtdjbbncoioghfaaGreatDoor.X
namespace Go.Proofs.YtdjbbncoioghfaaGreatDoor.X
open Go.RowKit Go.Proofs.YtdjbbncoioghfaaGreatDoorW.PrintWords Go.Proofs.YtdjbbncoioghfaaGreatDoorW.PrintMore
set_option linter.unusedVariables false
set_option linter.unusedSimpArgs false
def endsS (verb : ByteArray) : Bool := Lib.hasSuffix verb.data.toList [115]
def stepG (used : Int) (verb : ByteArray) (op exp : Int) (keys : List ByteArray) : Step := { zStep with req := ⟨keys.map (cmdK op exp 0), { zForm with dialect := 1, verb := verb, withcas := endsS verb, keys := keys }⟩, used := used }
def getsS (verb : ByteArray) (used : Int) (keys : List ByteArray) (op : Int) : Step :=
  if keys.length = 0 then stepF used (⟨#[69, 82, 82, 79, 82]⟩ : ByteArray) else if keysS keys = false then stepF used badT else stepG used verb op 0 keys
/-- The cells of an answer to gets. -/
def stepGC (used : Int) (verb : ByteArray) (v : Value) (A : Option Addr) (n c : Nat) : List Value := [v, .int .i64 1, .string verb, .int .i64 0, .int .u32 0, .bool false, .bool (endsS verb), .string ⟨#[]⟩, .slice none 0 0, .slice A n c, .bool false, .string ⟨#[]⟩, .int .i64 used, .int .i64 0, .bool false, .int .i64 0]
theorem stepG_K {W : World} {base : Nat} {v : Value} {used op exp : Int} {verb : ByteArray} {keys : List ByteArray} {A : Option Addr} {c : Nat} (ho : W.ownsRow base 57 10 v keys.length (rowsC op exp keys)) (hC : Kd.string.C W A keys.length keys) (hc : keys.length ≤ c) :
    kStep.K W (stepG used verb op exp keys) (stepGC used verb v A keys.length c) := by
  obtain ⟨A', c', rfl, hc', hC'⟩ := own_C ho
  have hl : (keys.map (cmdK op exp 0)).length = keys.length := List.length_map _
  have := kStep_mk W (stepG used verb op exp keys) (A0 := A') (c0 := c') (by show (keys.map _).length ≤ _; rw [hl]; exact hc') (by show Kd.C _ _ _ (keys.map _).length _; rw [hl]; exact hC') (Nat.le_refl _) (C_nil _ _) hc hC
  have e : (stepG used verb op exp keys).req.cmds.length = keys.length := hl
  rw [e] at this
  exact this
theorem stepG_R {F : Nat → Prop} {w w' : World} {v : Value} {used op exp : Int} {verb : ByteArray} {keys : List ByteArray} {A : Option Addr} {c : Nat} (ho : w'.ownsRow w.heap.size 57 10 v keys.length (rowsC op exp keys)) (hb : Below w.heap.size w w') (hC : HolF F w (fun w2 => Kd.string.C w2 A keys.length keys)) (hc : keys.length ≤ c) :
    StepR F w (stepG used verb op exp keys) (.returned (.agg (stepGC used verb v A keys.length c).toArray)) w' :=
  ⟨⟨_, rfl, fun w2 hb2 hk2 => stepG_K (own_keep ho (fun k hk hlt => hk2 k hlt (fun h => absurd h (by omega)))) (hC.back hb hb2 hk2) hc⟩, hb⟩
theorem gets_calls (x : TextinLine) (cx : List Value) (op : Int) (keys : List ByteArray) (A : Option Addr) (c : Nat) (F : Nat → Prop) (w : World) (hx : kTextinLine.K w x cx) (hl : keys.length ≤ 1000000) (hs : ∀ k ∈ keys, k.size ≤ 1000000) (hv : x.verb.size ≤ 1000000)
    (hC : HolF F w (fun w2 => Kd.string.C w2 A keys.length keys)) (hc : keys.length ≤ c) :
    Calls Tryz.prog 89 #[.agg cx.toArray, .agg (cmdC op 0 ⟨#[]⟩).toArray, .slice A keys.length c] w (StepR F w (getsS x.verb x.used keys op)) := by
  unfold getsS
  by_cases h0 : keys.length = 0
  · rw [if_pos h0, h0]
    exact gets_no x cx op A c F w hx
  rw [if_neg h0]
  cases hk : keysS keys
  · rw [if_pos rfl]
    exact gets_bad x cx op keys A c F w hx h0 hl hs hC.now hc hk
  · rw [if_neg (by decide)]
    refine (gets_ok x cx op keys A c w hx h0 hs hv hC.now hc hk).mono ?_
    rintro e w' ⟨v, rfl, ho, hb⟩
    exact stepG_R ho hb hC hc
theorem own_set {w : World} {base e size n g cap : Nat} {xs : List Value} (h : w.ownsRow base e size (.slice (some ⟨g, 0, none⟩) n cap) n xs) (j : Nat) (hj : j < xs.length) :
    ∃ cur, w.heap[g]? = some (.cells cur e (0, 0)) ∧ j + 1 ≤ cur.size ∧ base ≤ g ∧ ∀ (u : Value) (w' : World), w'.heap[g]? = some (.cells (cur.toList.take j ++ [u] ++ cur.toList.drop (j + 1)).toArray e (0, 0)) → w'.ownsRow base e size (.slice (some ⟨g, 0, none⟩) n cap) n (xs.set j u) := by
  obtain ⟨hl, h2⟩ := h
  rcases h2 with ⟨h2, _⟩ | ⟨g', cap', cur, he, hb, hh, hn, hcm, hcs, htake⟩
  · cases h2
  obtain ⟨rfl, rfl⟩ : g = g' ∧ cap = cap' := by simpa using he
  have hjc : j < cur.toList.length := by
    rw [← htake, List.length_take] at hj
    omega
  refine ⟨cur, hh, by rw [Array.length_toList] at hjc; omega, hb, fun u w' hw => ?_⟩
  have e1 : cur.toList.take j ++ [u] ++ cur.toList.drop (j + 1) = cur.toList.set j u := by
    rw [List.set_eq_take_append_cons_drop, if_pos hjc]
    simp
  rw [e1] at hw
  refine ⟨by rw [List.length_set]; exact hl, .inr ⟨g, cap, _, rfl, hb, hw, hn, hcm, ?_, ?_⟩⟩
  · rw [List.size_toArray, List.length_set, Array.length_toList]; exact hcs
  · show (cur.toList.set j u).take _ = _
    rw [← htake, List.take_set]
theorem rowsC_cons (op exp : Int) (k : ByteArray) (l : List ByteArray) : rowsC op exp (k :: l) = cmdC op exp k ++ rowsC op exp l := rfl
theorem rowsC_len (op exp : Int) : ∀ l : List ByteArray, (rowsC op exp l).length = l.length * 10
  | [] => rfl
  | k :: l => by
    rw [rowsC_cons, List.length_append, rowsC_len op exp l, List.length_cons]
    show 10 + _ = _
    omega
theorem rowsC_exp (op z : Int) (keys : List ByteArray) (k : Nat) (hk : k < keys.length) :
    (rowsC op z (keys.take k) ++ rowsC op 0 (keys.drop k)).set (k * 10 + 4) (.int .i64 z) = rowsC op z (keys.take (k + 1)) ++ rowsC op 0 (keys.drop (k + 1)) := by
  rw [List.drop_eq_getElem_cons hk, rowsC_cons, List.take_succ_eq_append_getElem hk, rowsC_snoc]
  have hl : (rowsC op z (keys.take k)).length = k * 10 := by rw [rowsC_len, List.length_take]; omega
  rw [List.set_append_right _ _ (by omega), hl, List.append_assoc]
  congr 1
  rw [show k * 10 + 4 - k * 10 = 4 by omega]
  rfl
theorem add_plain (b o k : Nat) : (⟨b, o, none⟩ : Addr).add k = ⟨b, o + k, none⟩ := by
  unfold Addr.add
  split <;> simp_all
theorem C_tail {w : World} {b o n : Nat} {v : ByteArray} {l : List ByteArray} (h : Kd.string.C w (some ⟨b, o, none⟩) (n + 1) (v :: l)) (hn : l.length = n) : Kd.string.C w (some ⟨b, o + 1, none⟩) n l := by
  obtain ⟨h1, h2, h3⟩ := h
  refine ⟨hn, by omega, fun h0 => ⟨_, rfl, fun j p hj => ?_⟩⟩
  obtain ⟨ad, ha, hc⟩ := h3 (by omega)
  obtain rfl := Option.some.inj ha
  obtain ⟨cs, hlen, hK, hcell⟩ := hc (j + 1) p hj
  refine ⟨cs, hlen, hK, fun i u hu => ?_⟩
  rw [← hcell i u hu]
  obtain rfl : cs = [Value.string p] := hK
  have hi : i = 0 := by
    have := (List.getElem?_eq_some_iff.1 hu).1
    simpa using this
  subst hi
  rw [add_plain, add_plain]
  congr 2
  show o + 1 + (j * 1 + 0) = o + ((j + 1) * 1 + 0)
  omega
end Go.Proofs.YtdjbbncoioghfaaGreatDoor.X
namespace Go.Proofs.YtdjbbncoioghfaaGreatDoor.X
open Go.RowKit Go.Proofs.YtdjbbncoioghfaaGreatDoorW.PrintWords Go.Proofs.YtdjbbncoioghfaaGreatDoorW.PrintMore
set_option linter.unusedVariables false
set_option linter.unusedSimpArgs false
def LineAt (verb : ByteArray) (v1 : Value) (quiet : Bool) (used : Int) (v4 : Value) (g : Nat) (w : World) : Prop :=
  w.cell? ⟨g, 0, none⟩ = some (.string verb) ∧ w.cell? ⟨g, 1, none⟩ = some v1 ∧ w.cell? ⟨g, 2, none⟩ = some (.bool quiet) ∧ w.cell? ⟨g, 3, none⟩ = some (.int .i64 used) ∧ w.cell? ⟨g, 4, none⟩ = some v4
theorem LineAt.of {verb : ByteArray} {v1 : Value} {quiet : Bool} {used : Int} {v4 : Value} {g : Nat} {w : World} (h : w.heap[g]? = some (.cells #[.string verb, v1, .bool quiet, .int .i64 used, v4] 90 (0, 0))) : LineAt verb v1 quiet used v4 g w :=
  ⟨(blk_cell h 0).trans rfl, (blk_cell h 1).trans rfl, (blk_cell h 2).trans rfl, (blk_cell h 3).trans rfl, (blk_cell h 4).trans rfl⟩
def mixR (z : Int) (keys : List ByteArray) (k : Nat) : List Value := rowsC 1 z (keys.take k) ++ rowsC 1 0 (keys.drop k)
theorem mixR_zero (z : Int) (keys : List ByteArray) : mixR z keys 0 = rowsC 1 0 keys := by unfold mixR; rw [List.take_zero, List.drop_zero]; rfl
theorem mixR_full (z : Int) (keys : List ByteArray) : mixR z keys keys.length = rowsC 1 z keys := by unfold mixR; rw [List.take_length, List.drop_length]; exact List.append_nil _
theorem mixR_len (z : Int) (keys : List ByteArray) (k : Nat) : (mixR z keys k).length = keys.length * 10 := by
  unfold mixR
  rw [List.length_append, rowsC_len, rowsC_len, List.length_take, List.length_drop]
  omega
theorem mixR_set (z : Int) (keys : List ByteArray) (k : Nat) (hk : k < keys.length) : (mixR z keys k).set (k * 10 + 4) (.int .i64 z) = mixR z keys (k + 1) := rowsC_exp 1 z keys k hk
set_option maxRecDepth 100000 in
set_option maxHeartbeats 1000000 in
theorem gats_ok (x : TextinLine) (cx : List Value) (v : ByteArray) (keys : List ByteArray) (F : Nat → Prop) (w : World) (hx : HolF F w (fun w2 => kTextinLine.K w2 x cx)) (hT : Tabs w) (hw : x.words = v :: keys) (h0 : keys.length ≠ 0) (hs : ∀ k ∈ keys, k.size ≤ 1000000) (hv : x.verb.size ≤ 1000000)
    (hk : keysS keys = true) (hz : (sgnS v).2 = true) :
    Calls Tryz.prog 90 #[.agg cx.toArray] w (StepR F w (stepG x.used x.verb 1 (sgnS v).1 keys)) := by
  have HB := Aside0.mk (Below.refl w.heap.size w)
  have HXF := Aside0.mk hx
  have HX := Aside0.mk hx.now
  have HT := Aside0.mk hT
  obtain ⟨A1, c1, A4, c4, rfl, hl1, hg1, hl4, hg4⟩ := kTextinLine_open hx.now
  obtain ⟨b, o, rfl, hb0, hcell⟩ := S_cell hg1 0 (by rw [hw]; simp)
  rw [hw, Nat.add_zero] at hcell
  have hcell : w.cell? ⟨b, o, none⟩ = some (.string v) := hcell
  have HCL := Aside0.mk hcell
  have hwl : x.words.length = keys.length + 1 := by rw [hw]; rfl
  have HTL : Aside0 (HolF F w (fun w2 => Kd.string.C w2 (some ⟨b, o + 1, none⟩) keys.length keys)) := ⟨hx.imp (fun w2 h => by
    obtain ⟨A1', c1', A4', c4', e, -, hg, -, -⟩ := kTextinLine_open h
    simp only [List.cons.injEq, Value.slice.injEq, and_true, true_and] at e
    obtain ⟨⟨rfl, rfl⟩, rfl, rfl⟩ := e
    rw [hwl, hw] at hg
    exact C_tail hg rfl)⟩
  have hk16 : keys.length ≤ 16 := by
    unfold keysS at hk
    rw [Bool.and_eq_true] at hk
    exact of_decide_eq_true hk.1
  have hcl : keys.length ≤ c1 - 1 := by omega
  have HG : Aside0 (∀ w', Below w.heap.size w w' → Calls Tryz.prog 89 #[.agg #[.string x.verb, .slice (some ⟨b, o, none⟩) (keys.length + 1) c1, .bool x.quiet, .int .i64 x.used, .slice A4 x.rest.length c4], .agg #[.int .i64 1, .string ⟨#[]⟩, .slice none 0 0, .int .u32 0, .int .i64 0, .int .u64 0, .int .u64 0, .int .u64 0, .bool false, .bool false], .slice (some ⟨b, o + 1, none⟩) keys.length (c1 - 1)] w' fun e w'' => ∃ v, e = .returned (.agg (stepGC x.used x.verb v (some ⟨b, o + 1, none⟩) keys.length (c1 - 1)).toArray)
      ∧ w''.ownsRow w'.heap.size 57 10 v keys.length (rowsC 1 0 keys) ∧ Below w'.heap.size w' w'') := ⟨fun w' hb => by
    have := gets_ok x _ 1 keys (some ⟨b, o + 1, none⟩) (c1 - 1) w' (kTextinLine.K_below hb HX.out) h0 hs hv (Kd.C_below HTL.out.now hb) hcl hk
    rw [hwl] at this
    exact this⟩
  obtain ⟨z, hzz⟩ : ∃ z, (sgnS v).1 = z := ⟨_, rfl⟩
  have HSG := Aside0.mk (fun w => sgn_w v w)
  rw [hzz, hz] at HSG
  rw [hzz]
  have hi1 : (1 : Int) ≤ ↑keys.length + 1 := by omega
  have hi2 : (keys.length : Int) + 1 ≤ ↑c1 := by omega
  have hi3 : (2 : Int) ≤ ↑keys.length + 1 := by omega
  have hi4 : (0 : Int) ≤ ↑keys.length + 1 := by omega
  have hc1 : ¬ (c1 = 1) := by omega
  clear hx hg1 hg4 hT hzz hz hs hk
  go_enter Tryz.func90, Tryz.ntmps90
  go_wp2
  (refine wp_region_noPanic ?_; refine wp_region_held_drew (S := LineAt x.verb (.slice (some ⟨b, o, none⟩) (keys.length + 1) c1) x.quiet x.used (.slice A4 x.rest.length c4) w.heap.size) (by kernel_rfl) (LineAt.of (by repeat (first | exact blk_at_new _ _ _ (by simp; done) | exact blk_at_new _ _ _ rfl | refine blk_alloc ?_ _ | refine blk_drew ?_ | refine blk_drewN ?_ _))) ?_; intro hHeld)
  (refine wpAnyH_take (i := 0) (v := ?_) (by simp only [List.getElem?_toArray, List.getElem?_cons_succ, List.getElem?_cons_zero]; rfl) (by kernel_rfl) (by kernel_rfl) (by kernel_rfl) (fun _ _ _ h => h) (Or.inl ⟨by rfl, ?_⟩) (by exact hHeld) ?_; rotate_left; (focus (intro w' hSw; obtain ⟨s0, s1, s2, s3, s4⟩ := hSw; go_simp; (try with_reducible rfl); done)); (try simp only [Act.put, List.setIfInBounds_toArray, List.set_cons_zero, List.set_cons_succ]))
  (refine wpAnyH_take (i := 1) (v := ?_) (by simp only [List.getElem?_toArray, List.getElem?_cons_succ, List.getElem?_cons_zero]; rfl) (by kernel_rfl) (by kernel_rfl) (by kernel_rfl) (fun _ _ _ h => h) (Or.inl ⟨by rfl, ?_⟩) (by exact hHeld) ?_; rotate_left; (focus (intro w' hSw; obtain ⟨s0, s1, s2, s3, s4⟩ := hSw; go_simp; (try with_reducible rfl); done)); (try simp only [Act.put, List.setIfInBounds_toArray, List.set_cons_zero, List.set_cons_succ]))
  (refine wpAnyH_take (i := 2) (v := ?_) (by simp only [List.getElem?_toArray, List.getElem?_cons_succ, List.getElem?_cons_zero]; rfl) (by kernel_rfl) (by kernel_rfl) (by kernel_rfl) (fun _ _ _ h => h) (Or.inl ⟨by rfl, ?_⟩) (by exact hHeld) ?_; rotate_left; (focus (intro w' hSw; obtain ⟨s0, s1, s2, s3, s4⟩ := hSw; go_simp; (try with_reducible rfl); done)); (try simp only [Act.put, List.setIfInBounds_toArray, List.set_cons_zero, List.set_cons_succ]))
  (refine wpAnyH_take (i := 3) (v := ?_) (by simp only [List.getElem?_toArray, List.getElem?_cons_succ, List.getElem?_cons_zero]; rfl) (by kernel_rfl) (by kernel_rfl) (by kernel_rfl) (fun _ _ _ h => h) (Or.inl ⟨by rfl, ?_⟩) (by exact hHeld) ?_; rotate_left; (focus (intro w' hSw; obtain ⟨s0, s1, s2, s3, s4⟩ := hSw; go_simp; (try with_reducible rfl); done)); (try simp only [Act.put, List.setIfInBounds_toArray, List.set_cons_zero, List.set_cons_succ]))
  (refine wpAnyH_take (i := 4) (v := ?_) (by simp only [List.getElem?_toArray, List.getElem?_cons_succ, List.getElem?_cons_zero]; rfl) (by kernel_rfl) (by kernel_rfl) (by kernel_rfl) (fun _ _ _ h => h) (Or.inl ⟨by rfl, ?_⟩) (by exact hHeld) ?_; rotate_left; (focus (intro w' hSw; obtain ⟨s0, s1, s2, s3, s4⟩ := hSw; go_simp; (try with_reducible rfl); done)); (try simp only [Act.put, List.setIfInBounds_toArray, List.set_cons_zero, List.set_cons_succ]))
  refine wpAnyH_ready (rs := [5, 6]) (by kernel_rfl) (by simp) ?_
  refine AllReadyH.cons (by simp only [List.getElem?_toArray, List.getElem?_cons_succ, List.getElem?_cons_zero]; rfl) (fun K hK => ?_) (AllReadyH.cons (by simp only [List.getElem?_toArray, List.getElem?_cons_succ, List.getElem?_cons_zero]; rfl) (fun K hK => ?_) AllReadyH.nil)
  · go_simp
    (go_at_call 89; (with_reducible refine (HG.out _ (by repeat (first | (with_reducible first | exact HB.out | apply below_alloc | apply pw_below_drewN | apply below_drew1) | exact HB.out))).mono ?_); rintro e w1 ⟨V, rfl, ho, hb⟩; have BX := Aside0.mk (blk_below (g := w.heap.size) (o := .cells #[.string x.verb, .slice (some ⟨b, o, none⟩) (keys.length + 1) c1, .bool x.quiet, .int .i64 x.used, .slice A4 x.rest.length c4] 90 (0, 0)) (by repeat (first | exact blk_at_new _ _ _ (by simp; done) | exact blk_at_new _ _ _ rfl | refine blk_alloc ?_ _ | refine blk_drew ?_ | refine blk_drewN ?_ _)) hb); have BR := Aside0.mk (blk_below (g := w.heap.size + 1) (o := .cells zStepC 61 (0, 0)) (by repeat (first | exact blk_at_new _ _ _ (by simp; done) | exact blk_at_new _ _ _ rfl | refine blk_alloc ?_ _ | refine blk_drew ?_ | refine blk_drewN ?_ _)) hb); have HBn := Aside0.mk (below_step (by repeat (first | (with_reducible first | exact HB.out | apply below_alloc | apply pw_below_drewN | apply below_drew1) | exact HB.out)) hb); clear HB; have HB := HBn; clear HBn)
    have HOw := Aside0.mk ho
    refine hK.out _ _ (LineAt.of BX.out) ?_
    clear hK K hHeld
    intro hHeld
    (try simp only [Act.put, List.setIfInBounds_toArray, List.set_cons_zero, List.set_cons_succ])
    refine wpAnyH_ready (rs := [6]) (by kernel_rfl) (by simp) ?_
    refine AllReadyH.cons (by simp only [List.getElem?_toArray, List.getElem?_cons_succ, List.getElem?_cons_zero]; rfl) (fun K hK => ?_) AllReadyH.nil
    go_simp
    refine hK.out _ _ (LineAt.of (blk_alloc BX.out _)) ?_
    clear hK K hHeld
    intro hHeld
    (try simp only [Act.put, List.setIfInBounds_toArray, List.set_cons_zero, List.set_cons_succ])
    (refine wpAnyH_ready (rs := [7]) (by kernel_rfl) (by simp) ?_; refine AllReadyH.cons (by simp only [List.getElem?_toArray, List.getElem?_cons_succ, List.getElem?_cons_zero]; rfl) (fun K hK => ?_) AllReadyH.nil)
    have BS : Aside0 ((w1.alloc (.cells zStepC 61 (0, 0))).heap[w1.heap.size]? = some (.cells zStepC 61 (0, 0))) := ⟨blk_at_new _ _ _ rfl⟩
    unfold zStepC at BS
    (refine step_store_F rfl 61 _ _ rfl (w1.heap.size) 0 _ rfl rfl (by intro u hu; simp only [stepGC, List.mem_cons, List.not_mem_nil, or_false] at hu; rcases hu with h | h | h | h | h | h | h | h | h | h | h | h | h | h | h | h <;> subst h <;> first | rfl | exact own_one HOw.out) 61 _ _ BS.out (by simp [stepGC]) (by kernel_rfl) rfl ?_; intro w5 hbk hst; have BS5 := Aside0.mk (show w5.heap[w1.heap.size]? = some (.cells (stepGC x.used x.verb V (some ⟨b, o + 1, none⟩) keys.length (c1 - 1)).toArray 61 (0, 0)) from hbk))
    have l1 : w.heap.size + 1 < w1.heap.size := blk_lt BR.out
    have BX5 := Aside0.mk (hst.blk (blk_alloc BX.out _) (show w.heap.size ≠ w1.heap.size by omega))
    have BR5 := Aside0.mk (hst.blk (blk_alloc BR.out _) (show w.heap.size + 1 ≠ w1.heap.size by omega))
    have HO5 := Aside0.mk (own_weaken (base' := w.heap.size + 2) (hst.own' (ho.alloc _) (own_not ho (Nat.le_refl _))) (by simp))
    have HB5 := Aside0.mk (hst.up (by repeat (first | (with_reducible first | exact HB.out | apply below_alloc | apply pw_below_drewN | apply below_drew1) | exact HB.out)) (show w.heap.size ≤ w1.heap.size by omega))
    refine hK.out _ _ (LineAt.of BX5.out) ?_
    clear hK K hHeld hst hbk BX BR BS HB ho hb HOw
    have HB := HB5
    intro hHeld
    (try simp only [Act.put, List.setIfInBounds_toArray, List.set_cons_zero, List.set_cons_succ])
    obtain ⟨gs, hgs⟩ : ∃ g, w1.heap.size = g := ⟨_, rfl⟩
    rw [hgs] at BS5 l1
    rw [hgs]
    clear HB5 hgs hHeld
    (refine wpAnyH_done (by kernel_rfl) ?_ _; refine NoPanic.normal ?_)
    obtain ⟨g', cap, rfl⟩ := own_some HO5.out h0
    have t1 : w5.cell? ⟨w.heap.size, 1, none⟩ = some (.slice (some ⟨b, o, none⟩) (keys.length + 1) c1) := (blk_cell BX5.out 1).trans rfl
    have t5 : w5.cell? ⟨b, o, none⟩ = some (.string v) := (Below.cell HB.out (p := ⟨b, o, none⟩) hb0).trans HCL.out
    go_wp2_with (first | (go_at_call 134; (with_reducible refine (HSG.out _ (Tabs.below HT.out (by repeat (first | (with_reducible first | exact HB.out | apply below_alloc | apply pw_below_drewN | apply below_drew1) | exact HB.out)))).mono ?_); rintro e w6 ⟨rfl, hb⟩; have BS6 := Aside0.mk (blk_below BS5.out hb); have BX6 := Aside0.mk (blk_below BX5.out hb); have BR6 := Aside0.mk (blk_below BR5.out hb); have HO6 := Aside0.mk (own_up HO5.out hb); have HBn := Aside0.mk (below_step (by repeat (first | (with_reducible first | exact HB.out | apply below_alloc | apply pw_below_drewN | apply below_drew1) | exact HB.out)) hb); clear HB; have HB := HBn; clear HBn; clear hb; have e0 : w6.cell? ⟨gs, 0, none⟩ = some (.slice (some ⟨g', 0, none⟩) keys.length cap) := (blk_cell BS6.out 0).trans rfl; have e15 : w6.cell? ⟨gs, 15, none⟩ = some (.int .i64 0) := (blk_cell BS6.out 15).trans rfl))
    go_loopw [40] (fun v wr => ∃ k : Nat, v = .int .i64 k ∧ k ≤ keys.length ∧ Aside0 (wr.heap[gs]? = some (.cells (stepGC x.used x.verb (.slice (some ⟨g', 0, none⟩) keys.length cap) (some ⟨b, o + 1, none⟩) keys.length (c1 - 1)).toArray 61 (0, 0)) ∧ wr.ownsRow (w.heap.size + 2) 57 10 (.slice (some ⟨g', 0, none⟩) keys.length cap) keys.length (mixR z keys k) ∧ wr.heap[w.heap.size]? = some (.cells #[.string x.verb, .slice (some ⟨b, o, none⟩) (keys.length + 1) c1, .bool x.quiet, .int .i64 x.used, .slice A4 x.rest.length c4] 90 (0, 0)) ∧ wr.heap[w.heap.size + 1]? = some (.cells zStepC 61 (0, 0)) ∧ Below w.heap.size w wr)) (fun v _ => keys.length - (intOf v).toNat)
    case atStart => exact ⟨0, rfl, by omega, ⟨⟨BS6.out, by rw [mixR_zero]; exact HO6.out, BX6.out, BR6.out, HB.out⟩⟩⟩
    case round =>
      obtain ⟨k, rfl, hk, HI⟩ := hrel
      obtain ⟨hq, ho, hx0, hr0, hB⟩ := HI.out
      have BS := Aside0.mk hq
      have HOw := Aside0.mk ho
      have BX := Aside0.mk hx0
      have BR := Aside0.mk hr0
      have HBr := Aside0.mk hB
      clear hq ho hx0 hr0 hB HI BS6 BX6 BR6 HO6 HB e0 e15 BS5 BX5 BR5 HO5 t1 t5
      have HB := HBr
      clear HBr
      by_cases hlt : k < keys.length
      · obtain ⟨cur, hcur0, hfit0, hbg0, hset0⟩ := own_set HOw.out (k * 10 + 4) (by rw [mixR_len]; omega)
        have hn1 : Aside0 (gs ≠ g') := ⟨blk_ne BS.out hcur0 (by decide)⟩
        have hn2 : Aside0 (w.heap.size ≠ g') := ⟨by omega⟩
        have hn3 : Aside0 (w.heap.size + 1 ≠ g') := ⟨by omega⟩
        have hn4 : Aside0 (w.heap.size ≤ g') := ⟨by omega⟩
        have hcur := Aside0.mk hcur0
        have hfit := Aside0.mk hfit0
        have hset := Aside0.mk hset0
        have hgl : g' < wr.heap.size := blk_lt hcur0
        clear hcur0 hfit0 hset0 hbg0
        have e0 : wr.cell? ⟨gs, 0, none⟩ = some (.slice (some ⟨g', 0, none⟩) keys.length cap) := (blk_cell BS.out 0).trans rfl
        go_wp2_with (first | (refine wpList_store_1 rfl 3 _ _ rfl g' (k * 10 + 4) (.int .i64 z) rfl rfl rfl 57 cur _ hcur.out hfit.out (by kernel_rfl) rfl ?_; intro w7 hbk hst; have HO7 := Aside0.mk (hset.out _ _ hbk); have BS7 := Aside0.mk (hst.blk BS.out hn1.out); have BX7 := Aside0.mk (hst.blk BX.out hn2.out); have BR7 := Aside0.mk (hst.blk BR.out hn3.out); have HB7 := Aside0.mk (hst.up HB.out hn4.out); clear hbk hst))
        go_round
        case rel => exact ⟨k + 1, by first | rfl | simp, by omega, ⟨⟨BS7.out, by rw [← mixR_set z keys k hlt]; exact HO7.out, BX7.out, BR7.out, HB7.out⟩⟩⟩
        case measure => simp [intOf]; omega
      · have hkl : k = keys.length := by omega
        subst hkl
        have HO1 := HOw.out
        rw [mixR_full] at HO1
        clear HOw
        have HOw := Aside0.mk HO1
        clear HO1
        have e0 : wr.cell? ⟨gs, 0, none⟩ = some (.slice (some ⟨g', 0, none⟩) keys.length cap) := (blk_cell BS.out 0).trans rfl; have e1 : wr.cell? ⟨gs, 1, none⟩ = some (.int .i64 1) := (blk_cell BS.out 1).trans rfl; have e2 : wr.cell? ⟨gs, 2, none⟩ = some (.string x.verb) := (blk_cell BS.out 2).trans rfl; have e3 : wr.cell? ⟨gs, 3, none⟩ = some (.int .i64 0) := (blk_cell BS.out 3).trans rfl; have e4 : wr.cell? ⟨gs, 4, none⟩ = some (.int .u32 0) := (blk_cell BS.out 4).trans rfl; have e5 : wr.cell? ⟨gs, 5, none⟩ = some (.bool false) := (blk_cell BS.out 5).trans rfl; have e6 : wr.cell? ⟨gs, 6, none⟩ = some (.bool (endsS x.verb)) := (blk_cell BS.out 6).trans rfl; have e7 : wr.cell? ⟨gs, 7, none⟩ = some (.string ⟨#[]⟩) := (blk_cell BS.out 7).trans rfl; have e8 : wr.cell? ⟨gs, 8, none⟩ = some (.slice none 0 0) := (blk_cell BS.out 8).trans rfl; have e9 : wr.cell? ⟨gs, 9, none⟩ = some (.slice (some ⟨b, o + 1, none⟩) keys.length (c1 - 1)) := (blk_cell BS.out 9).trans rfl; have e10 : wr.cell? ⟨gs, 10, none⟩ = some (.bool false) := (blk_cell BS.out 10).trans rfl; have e11 : wr.cell? ⟨gs, 11, none⟩ = some (.string ⟨#[]⟩) := (blk_cell BS.out 11).trans rfl; have e12 : wr.cell? ⟨gs, 12, none⟩ = some (.int .i64 x.used) := (blk_cell BS.out 12).trans rfl; have e13 : wr.cell? ⟨gs, 13, none⟩ = some (.int .i64 0) := (blk_cell BS.out 13).trans rfl; have e14 : wr.cell? ⟨gs, 14, none⟩ = some (.bool false) := (blk_cell BS.out 14).trans rfl; have e15 : wr.cell? ⟨gs, 15, none⟩ = some (.int .i64 0) := (blk_cell BS.out 15).trans rfl
        go_wp2_with (first | (refine wpList_store_F rfl 61 _ _ rfl (w.heap.size + 1) 0 _ rfl rfl (by simp [Value.oneCell']) 61 _ _ BR.out (by simp [zStepC]) (by kernel_rfl) rfl ?_; intro w8 hbk hst; have BR8 := Aside0.mk hbk; have HO8 := Aside0.mk (hst.own HOw.out (by omega)); have HB8 := Aside0.mk (hst.up HB.out (by omega)); clear hbk hst))
        (try simp only [Exit.inBlock, Exit.then]); refine bodyPost_ret (results_cell_row rfl _ _ (w.heap.size + 1) 61 _ (0, 0) _ rfl BR8.out Tryz.underlying61 rfl (by kernel_rfl)) rfl ?_
        exact stepG_R (own_weaken HO8.out (by omega)) HB8.out HTL.out hcl
  · go_simp
    refine hK.out _ _ (LineAt.of (by repeat (first | exact blk_at_new _ _ _ (by simp; done) | exact blk_at_new _ _ _ rfl | refine blk_alloc ?_ _ | refine blk_drew ?_ | refine blk_drewN ?_ _))) ?_
    clear hK K hHeld
    intro hHeld
    (try simp only [Act.put, List.setIfInBounds_toArray, List.set_cons_zero, List.set_cons_succ])
    refine wpAnyH_ready (rs := [5]) (by kernel_rfl) (by simp) ?_
    refine AllReadyH.cons (by simp only [List.getElem?_toArray, List.getElem?_cons_succ, List.getElem?_cons_zero]; rfl) (fun K hK => ?_) AllReadyH.nil
    go_simp
    (go_at_call 89; (with_reducible refine (HG.out _ (by repeat (first | (with_reducible first | exact HB.out | apply below_alloc | apply pw_below_drewN | apply below_drew1) | exact HB.out))).mono ?_); rintro e w1 ⟨V, rfl, ho, hb⟩; have BX := Aside0.mk (blk_below (g := w.heap.size) (o := .cells #[.string x.verb, .slice (some ⟨b, o, none⟩) (keys.length + 1) c1, .bool x.quiet, .int .i64 x.used, .slice A4 x.rest.length c4] 90 (0, 0)) (by repeat (first | exact blk_at_new _ _ _ (by simp; done) | exact blk_at_new _ _ _ rfl | refine blk_alloc ?_ _ | refine blk_drew ?_ | refine blk_drewN ?_ _)) hb); have BR := Aside0.mk (blk_below (g := w.heap.size + 1) (o := .cells zStepC 61 (0, 0)) (blk_alloc (blk_drew (blk_at_new _ _ _ (by simp))) _) hb); have HBn := Aside0.mk (below_step (by repeat (first | (with_reducible first | exact HB.out | apply below_alloc | apply pw_below_drewN | apply below_drew1) | exact HB.out)) hb); clear HB; have HB := HBn; clear HBn)
    have BS := Aside0.mk (blk_below (g := w.heap.size + 1 + 1) (o := .cells zStepC 61 (0, 0)) (by repeat (first | exact blk_at_new _ _ _ (by simp; done) | exact blk_at_new _ _ _ rfl | refine blk_alloc ?_ _ | refine blk_drew ?_ | refine blk_drewN ?_ _)) hb)
    unfold zStepC at BS
    have HOw := Aside0.mk ho
    refine hK.out _ _ (LineAt.of BX.out) ?_
    clear hK K hHeld
    intro hHeld
    (try simp only [Act.put, List.setIfInBounds_toArray, List.set_cons_zero, List.set_cons_succ])
    (refine wpAnyH_ready (rs := [7]) (by kernel_rfl) (by simp) ?_; refine AllReadyH.cons (by simp only [List.getElem?_toArray, List.getElem?_cons_succ, List.getElem?_cons_zero]; rfl) (fun K hK => ?_) AllReadyH.nil)
    (refine step_store_F rfl 61 _ _ rfl (w.heap.size + 1 + 1) 0 _ rfl rfl (by intro u hu; simp only [stepGC, List.mem_cons, List.not_mem_nil, or_false] at hu; rcases hu with h | h | h | h | h | h | h | h | h | h | h | h | h | h | h | h <;> subst h <;> first | rfl | exact own_one HOw.out) 61 _ _ BS.out (by simp [stepGC]) (by kernel_rfl) rfl ?_; intro w5 hbk hst; have BS5 := Aside0.mk (show w5.heap[w.heap.size + 1 + 1]? = some (.cells (stepGC x.used x.verb V (some ⟨b, o + 1, none⟩) keys.length (c1 - 1)).toArray 61 (0, 0)) from hbk))
    have BX5 := Aside0.mk (hst.blk BX.out (show w.heap.size ≠ w.heap.size + 1 + 1 by omega))
    have BR5 := Aside0.mk (hst.blk BR.out (show w.heap.size + 1 ≠ w.heap.size + 1 + 1 by omega))
    have HO5 := Aside0.mk (own_weaken (base' := w.heap.size + 2) (hst.own' ho (own_apart ho (by simp))) (by simp <;> omega))
    have HB5 := Aside0.mk (hst.up HB.out (show w.heap.size ≤ w.heap.size + 1 + 1 by omega))
    refine hK.out _ _ (LineAt.of BX5.out) ?_
    clear hK K hHeld hst hbk BX BR BS HB ho hb HOw
    have HB := HB5
    intro hHeld
    (try simp only [Act.put, List.setIfInBounds_toArray, List.set_cons_zero, List.set_cons_succ])
    have l1 : w.heap.size + 1 < w.heap.size + 1 + 1 := by omega
    obtain ⟨gs, hgs⟩ : ∃ g, w.heap.size + 1 + 1 = g := ⟨_, rfl⟩
    rw [hgs] at BS5 l1
    rw [hgs]
    clear HB5 hgs hHeld
    (refine wpAnyH_done (by kernel_rfl) ?_ _; refine NoPanic.normal ?_)
    obtain ⟨g', cap, rfl⟩ := own_some HO5.out h0
    have t1 : w5.cell? ⟨w.heap.size, 1, none⟩ = some (.slice (some ⟨b, o, none⟩) (keys.length + 1) c1) := (blk_cell BX5.out 1).trans rfl
    have t5 : w5.cell? ⟨b, o, none⟩ = some (.string v) := (Below.cell HB.out (p := ⟨b, o, none⟩) hb0).trans HCL.out
    go_wp2_with (first | (go_at_call 134; (with_reducible refine (HSG.out _ (Tabs.below HT.out (by repeat (first | (with_reducible first | exact HB.out | apply below_alloc | apply pw_below_drewN | apply below_drew1) | exact HB.out)))).mono ?_); rintro e w6 ⟨rfl, hb⟩; have BS6 := Aside0.mk (blk_below BS5.out hb); have BX6 := Aside0.mk (blk_below BX5.out hb); have BR6 := Aside0.mk (blk_below BR5.out hb); have HO6 := Aside0.mk (own_up HO5.out hb); have HBn := Aside0.mk (below_step (by repeat (first | (with_reducible first | exact HB.out | apply below_alloc | apply pw_below_drewN | apply below_drew1) | exact HB.out)) hb); clear HB; have HB := HBn; clear HBn; clear hb; have e0 : w6.cell? ⟨gs, 0, none⟩ = some (.slice (some ⟨g', 0, none⟩) keys.length cap) := (blk_cell BS6.out 0).trans rfl; have e15 : w6.cell? ⟨gs, 15, none⟩ = some (.int .i64 0) := (blk_cell BS6.out 15).trans rfl))
    go_loopw [40] (fun v wr => ∃ k : Nat, v = .int .i64 k ∧ k ≤ keys.length ∧ Aside0 (wr.heap[gs]? = some (.cells (stepGC x.used x.verb (.slice (some ⟨g', 0, none⟩) keys.length cap) (some ⟨b, o + 1, none⟩) keys.length (c1 - 1)).toArray 61 (0, 0)) ∧ wr.ownsRow (w.heap.size + 2) 57 10 (.slice (some ⟨g', 0, none⟩) keys.length cap) keys.length (mixR z keys k) ∧ wr.heap[w.heap.size]? = some (.cells #[.string x.verb, .slice (some ⟨b, o, none⟩) (keys.length + 1) c1, .bool x.quiet, .int .i64 x.used, .slice A4 x.rest.length c4] 90 (0, 0)) ∧ wr.heap[w.heap.size + 1]? = some (.cells zStepC 61 (0, 0)) ∧ Below w.heap.size w wr)) (fun v _ => keys.length - (intOf v).toNat)
    case atStart => exact ⟨0, rfl, by omega, ⟨⟨BS6.out, by rw [mixR_zero]; exact HO6.out, BX6.out, BR6.out, HB.out⟩⟩⟩
    case round =>
      obtain ⟨k, rfl, hk, HI⟩ := hrel
      obtain ⟨hq, ho, hx0, hr0, hB⟩ := HI.out
      have BS := Aside0.mk hq
      have HOw := Aside0.mk ho
      have BX := Aside0.mk hx0
      have BR := Aside0.mk hr0
      have HBr := Aside0.mk hB
      clear hq ho hx0 hr0 hB HI BS6 BX6 BR6 HO6 HB e0 e15 BS5 BX5 BR5 HO5 t1 t5
      have HB := HBr
      clear HBr
      by_cases hlt : k < keys.length
      · obtain ⟨cur, hcur0, hfit0, hbg0, hset0⟩ := own_set HOw.out (k * 10 + 4) (by rw [mixR_len]; omega)
        have hn1 : Aside0 (gs ≠ g') := ⟨blk_ne BS.out hcur0 (by decide)⟩
        have hn2 : Aside0 (w.heap.size ≠ g') := ⟨by omega⟩
        have hn3 : Aside0 (w.heap.size + 1 ≠ g') := ⟨by omega⟩
        have hn4 : Aside0 (w.heap.size ≤ g') := ⟨by omega⟩
        have hcur := Aside0.mk hcur0
        have hfit := Aside0.mk hfit0
        have hset := Aside0.mk hset0
        have hgl : g' < wr.heap.size := blk_lt hcur0
        clear hcur0 hfit0 hset0 hbg0
        have e0 : wr.cell? ⟨gs, 0, none⟩ = some (.slice (some ⟨g', 0, none⟩) keys.length cap) := (blk_cell BS.out 0).trans rfl
        go_wp2_with (first | (refine wpList_store_1 rfl 3 _ _ rfl g' (k * 10 + 4) (.int .i64 z) rfl rfl rfl 57 cur _ hcur.out hfit.out (by kernel_rfl) rfl ?_; intro w7 hbk hst; have HO7 := Aside0.mk (hset.out _ _ hbk); have BS7 := Aside0.mk (hst.blk BS.out hn1.out); have BX7 := Aside0.mk (hst.blk BX.out hn2.out); have BR7 := Aside0.mk (hst.blk BR.out hn3.out); have HB7 := Aside0.mk (hst.up HB.out hn4.out); clear hbk hst))
        go_round
        case rel => exact ⟨k + 1, by first | rfl | simp, by omega, ⟨⟨BS7.out, by rw [← mixR_set z keys k hlt]; exact HO7.out, BX7.out, BR7.out, HB7.out⟩⟩⟩
        case measure => simp [intOf]; omega
      · have hkl : k = keys.length := by omega
        subst hkl
        have HO1 := HOw.out
        rw [mixR_full] at HO1
        clear HOw
        have HOw := Aside0.mk HO1
        clear HO1
        have e0 : wr.cell? ⟨gs, 0, none⟩ = some (.slice (some ⟨g', 0, none⟩) keys.length cap) := (blk_cell BS.out 0).trans rfl; have e1 : wr.cell? ⟨gs, 1, none⟩ = some (.int .i64 1) := (blk_cell BS.out 1).trans rfl; have e2 : wr.cell? ⟨gs, 2, none⟩ = some (.string x.verb) := (blk_cell BS.out 2).trans rfl; have e3 : wr.cell? ⟨gs, 3, none⟩ = some (.int .i64 0) := (blk_cell BS.out 3).trans rfl; have e4 : wr.cell? ⟨gs, 4, none⟩ = some (.int .u32 0) := (blk_cell BS.out 4).trans rfl; have e5 : wr.cell? ⟨gs, 5, none⟩ = some (.bool false) := (blk_cell BS.out 5).trans rfl; have e6 : wr.cell? ⟨gs, 6, none⟩ = some (.bool (endsS x.verb)) := (blk_cell BS.out 6).trans rfl; have e7 : wr.cell? ⟨gs, 7, none⟩ = some (.string ⟨#[]⟩) := (blk_cell BS.out 7).trans rfl; have e8 : wr.cell? ⟨gs, 8, none⟩ = some (.slice none 0 0) := (blk_cell BS.out 8).trans rfl; have e9 : wr.cell? ⟨gs, 9, none⟩ = some (.slice (some ⟨b, o + 1, none⟩) keys.length (c1 - 1)) := (blk_cell BS.out 9).trans rfl; have e10 : wr.cell? ⟨gs, 10, none⟩ = some (.bool false) := (blk_cell BS.out 10).trans rfl; have e11 : wr.cell? ⟨gs, 11, none⟩ = some (.string ⟨#[]⟩) := (blk_cell BS.out 11).trans rfl; have e12 : wr.cell? ⟨gs, 12, none⟩ = some (.int .i64 x.used) := (blk_cell BS.out 12).trans rfl; have e13 : wr.cell? ⟨gs, 13, none⟩ = some (.int .i64 0) := (blk_cell BS.out 13).trans rfl; have e14 : wr.cell? ⟨gs, 14, none⟩ = some (.bool false) := (blk_cell BS.out 14).trans rfl; have e15 : wr.cell? ⟨gs, 15, none⟩ = some (.int .i64 0) := (blk_cell BS.out 15).trans rfl
        go_wp2_with (first | (refine wpList_store_F rfl 61 _ _ rfl (w.heap.size + 1) 0 _ rfl rfl (by simp [Value.oneCell']) 61 _ _ BR.out (by simp [zStepC]) (by kernel_rfl) rfl ?_; intro w8 hbk hst; have BR8 := Aside0.mk hbk; have HO8 := Aside0.mk (hst.own HOw.out (by omega)); have HB8 := Aside0.mk (hst.up HB.out (by omega)); clear hbk hst))
        (try simp only [Exit.inBlock, Exit.then]); refine bodyPost_ret (results_cell_row rfl _ _ (w.heap.size + 1) 61 _ (0, 0) _ rfl BR8.out Tryz.underlying61 rfl (by kernel_rfl)) rfl ?_
        exact stepG_R (own_weaken HO8.out (by omega)) HB8.out HTL.out hcl
end Go.Proofs.YtdjbbncoioghfaaGreatDoor.X
namespace Go.Proofs.YtdjbbncoioghfaaGreatDoor.X
open Go.RowKit Go.Proofs.YtdjbbncoioghfaaGreatDoorW.PrintWords Go.Proofs.YtdjbbncoioghfaaGreatDoorW.PrintMore
set_option linter.unusedVariables false
set_option linter.unusedSimpArgs false
set_option maxRecDepth 100000 in
set_option maxHeartbeats 1000000 in
theorem gats_nan (x : TextinLine) (cx : List Value) (v : ByteArray) (keys : List ByteArray) (F : Nat → Prop) (w : World) (hx : HolF F w (fun w2 => kTextinLine.K w2 x cx)) (hT : Tabs w) (hw : x.words = v :: keys) (h0 : keys.length ≠ 0) (hs : ∀ k ∈ keys, k.size ≤ 1000000) (hv : x.verb.size ≤ 1000000)
    (hk : keysS keys = true) (hz : (sgnS v).2 = false) :
    Calls Tryz.prog 90 #[.agg cx.toArray] w (StepR F w (stepF x.used badT)) := by
  have HB := Aside0.mk (Below.refl w.heap.size w)
  have HXF := Aside0.mk hx
  have HX := Aside0.mk hx.now
  have HT := Aside0.mk hT
  obtain ⟨A1, c1, A4, c4, rfl, hl1, hg1, hl4, hg4⟩ := kTextinLine_open hx.now
  obtain ⟨b, o, rfl, hb0, hcell⟩ := S_cell hg1 0 (by rw [hw]; simp)
  rw [hw, Nat.add_zero] at hcell
  have hcell : w.cell? ⟨b, o, none⟩ = some (.string v) := hcell
  have HCL := Aside0.mk hcell
  have hwl : x.words.length = keys.length + 1 := by rw [hw]; rfl
  have HTL : Aside0 (HolF F w (fun w2 => Kd.string.C w2 (some ⟨b, o + 1, none⟩) keys.length keys)) := ⟨hx.imp (fun w2 h => by
    obtain ⟨A1', c1', A4', c4', e, -, hg, -, -⟩ := kTextinLine_open h
    simp only [List.cons.injEq, Value.slice.injEq, and_true, true_and] at e
    obtain ⟨⟨rfl, rfl⟩, rfl, rfl⟩ := e
    rw [hwl, hw] at hg
    exact C_tail hg rfl)⟩
  have hk16 : keys.length ≤ 16 := by
    unfold keysS at hk
    rw [Bool.and_eq_true] at hk
    exact of_decide_eq_true hk.1
  have hcl : keys.length ≤ c1 - 1 := by omega
  have HG : Aside0 (∀ w', Below w.heap.size w w' → Calls Tryz.prog 89 #[.agg #[.string x.verb, .slice (some ⟨b, o, none⟩) (keys.length + 1) c1, .bool x.quiet, .int .i64 x.used, .slice A4 x.rest.length c4], .agg #[.int .i64 1, .string ⟨#[]⟩, .slice none 0 0, .int .u32 0, .int .i64 0, .int .u64 0, .int .u64 0, .int .u64 0, .bool false, .bool false], .slice (some ⟨b, o + 1, none⟩) keys.length (c1 - 1)] w' fun e w'' => ∃ v, e = .returned (.agg (stepGC x.used x.verb v (some ⟨b, o + 1, none⟩) keys.length (c1 - 1)).toArray)
      ∧ w''.ownsRow w'.heap.size 57 10 v keys.length (rowsC 1 0 keys) ∧ Below w'.heap.size w' w'') := ⟨fun w' hb => by
    have := gets_ok x _ 1 keys (some ⟨b, o + 1, none⟩) (c1 - 1) w' (kTextinLine.K_below hb HX.out) h0 hs hv (Kd.C_below HTL.out.now hb) hcl hk
    rw [hwl] at this
    exact this⟩
  obtain ⟨z, hzz⟩ : ∃ z, (sgnS v).1 = z := ⟨_, rfl⟩
  have HSG := Aside0.mk (fun w => sgn_w v w)
  rw [hzz, hz] at HSG
  have HO : Aside0 (∀ w', Below w.heap.size w w' → Calls Tryz.prog 50 #[.agg #[.string x.verb, .slice (some ⟨b, o, none⟩) (keys.length + 1) c1, .bool x.quiet, .int .i64 x.used, .slice A4 x.rest.length c4], .string (⟨#[67, 76, 73, 69, 78, 84, 95, 69, 82, 82, 79, 82, 32, 98, 97, 100, 32, 99, 111, 109, 109, 97, 110, 100, 32, 108, 105, 110, 101, 32, 102, 111, 114, 109, 97, 116]⟩ : ByteArray)] w' (StepR (fun k => k < w.heap.size ∧ F k) w' (stepF x.used badT))) := ⟨fun w' hb => by
    have := fault_calls x _ badT (fun k => k < w.heap.size ∧ F k) w' (kTextinLine.K_below hb HX.out) (by decide)
    rw [hwl] at this
    exact this⟩
  have hi1 : (1 : Int) ≤ ↑keys.length + 1 := by omega
  have hi2 : (keys.length : Int) + 1 ≤ ↑c1 := by omega
  have hi3 : (2 : Int) ≤ ↑keys.length + 1 := by omega
  have hi4 : (0 : Int) ≤ ↑keys.length + 1 := by omega
  have hc1 : ¬ (c1 = 1) := by omega
  clear hx hg1 hg4 hT hzz hz hs hk
  go_enter Tryz.func90, Tryz.ntmps90
  go_wp2
  (refine wp_region_noPanic ?_; refine wp_region_held_drew (S := LineAt x.verb (.slice (some ⟨b, o, none⟩) (keys.length + 1) c1) x.quiet x.used (.slice A4 x.rest.length c4) w.heap.size) (by kernel_rfl) (LineAt.of (by repeat (first | exact blk_at_new _ _ _ (by simp; done) | exact blk_at_new _ _ _ rfl | refine blk_alloc ?_ _ | refine blk_drew ?_ | refine blk_drewN ?_ _))) ?_; intro hHeld)
  (refine wpAnyH_take (i := 0) (v := ?_) (by simp only [List.getElem?_toArray, List.getElem?_cons_succ, List.getElem?_cons_zero]; rfl) (by kernel_rfl) (by kernel_rfl) (by kernel_rfl) (fun _ _ _ h => h) (Or.inl ⟨by rfl, ?_⟩) (by exact hHeld) ?_; rotate_left; (focus (intro w' hSw; obtain ⟨s0, s1, s2, s3, s4⟩ := hSw; go_simp; (try with_reducible rfl); done)); (try simp only [Act.put, List.setIfInBounds_toArray, List.set_cons_zero, List.set_cons_succ]))
  (refine wpAnyH_take (i := 1) (v := ?_) (by simp only [List.getElem?_toArray, List.getElem?_cons_succ, List.getElem?_cons_zero]; rfl) (by kernel_rfl) (by kernel_rfl) (by kernel_rfl) (fun _ _ _ h => h) (Or.inl ⟨by rfl, ?_⟩) (by exact hHeld) ?_; rotate_left; (focus (intro w' hSw; obtain ⟨s0, s1, s2, s3, s4⟩ := hSw; go_simp; (try with_reducible rfl); done)); (try simp only [Act.put, List.setIfInBounds_toArray, List.set_cons_zero, List.set_cons_succ]))
  (refine wpAnyH_take (i := 2) (v := ?_) (by simp only [List.getElem?_toArray, List.getElem?_cons_succ, List.getElem?_cons_zero]; rfl) (by kernel_rfl) (by kernel_rfl) (by kernel_rfl) (fun _ _ _ h => h) (Or.inl ⟨by rfl, ?_⟩) (by exact hHeld) ?_; rotate_left; (focus (intro w' hSw; obtain ⟨s0, s1, s2, s3, s4⟩ := hSw; go_simp; (try with_reducible rfl); done)); (try simp only [Act.put, List.setIfInBounds_toArray, List.set_cons_zero, List.set_cons_succ]))
  (refine wpAnyH_take (i := 3) (v := ?_) (by simp only [List.getElem?_toArray, List.getElem?_cons_succ, List.getElem?_cons_zero]; rfl) (by kernel_rfl) (by kernel_rfl) (by kernel_rfl) (fun _ _ _ h => h) (Or.inl ⟨by rfl, ?_⟩) (by exact hHeld) ?_; rotate_left; (focus (intro w' hSw; obtain ⟨s0, s1, s2, s3, s4⟩ := hSw; go_simp; (try with_reducible rfl); done)); (try simp only [Act.put, List.setIfInBounds_toArray, List.set_cons_zero, List.set_cons_succ]))
  (refine wpAnyH_take (i := 4) (v := ?_) (by simp only [List.getElem?_toArray, List.getElem?_cons_succ, List.getElem?_cons_zero]; rfl) (by kernel_rfl) (by kernel_rfl) (by kernel_rfl) (fun _ _ _ h => h) (Or.inl ⟨by rfl, ?_⟩) (by exact hHeld) ?_; rotate_left; (focus (intro w' hSw; obtain ⟨s0, s1, s2, s3, s4⟩ := hSw; go_simp; (try with_reducible rfl); done)); (try simp only [Act.put, List.setIfInBounds_toArray, List.set_cons_zero, List.set_cons_succ]))
  refine wpAnyH_ready (rs := [5, 6]) (by kernel_rfl) (by simp) ?_
  refine AllReadyH.cons (by simp only [List.getElem?_toArray, List.getElem?_cons_succ, List.getElem?_cons_zero]; rfl) (fun K hK => ?_) (AllReadyH.cons (by simp only [List.getElem?_toArray, List.getElem?_cons_succ, List.getElem?_cons_zero]; rfl) (fun K hK => ?_) AllReadyH.nil)
  · go_simp
    (go_at_call 89; (with_reducible refine (HG.out _ (by repeat (first | (with_reducible first | exact HB.out | apply below_alloc | apply pw_below_drewN | apply below_drew1) | exact HB.out))).mono ?_); rintro e w1 ⟨V, rfl, ho, hb⟩; have BX := Aside0.mk (blk_below (g := w.heap.size) (o := .cells #[.string x.verb, .slice (some ⟨b, o, none⟩) (keys.length + 1) c1, .bool x.quiet, .int .i64 x.used, .slice A4 x.rest.length c4] 90 (0, 0)) (by repeat (first | exact blk_at_new _ _ _ (by simp; done) | exact blk_at_new _ _ _ rfl | refine blk_alloc ?_ _ | refine blk_drew ?_ | refine blk_drewN ?_ _)) hb); have BR := Aside0.mk (blk_below (g := w.heap.size + 1) (o := .cells zStepC 61 (0, 0)) (by repeat (first | exact blk_at_new _ _ _ (by simp; done) | exact blk_at_new _ _ _ rfl | refine blk_alloc ?_ _ | refine blk_drew ?_ | refine blk_drewN ?_ _)) hb); have HBn := Aside0.mk (below_step (by repeat (first | (with_reducible first | exact HB.out | apply below_alloc | apply pw_below_drewN | apply below_drew1) | exact HB.out)) hb); clear HB; have HB := HBn; clear HBn)
    have HOw := Aside0.mk ho
    refine hK.out _ _ (LineAt.of BX.out) ?_
    clear hK K hHeld
    intro hHeld
    (try simp only [Act.put, List.setIfInBounds_toArray, List.set_cons_zero, List.set_cons_succ])
    refine wpAnyH_ready (rs := [6]) (by kernel_rfl) (by simp) ?_
    refine AllReadyH.cons (by simp only [List.getElem?_toArray, List.getElem?_cons_succ, List.getElem?_cons_zero]; rfl) (fun K hK => ?_) AllReadyH.nil
    go_simp
    refine hK.out _ _ (LineAt.of (blk_alloc BX.out _)) ?_
    clear hK K hHeld
    intro hHeld
    (try simp only [Act.put, List.setIfInBounds_toArray, List.set_cons_zero, List.set_cons_succ])
    (refine wpAnyH_ready (rs := [7]) (by kernel_rfl) (by simp) ?_; refine AllReadyH.cons (by simp only [List.getElem?_toArray, List.getElem?_cons_succ, List.getElem?_cons_zero]; rfl) (fun K hK => ?_) AllReadyH.nil)
    have BS : Aside0 ((w1.alloc (.cells zStepC 61 (0, 0))).heap[w1.heap.size]? = some (.cells zStepC 61 (0, 0))) := ⟨blk_at_new _ _ _ rfl⟩
    unfold zStepC at BS
    (refine step_store_F rfl 61 _ _ rfl (w1.heap.size) 0 _ rfl rfl (by intro u hu; simp only [stepGC, List.mem_cons, List.not_mem_nil, or_false] at hu; rcases hu with h | h | h | h | h | h | h | h | h | h | h | h | h | h | h | h <;> subst h <;> first | rfl | exact own_one HOw.out) 61 _ _ BS.out (by simp [stepGC]) (by kernel_rfl) rfl ?_; intro w5 hbk hst; have BS5 := Aside0.mk (show w5.heap[w1.heap.size]? = some (.cells (stepGC x.used x.verb V (some ⟨b, o + 1, none⟩) keys.length (c1 - 1)).toArray 61 (0, 0)) from hbk))
    have l1 : w.heap.size + 1 < w1.heap.size := blk_lt BR.out
    have BX5 := Aside0.mk (hst.blk (blk_alloc BX.out _) (show w.heap.size ≠ w1.heap.size by omega))
    have BR5 := Aside0.mk (hst.blk (blk_alloc BR.out _) (show w.heap.size + 1 ≠ w1.heap.size by omega))
    have HO5 := Aside0.mk (own_weaken (base' := w.heap.size + 2) (hst.own' (ho.alloc _) (own_not ho (Nat.le_refl _))) (by simp))
    have HB5 := Aside0.mk (hst.up (by repeat (first | (with_reducible first | exact HB.out | apply below_alloc | apply pw_below_drewN | apply below_drew1) | exact HB.out)) (show w.heap.size ≤ w1.heap.size by omega))
    refine hK.out _ _ (LineAt.of BX5.out) ?_
    clear hK K hHeld hst hbk BX BR BS HB ho hb HOw
    have HB := HB5
    intro hHeld
    (try simp only [Act.put, List.setIfInBounds_toArray, List.set_cons_zero, List.set_cons_succ])
    obtain ⟨gs, hgs⟩ : ∃ g, w1.heap.size = g := ⟨_, rfl⟩
    rw [hgs] at BS5 l1
    rw [hgs]
    clear HB5 hgs hHeld
    (refine wpAnyH_done (by kernel_rfl) ?_ _; refine NoPanic.normal ?_)
    obtain ⟨g', cap, rfl⟩ := own_some HO5.out h0
    have t1 : w5.cell? ⟨w.heap.size, 1, none⟩ = some (.slice (some ⟨b, o, none⟩) (keys.length + 1) c1) := (blk_cell BX5.out 1).trans rfl
    have t5 : w5.cell? ⟨b, o, none⟩ = some (.string v) := (Below.cell HB.out (p := ⟨b, o, none⟩) hb0).trans HCL.out
    go_wp2_with (first | (go_at_call 134; (with_reducible refine (HSG.out _ (Tabs.below HT.out (by repeat (first | (with_reducible first | exact HB.out | apply below_alloc | apply pw_below_drewN | apply below_drew1) | exact HB.out)))).mono ?_); rintro e w6 ⟨rfl, hb⟩; have BS6 := Aside0.mk (blk_below BS5.out hb); have BX6 := Aside0.mk (blk_below BX5.out hb); have BR6 := Aside0.mk (blk_below BR5.out hb); have HO6 := Aside0.mk (own_up HO5.out hb); have HBn := Aside0.mk (below_step (by repeat (first | (with_reducible first | exact HB.out | apply below_alloc | apply pw_below_drewN | apply below_drew1) | exact HB.out)) hb); clear HB; have HB := HBn; clear HBn; clear hb; have e0 : w6.cell? ⟨gs, 0, none⟩ = some (.slice (some ⟨g', 0, none⟩) keys.length cap) := (blk_cell BS6.out 0).trans rfl; have e15 : w6.cell? ⟨gs, 15, none⟩ = some (.int .i64 0) := (blk_cell BS6.out 15).trans rfl; have s0 : w6.cell? ⟨w.heap.size, 0, none⟩ = some (.string x.verb) := (blk_cell BX6.out 0).trans rfl; have s1 : w6.cell? ⟨w.heap.size, 1, none⟩ = some (.slice (some ⟨b, o, none⟩) (keys.length + 1) c1) := (blk_cell BX6.out 1).trans rfl; have s2 : w6.cell? ⟨w.heap.size, 2, none⟩ = some (.bool x.quiet) := (blk_cell BX6.out 2).trans rfl; have s3 : w6.cell? ⟨w.heap.size, 3, none⟩ = some (.int .i64 x.used) := (blk_cell BX6.out 3).trans rfl; have s4 : w6.cell? ⟨w.heap.size, 4, none⟩ = some (.slice A4 x.rest.length c4) := (blk_cell BX6.out 4).trans rfl; have GLT := Aside0.mk (blk_lt BR6.out)) | (go_at_call 50; (with_reducible refine (HO.out _ (by repeat (first | (with_reducible first | exact HB.out | apply below_alloc | apply pw_below_drewN | apply below_drew1) | exact HB.out))).mono ?_); rintro e w7 ⟨⟨cs, rfl, hk⟩, hb⟩; have BK := Aside0.mk (blk_below BR6.out hb); have HBn := Aside0.mk (below_step (by repeat (first | (with_reducible first | exact HB.out | apply below_alloc | apply pw_below_drewN | apply below_drew1) | exact HB.out)) hb); clear HB; have HB := HBn; clear HBn; have HK := Aside0.mk hk; clear hb hk) | (refine wpList_store_K HK.out.now rfl 61 _ _ rfl (w.heap.size + 1) rfl rfl 61 _ BK.out (by kernel_rfl) rfl ?_; intro w8 hbk hlow hfar; have HK2 := Aside0.mk (hfar _ _ (fun h => absurd (h GLT.out).1 (by omega)) HK.out); clear BK; have BK := Aside0.mk hbk; have HL := Aside0.mk hlow; clear hbk hlow hfar))
    (try simp only [Exit.inBlock, Exit.then]); refine bodyPost_ret (results_cell_row rfl _ _ (w.heap.size + 1) 61 _ (0, 0) _ rfl BK.out Tryz.underlying61 rfl (by rw [List.size_toArray, kStep.K_len HK.out.now]; kernel_rfl)) rfl ?_
    exact ⟨⟨_, rfl, HK2.out.mono (fun k hk h3 => (hk (by have := GLT.out; omega)).2)⟩, HB.out.trans (HL.out _ (by omega))⟩
  · go_simp
    refine hK.out _ _ (LineAt.of (by repeat (first | exact blk_at_new _ _ _ (by simp; done) | exact blk_at_new _ _ _ rfl | refine blk_alloc ?_ _ | refine blk_drew ?_ | refine blk_drewN ?_ _))) ?_
    clear hK K hHeld
    intro hHeld
    (try simp only [Act.put, List.setIfInBounds_toArray, List.set_cons_zero, List.set_cons_succ])
    refine wpAnyH_ready (rs := [5]) (by kernel_rfl) (by simp) ?_
    refine AllReadyH.cons (by simp only [List.getElem?_toArray, List.getElem?_cons_succ, List.getElem?_cons_zero]; rfl) (fun K hK => ?_) AllReadyH.nil
    go_simp
    (go_at_call 89; (with_reducible refine (HG.out _ (by repeat (first | (with_reducible first | exact HB.out | apply below_alloc | apply pw_below_drewN | apply below_drew1) | exact HB.out))).mono ?_); rintro e w1 ⟨V, rfl, ho, hb⟩; have BX := Aside0.mk (blk_below (g := w.heap.size) (o := .cells #[.string x.verb, .slice (some ⟨b, o, none⟩) (keys.length + 1) c1, .bool x.quiet, .int .i64 x.used, .slice A4 x.rest.length c4] 90 (0, 0)) (by repeat (first | exact blk_at_new _ _ _ (by simp; done) | exact blk_at_new _ _ _ rfl | refine blk_alloc ?_ _ | refine blk_drew ?_ | refine blk_drewN ?_ _)) hb); have BR := Aside0.mk (blk_below (g := w.heap.size + 1) (o := .cells zStepC 61 (0, 0)) (blk_alloc (blk_drew (blk_at_new _ _ _ (by simp))) _) hb); have HBn := Aside0.mk (below_step (by repeat (first | (with_reducible first | exact HB.out | apply below_alloc | apply pw_below_drewN | apply below_drew1) | exact HB.out)) hb); clear HB; have HB := HBn; clear HBn)
    have BS := Aside0.mk (blk_below (g := w.heap.size + 1 + 1) (o := .cells zStepC 61 (0, 0)) (by repeat (first | exact blk_at_new _ _ _ (by simp; done) | exact blk_at_new _ _ _ rfl | refine blk_alloc ?_ _ | refine blk_drew ?_ | refine blk_drewN ?_ _)) hb)
    unfold zStepC at BS
    have HOw := Aside0.mk ho
    refine hK.out _ _ (LineAt.of BX.out) ?_
    clear hK K hHeld
    intro hHeld
    (try simp only [Act.put, List.setIfInBounds_toArray, List.set_cons_zero, List.set_cons_succ])
    (refine wpAnyH_ready (rs := [7]) (by kernel_rfl) (by simp) ?_; refine AllReadyH.cons (by simp only [List.getElem?_toArray, List.getElem?_cons_succ, List.getElem?_cons_zero]; rfl) (fun K hK => ?_) AllReadyH.nil)
    (refine step_store_F rfl 61 _ _ rfl (w.heap.size + 1 + 1) 0 _ rfl rfl (by intro u hu; simp only [stepGC, List.mem_cons, List.not_mem_nil, or_false] at hu; rcases hu with h | h | h | h | h | h | h | h | h | h | h | h | h | h | h | h <;> subst h <;> first | rfl | exact own_one HOw.out) 61 _ _ BS.out (by simp [stepGC]) (by kernel_rfl) rfl ?_; intro w5 hbk hst; have BS5 := Aside0.mk (show w5.heap[w.heap.size + 1 + 1]? = some (.cells (stepGC x.used x.verb V (some ⟨b, o + 1, none⟩) keys.length (c1 - 1)).toArray 61 (0, 0)) from hbk))
    have BX5 := Aside0.mk (hst.blk BX.out (show w.heap.size ≠ w.heap.size + 1 + 1 by omega))
    have BR5 := Aside0.mk (hst.blk BR.out (show w.heap.size + 1 ≠ w.heap.size + 1 + 1 by omega))
    have HO5 := Aside0.mk (own_weaken (base' := w.heap.size + 2) (hst.own' ho (own_apart ho (by simp))) (by simp <;> omega))
    have HB5 := Aside0.mk (hst.up HB.out (show w.heap.size ≤ w.heap.size + 1 + 1 by omega))
    refine hK.out _ _ (LineAt.of BX5.out) ?_
    clear hK K hHeld hst hbk BX BR BS HB ho hb HOw
    have HB := HB5
    intro hHeld
    (try simp only [Act.put, List.setIfInBounds_toArray, List.set_cons_zero, List.set_cons_succ])
    have l1 : w.heap.size + 1 < w.heap.size + 1 + 1 := by omega
    obtain ⟨gs, hgs⟩ : ∃ g, w.heap.size + 1 + 1 = g := ⟨_, rfl⟩
    rw [hgs] at BS5 l1
    rw [hgs]
    clear HB5 hgs hHeld
    (refine wpAnyH_done (by kernel_rfl) ?_ _; refine NoPanic.normal ?_)
    obtain ⟨g', cap, rfl⟩ := own_some HO5.out h0
    have t1 : w5.cell? ⟨w.heap.size, 1, none⟩ = some (.slice (some ⟨b, o, none⟩) (keys.length + 1) c1) := (blk_cell BX5.out 1).trans rfl
    have t5 : w5.cell? ⟨b, o, none⟩ = some (.string v) := (Below.cell HB.out (p := ⟨b, o, none⟩) hb0).trans HCL.out
    go_wp2_with (first | (go_at_call 134; (with_reducible refine (HSG.out _ (Tabs.below HT.out (by repeat (first | (with_reducible first | exact HB.out | apply below_alloc | apply pw_below_drewN | apply below_drew1) | exact HB.out)))).mono ?_); rintro e w6 ⟨rfl, hb⟩; have BS6 := Aside0.mk (blk_below BS5.out hb); have BX6 := Aside0.mk (blk_below BX5.out hb); have BR6 := Aside0.mk (blk_below BR5.out hb); have HO6 := Aside0.mk (own_up HO5.out hb); have HBn := Aside0.mk (below_step (by repeat (first | (with_reducible first | exact HB.out | apply below_alloc | apply pw_below_drewN | apply below_drew1) | exact HB.out)) hb); clear HB; have HB := HBn; clear HBn; clear hb; have e0 : w6.cell? ⟨gs, 0, none⟩ = some (.slice (some ⟨g', 0, none⟩) keys.length cap) := (blk_cell BS6.out 0).trans rfl; have e15 : w6.cell? ⟨gs, 15, none⟩ = some (.int .i64 0) := (blk_cell BS6.out 15).trans rfl; have s0 : w6.cell? ⟨w.heap.size, 0, none⟩ = some (.string x.verb) := (blk_cell BX6.out 0).trans rfl; have s1 : w6.cell? ⟨w.heap.size, 1, none⟩ = some (.slice (some ⟨b, o, none⟩) (keys.length + 1) c1) := (blk_cell BX6.out 1).trans rfl; have s2 : w6.cell? ⟨w.heap.size, 2, none⟩ = some (.bool x.quiet) := (blk_cell BX6.out 2).trans rfl; have s3 : w6.cell? ⟨w.heap.size, 3, none⟩ = some (.int .i64 x.used) := (blk_cell BX6.out 3).trans rfl; have s4 : w6.cell? ⟨w.heap.size, 4, none⟩ = some (.slice A4 x.rest.length c4) := (blk_cell BX6.out 4).trans rfl; have GLT := Aside0.mk (blk_lt BR6.out)) | (go_at_call 50; (with_reducible refine (HO.out _ (by repeat (first | (with_reducible first | exact HB.out | apply below_alloc | apply pw_below_drewN | apply below_drew1) | exact HB.out))).mono ?_); rintro e w7 ⟨⟨cs, rfl, hk⟩, hb⟩; have BK := Aside0.mk (blk_below BR6.out hb); have HBn := Aside0.mk (below_step (by repeat (first | (with_reducible first | exact HB.out | apply below_alloc | apply pw_below_drewN | apply below_drew1) | exact HB.out)) hb); clear HB; have HB := HBn; clear HBn; have HK := Aside0.mk hk; clear hb hk) | (refine wpList_store_K HK.out.now rfl 61 _ _ rfl (w.heap.size + 1) rfl rfl 61 _ BK.out (by kernel_rfl) rfl ?_; intro w8 hbk hlow hfar; have HK2 := Aside0.mk (hfar _ _ (fun h => absurd (h GLT.out).1 (by omega)) HK.out); clear BK; have BK := Aside0.mk hbk; have HL := Aside0.mk hlow; clear hbk hlow hfar))
    (try simp only [Exit.inBlock, Exit.then]); refine bodyPost_ret (results_cell_row rfl _ _ (w.heap.size + 1) 61 _ (0, 0) _ rfl BK.out Tryz.underlying61 rfl (by rw [List.size_toArray, kStep.K_len HK.out.now]; kernel_rfl)) rfl ?_
    exact ⟨⟨_, rfl, HK2.out.mono (fun k hk h3 => (hk (by have := GLT.out; omega)).2)⟩, HB.out.trans (HL.out _ (by omega))⟩

theorem stepF_open {w : World} {used : Int} {reply : ByteArray} {cs : List Value} (h : kStep.K w (stepF used reply) cs) : ∃ A0 c0 A8 c8 A9 c9, cs = [.slice A0 0 c0, .int .i64 0, .string ⟨#[]⟩, .int .i64 0, .int .u32 0, .bool false, .bool false, .string ⟨#[]⟩, .slice A8 0 c8, .slice A9 0 c9, .bool false, .string (reply ++ (⟨#[13, 10]⟩ : ByteArray)), .int .i64 used, .int .i64 0, .bool false, .int .i64 2] := by
  obtain ⟨A0, c0, A8, c8, A9, c9, rfl, -⟩ := kStep_open h
  exact ⟨A0, c0, A8, c8, A9, c9, rfl⟩
theorem C_zero {α : Type} (d : Kd α) (w : World) (A : Option Addr) : d.C w A 0 [] := ⟨rfl, by decide, fun h => absurd h (by decide)⟩
theorem stepF_K (w : World) (used : Int) (reply : ByteArray) (A0 A8 A9 : Option Addr) (c0 c8 c9 : Nat) : kStep.K w (stepF used reply) [.slice A0 0 c0, .int .i64 0, .string ⟨#[]⟩, .int .i64 0, .int .u32 0, .bool false, .bool false, .string ⟨#[]⟩, .slice A8 0 c8, .slice A9 0 c9, .bool false, .string (reply ++ (⟨#[13, 10]⟩ : ByteArray)), .int .i64 used, .int .i64 0, .bool false, .int .i64 2] :=
  kStep_mk w (stepF used reply) (A0 := A0) (c0 := c0) (A8 := A8) (c8 := c8) (A9 := A9) (c9 := c9) (Nat.zero_le _) (C_zero _ _ _) (Nat.zero_le _) (C_zero _ _ _) (Nat.zero_le _) (C_zero _ _ _)
set_option maxRecDepth 100000 in
set_option maxHeartbeats 1000000 in
theorem gats_bad (x : TextinLine) (cx : List Value) (v : ByteArray) (keys : List ByteArray) (F : Nat → Prop) (w : World) (hx : HolF F w (fun w2 => kTextinLine.K w2 x cx)) (hT : Tabs w) (hw : x.words = v :: keys) (h0 : keys.length ≠ 0) (hs : ∀ k ∈ keys, k.size ≤ 1000000) (hv : x.verb.size ≤ 1000000)
    (hk : keysS keys = false) (hl : keys.length ≤ 1000000) :
    Calls Tryz.prog 90 #[.agg cx.toArray] w (StepR F w (stepF x.used badT)) := by
  have HB := Aside0.mk (Below.refl w.heap.size w)
  have HXF := Aside0.mk hx
  have HX := Aside0.mk hx.now
  have HT := Aside0.mk hT
  obtain ⟨A1, c1, A4, c4, rfl, hl1, hg1, hl4, hg4⟩ := kTextinLine_open hx.now
  obtain ⟨b, o, rfl, hb0, hcell⟩ := S_cell hg1 0 (by rw [hw]; simp)
  rw [hw, Nat.add_zero] at hcell
  have hcell : w.cell? ⟨b, o, none⟩ = some (.string v) := hcell
  have HCL := Aside0.mk hcell
  have hwl : x.words.length = keys.length + 1 := by rw [hw]; rfl
  have HTL : Aside0 (HolF F w (fun w2 => Kd.string.C w2 (some ⟨b, o + 1, none⟩) keys.length keys)) := ⟨hx.imp (fun w2 h => by
    obtain ⟨A1', c1', A4', c4', e, -, hg, -, -⟩ := kTextinLine_open h
    simp only [List.cons.injEq, Value.slice.injEq, and_true, true_and] at e
    obtain ⟨⟨rfl, rfl⟩, rfl, rfl⟩ := e
    rw [hwl, hw] at hg
    exact C_tail hg rfl)⟩
  have hcl : keys.length ≤ c1 - 1 := by omega
  have HG : Aside0 (∀ w', Below w.heap.size w w' → Calls Tryz.prog 89 #[.agg #[.string x.verb, .slice (some ⟨b, o, none⟩) (keys.length + 1) c1, .bool x.quiet, .int .i64 x.used, .slice A4 x.rest.length c4], .agg #[.int .i64 1, .string ⟨#[]⟩, .slice none 0 0, .int .u32 0, .int .i64 0, .int .u64 0, .int .u64 0, .int .u64 0, .bool false, .bool false], .slice (some ⟨b, o + 1, none⟩) keys.length (c1 - 1)] w' (StepR (fun _ => False) w' (stepF x.used badT))) := ⟨fun w' hb => by
    have := gets_bad x _ 1 keys (some ⟨b, o + 1, none⟩) (c1 - 1) (fun _ => False) w' (kTextinLine.K_below hb HX.out) h0 hl hs (Kd.C_below HTL.out.now hb) hcl hk
    rw [hwl] at this
    exact this⟩
  obtain ⟨z, hzz⟩ : ∃ z, (sgnS v).1 = z := ⟨_, rfl⟩
  have HSG := Aside0.mk (fun w => sgn_w v w)
  obtain ⟨q, hqq⟩ : ∃ q, (sgnS v).2 = q := ⟨_, rfl⟩
  rw [hzz, hqq] at HSG
  have hi1 : (1 : Int) ≤ ↑keys.length + 1 := by omega
  have hi2 : (keys.length : Int) + 1 ≤ ↑c1 := by omega
  have hi3 : (2 : Int) ≤ ↑keys.length + 1 := by omega
  have hi4 : (0 : Int) ≤ ↑keys.length + 1 := by omega
  have hc1 : ¬ (c1 = 1) := by omega
  clear hx hg1 hg4 hT hzz hqq hs hk
  go_enter Tryz.func90, Tryz.ntmps90
  go_wp2
  (refine wp_region_noPanic ?_; refine wp_region_held_drew (S := LineAt x.verb (.slice (some ⟨b, o, none⟩) (keys.length + 1) c1) x.quiet x.used (.slice A4 x.rest.length c4) w.heap.size) (by kernel_rfl) (LineAt.of (by repeat (first | exact blk_at_new _ _ _ (by simp; done) | exact blk_at_new _ _ _ rfl | refine blk_alloc ?_ _ | refine blk_drew ?_ | refine blk_drewN ?_ _))) ?_; intro hHeld)
  (refine wpAnyH_take (i := 0) (v := ?_) (by simp only [List.getElem?_toArray, List.getElem?_cons_succ, List.getElem?_cons_zero]; rfl) (by kernel_rfl) (by kernel_rfl) (by kernel_rfl) (fun _ _ _ h => h) (Or.inl ⟨by rfl, ?_⟩) (by exact hHeld) ?_; rotate_left; (focus (intro w' hSw; obtain ⟨s0, s1, s2, s3, s4⟩ := hSw; go_simp; (try with_reducible rfl); done)); (try simp only [Act.put, List.setIfInBounds_toArray, List.set_cons_zero, List.set_cons_succ]))
  (refine wpAnyH_take (i := 1) (v := ?_) (by simp only [List.getElem?_toArray, List.getElem?_cons_succ, List.getElem?_cons_zero]; rfl) (by kernel_rfl) (by kernel_rfl) (by kernel_rfl) (fun _ _ _ h => h) (Or.inl ⟨by rfl, ?_⟩) (by exact hHeld) ?_; rotate_left; (focus (intro w' hSw; obtain ⟨s0, s1, s2, s3, s4⟩ := hSw; go_simp; (try with_reducible rfl); done)); (try simp only [Act.put, List.setIfInBounds_toArray, List.set_cons_zero, List.set_cons_succ]))
  (refine wpAnyH_take (i := 2) (v := ?_) (by simp only [List.getElem?_toArray, List.getElem?_cons_succ, List.getElem?_cons_zero]; rfl) (by kernel_rfl) (by kernel_rfl) (by kernel_rfl) (fun _ _ _ h => h) (Or.inl ⟨by rfl, ?_⟩) (by exact hHeld) ?_; rotate_left; (focus (intro w' hSw; obtain ⟨s0, s1, s2, s3, s4⟩ := hSw; go_simp; (try with_reducible rfl); done)); (try simp only [Act.put, List.setIfInBounds_toArray, List.set_cons_zero, List.set_cons_succ]))
  (refine wpAnyH_take (i := 3) (v := ?_) (by simp only [List.getElem?_toArray, List.getElem?_cons_succ, List.getElem?_cons_zero]; rfl) (by kernel_rfl) (by kernel_rfl) (by kernel_rfl) (fun _ _ _ h => h) (Or.inl ⟨by rfl, ?_⟩) (by exact hHeld) ?_; rotate_left; (focus (intro w' hSw; obtain ⟨s0, s1, s2, s3, s4⟩ := hSw; go_simp; (try with_reducible rfl); done)); (try simp only [Act.put, List.setIfInBounds_toArray, List.set_cons_zero, List.set_cons_succ]))
  (refine wpAnyH_take (i := 4) (v := ?_) (by simp only [List.getElem?_toArray, List.getElem?_cons_succ, List.getElem?_cons_zero]; rfl) (by kernel_rfl) (by kernel_rfl) (by kernel_rfl) (fun _ _ _ h => h) (Or.inl ⟨by rfl, ?_⟩) (by exact hHeld) ?_; rotate_left; (focus (intro w' hSw; obtain ⟨s0, s1, s2, s3, s4⟩ := hSw; go_simp; (try with_reducible rfl); done)); (try simp only [Act.put, List.setIfInBounds_toArray, List.set_cons_zero, List.set_cons_succ]))
  refine wpAnyH_ready (rs := [5, 6]) (by kernel_rfl) (by simp) ?_
  refine AllReadyH.cons (by simp only [List.getElem?_toArray, List.getElem?_cons_succ, List.getElem?_cons_zero]; rfl) (fun K hK => ?_) (AllReadyH.cons (by simp only [List.getElem?_toArray, List.getElem?_cons_succ, List.getElem?_cons_zero]; rfl) (fun K hK => ?_) AllReadyH.nil)
  · go_simp
    (go_at_call 89; (with_reducible refine (HG.out _ (by repeat (first | (with_reducible first | exact HB.out | apply below_alloc | apply pw_below_drewN | apply below_drew1) | exact HB.out))).mono ?_); rintro e w1 ⟨⟨cs, rfl, hkk⟩, hb⟩; have HKK := Aside0.mk hkk.now; clear hkk; have BX := Aside0.mk (blk_below (g := w.heap.size) (o := .cells #[.string x.verb, .slice (some ⟨b, o, none⟩) (keys.length + 1) c1, .bool x.quiet, .int .i64 x.used, .slice A4 x.rest.length c4] 90 (0, 0)) (by repeat (first | exact blk_at_new _ _ _ (by simp; done) | exact blk_at_new _ _ _ rfl | refine blk_alloc ?_ _ | refine blk_drew ?_ | refine blk_drewN ?_ _)) hb); have BR := Aside0.mk (blk_below (g := w.heap.size + 1) (o := .cells zStepC 61 (0, 0)) (by repeat (first | exact blk_at_new _ _ _ (by simp; done) | exact blk_at_new _ _ _ rfl | refine blk_alloc ?_ _ | refine blk_drew ?_ | refine blk_drewN ?_ _)) hb); have HBn := Aside0.mk (below_step (by repeat (first | (with_reducible first | exact HB.out | apply below_alloc | apply pw_below_drewN | apply below_drew1) | exact HB.out)) hb); clear HB; have HB := HBn; clear HBn)
    refine hK.out _ _ (LineAt.of BX.out) ?_
    clear hK K hHeld
    intro hHeld
    (try simp only [Act.put, List.setIfInBounds_toArray, List.set_cons_zero, List.set_cons_succ])
    refine wpAnyH_ready (rs := [6]) (by kernel_rfl) (by simp) ?_
    refine AllReadyH.cons (by simp only [List.getElem?_toArray, List.getElem?_cons_succ, List.getElem?_cons_zero]; rfl) (fun K hK => ?_) AllReadyH.nil
    go_simp
    refine hK.out _ _ (LineAt.of (blk_alloc BX.out _)) ?_
    clear hK K hHeld
    intro hHeld
    (try simp only [Act.put, List.setIfInBounds_toArray, List.set_cons_zero, List.set_cons_succ])
    (refine wpAnyH_ready (rs := [7]) (by kernel_rfl) (by simp) ?_; refine AllReadyH.cons (by simp only [List.getElem?_toArray, List.getElem?_cons_succ, List.getElem?_cons_zero]; rfl) (fun K hK => ?_) AllReadyH.nil)
    have BS : Aside0 ((w1.alloc (.cells zStepC 61 (0, 0))).heap[w1.heap.size]? = some (.cells zStepC 61 (0, 0))) := ⟨blk_at_new _ _ _ rfl⟩
    unfold zStepC at BS
    (refine step_store_F rfl 61 _ _ rfl (w1.heap.size) 0 _ rfl rfl (fun u hu => kStep.K_one HKK.out u hu) 61 _ cs.toArray BS.out (by rw [kStep.K_len HKK.out]; first | done | decide) (by rw [kStep.K_len HKK.out]; kernel_rfl) (congrArg List.toArray (by rw [kStep.K_len HKK.out]; exact List.append_nil cs)) ?_; intro w5 hbk hst; have BS5 := Aside0.mk (show w5.heap[w1.heap.size]? = some (.cells cs.toArray 61 (0, 0)) from hbk))
    have l1 : w.heap.size + 1 < w1.heap.size := blk_lt BR.out
    have BX5 := Aside0.mk (hst.blk (blk_alloc BX.out _) (show w.heap.size ≠ w1.heap.size by omega))
    have BR5 := Aside0.mk (hst.blk (blk_alloc BR.out _) (show w.heap.size + 1 ≠ w1.heap.size by omega))
    have HB5 := Aside0.mk (hst.up (by repeat (first | (with_reducible first | exact HB.out | apply below_alloc | apply pw_below_drewN | apply below_drew1) | exact HB.out)) (show w.heap.size ≤ w1.heap.size by omega))
    refine hK.out _ _ (LineAt.of BX5.out) ?_
    clear hK K hHeld hst hbk BX BR BS HB hb
    have HB := HB5
    intro hHeld
    (try simp only [Act.put, List.setIfInBounds_toArray, List.set_cons_zero, List.set_cons_succ])
    obtain ⟨gs, hgs⟩ : ∃ g, w1.heap.size = g := ⟨_, rfl⟩
    rw [hgs] at BS5 l1
    rw [hgs]
    clear HB5 hgs hHeld
    (refine wpAnyH_done (by kernel_rfl) ?_ _; refine NoPanic.normal ?_)
    obtain ⟨A0, d0, A8, d8, A9, d9, rfl⟩ := stepF_open HKK.out
    have t1 : w5.cell? ⟨w.heap.size, 1, none⟩ = some (.slice (some ⟨b, o, none⟩) (keys.length + 1) c1) := (blk_cell BX5.out 1).trans rfl
    have t5 : w5.cell? ⟨b, o, none⟩ = some (.string v) := (Below.cell HB.out (p := ⟨b, o, none⟩) hb0).trans HCL.out
    go_wp2_with (first | (go_at_call 134; (with_reducible refine (HSG.out _ (Tabs.below HT.out (by repeat (first | (with_reducible first | exact HB.out | apply below_alloc | apply pw_below_drewN | apply below_drew1) | exact HB.out)))).mono ?_); rintro e w6 ⟨rfl, hb⟩; have BS6 := Aside0.mk (blk_below BS5.out hb); have BX6 := Aside0.mk (blk_below BX5.out hb); have BR6 := Aside0.mk (blk_below BR5.out hb); have HBn := Aside0.mk (below_step (by repeat (first | (with_reducible first | exact HB.out | apply below_alloc | apply pw_below_drewN | apply below_drew1) | exact HB.out)) hb); clear HB; have HB := HBn; clear HBn; clear hb; have e0 : w6.cell? ⟨gs, 0, none⟩ = some (.slice A0 0 d0) := (blk_cell BS6.out 0).trans rfl; have e15 : w6.cell? ⟨gs, 15, none⟩ = some (.int .i64 2) := (blk_cell BS6.out 15).trans rfl))
    go_loopw [40] (fun v wr => v = .int .i64 0 ∧ Aside0 (wr = w6)) (fun v _ => 0)
    case atStart => exact ⟨rfl, ⟨rfl⟩⟩
    case round =>
      obtain ⟨rfl, HI⟩ := hrel
      have hwr := HI.out
      subst hwr
      have e0 : wr.cell? ⟨gs, 0, none⟩ = some (.slice A0 0 d0) := (blk_cell BS6.out 0).trans rfl; have e1 : wr.cell? ⟨gs, 1, none⟩ = some (.int .i64 0) := (blk_cell BS6.out 1).trans rfl; have e2 : wr.cell? ⟨gs, 2, none⟩ = some (.string ⟨#[]⟩) := (blk_cell BS6.out 2).trans rfl; have e3 : wr.cell? ⟨gs, 3, none⟩ = some (.int .i64 0) := (blk_cell BS6.out 3).trans rfl; have e4 : wr.cell? ⟨gs, 4, none⟩ = some (.int .u32 0) := (blk_cell BS6.out 4).trans rfl; have e5 : wr.cell? ⟨gs, 5, none⟩ = some (.bool false) := (blk_cell BS6.out 5).trans rfl; have e6 : wr.cell? ⟨gs, 6, none⟩ = some (.bool false) := (blk_cell BS6.out 6).trans rfl; have e7 : wr.cell? ⟨gs, 7, none⟩ = some (.string ⟨#[]⟩) := (blk_cell BS6.out 7).trans rfl; have e8 : wr.cell? ⟨gs, 8, none⟩ = some (.slice A8 0 d8) := (blk_cell BS6.out 8).trans rfl; have e9 : wr.cell? ⟨gs, 9, none⟩ = some (.slice A9 0 d9) := (blk_cell BS6.out 9).trans rfl; have e10 : wr.cell? ⟨gs, 10, none⟩ = some (.bool false) := (blk_cell BS6.out 10).trans rfl; have e11 : wr.cell? ⟨gs, 11, none⟩ = some (.string (badT ++ (⟨#[13, 10]⟩ : ByteArray))) := (blk_cell BS6.out 11).trans rfl; have e12 : wr.cell? ⟨gs, 12, none⟩ = some (.int .i64 x.used) := (blk_cell BS6.out 12).trans rfl; have e13 : wr.cell? ⟨gs, 13, none⟩ = some (.int .i64 0) := (blk_cell BS6.out 13).trans rfl; have e14 : wr.cell? ⟨gs, 14, none⟩ = some (.bool false) := (blk_cell BS6.out 14).trans rfl; have e15 : wr.cell? ⟨gs, 15, none⟩ = some (.int .i64 2) := (blk_cell BS6.out 15).trans rfl
      go_wp2_with (first | (refine wpList_store_F rfl 61 _ _ rfl (w.heap.size + 1) 0 _ rfl rfl (by simp [Value.oneCell']) 61 _ _ BR6.out (by simp [zStepC]) (by kernel_rfl) rfl ?_; intro w8 hbk hst; have BR8 := Aside0.mk hbk; have HB8 := Aside0.mk (hst.up HB.out (by omega)); clear hbk hst))
      (try simp only [Exit.inBlock, Exit.then]); refine bodyPost_ret (results_cell_row rfl _ _ (w.heap.size + 1) 61 _ (0, 0) _ rfl BR8.out Tryz.underlying61 rfl (by kernel_rfl)) rfl ?_
      exact ⟨⟨_, rfl, fun w2 _ _ => stepF_K w2 x.used badT A0 A8 A9 d0 d8 d9⟩, HB8.out⟩
  · go_simp
    refine hK.out _ _ (LineAt.of (by repeat (first | exact blk_at_new _ _ _ (by simp; done) | exact blk_at_new _ _ _ rfl | refine blk_alloc ?_ _ | refine blk_drew ?_ | refine blk_drewN ?_ _))) ?_
    clear hK K hHeld
    intro hHeld
    (try simp only [Act.put, List.setIfInBounds_toArray, List.set_cons_zero, List.set_cons_succ])
    refine wpAnyH_ready (rs := [5]) (by kernel_rfl) (by simp) ?_
    refine AllReadyH.cons (by simp only [List.getElem?_toArray, List.getElem?_cons_succ, List.getElem?_cons_zero]; rfl) (fun K hK => ?_) AllReadyH.nil
    go_simp
    (go_at_call 89; (with_reducible refine (HG.out _ (by repeat (first | (with_reducible first | exact HB.out | apply below_alloc | apply pw_below_drewN | apply below_drew1) | exact HB.out))).mono ?_); rintro e w1 ⟨⟨cs, rfl, hkk⟩, hb⟩; have HKK := Aside0.mk hkk.now; clear hkk; have BX := Aside0.mk (blk_below (g := w.heap.size) (o := .cells #[.string x.verb, .slice (some ⟨b, o, none⟩) (keys.length + 1) c1, .bool x.quiet, .int .i64 x.used, .slice A4 x.rest.length c4] 90 (0, 0)) (by repeat (first | exact blk_at_new _ _ _ (by simp; done) | exact blk_at_new _ _ _ rfl | refine blk_alloc ?_ _ | refine blk_drew ?_ | refine blk_drewN ?_ _)) hb); have BR := Aside0.mk (blk_below (g := w.heap.size + 1) (o := .cells zStepC 61 (0, 0)) (blk_alloc (blk_drew (blk_at_new _ _ _ (by simp))) _) hb); have HBn := Aside0.mk (below_step (by repeat (first | (with_reducible first | exact HB.out | apply below_alloc | apply pw_below_drewN | apply below_drew1) | exact HB.out)) hb); clear HB; have HB := HBn; clear HBn)
    have BS := Aside0.mk (blk_below (g := w.heap.size + 1 + 1) (o := .cells zStepC 61 (0, 0)) (by repeat (first | exact blk_at_new _ _ _ (by simp; done) | exact blk_at_new _ _ _ rfl | refine blk_alloc ?_ _ | refine blk_drew ?_ | refine blk_drewN ?_ _)) hb)
    unfold zStepC at BS
    refine hK.out _ _ (LineAt.of BX.out) ?_
    clear hK K hHeld
    intro hHeld
    (try simp only [Act.put, List.setIfInBounds_toArray, List.set_cons_zero, List.set_cons_succ])
    (refine wpAnyH_ready (rs := [7]) (by kernel_rfl) (by simp) ?_; refine AllReadyH.cons (by simp only [List.getElem?_toArray, List.getElem?_cons_succ, List.getElem?_cons_zero]; rfl) (fun K hK => ?_) AllReadyH.nil)
    (refine step_store_F rfl 61 _ _ rfl (w.heap.size + 1 + 1) 0 _ rfl rfl (fun u hu => kStep.K_one HKK.out u hu) 61 _ cs.toArray BS.out (by rw [kStep.K_len HKK.out]; first | done | decide) (by rw [kStep.K_len HKK.out]; kernel_rfl) (congrArg List.toArray (by rw [kStep.K_len HKK.out]; exact List.append_nil cs)) ?_; intro w5 hbk hst; have BS5 := Aside0.mk (show w5.heap[w.heap.size + 1 + 1]? = some (.cells cs.toArray 61 (0, 0)) from hbk))
    have BX5 := Aside0.mk (hst.blk BX.out (show w.heap.size ≠ w.heap.size + 1 + 1 by omega))
    have BR5 := Aside0.mk (hst.blk BR.out (show w.heap.size + 1 ≠ w.heap.size + 1 + 1 by omega))
    have HB5 := Aside0.mk (hst.up HB.out (show w.heap.size ≤ w.heap.size + 1 + 1 by omega))
    refine hK.out _ _ (LineAt.of BX5.out) ?_
    clear hK K hHeld hst hbk BX BR BS HB hb
    have HB := HB5
    intro hHeld
    (try simp only [Act.put, List.setIfInBounds_toArray, List.set_cons_zero, List.set_cons_succ])
    have l1 : w.heap.size + 1 < w.heap.size + 1 + 1 := by omega
    obtain ⟨gs, hgs⟩ : ∃ g, w.heap.size + 1 + 1 = g := ⟨_, rfl⟩
    rw [hgs] at BS5 l1
    rw [hgs]
    clear HB5 hgs hHeld
    (refine wpAnyH_done (by kernel_rfl) ?_ _; refine NoPanic.normal ?_)
    obtain ⟨A0, d0, A8, d8, A9, d9, rfl⟩ := stepF_open HKK.out
    have t1 : w5.cell? ⟨w.heap.size, 1, none⟩ = some (.slice (some ⟨b, o, none⟩) (keys.length + 1) c1) := (blk_cell BX5.out 1).trans rfl
    have t5 : w5.cell? ⟨b, o, none⟩ = some (.string v) := (Below.cell HB.out (p := ⟨b, o, none⟩) hb0).trans HCL.out
    go_wp2_with (first | (go_at_call 134; (with_reducible refine (HSG.out _ (Tabs.below HT.out (by repeat (first | (with_reducible first | exact HB.out | apply below_alloc | apply pw_below_drewN | apply below_drew1) | exact HB.out)))).mono ?_); rintro e w6 ⟨rfl, hb⟩; have BS6 := Aside0.mk (blk_below BS5.out hb); have BX6 := Aside0.mk (blk_below BX5.out hb); have BR6 := Aside0.mk (blk_below BR5.out hb); have HBn := Aside0.mk (below_step (by repeat (first | (with_reducible first | exact HB.out | apply below_alloc | apply pw_below_drewN | apply below_drew1) | exact HB.out)) hb); clear HB; have HB := HBn; clear HBn; clear hb; have e0 : w6.cell? ⟨gs, 0, none⟩ = some (.slice A0 0 d0) := (blk_cell BS6.out 0).trans rfl; have e15 : w6.cell? ⟨gs, 15, none⟩ = some (.int .i64 2) := (blk_cell BS6.out 15).trans rfl))
    go_loopw [40] (fun v wr => v = .int .i64 0 ∧ Aside0 (wr = w6)) (fun v _ => 0)
    case atStart => exact ⟨rfl, ⟨rfl⟩⟩
    case round =>
      obtain ⟨rfl, HI⟩ := hrel
      have hwr := HI.out
      subst hwr
      have e0 : wr.cell? ⟨gs, 0, none⟩ = some (.slice A0 0 d0) := (blk_cell BS6.out 0).trans rfl; have e1 : wr.cell? ⟨gs, 1, none⟩ = some (.int .i64 0) := (blk_cell BS6.out 1).trans rfl; have e2 : wr.cell? ⟨gs, 2, none⟩ = some (.string ⟨#[]⟩) := (blk_cell BS6.out 2).trans rfl; have e3 : wr.cell? ⟨gs, 3, none⟩ = some (.int .i64 0) := (blk_cell BS6.out 3).trans rfl; have e4 : wr.cell? ⟨gs, 4, none⟩ = some (.int .u32 0) := (blk_cell BS6.out 4).trans rfl; have e5 : wr.cell? ⟨gs, 5, none⟩ = some (.bool false) := (blk_cell BS6.out 5).trans rfl; have e6 : wr.cell? ⟨gs, 6, none⟩ = some (.bool false) := (blk_cell BS6.out 6).trans rfl; have e7 : wr.cell? ⟨gs, 7, none⟩ = some (.string ⟨#[]⟩) := (blk_cell BS6.out 7).trans rfl; have e8 : wr.cell? ⟨gs, 8, none⟩ = some (.slice A8 0 d8) := (blk_cell BS6.out 8).trans rfl; have e9 : wr.cell? ⟨gs, 9, none⟩ = some (.slice A9 0 d9) := (blk_cell BS6.out 9).trans rfl; have e10 : wr.cell? ⟨gs, 10, none⟩ = some (.bool false) := (blk_cell BS6.out 10).trans rfl; have e11 : wr.cell? ⟨gs, 11, none⟩ = some (.string (badT ++ (⟨#[13, 10]⟩ : ByteArray))) := (blk_cell BS6.out 11).trans rfl; have e12 : wr.cell? ⟨gs, 12, none⟩ = some (.int .i64 x.used) := (blk_cell BS6.out 12).trans rfl; have e13 : wr.cell? ⟨gs, 13, none⟩ = some (.int .i64 0) := (blk_cell BS6.out 13).trans rfl; have e14 : wr.cell? ⟨gs, 14, none⟩ = some (.bool false) := (blk_cell BS6.out 14).trans rfl; have e15 : wr.cell? ⟨gs, 15, none⟩ = some (.int .i64 2) := (blk_cell BS6.out 15).trans rfl
      go_wp2_with (first | (refine wpList_store_F rfl 61 _ _ rfl (w.heap.size + 1) 0 _ rfl rfl (by simp [Value.oneCell']) 61 _ _ BR6.out (by simp [zStepC]) (by kernel_rfl) rfl ?_; intro w8 hbk hst; have BR8 := Aside0.mk hbk; have HB8 := Aside0.mk (hst.up HB.out (by omega)); clear hbk hst))
      (try simp only [Exit.inBlock, Exit.then]); refine bodyPost_ret (results_cell_row rfl _ _ (w.heap.size + 1) 61 _ (0, 0) _ rfl BR8.out Tryz.underlying61 rfl (by kernel_rfl)) rfl ?_
      exact ⟨⟨_, rfl, fun w2 _ _ => stepF_K w2 x.used badT A0 A8 A9 d0 d8 d9⟩, HB8.out⟩

set_option maxRecDepth 100000 in
set_option maxHeartbeats 1000000 in
theorem gats_no (x : TextinLine) (cx : List Value) (F : Nat → Prop) (w : World) (hx : kTextinLine.K w x cx) (hw : x.words.length < 2) :
    Calls Tryz.prog 90 #[.agg cx.toArray] w (StepR F w (stepF x.used (⟨#[69, 82, 82, 79, 82]⟩ : ByteArray))) := by
  have HB := Aside0.mk (Below.refl w.heap.size w)
  have HX := Aside0.mk hx
  obtain ⟨A1, c1, A4, c4, rfl, hl1, hg1, hl4, hg4⟩ := kTextinLine_open hx
  have HO : Aside0 (∀ w', Below w.heap.size w w' → Calls Tryz.prog 50 #[.agg #[.string x.verb, .slice A1 x.words.length c1, .bool x.quiet, .int .i64 x.used, .slice A4 x.rest.length c4], .string (⟨#[69, 82, 82, 79, 82]⟩ : ByteArray)] w' (StepR (fun k => k < w.heap.size ∧ F k) w' (stepF x.used (⟨#[69, 82, 82, 79, 82]⟩ : ByteArray)))) := ⟨fun w' hb => fault_calls x _ _ _ w' (kTextinLine.K_below hb HX.out) (by decide)⟩
  clear hx hg1 hg4
  have hi : (x.words.length : Int) < 2 := by omega
  go_enter Tryz.func90, Tryz.ntmps90
  go_wp2_with (first | (refine wpList_store_K HK.out.now rfl 61 _ _ rfl (w.heap.size + 1) rfl rfl 61 _ BK.out (by kernel_rfl) rfl ?_; intro w2 hbk hlow hfar; have HK2 := Aside0.mk (hfar _ _ (fun h => absurd (h (by simp <;> omega)).1 (by omega)) HK.out); clear BK; have BK := Aside0.mk hbk; have HL := Aside0.mk hlow; clear hbk hlow hfar) | go_at_call 50; (with_reducible refine (HO.out _ (by repeat (first | (with_reducible first | exact HB.out | apply below_alloc | apply pw_below_drewN | apply below_drew1) | exact HB.out))).mono ?_); rintro e w1 ⟨⟨cs, rfl, hk⟩, hb⟩; have BK := Aside0.mk (blk_below (g := w.heap.size + 1) (by repeat (first | exact blk_at_new _ _ _ (by simp; done) | exact blk_at_new _ _ _ rfl | refine blk_alloc ?_ _ | refine blk_drew ?_ | refine blk_drewN ?_ _)) hb); have HBn := Aside0.mk (below_step (by repeat (first | (with_reducible first | exact HB.out | apply below_alloc | apply pw_below_drewN | apply below_drew1) | exact HB.out)) hb); clear HB; have HB := HBn; clear HBn; have HK := Aside0.mk hk; clear hb hk)
  (try simp only [Exit.inBlock, Exit.then]); refine bodyPost_ret (results_cell_row rfl _ _ (w.heap.size + 1) 61 _ (0, 0) _ rfl BK.out Tryz.underlying61 rfl (by rw [List.size_toArray, kStep.K_len HK.out.now]; kernel_rfl)) rfl ?_
  exact ⟨⟨_, rfl, HK2.out.mono (fun k hk h3 => (hk (by simp; omega)).2)⟩, HB.out.trans (HL.out _ (by omega))⟩
def gatsS (verb : ByteArray) (used : Int) (words : List ByteArray) : Step :=
  if words.length < 2 then stepF used (⟨#[69, 82, 82, 79, 82]⟩ : ByteArray) else if keysS words.tail = false then stepF used badT else if (sgnS (words.getD 0 ⟨#[]⟩)).2 = false then stepF used badT else stepG used verb 1 (sgnS (words.getD 0 ⟨#[]⟩)).1 words.tail
theorem gats_calls (x : TextinLine) (cx : List Value) (F : Nat → Prop) (w : World) (hx : HolF F w (fun w2 => kTextinLine.K w2 x cx)) (hT : Tabs w) (hl : x.words.length ≤ 1000000) (hs : ∀ k ∈ x.words, k.size ≤ 1000000) (hv : x.verb.size ≤ 1000000) :
    Calls Tryz.prog 90 #[.agg cx.toArray] w (StepR F w (gatsS x.verb x.used x.words)) := by
  unfold gatsS
  by_cases hn : x.words.length < 2
  · rw [if_pos hn]
    exact gats_no x cx F w hx.now hn
  rw [if_neg hn]
  obtain ⟨v, keys, hw⟩ : ∃ v keys, x.words = v :: keys := by
    cases h : x.words with
    | nil => rw [h] at hn; exact absurd (by decide) hn
    | cons a l => exact ⟨a, l, rfl⟩
  have h0 : keys.length ≠ 0 := by rw [hw, List.length_cons] at hn; omega
  have hl' : keys.length ≤ 1000000 := by rw [hw, List.length_cons] at hl; omega
  have hs' : ∀ k ∈ keys, k.size ≤ 1000000 := fun k hk => hs k (by rw [hw]; exact List.mem_cons_of_mem _ hk)
  rw [show x.words.tail = keys by rw [hw]; rfl, show x.words.getD 0 ⟨#[]⟩ = v by rw [hw]; rfl]
  cases hk : keysS keys
  · rw [if_pos rfl]
    exact gats_bad x cx v keys F w hx hT hw h0 hs' hv hk hl'
  rw [if_neg (by decide)]
  cases hz : (sgnS v).2
  · rw [if_pos rfl]
    exact gats_nan x cx v keys F w hx hT hw h0 hs' hv hk hz
  · rw [if_neg (by decide)]
    exact gats_ok x cx v keys F w hx hT hw h0 hs' hv hk hz
end Go.Proofs.YtdjbbncoioghfaaGreatDoor.X
