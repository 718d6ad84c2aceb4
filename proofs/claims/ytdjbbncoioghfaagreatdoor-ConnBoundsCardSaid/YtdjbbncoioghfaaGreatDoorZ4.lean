/- Texts of this work, merged in build order: Skip, Stores2, Hush, Loud, Other, RegL, Parse1, Wi. -/
import Derived.Test.YtdjbbncoioghfaaGreatDoorZ3
import Derived.Laws.CopyOwn
import Derived.Deep.RegionHeld3
import Derived.Deep.DeepCutAuto
import Derived.RangeFuncNested
import Derived.RangeFuncBound
import Derived.RangeFuncCalls
import Derived.RangeFuncLeaves
import Derived.RangeFuncBox
import Derived.Shelf.Abstract
import Derived.Shelf.RegionOpen
import Derived.WalkKit
import Derived.OwnWalkIn
import Derived.TacticsInMore
import Derived.LoopNIn
import Derived.LoopIn
import Derived.Maps.AppendAt
import Derived.Outline
namespace Go.Proofs.YtdjbbncoioghfaaGreatDoor.X
open Go.RowKit Go.Proofs.YtdjbbncoioghfaaGreatDoorW.PrintWords Go.Proofs.YtdjbbncoioghfaaGreatDoorW.PrintMore
set_option linter.unusedVariables false
set_option linter.unusedSimpArgs false
def stepFS (used : Int) (reply : ByteArray) (skip : Int) (line : Bool) : Step := { stepF used reply with skip := skip, line := line }
def stepFC (used : Int) (reply : ByteArray) (skip : Int) (line : Bool) : List Value := [.slice none 0 0, .int .i64 0, .string ⟨#[]⟩, .int .i64 0, .int .u32 0, .bool false, .bool false, .string ⟨#[]⟩, .slice none 0 0, .slice none 0 0, .bool false, .string (reply ++ (⟨#[13, 10]⟩ : ByteArray)), .int .i64 used, .int .i64 skip, .bool line, .int .i64 2]
theorem stepFS_K (w : World) (used : Int) (reply : ByteArray) (skip : Int) (line : Bool) : kStep.K w (stepFS used reply skip line) (stepFC used reply skip line) :=
  kStep_mk w (stepFS used reply skip line) (Nat.le_refl _) (C_nil _ _) (Nat.le_refl _) (C_nil _ _) (Nat.le_refl _) (C_nil _ _)
set_option maxRecDepth 100000 in
set_option maxHeartbeats 1000000 in
theorem fault_ex (x : TextinLine) (cx : List Value) (reply : ByteArray) (w : World) (hx : kTextinLine.K w x cx) (hr : reply.size ≤ 1000) :
    Calls Tryz.prog 50 #[.agg cx.toArray, .string reply] w fun e w' => e = .returned (.agg (stepFC x.used reply 0 false).toArray) ∧ Below w.heap.size w w' := by
  have HB := Aside0.mk (Below.refl w.heap.size w)
  obtain ⟨A1, c1, A4, c4, rfl, hl1, hg1, hl4, hg4⟩ := kTextinLine_open hx
  clear hg1 hg4 hx
  go_enter Tryz.func50, Tryz.ntmps50
  go_wp2
  ((try simp only [Exit.inBlock, Exit.then]); refine bodyPost_ret (results_cell_row rfl _ _ (w.heap.size + 1) 61 _ (0, 0) _ rfl (by repeat (first | exact blk_at_new _ _ _ (by simp; done) | exact blk_at_new _ _ _ rfl | refine blk_alloc ?_ _ | refine blk_drew ?_ | refine blk_drewN ?_ _)) Tryz.underlying61 rfl (by kernel_rfl)) rfl ?_)
  exact ⟨rfl, (by repeat (first | (with_reducible first | exact HB.out | apply below_alloc | apply pw_below_drewN | apply below_drew1) | exact HB.out))⟩
def skipN (z : Nat × Bool) : Int := if z.2 = true ∧ (z.1 : Int) ≤ 1073741824 then (z.1 : Int) + 2 else 0
set_option maxRecDepth 100000 in
set_option maxHeartbeats 1000000 in
theorem skipped_a (x : TextinLine) (cx : List Value) (reply : ByteArray) (v : ByteArray) (F : Nat → Prop) (w : World) (hx : kTextinLine.K w x cx) (hT : Tabs w) (hr : reply.size ≤ 1000) (hn : 3 < x.words.length) (hv : x.words.getD 3 ⟨#[]⟩ = v) (z : Nat) (hz : decS v = (z, false)) :
    Calls Tryz.prog 136 #[.agg cx.toArray, .string reply] w (StepR F w (stepFS x.used reply 0 false)) := by
  have HB := Aside0.mk (Below.refl w.heap.size w)
  have HX := Aside0.mk hx
  have HT := Aside0.mk hT
  obtain ⟨A1, c1, A4, c4, rfl, hl1, hg1, hl4, hg4⟩ := kTextinLine_open hx
  obtain ⟨b, o, rfl, hb0, hcell⟩ := S_cell hg1 3 hn
  rw [hv] at hcell
  have HCL := Aside0.mk hcell
  have HO : Aside0 (∀ w', Below w.heap.size w w' → Calls Tryz.prog 50 #[.agg #[.string x.verb, .slice (some ⟨b, o, none⟩) x.words.length c1, .bool x.quiet, .int .i64 x.used, .slice A4 x.rest.length c4], .string reply] w' fun e w'' => e = .returned (.agg (stepFC x.used reply 0 false).toArray) ∧ Below w'.heap.size w' w'') := ⟨fun w' hb => fault_ex x _ _ w' (kTextinLine.K_below hb HX.out) hr⟩
  have HDC := Aside0.mk (fun w => dec_w v w)
  rw [hz] at HDC
  clear hz hv hcell hx hg1 hg4 hT
  have hn3 : (3 : Int) < x.words.length := by omega
  go_enter Tryz.func136, Tryz.ntmps136
  go_wp2_with (first | (go_at_call 50; (with_reducible refine (HO.out _ (by repeat (first | (with_reducible first | exact HB.out | apply below_alloc | apply pw_below_drewN | apply below_drew1) | exact HB.out))).mono ?_); rintro e w1 ⟨rfl, hb⟩; unfold stepFC; have BX := Aside0.mk (blk_below (g := w.heap.size) (o := .cells #[.string x.verb, .slice (some ⟨b, o, none⟩) x.words.length c1, .bool x.quiet, .int .i64 x.used, .slice A4 x.rest.length c4] 90 (0, 0)) (by repeat (first | exact blk_at_new _ _ _ (by simp; done) | exact blk_at_new _ _ _ rfl | refine blk_alloc ?_ _ | refine blk_drew ?_ | refine blk_drewN ?_ _)) hb); have BR := Aside0.mk (blk_below (g := w.heap.size + 1) (o := .cells zStepC 61 (0, 0)) (by repeat (first | exact blk_at_new _ _ _ (by simp; done) | exact blk_at_new _ _ _ rfl | refine blk_alloc ?_ _ | refine blk_drew ?_ | refine blk_drewN ?_ _)) hb); have HBn := Aside0.mk (below_step (by repeat (first | (with_reducible first | exact HB.out | apply below_alloc | apply pw_below_drewN | apply below_drew1) | exact HB.out)) hb); clear HB; have HB := HBn; clear HBn; have hx1 : w.heap.size < w1.heap.size := blk_lt BX.out; have hx2 : w.heap.size + 1 < w1.heap.size := blk_lt BR.out; have hb1 : b < w1.heap.size := Nat.lt_of_lt_of_le hb0 HB.out.size; clear hb; have t0 : w1.cell? ⟨w.heap.size, 0, none⟩ = some (.string x.verb) := (blk_cell BX.out 0).trans rfl; have t1 : w1.cell? ⟨w.heap.size, 1, none⟩ = some (.slice (some ⟨b, o, none⟩) x.words.length c1) := (blk_cell BX.out 1).trans rfl; have t2 : w1.cell? ⟨w.heap.size, 2, none⟩ = some (.bool x.quiet) := (blk_cell BX.out 2).trans rfl; have t3 : w1.cell? ⟨w.heap.size, 3, none⟩ = some (.int .i64 x.used) := (blk_cell BX.out 3).trans rfl; have t4 : w1.cell? ⟨w.heap.size, 4, none⟩ = some (.slice A4 x.rest.length c4) := (blk_cell BX.out 4).trans rfl; have t5 : w1.cell? ⟨b, o + 3, none⟩ = some (.string v) := (Below.cell HB.out (p := ⟨b, o + 3, none⟩) hb0).trans HCL.out) | ((go_at_call 84; (with_reducible refine (HDC.out _ (Tabs.below HT.out (by repeat (first | (with_reducible first | exact HB.out | apply below_alloc | apply pw_below_drewN | apply below_drew1) | exact HB.out)))).mono ?_); rintro e w3 ⟨rfl, hb⟩; have BX3 := Aside0.mk (blk_below (blk_alloc BX.out _) hb); have BR3 := Aside0.mk (blk_below (blk_alloc BR.out _) hb); have BS3 := Aside0.mk (blk_below (g := w1.heap.size) (o := .cells (stepFC x.used reply 0 false).toArray 61 (0, 0)) (blk_at_new _ _ _ rfl) hb); have HBn := Aside0.mk (below_step (by repeat (first | (with_reducible first | exact HB.out | apply below_alloc | apply pw_below_drewN | apply below_drew1) | exact HB.out)) hb); clear HB; have HB := HBn; clear HBn; clear hb); (have e0 : w3.cell? ⟨w1.heap.size, 0, none⟩ = some (.slice none 0 0) := (blk_cell BS3.out 0).trans rfl; have e1 : w3.cell? ⟨w1.heap.size, 1, none⟩ = some (.int .i64 0) := (blk_cell BS3.out 1).trans rfl; have e2 : w3.cell? ⟨w1.heap.size, 2, none⟩ = some (.string ⟨#[]⟩) := (blk_cell BS3.out 2).trans rfl; have e3 : w3.cell? ⟨w1.heap.size, 3, none⟩ = some (.int .i64 0) := (blk_cell BS3.out 3).trans rfl; have e4 : w3.cell? ⟨w1.heap.size, 4, none⟩ = some (.int .u32 0) := (blk_cell BS3.out 4).trans rfl; have e5 : w3.cell? ⟨w1.heap.size, 5, none⟩ = some (.bool false) := (blk_cell BS3.out 5).trans rfl; have e6 : w3.cell? ⟨w1.heap.size, 6, none⟩ = some (.bool false) := (blk_cell BS3.out 6).trans rfl; have e7 : w3.cell? ⟨w1.heap.size, 7, none⟩ = some (.string ⟨#[]⟩) := (blk_cell BS3.out 7).trans rfl; have e8 : w3.cell? ⟨w1.heap.size, 8, none⟩ = some (.slice none 0 0) := (blk_cell BS3.out 8).trans rfl; have e9 : w3.cell? ⟨w1.heap.size, 9, none⟩ = some (.slice none 0 0) := (blk_cell BS3.out 9).trans rfl; have e10 : w3.cell? ⟨w1.heap.size, 10, none⟩ = some (.bool false) := (blk_cell BS3.out 10).trans rfl; have e11 : w3.cell? ⟨w1.heap.size, 11, none⟩ = some (.string (reply ++ (⟨#[13, 10]⟩ : ByteArray))) := (blk_cell BS3.out 11).trans rfl; have e12 : w3.cell? ⟨w1.heap.size, 12, none⟩ = some (.int .i64 x.used) := (blk_cell BS3.out 12).trans rfl; have e13 : w3.cell? ⟨w1.heap.size, 13, none⟩ = some (.int .i64 0) := (blk_cell BS3.out 13).trans rfl; have e14 : w3.cell? ⟨w1.heap.size, 14, none⟩ = some (.bool false) := (blk_cell BS3.out 14).trans rfl; have e15 : w3.cell? ⟨w1.heap.size, 15, none⟩ = some (.int .i64 2) := (blk_cell BS3.out 15).trans rfl)) | (refine wpList_store_F rfl 61 _ _ rfl (w.heap.size + 1) 0 _ rfl rfl (by simp [Value.oneCell']) 61 _ _ BR3.out (by simp [zStepC]) (by kernel_rfl) rfl ?_; intro w8 hbk hst; have BR8 := Aside0.mk hbk; have HB8 := Aside0.mk (hst.up HB.out (by omega)); clear hbk hst))
  ((try simp only [Exit.inBlock, Exit.then]); refine bodyPost_ret (results_cell_row rfl _ _ (w.heap.size + 1) 61 _ (0, 0) _ rfl BR8.out Tryz.underlying61 rfl (by kernel_rfl)) rfl ?_)
  exact ⟨⟨_, rfl, fun w2 _ _ => stepFS_K w2 x.used reply 0 false⟩, HB8.out⟩
set_option maxRecDepth 100000 in
set_option maxHeartbeats 1000000 in
theorem skipped_b (x : TextinLine) (cx : List Value) (reply : ByteArray) (v : ByteArray) (F : Nat → Prop) (w : World) (hx : kTextinLine.K w x cx) (hT : Tabs w) (hr : reply.size ≤ 1000) (hn : 3 < x.words.length) (hv : x.words.getD 3 ⟨#[]⟩ = v) (z : Nat) (hz : decS v = (z, true)) (hle : (z : Int) ≤ 1073741824) :
    Calls Tryz.prog 136 #[.agg cx.toArray, .string reply] w (StepR F w (stepFS x.used reply (↑z + 2) false)) := by
  have HB := Aside0.mk (Below.refl w.heap.size w)
  have HX := Aside0.mk hx
  have HT := Aside0.mk hT
  obtain ⟨A1, c1, A4, c4, rfl, hl1, hg1, hl4, hg4⟩ := kTextinLine_open hx
  obtain ⟨b, o, rfl, hb0, hcell⟩ := S_cell hg1 3 hn
  rw [hv] at hcell
  have HCL := Aside0.mk hcell
  have HO : Aside0 (∀ w', Below w.heap.size w w' → Calls Tryz.prog 50 #[.agg #[.string x.verb, .slice (some ⟨b, o, none⟩) x.words.length c1, .bool x.quiet, .int .i64 x.used, .slice A4 x.rest.length c4], .string reply] w' fun e w'' => e = .returned (.agg (stepFC x.used reply 0 false).toArray) ∧ Below w'.heap.size w' w'') := ⟨fun w' hb => fault_ex x _ _ w' (kTextinLine.K_below hb HX.out) hr⟩
  have HDC := Aside0.mk (fun w => dec_w v w)
  rw [hz] at HDC
  clear hz hv hcell hx hg1 hg4 hT
  have hn3 : (3 : Int) < x.words.length := by omega
  have hz0 : (0 : Int) ≤ ↑z := by omega
  go_enter Tryz.func136, Tryz.ntmps136
  go_wp2_with (first | (go_at_call 50; (with_reducible refine (HO.out _ (by repeat (first | (with_reducible first | exact HB.out | apply below_alloc | apply pw_below_drewN | apply below_drew1) | exact HB.out))).mono ?_); rintro e w1 ⟨rfl, hb⟩; unfold stepFC; have BX := Aside0.mk (blk_below (g := w.heap.size) (o := .cells #[.string x.verb, .slice (some ⟨b, o, none⟩) x.words.length c1, .bool x.quiet, .int .i64 x.used, .slice A4 x.rest.length c4] 90 (0, 0)) (by repeat (first | exact blk_at_new _ _ _ (by simp; done) | exact blk_at_new _ _ _ rfl | refine blk_alloc ?_ _ | refine blk_drew ?_ | refine blk_drewN ?_ _)) hb); have BR := Aside0.mk (blk_below (g := w.heap.size + 1) (o := .cells zStepC 61 (0, 0)) (by repeat (first | exact blk_at_new _ _ _ (by simp; done) | exact blk_at_new _ _ _ rfl | refine blk_alloc ?_ _ | refine blk_drew ?_ | refine blk_drewN ?_ _)) hb); have HBn := Aside0.mk (below_step (by repeat (first | (with_reducible first | exact HB.out | apply below_alloc | apply pw_below_drewN | apply below_drew1) | exact HB.out)) hb); clear HB; have HB := HBn; clear HBn; have hx1 : w.heap.size < w1.heap.size := blk_lt BX.out; have hx2 : w.heap.size + 1 < w1.heap.size := blk_lt BR.out; have hb1 : b < w1.heap.size := Nat.lt_of_lt_of_le hb0 HB.out.size; clear hb; have t0 : w1.cell? ⟨w.heap.size, 0, none⟩ = some (.string x.verb) := (blk_cell BX.out 0).trans rfl; have t1 : w1.cell? ⟨w.heap.size, 1, none⟩ = some (.slice (some ⟨b, o, none⟩) x.words.length c1) := (blk_cell BX.out 1).trans rfl; have t2 : w1.cell? ⟨w.heap.size, 2, none⟩ = some (.bool x.quiet) := (blk_cell BX.out 2).trans rfl; have t3 : w1.cell? ⟨w.heap.size, 3, none⟩ = some (.int .i64 x.used) := (blk_cell BX.out 3).trans rfl; have t4 : w1.cell? ⟨w.heap.size, 4, none⟩ = some (.slice A4 x.rest.length c4) := (blk_cell BX.out 4).trans rfl; have t5 : w1.cell? ⟨b, o + 3, none⟩ = some (.string v) := (Below.cell HB.out (p := ⟨b, o + 3, none⟩) hb0).trans HCL.out) | (go_at_call 84; (with_reducible refine (HDC.out _ (Tabs.below HT.out (by repeat (first | (with_reducible first | exact HB.out | apply below_alloc | apply pw_below_drewN | apply below_drew1) | exact HB.out)))).mono ?_); rintro e w3 ⟨rfl, hb⟩; have BX3 := Aside0.mk (blk_below (blk_alloc BX.out _) hb); have BR3 := Aside0.mk (blk_below (blk_alloc BR.out _) hb); have BS3 := Aside0.mk (blk_below (g := w1.heap.size) (o := .cells (stepFC x.used reply 0 false).toArray 61 (0, 0)) (blk_at_new _ _ _ rfl) hb); have HBn := Aside0.mk (below_step (by repeat (first | (with_reducible first | exact HB.out | apply below_alloc | apply pw_below_drewN | apply below_drew1) | exact HB.out)) hb); clear HB; have HB := HBn; clear HBn; clear hb) | (refine wpList_store_1 rfl 3 _ _ rfl w1.heap.size 13 (.int .i64 (↑z + 2)) rfl rfl rfl 61 _ (stepFC x.used reply (↑z + 2) false).toArray BS3.out (by simp [stepFC]) (by kernel_rfl) rfl ?_; intro w4 hbk hst; have BS4 := Aside0.mk hbk; have BR4 := Aside0.mk (hst.blk BR3.out (by omega)); have HB4 := Aside0.mk (hst.up HB.out (by omega)); clear hbk hst; have e0 : w4.cell? ⟨w1.heap.size, 0, none⟩ = some (.slice none 0 0) := (blk_cell BS4.out 0).trans rfl; have e1 : w4.cell? ⟨w1.heap.size, 1, none⟩ = some (.int .i64 0) := (blk_cell BS4.out 1).trans rfl; have e2 : w4.cell? ⟨w1.heap.size, 2, none⟩ = some (.string ⟨#[]⟩) := (blk_cell BS4.out 2).trans rfl; have e3 : w4.cell? ⟨w1.heap.size, 3, none⟩ = some (.int .i64 0) := (blk_cell BS4.out 3).trans rfl; have e4 : w4.cell? ⟨w1.heap.size, 4, none⟩ = some (.int .u32 0) := (blk_cell BS4.out 4).trans rfl; have e5 : w4.cell? ⟨w1.heap.size, 5, none⟩ = some (.bool false) := (blk_cell BS4.out 5).trans rfl; have e6 : w4.cell? ⟨w1.heap.size, 6, none⟩ = some (.bool false) := (blk_cell BS4.out 6).trans rfl; have e7 : w4.cell? ⟨w1.heap.size, 7, none⟩ = some (.string ⟨#[]⟩) := (blk_cell BS4.out 7).trans rfl; have e8 : w4.cell? ⟨w1.heap.size, 8, none⟩ = some (.slice none 0 0) := (blk_cell BS4.out 8).trans rfl; have e9 : w4.cell? ⟨w1.heap.size, 9, none⟩ = some (.slice none 0 0) := (blk_cell BS4.out 9).trans rfl; have e10 : w4.cell? ⟨w1.heap.size, 10, none⟩ = some (.bool false) := (blk_cell BS4.out 10).trans rfl; have e11 : w4.cell? ⟨w1.heap.size, 11, none⟩ = some (.string (reply ++ (⟨#[13, 10]⟩ : ByteArray))) := (blk_cell BS4.out 11).trans rfl; have e12 : w4.cell? ⟨w1.heap.size, 12, none⟩ = some (.int .i64 x.used) := (blk_cell BS4.out 12).trans rfl; have e13 : w4.cell? ⟨w1.heap.size, 13, none⟩ = some (.int .i64 (↑z + 2)) := (blk_cell BS4.out 13).trans rfl; have e14 : w4.cell? ⟨w1.heap.size, 14, none⟩ = some (.bool false) := (blk_cell BS4.out 14).trans rfl; have e15 : w4.cell? ⟨w1.heap.size, 15, none⟩ = some (.int .i64 2) := (blk_cell BS4.out 15).trans rfl) | (refine wpList_store_F rfl 61 _ _ rfl (w.heap.size + 1) 0 _ rfl rfl (by simp [Value.oneCell']) 61 _ _ BR4.out (by simp [zStepC]) (by kernel_rfl) rfl ?_; intro w8 hbk hst; have BR8 := Aside0.mk hbk; have HB8 := Aside0.mk (hst.up HB4.out (by omega)); clear hbk hst))
  ((try simp only [Exit.inBlock, Exit.then]); refine bodyPost_ret (results_cell_row rfl _ _ (w.heap.size + 1) 61 _ (0, 0) _ rfl BR8.out Tryz.underlying61 rfl (by kernel_rfl)) rfl ?_)
  exact ⟨⟨_, rfl, fun w2 _ _ => stepFS_K w2 x.used reply (↑z + 2) false⟩, HB8.out⟩
set_option maxRecDepth 100000 in
set_option maxHeartbeats 1000000 in
theorem skipped_c (x : TextinLine) (cx : List Value) (reply : ByteArray) (v : ByteArray) (F : Nat → Prop) (w : World) (hx : kTextinLine.K w x cx) (hT : Tabs w) (hr : reply.size ≤ 1000) (hn : 3 < x.words.length) (hv : x.words.getD 3 ⟨#[]⟩ = v) (z : Nat) (hz : decS v = (z, true)) (hle : ¬ (z : Int) ≤ 1073741824) :
    Calls Tryz.prog 136 #[.agg cx.toArray, .string reply] w (StepR F w (stepFS x.used reply 0 false)) := by
  have HB := Aside0.mk (Below.refl w.heap.size w)
  have HX := Aside0.mk hx
  have HT := Aside0.mk hT
  obtain ⟨A1, c1, A4, c4, rfl, hl1, hg1, hl4, hg4⟩ := kTextinLine_open hx
  obtain ⟨b, o, rfl, hb0, hcell⟩ := S_cell hg1 3 hn
  rw [hv] at hcell
  have HCL := Aside0.mk hcell
  have HO : Aside0 (∀ w', Below w.heap.size w w' → Calls Tryz.prog 50 #[.agg #[.string x.verb, .slice (some ⟨b, o, none⟩) x.words.length c1, .bool x.quiet, .int .i64 x.used, .slice A4 x.rest.length c4], .string reply] w' fun e w'' => e = .returned (.agg (stepFC x.used reply 0 false).toArray) ∧ Below w'.heap.size w' w'') := ⟨fun w' hb => fault_ex x _ _ w' (kTextinLine.K_below hb HX.out) hr⟩
  have HDC := Aside0.mk (fun w => dec_w v w)
  rw [hz] at HDC
  clear hz hv hcell hx hg1 hg4 hT
  have hn3 : (3 : Int) < x.words.length := by omega
  go_enter Tryz.func136, Tryz.ntmps136
  go_wp2_with (first | (go_at_call 50; (with_reducible refine (HO.out _ (by repeat (first | (with_reducible first | exact HB.out | apply below_alloc | apply pw_below_drewN | apply below_drew1) | exact HB.out))).mono ?_); rintro e w1 ⟨rfl, hb⟩; unfold stepFC; have BX := Aside0.mk (blk_below (g := w.heap.size) (o := .cells #[.string x.verb, .slice (some ⟨b, o, none⟩) x.words.length c1, .bool x.quiet, .int .i64 x.used, .slice A4 x.rest.length c4] 90 (0, 0)) (by repeat (first | exact blk_at_new _ _ _ (by simp; done) | exact blk_at_new _ _ _ rfl | refine blk_alloc ?_ _ | refine blk_drew ?_ | refine blk_drewN ?_ _)) hb); have BR := Aside0.mk (blk_below (g := w.heap.size + 1) (o := .cells zStepC 61 (0, 0)) (by repeat (first | exact blk_at_new _ _ _ (by simp; done) | exact blk_at_new _ _ _ rfl | refine blk_alloc ?_ _ | refine blk_drew ?_ | refine blk_drewN ?_ _)) hb); have HBn := Aside0.mk (below_step (by repeat (first | (with_reducible first | exact HB.out | apply below_alloc | apply pw_below_drewN | apply below_drew1) | exact HB.out)) hb); clear HB; have HB := HBn; clear HBn; have hx1 : w.heap.size < w1.heap.size := blk_lt BX.out; have hx2 : w.heap.size + 1 < w1.heap.size := blk_lt BR.out; have hb1 : b < w1.heap.size := Nat.lt_of_lt_of_le hb0 HB.out.size; clear hb; have t0 : w1.cell? ⟨w.heap.size, 0, none⟩ = some (.string x.verb) := (blk_cell BX.out 0).trans rfl; have t1 : w1.cell? ⟨w.heap.size, 1, none⟩ = some (.slice (some ⟨b, o, none⟩) x.words.length c1) := (blk_cell BX.out 1).trans rfl; have t2 : w1.cell? ⟨w.heap.size, 2, none⟩ = some (.bool x.quiet) := (blk_cell BX.out 2).trans rfl; have t3 : w1.cell? ⟨w.heap.size, 3, none⟩ = some (.int .i64 x.used) := (blk_cell BX.out 3).trans rfl; have t4 : w1.cell? ⟨w.heap.size, 4, none⟩ = some (.slice A4 x.rest.length c4) := (blk_cell BX.out 4).trans rfl; have t5 : w1.cell? ⟨b, o + 3, none⟩ = some (.string v) := (Below.cell HB.out (p := ⟨b, o + 3, none⟩) hb0).trans HCL.out) | ((go_at_call 84; (with_reducible refine (HDC.out _ (Tabs.below HT.out (by repeat (first | (with_reducible first | exact HB.out | apply below_alloc | apply pw_below_drewN | apply below_drew1) | exact HB.out)))).mono ?_); rintro e w3 ⟨rfl, hb⟩; have BX3 := Aside0.mk (blk_below (blk_alloc BX.out _) hb); have BR3 := Aside0.mk (blk_below (blk_alloc BR.out _) hb); have BS3 := Aside0.mk (blk_below (g := w1.heap.size) (o := .cells (stepFC x.used reply 0 false).toArray 61 (0, 0)) (blk_at_new _ _ _ rfl) hb); have HBn := Aside0.mk (below_step (by repeat (first | (with_reducible first | exact HB.out | apply below_alloc | apply pw_below_drewN | apply below_drew1) | exact HB.out)) hb); clear HB; have HB := HBn; clear HBn; clear hb); (have e0 : w3.cell? ⟨w1.heap.size, 0, none⟩ = some (.slice none 0 0) := (blk_cell BS3.out 0).trans rfl; have e1 : w3.cell? ⟨w1.heap.size, 1, none⟩ = some (.int .i64 0) := (blk_cell BS3.out 1).trans rfl; have e2 : w3.cell? ⟨w1.heap.size, 2, none⟩ = some (.string ⟨#[]⟩) := (blk_cell BS3.out 2).trans rfl; have e3 : w3.cell? ⟨w1.heap.size, 3, none⟩ = some (.int .i64 0) := (blk_cell BS3.out 3).trans rfl; have e4 : w3.cell? ⟨w1.heap.size, 4, none⟩ = some (.int .u32 0) := (blk_cell BS3.out 4).trans rfl; have e5 : w3.cell? ⟨w1.heap.size, 5, none⟩ = some (.bool false) := (blk_cell BS3.out 5).trans rfl; have e6 : w3.cell? ⟨w1.heap.size, 6, none⟩ = some (.bool false) := (blk_cell BS3.out 6).trans rfl; have e7 : w3.cell? ⟨w1.heap.size, 7, none⟩ = some (.string ⟨#[]⟩) := (blk_cell BS3.out 7).trans rfl; have e8 : w3.cell? ⟨w1.heap.size, 8, none⟩ = some (.slice none 0 0) := (blk_cell BS3.out 8).trans rfl; have e9 : w3.cell? ⟨w1.heap.size, 9, none⟩ = some (.slice none 0 0) := (blk_cell BS3.out 9).trans rfl; have e10 : w3.cell? ⟨w1.heap.size, 10, none⟩ = some (.bool false) := (blk_cell BS3.out 10).trans rfl; have e11 : w3.cell? ⟨w1.heap.size, 11, none⟩ = some (.string (reply ++ (⟨#[13, 10]⟩ : ByteArray))) := (blk_cell BS3.out 11).trans rfl; have e12 : w3.cell? ⟨w1.heap.size, 12, none⟩ = some (.int .i64 x.used) := (blk_cell BS3.out 12).trans rfl; have e13 : w3.cell? ⟨w1.heap.size, 13, none⟩ = some (.int .i64 0) := (blk_cell BS3.out 13).trans rfl; have e14 : w3.cell? ⟨w1.heap.size, 14, none⟩ = some (.bool false) := (blk_cell BS3.out 14).trans rfl; have e15 : w3.cell? ⟨w1.heap.size, 15, none⟩ = some (.int .i64 2) := (blk_cell BS3.out 15).trans rfl)) | (refine wpList_store_F rfl 61 _ _ rfl (w.heap.size + 1) 0 _ rfl rfl (by simp [Value.oneCell']) 61 _ _ BR3.out (by simp [zStepC]) (by kernel_rfl) rfl ?_; intro w8 hbk hst; have BR8 := Aside0.mk hbk; have HB8 := Aside0.mk (hst.up HB.out (by omega)); clear hbk hst))
  ((try simp only [Exit.inBlock, Exit.then]); refine bodyPost_ret (results_cell_row rfl _ _ (w.heap.size + 1) 61 _ (0, 0) _ rfl BR8.out Tryz.underlying61 rfl (by kernel_rfl)) rfl ?_)
  exact ⟨⟨_, rfl, fun w2 _ _ => stepFS_K w2 x.used reply 0 false⟩, HB8.out⟩
theorem skipped_calls (x : TextinLine) (cx : List Value) (reply : ByteArray) (v : ByteArray) (F : Nat → Prop) (w : World) (hx : kTextinLine.K w x cx) (hT : Tabs w) (hr : reply.size ≤ 1000) (hn : 3 < x.words.length) (hv : x.words.getD 3 ⟨#[]⟩ = v) :
    Calls Tryz.prog 136 #[.agg cx.toArray, .string reply] w (StepR F w (stepFS x.used reply (skipN (decS v)) false)) := by
  obtain ⟨⟨z, p⟩, hz⟩ : ∃ z, decS v = z := ⟨_, rfl⟩
  rw [hz]
  cases p
  · rw [show skipN (z, false) = 0 from if_neg (fun h => by cases h.1)]
    exact skipped_a x cx reply v F w hx hT hr hn hv z hz
  by_cases hle : (z : Int) ≤ 1073741824
  · rw [show skipN (z, true) = ↑z + 2 from if_pos ⟨rfl, hle⟩]
    exact skipped_b x cx reply v F w hx hT hr hn hv z hz hle
  · rw [show skipN (z, true) = 0 from if_neg (fun h => hle h.2)]
    exact skipped_c x cx reply v F w hx hT hr hn hv z hz hle
end Go.Proofs.YtdjbbncoioghfaaGreatDoor.X
namespace Go.Proofs.YtdjbbncoioghfaaGreatDoor.X
open Go.RowKit Go.Proofs.YtdjbbncoioghfaaGreatDoorW.PrintWords Go.Proofs.YtdjbbncoioghfaaGreatDoorW.PrintMore
set_option linter.unusedVariables false
set_option linter.unusedSimpArgs false
theorem own_Cu8 {W : World} {base : Nat} {A : Option Addr} {c : Nat} {l : List Int} (h : W.ownsRow base 5 1 (.slice A l.length c) l.length (encs (Value.int .u8) l)) : (Kd.int .u8).C W A l.length l := by
  obtain ⟨A', c', e, -, hC⟩ := Kd.R_reads (Kd.R_of_own (h1 := fun _ => rfl) (ok := fun _ => True) h (fun _ _ => trivial))
  obtain ⟨rfl, -, rfl⟩ := Value.slice.inj e
  exact hC
def largeT : ByteArray := (⟨#[83, 69, 82, 86, 69, 82, 95, 69, 82, 82, 79, 82, 32, 111, 98, 106, 101, 99, 116, 32, 116, 111, 111, 32, 108, 97, 114, 103, 101, 32, 102, 111, 114, 32, 99, 97, 99, 104, 101]⟩ : ByteArray)
def chunkT : ByteArray := (⟨#[67, 76, 73, 69, 78, 84, 95, 69, 82, 82, 79, 82, 32, 98, 97, 100, 32, 100, 97, 116, 97, 32, 99, 104, 117, 110, 107]⟩ : ByteArray)
def stepM : Step := { zStep with e := 3 }
def stepMC : List Value := [.slice none 0 0, .int .i64 0, .string ⟨#[]⟩, .int .i64 0, .int .u32 0, .bool false, .bool false, .string ⟨#[]⟩, .slice none 0 0, .slice none 0 0, .bool false, .string ⟨#[]⟩, .int .i64 0, .int .i64 0, .bool false, .int .i64 3]
theorem stepM_K (w : World) : kStep.K w stepM stepMC := kStep_mk w stepM (Nat.le_refl _) (C_nil _ _) (Nat.le_refl _) (C_nil _ _) (Nat.le_refl _) (C_nil _ _)
def badA (q p1 : Bool) (z1 : Nat) (p2 p3 p4 : Bool) : Bool := !q || (!p1 || (decide ((z1 : Int) > 4294967295) || (!p2 || (!p3 || !p4))))
def cmdS (op : Int) (key : ByteArray) (v : List Int) (flags exp cas : Int) : Cmd := { zCmd with op := op, key := key, value := v, flags := flags, exp := exp, cas := cas }
/-- What a request to store is, behind its numbers. -/
def storesR (verb : ByteArray) (quiet : Bool) (used : Int) (rest : List Int) (op : Int) (v0 v1 v2 v3 : ByteArray) (cas : Nat × Bool) : Step :=
  if badA (keyS v0) (decS v1).2 (decS v1).1 (sgnS v2).2 (decS v3).2 cas.2 = true then stepFS used badT (skipN (decS v3)) false
  else if ((decS v3).1 : Int) > 1000 then stepFS used largeT (skipN (decS v3)) false
  else if (bodyS rest ((decS v3).1 : Int)).2.2 = 3 then stepM
  else if (bodyS rest ((decS v3).1 : Int)).2.2 = 2 then stepFS (used + (bodyS rest ((decS v3).1 : Int)).2.1) chunkT 0 true
  else stepO (used + (bodyS rest ((decS v3).1 : Int)).2.1) (formT verb quiet [v0]) (cmdS op v0 (bodyS rest ((decS v3).1 : Int)).1 ((decS v1).1 : Int) (sgnS v2).1 (cas.1 : Int))
theorem bodyS_e (l : List Int) (n : Int) (h0 : 0 ≤ n) (hn : n ≤ 1000) : (bodyS l n).2.2 = 3 ∧ (bodyS l n).2.1 = 0 ∨ (bodyS l n).2.2 = 2 ∧ (bodyS l n).2.1 = n ∨ (bodyS l n).2.2 = 0 ∧ (bodyS l n).2.1 = n + 2 := by
  unfold bodyS
  rw [if_neg (by omega)]
  split
  · exact .inl ⟨rfl, rfl⟩
  split
  · exact .inr (.inr ⟨rfl, rfl⟩)
  · exact .inr (.inl ⟨rfl, rfl⟩)
def casS (n : Nat) (v : ByteArray) : Nat × Bool := if n = 5 then decS v else (0, true)
set_option maxRecDepth 100000 in
set_option maxHeartbeats 1000000 in
theorem stores_walk (x : TextinLine) (cx : List Value) (op : Int) (v0 v1 v2 v3 v4 : ByteArray) (F : Nat → Prop) (w : World) (hx : HolF F w (fun w2 => kTextinLine.K w2 x cx)) (hT : Tabs w) (hn : x.words.length = 4 ∨ x.words.length = 5)
    (h0 : x.words.getD 0 ⟨#[]⟩ = v0) (h1 : x.words.getD 1 ⟨#[]⟩ = v1) (h2 : x.words.getD 2 ⟨#[]⟩ = v2) (h3 : x.words.getD 3 ⟨#[]⟩ = v3) (h4 : x.words.getD 4 ⟨#[]⟩ = v4) (hk : v0.size ≤ 1000000) (hu0 : 0 ≤ x.used) (hu1 : x.used ≤ 1000000) (h8 : B8 x.rest) (hrl : x.rest.length ≤ 1000000) :
    Calls Tryz.prog 93 #[.agg cx.toArray, .int .i64 op, .int .i64 (x.words.length : Int)] w (StepR F w (storesR x.verb x.quiet x.used x.rest op v0 v1 v2 v3 (casS x.words.length v4))) := by
  have HB := Aside0.mk (Below.refl w.heap.size w)
  have HXF := Aside0.mk hx
  have HX := Aside0.mk hx.now
  have HT := Aside0.mk hT
  have HN := Aside0.mk hn
  obtain ⟨A1, c1, A4, c4, rfl, hl1, hg1, hl4, hg4⟩ := kTextinLine_open hx.now
  have HG := Aside0.mk hg1
  have HG4 := Aside0.mk hg4
  obtain ⟨b, o, rfl, hb0, hcell0⟩ := S_cell hg1 0 (by omega)
  rw [h0, Nat.add_zero] at hcell0
  have HC0 := Aside0.mk hcell0
  have HC1 : Aside0 (w.cell? ⟨b, o + 1, none⟩ = some (.string v1)) := by
    obtain ⟨b', o', e', -, h⟩ := S_cell hg1 1 (by omega)
    obtain ⟨rfl, rfl⟩ : b = b' ∧ o = o' := by simpa using e'
    rw [h1] at h
    exact ⟨h⟩
  have HC2 : Aside0 (w.cell? ⟨b, o + 2, none⟩ = some (.string v2)) := by
    obtain ⟨b', o', e', -, h⟩ := S_cell hg1 2 (by omega)
    obtain ⟨rfl, rfl⟩ : b = b' ∧ o = o' := by simpa using e'
    rw [h2] at h
    exact ⟨h⟩
  have HC3 : Aside0 (w.cell? ⟨b, o + 3, none⟩ = some (.string v3)) := by
    obtain ⟨b', o', e', -, h⟩ := S_cell hg1 3 (by omega)
    obtain ⟨rfl, rfl⟩ : b = b' ∧ o = o' := by simpa using e'
    rw [h3] at h
    exact ⟨h⟩
  have HC4 : Aside0 (x.words.length = 5 → w.cell? ⟨b, o + 4, none⟩ = some (.string v4)) := ⟨fun h5 => by
    obtain ⟨b', o', e', -, h⟩ := S_cell hg1 4 (by omega)
    obtain ⟨rfl, rfl⟩ : b = b' ∧ o = o' := by simpa using e'
    rw [h4] at h
    exact h⟩
  have HK0 := Aside0.mk (fun w => fkey_calls v0 w hk)
  obtain ⟨R, hR⟩ : ∃ R, storesR x.verb x.quiet x.used x.rest op v0 v1 v2 v3 (casS x.words.length v4) = R := ⟨_, rfl⟩
  rw [hR]
  unfold storesR at hR
  have H8 := Aside0.mk h8
  have HSK : Aside0 (∀ reply : ByteArray, reply.size ≤ 1000 → ∀ w', Below w.heap.size w w' → Calls Tryz.prog 136 #[.agg #[.string x.verb, .slice (some ⟨b, o, none⟩) x.words.length c1, .bool x.quiet, .int .i64 x.used, .slice A4 x.rest.length c4], .string reply] w' (StepR (fun k => k < w.heap.size ∧ F k) w' (stepFS x.used reply (skipN (decS v3)) false))) := ⟨fun reply hr w' hb => skipped_calls x _ reply v3 _ w' (kTextinLine.K_below hb HX.out) (Tabs.below HT.out hb) hr (by have := HN.out; omega) h3⟩
  have HD1 := Aside0.mk (fun w => dec_w v1 w)
  have HS2 := Aside0.mk (fun w => sgn_w v2 w)
  have HD3 := Aside0.mk (fun w => dec_w v3 w)
  have HD4 := Aside0.mk (fun w => dec_w v4 w)
  obtain ⟨⟨z1, p1⟩, hz1⟩ : ∃ z, decS v1 = z := ⟨_, rfl⟩
  obtain ⟨⟨z2, p2⟩, hz2⟩ : ∃ z, sgnS v2 = z := ⟨_, rfl⟩
  obtain ⟨⟨z3, p3⟩, hz3⟩ : ∃ z, decS v3 = z := ⟨_, rfl⟩
  obtain ⟨⟨z4, p4⟩, hz4⟩ : ∃ z, casS x.words.length v4 = z := ⟨_, rfl⟩
  have HZ4 := Aside0.mk hz4
  rw [hz1] at HD1
  rw [hz2] at HS2
  rw [hz3] at HD3
  obtain ⟨q, hq⟩ : ∃ q, keyS v0 = q := ⟨_, rfl⟩
  rw [hq] at HK0
  rw [hz1, hz2, hz3, hz4, hq] at hR
  rw [hz3] at HSK
  have HR := Aside0.mk hR
  have HQ := Aside0.mk hq
  obtain ⟨bd, hbd⟩ : ∃ bd, badA q p1 z1 p2 p3 p4 = bd := ⟨_, rfl⟩
  rw [hbd] at HR
  have HBD := Aside0.mk hbd
  clear hR hq hbd h8
  clear hx hg1 hg4 hT h0 h1 h2 h3 h4 hcell0 hk hz1 hz2 hz3 hz4
  have hn1 : (3 : Int) < x.words.length := by omega
  have hn2 : (x.words.length : Int) ≤ c1 := by omega
  clear hn
  go_enter Tryz.func93, Tryz.ntmps93
  go_upto_region 1 with fail
  obtain ⟨W, hW⟩ : ∃ W, (w.alloc (.cells #[.string x.verb, .slice (some ⟨b, o, none⟩) x.words.length c1, .bool x.quiet, .int .i64 x.used, .slice A4 x.rest.length c4] 90 (0, 0))).alloc (.cells zStepC 61 (0, 0)) = W := ⟨_, rfl⟩
  have hW2 := hW
  unfold zStepC at hW2
  rw [hW2]
  have BX := Aside0.mk (show W.heap[w.heap.size]? = _ from hW ▸ blk_alloc (blk_at_new _ _ _ rfl) _)
  have BR := Aside0.mk (show W.heap[w.heap.size + 1]? = _ from hW ▸ blk_at_new _ _ _ (by simp))
  have HBn : Aside0 (Below w.heap.size w W) := ⟨hW ▸ (by repeat (first | (with_reducible first | exact HB.out | apply below_alloc | apply pw_below_drewN | apply below_drew1) | exact HB.out))⟩
  clear HB hW hW2
  have HB := HBn
  clear HBn
  have t1 : W.cell? ⟨w.heap.size, 1, none⟩ = some (.slice (some ⟨b, o, none⟩) x.words.length c1) := (blk_cell BX.out 1).trans rfl; have k0 : W.cell? ⟨b, o, none⟩ = some (.string v0) := (Below.cell HB.out (p := ⟨b, o, none⟩) hb0).trans HC0.out; have k1 : W.cell? ⟨b, o + 1, none⟩ = some (.string v1) := (Below.cell HB.out (p := ⟨b, o + 1, none⟩) hb0).trans HC1.out; have k2 : W.cell? ⟨b, o + 2, none⟩ = some (.string v2) := (Below.cell HB.out (p := ⟨b, o + 2, none⟩) hb0).trans HC2.out; have k3 : W.cell? ⟨b, o + 3, none⟩ = some (.string v3) := (Below.cell HB.out (p := ⟨b, o + 3, none⟩) hb0).trans HC3.out
  go_upto_if 51 with (first | (go_at_call 84; (with_reducible refine (HD1.out _ (Tabs.below HT.out (by repeat (first | (with_reducible first | exact HB.out | apply below_alloc | apply pw_below_drewN | apply below_drew1) | exact HB.out)))).mono ?_); rintro e w1 ⟨rfl, hb⟩; have BXn := Aside0.mk (blk_below BX.out hb); have BRn := Aside0.mk (blk_below BR.out hb); clear BX BR t1 k0 k1 k2 k3; have BX := BXn; have BR := BRn; clear BXn BRn; have HBn := Aside0.mk (below_step (by repeat (first | (with_reducible first | exact HB.out | apply below_alloc | apply pw_below_drewN | apply below_drew1) | exact HB.out)) hb); clear HB; have HB := HBn; clear HBn; clear hb; have t1 : w1.cell? ⟨w.heap.size, 1, none⟩ = some (.slice (some ⟨b, o, none⟩) x.words.length c1) := (blk_cell BX.out 1).trans rfl; have k0 : w1.cell? ⟨b, o, none⟩ = some (.string v0) := (Below.cell HB.out (p := ⟨b, o, none⟩) hb0).trans HC0.out; have k1 : w1.cell? ⟨b, o + 1, none⟩ = some (.string v1) := (Below.cell HB.out (p := ⟨b, o + 1, none⟩) hb0).trans HC1.out; have k2 : w1.cell? ⟨b, o + 2, none⟩ = some (.string v2) := (Below.cell HB.out (p := ⟨b, o + 2, none⟩) hb0).trans HC2.out; have k3 : w1.cell? ⟨b, o + 3, none⟩ = some (.string v3) := (Below.cell HB.out (p := ⟨b, o + 3, none⟩) hb0).trans HC3.out) | (go_at_call 134; (with_reducible refine (HS2.out _ (Tabs.below HT.out (by repeat (first | (with_reducible first | exact HB.out | apply below_alloc | apply pw_below_drewN | apply below_drew1) | exact HB.out)))).mono ?_); rintro e w1 ⟨rfl, hb⟩; have BXn := Aside0.mk (blk_below BX.out hb); have BRn := Aside0.mk (blk_below BR.out hb); clear BX BR t1 k0 k1 k2 k3; have BX := BXn; have BR := BRn; clear BXn BRn; have HBn := Aside0.mk (below_step (by repeat (first | (with_reducible first | exact HB.out | apply below_alloc | apply pw_below_drewN | apply below_drew1) | exact HB.out)) hb); clear HB; have HB := HBn; clear HBn; clear hb; have t1 : w1.cell? ⟨w.heap.size, 1, none⟩ = some (.slice (some ⟨b, o, none⟩) x.words.length c1) := (blk_cell BX.out 1).trans rfl; have k0 : w1.cell? ⟨b, o, none⟩ = some (.string v0) := (Below.cell HB.out (p := ⟨b, o, none⟩) hb0).trans HC0.out; have k1 : w1.cell? ⟨b, o + 1, none⟩ = some (.string v1) := (Below.cell HB.out (p := ⟨b, o + 1, none⟩) hb0).trans HC1.out; have k2 : w1.cell? ⟨b, o + 2, none⟩ = some (.string v2) := (Below.cell HB.out (p := ⟨b, o + 2, none⟩) hb0).trans HC2.out; have k3 : w1.cell? ⟨b, o + 3, none⟩ = some (.string v3) := (Below.cell HB.out (p := ⟨b, o + 3, none⟩) hb0).trans HC3.out) | (go_at_call 84; (with_reducible refine (HD3.out _ (Tabs.below HT.out (by repeat (first | (with_reducible first | exact HB.out | apply below_alloc | apply pw_below_drewN | apply below_drew1) | exact HB.out)))).mono ?_); rintro e w1 ⟨rfl, hb⟩; have BXn := Aside0.mk (blk_below BX.out hb); have BRn := Aside0.mk (blk_below BR.out hb); clear BX BR t1 k0 k1 k2 k3; have BX := BXn; have BR := BRn; clear BXn BRn; have HBn := Aside0.mk (below_step (by repeat (first | (with_reducible first | exact HB.out | apply below_alloc | apply pw_below_drewN | apply below_drew1) | exact HB.out)) hb); clear HB; have HB := HBn; clear HBn; clear hb; have t1 : w1.cell? ⟨w.heap.size, 1, none⟩ = some (.slice (some ⟨b, o, none⟩) x.words.length c1) := (blk_cell BX.out 1).trans rfl; have k0 : w1.cell? ⟨b, o, none⟩ = some (.string v0) := (Below.cell HB.out (p := ⟨b, o, none⟩) hb0).trans HC0.out; have k1 : w1.cell? ⟨b, o + 1, none⟩ = some (.string v1) := (Below.cell HB.out (p := ⟨b, o + 1, none⟩) hb0).trans HC1.out; have k2 : w1.cell? ⟨b, o + 2, none⟩ = some (.string v2) := (Below.cell HB.out (p := ⟨b, o + 2, none⟩) hb0).trans HC2.out; have k3 : w1.cell? ⟨b, o + 3, none⟩ = some (.string v3) := (Below.cell HB.out (p := ⟨b, o + 3, none⟩) hb0).trans HC3.out))
  go_cut [13, 14] (fun sc sd wx => sc = .int .u64 ↑z4 ∧ sd = .bool p4 ∧ Aside0 (wx.heap[w.heap.size]? = some (.cells #[.string x.verb, .slice (some ⟨b, o, none⟩) x.words.length c1, .bool x.quiet, .int .i64 x.used, .slice A4 x.rest.length c4] 90 (0, 0)) ∧ wx.heap[w.heap.size + 1]? = some (.cells zStepC 61 (0, 0)) ∧ Below w.heap.size w wx))
  case first =>
    by_cases h5 : x.words.length = 5
    · have h5i : (4 : Int) < x.words.length := by omega
      have k4 : w1.cell? ⟨b, o + 4, none⟩ = some (.string v4) := (Below.cell HB.out (p := ⟨b, o + 4, none⟩) hb0).trans (HC4.out h5)
      have hz4 := HZ4.out
      unfold casS at hz4
      rw [if_pos h5] at hz4
      rw [hz4] at HD4
      clear h5 hz4
      go_wp2_with (first | (go_at_call 84; (with_reducible refine (HD4.out _ (Tabs.below HT.out (by repeat (first | (with_reducible first | exact HB.out | apply below_alloc | apply pw_below_drewN | apply below_drew1) | exact HB.out)))).mono ?_); rintro e w1 ⟨rfl, hb⟩; have BXn := Aside0.mk (blk_below BX.out hb); have BRn := Aside0.mk (blk_below BR.out hb); clear BX BR t1 k0 k1 k2 k3; have BX := BXn; have BR := BRn; clear BXn BRn; have HBn := Aside0.mk (below_step (by repeat (first | (with_reducible first | exact HB.out | apply below_alloc | apply pw_below_drewN | apply below_drew1) | exact HB.out)) hb); clear HB; have HB := HBn; clear HBn; clear hb; have t1 : w1.cell? ⟨w.heap.size, 1, none⟩ = some (.slice (some ⟨b, o, none⟩) x.words.length c1) := (blk_cell BX.out 1).trans rfl; have k0 : w1.cell? ⟨b, o, none⟩ = some (.string v0) := (Below.cell HB.out (p := ⟨b, o, none⟩) hb0).trans HC0.out; have k1 : w1.cell? ⟨b, o + 1, none⟩ = some (.string v1) := (Below.cell HB.out (p := ⟨b, o + 1, none⟩) hb0).trans HC1.out; have k2 : w1.cell? ⟨b, o + 2, none⟩ = some (.string v2) := (Below.cell HB.out (p := ⟨b, o + 2, none⟩) hb0).trans HC2.out; have k3 : w1.cell? ⟨b, o + 3, none⟩ = some (.string v3) := (Below.cell HB.out (p := ⟨b, o + 3, none⟩) hb0).trans HC3.out))
      go_meet
      case rel => exact ⟨rfl, rfl, ⟨BX.out, BR.out, HB.out⟩⟩
    · have h5i : (x.words.length : Int) ≤ 4 := by have := HN.out; omega
      have hz4 := HZ4.out
      unfold casS at hz4
      rw [if_neg h5] at hz4
      obtain ⟨rfl, rfl⟩ : 0 = z4 ∧ true = p4 := by simpa using hz4
      clear h5 hz4
      go_wp2
      go_meet
      case rel => exact ⟨rfl, rfl, ⟨BX.out, BR.out, HB.out⟩⟩
  case rest =>
    obtain ⟨rfl, rfl, HW⟩ := hcut
    obtain ⟨hx0, hr0, hB⟩ := HW.out; have BX := Aside0.mk hx0; have BR := Aside0.mk hr0; have HB := Aside0.mk hB; clear hx0 hr0 hB HW; have t1 : wc.cell? ⟨w.heap.size, 1, none⟩ = some (.slice (some ⟨b, o, none⟩) x.words.length c1) := (blk_cell BX.out 1).trans rfl; have k0 : wc.cell? ⟨b, o, none⟩ = some (.string v0) := (Below.cell HB.out (p := ⟨b, o, none⟩) hb0).trans HC0.out; have k1 : wc.cell? ⟨b, o + 1, none⟩ = some (.string v1) := (Below.cell HB.out (p := ⟨b, o + 1, none⟩) hb0).trans HC1.out; have k2 : wc.cell? ⟨b, o + 2, none⟩ = some (.string v2) := (Below.cell HB.out (p := ⟨b, o + 2, none⟩) hb0).trans HC2.out; have k3 : wc.cell? ⟨b, o + 3, none⟩ = some (.string v3) := (Below.cell HB.out (p := ⟨b, o + 3, none⟩) hb0).trans HC3.out
    go_upto_region 9 with fail
    go_cut [60] (fun st wx => st = .bool bd ∧ Aside0 (wx.heap[w.heap.size]? = some (.cells #[.string x.verb, .slice (some ⟨b, o, none⟩) x.words.length c1, .bool x.quiet, .int .i64 x.used, .slice A4 x.rest.length c4] 90 (0, 0)) ∧ wx.heap[w.heap.size + 1]? = some (.cells zStepC 61 (0, 0)) ∧ Below w.heap.size w wx))
    case first =>
      cases q
      · (go_wp2_with (first | (go_at_call 129; (with_reducible refine (HK0.out _).mono ?_); rintro e w1 ⟨rfl, hb⟩; have BXn := Aside0.mk (blk_below BX.out hb); have BRn := Aside0.mk (blk_below BR.out hb); clear BX BR t1 k0 k1 k2 k3; have BX := BXn; have BR := BRn; clear BXn BRn; have HBn := Aside0.mk (below_step (by repeat (first | (with_reducible first | exact HB.out | apply below_alloc | apply pw_below_drewN | apply below_drew1) | exact HB.out)) hb); clear HB; have HB := HBn; clear HBn; clear hb; have t1 : w1.cell? ⟨w.heap.size, 1, none⟩ = some (.slice (some ⟨b, o, none⟩) x.words.length c1) := (blk_cell BX.out 1).trans rfl; have k0 : w1.cell? ⟨b, o, none⟩ = some (.string v0) := (Below.cell HB.out (p := ⟨b, o, none⟩) hb0).trans HC0.out; have k1 : w1.cell? ⟨b, o + 1, none⟩ = some (.string v1) := (Below.cell HB.out (p := ⟨b, o + 1, none⟩) hb0).trans HC1.out; have k2 : w1.cell? ⟨b, o + 2, none⟩ = some (.string v2) := (Below.cell HB.out (p := ⟨b, o + 2, none⟩) hb0).trans HC2.out; have k3 : w1.cell? ⟨b, o + 3, none⟩ = some (.string v3) := (Below.cell HB.out (p := ⟨b, o + 3, none⟩) hb0).trans HC3.out)); go_meet; case rel => exact ⟨by rw [← HBD.out]; first | rfl | (simp [badA, hf]; done) | (simp [badA]; done) | (simp [badA]; omega), ⟨BX.out, BR.out, HB.out⟩⟩)
      cases p1
      · (go_wp2_with (first | (go_at_call 129; (with_reducible refine (HK0.out _).mono ?_); rintro e w1 ⟨rfl, hb⟩; have BXn := Aside0.mk (blk_below BX.out hb); have BRn := Aside0.mk (blk_below BR.out hb); clear BX BR t1 k0 k1 k2 k3; have BX := BXn; have BR := BRn; clear BXn BRn; have HBn := Aside0.mk (below_step (by repeat (first | (with_reducible first | exact HB.out | apply below_alloc | apply pw_below_drewN | apply below_drew1) | exact HB.out)) hb); clear HB; have HB := HBn; clear HBn; clear hb; have t1 : w1.cell? ⟨w.heap.size, 1, none⟩ = some (.slice (some ⟨b, o, none⟩) x.words.length c1) := (blk_cell BX.out 1).trans rfl; have k0 : w1.cell? ⟨b, o, none⟩ = some (.string v0) := (Below.cell HB.out (p := ⟨b, o, none⟩) hb0).trans HC0.out; have k1 : w1.cell? ⟨b, o + 1, none⟩ = some (.string v1) := (Below.cell HB.out (p := ⟨b, o + 1, none⟩) hb0).trans HC1.out; have k2 : w1.cell? ⟨b, o + 2, none⟩ = some (.string v2) := (Below.cell HB.out (p := ⟨b, o + 2, none⟩) hb0).trans HC2.out; have k3 : w1.cell? ⟨b, o + 3, none⟩ = some (.string v3) := (Below.cell HB.out (p := ⟨b, o + 3, none⟩) hb0).trans HC3.out)); go_meet; case rel => exact ⟨by rw [← HBD.out]; first | rfl | (simp [badA, hf]; done) | (simp [badA]; done) | (simp [badA]; omega), ⟨BX.out, BR.out, HB.out⟩⟩)
      by_cases hf : (z1 : Int) > 4294967295
      · (go_wp2_with (first | (go_at_call 129; (with_reducible refine (HK0.out _).mono ?_); rintro e w1 ⟨rfl, hb⟩; have BXn := Aside0.mk (blk_below BX.out hb); have BRn := Aside0.mk (blk_below BR.out hb); clear BX BR t1 k0 k1 k2 k3; have BX := BXn; have BR := BRn; clear BXn BRn; have HBn := Aside0.mk (below_step (by repeat (first | (with_reducible first | exact HB.out | apply below_alloc | apply pw_below_drewN | apply below_drew1) | exact HB.out)) hb); clear HB; have HB := HBn; clear HBn; clear hb; have t1 : w1.cell? ⟨w.heap.size, 1, none⟩ = some (.slice (some ⟨b, o, none⟩) x.words.length c1) := (blk_cell BX.out 1).trans rfl; have k0 : w1.cell? ⟨b, o, none⟩ = some (.string v0) := (Below.cell HB.out (p := ⟨b, o, none⟩) hb0).trans HC0.out; have k1 : w1.cell? ⟨b, o + 1, none⟩ = some (.string v1) := (Below.cell HB.out (p := ⟨b, o + 1, none⟩) hb0).trans HC1.out; have k2 : w1.cell? ⟨b, o + 2, none⟩ = some (.string v2) := (Below.cell HB.out (p := ⟨b, o + 2, none⟩) hb0).trans HC2.out; have k3 : w1.cell? ⟨b, o + 3, none⟩ = some (.string v3) := (Below.cell HB.out (p := ⟨b, o + 3, none⟩) hb0).trans HC3.out)); go_meet; case rel => exact ⟨by rw [← HBD.out]; first | rfl | (simp [badA, hf]; done) | (simp [badA]; done) | (simp [badA]; omega), ⟨BX.out, BR.out, HB.out⟩⟩)
      cases p2
      · (go_wp2_with (first | (go_at_call 129; (with_reducible refine (HK0.out _).mono ?_); rintro e w1 ⟨rfl, hb⟩; have BXn := Aside0.mk (blk_below BX.out hb); have BRn := Aside0.mk (blk_below BR.out hb); clear BX BR t1 k0 k1 k2 k3; have BX := BXn; have BR := BRn; clear BXn BRn; have HBn := Aside0.mk (below_step (by repeat (first | (with_reducible first | exact HB.out | apply below_alloc | apply pw_below_drewN | apply below_drew1) | exact HB.out)) hb); clear HB; have HB := HBn; clear HBn; clear hb; have t1 : w1.cell? ⟨w.heap.size, 1, none⟩ = some (.slice (some ⟨b, o, none⟩) x.words.length c1) := (blk_cell BX.out 1).trans rfl; have k0 : w1.cell? ⟨b, o, none⟩ = some (.string v0) := (Below.cell HB.out (p := ⟨b, o, none⟩) hb0).trans HC0.out; have k1 : w1.cell? ⟨b, o + 1, none⟩ = some (.string v1) := (Below.cell HB.out (p := ⟨b, o + 1, none⟩) hb0).trans HC1.out; have k2 : w1.cell? ⟨b, o + 2, none⟩ = some (.string v2) := (Below.cell HB.out (p := ⟨b, o + 2, none⟩) hb0).trans HC2.out; have k3 : w1.cell? ⟨b, o + 3, none⟩ = some (.string v3) := (Below.cell HB.out (p := ⟨b, o + 3, none⟩) hb0).trans HC3.out)); go_meet; case rel => exact ⟨by rw [← HBD.out]; first | rfl | (simp [badA, hf]; done) | (simp [badA]; done) | (simp [badA]; omega), ⟨BX.out, BR.out, HB.out⟩⟩)
      cases p3
      · (go_wp2_with (first | (go_at_call 129; (with_reducible refine (HK0.out _).mono ?_); rintro e w1 ⟨rfl, hb⟩; have BXn := Aside0.mk (blk_below BX.out hb); have BRn := Aside0.mk (blk_below BR.out hb); clear BX BR t1 k0 k1 k2 k3; have BX := BXn; have BR := BRn; clear BXn BRn; have HBn := Aside0.mk (below_step (by repeat (first | (with_reducible first | exact HB.out | apply below_alloc | apply pw_below_drewN | apply below_drew1) | exact HB.out)) hb); clear HB; have HB := HBn; clear HBn; clear hb; have t1 : w1.cell? ⟨w.heap.size, 1, none⟩ = some (.slice (some ⟨b, o, none⟩) x.words.length c1) := (blk_cell BX.out 1).trans rfl; have k0 : w1.cell? ⟨b, o, none⟩ = some (.string v0) := (Below.cell HB.out (p := ⟨b, o, none⟩) hb0).trans HC0.out; have k1 : w1.cell? ⟨b, o + 1, none⟩ = some (.string v1) := (Below.cell HB.out (p := ⟨b, o + 1, none⟩) hb0).trans HC1.out; have k2 : w1.cell? ⟨b, o + 2, none⟩ = some (.string v2) := (Below.cell HB.out (p := ⟨b, o + 2, none⟩) hb0).trans HC2.out; have k3 : w1.cell? ⟨b, o + 3, none⟩ = some (.string v3) := (Below.cell HB.out (p := ⟨b, o + 3, none⟩) hb0).trans HC3.out)); go_meet; case rel => exact ⟨by rw [← HBD.out]; first | rfl | (simp [badA, hf]; done) | (simp [badA]; done) | (simp [badA]; omega), ⟨BX.out, BR.out, HB.out⟩⟩)
      cases p4
      · (go_wp2_with (first | (go_at_call 129; (with_reducible refine (HK0.out _).mono ?_); rintro e w1 ⟨rfl, hb⟩; have BXn := Aside0.mk (blk_below BX.out hb); have BRn := Aside0.mk (blk_below BR.out hb); clear BX BR t1 k0 k1 k2 k3; have BX := BXn; have BR := BRn; clear BXn BRn; have HBn := Aside0.mk (below_step (by repeat (first | (with_reducible first | exact HB.out | apply below_alloc | apply pw_below_drewN | apply below_drew1) | exact HB.out)) hb); clear HB; have HB := HBn; clear HBn; clear hb; have t1 : w1.cell? ⟨w.heap.size, 1, none⟩ = some (.slice (some ⟨b, o, none⟩) x.words.length c1) := (blk_cell BX.out 1).trans rfl; have k0 : w1.cell? ⟨b, o, none⟩ = some (.string v0) := (Below.cell HB.out (p := ⟨b, o, none⟩) hb0).trans HC0.out; have k1 : w1.cell? ⟨b, o + 1, none⟩ = some (.string v1) := (Below.cell HB.out (p := ⟨b, o + 1, none⟩) hb0).trans HC1.out; have k2 : w1.cell? ⟨b, o + 2, none⟩ = some (.string v2) := (Below.cell HB.out (p := ⟨b, o + 2, none⟩) hb0).trans HC2.out; have k3 : w1.cell? ⟨b, o + 3, none⟩ = some (.string v3) := (Below.cell HB.out (p := ⟨b, o + 3, none⟩) hb0).trans HC3.out)); go_meet; case rel => exact ⟨by rw [← HBD.out]; first | rfl | (simp [badA, hf]; done) | (simp [badA]; done) | (simp [badA]; omega), ⟨BX.out, BR.out, HB.out⟩⟩)
      · (go_wp2_with (first | (go_at_call 129; (with_reducible refine (HK0.out _).mono ?_); rintro e w1 ⟨rfl, hb⟩; have BXn := Aside0.mk (blk_below BX.out hb); have BRn := Aside0.mk (blk_below BR.out hb); clear BX BR t1 k0 k1 k2 k3; have BX := BXn; have BR := BRn; clear BXn BRn; have HBn := Aside0.mk (below_step (by repeat (first | (with_reducible first | exact HB.out | apply below_alloc | apply pw_below_drewN | apply below_drew1) | exact HB.out)) hb); clear HB; have HB := HBn; clear HBn; clear hb; have t1 : w1.cell? ⟨w.heap.size, 1, none⟩ = some (.slice (some ⟨b, o, none⟩) x.words.length c1) := (blk_cell BX.out 1).trans rfl; have k0 : w1.cell? ⟨b, o, none⟩ = some (.string v0) := (Below.cell HB.out (p := ⟨b, o, none⟩) hb0).trans HC0.out; have k1 : w1.cell? ⟨b, o + 1, none⟩ = some (.string v1) := (Below.cell HB.out (p := ⟨b, o + 1, none⟩) hb0).trans HC1.out; have k2 : w1.cell? ⟨b, o + 2, none⟩ = some (.string v2) := (Below.cell HB.out (p := ⟨b, o + 2, none⟩) hb0).trans HC2.out; have k3 : w1.cell? ⟨b, o + 3, none⟩ = some (.string v3) := (Below.cell HB.out (p := ⟨b, o + 3, none⟩) hb0).trans HC3.out)); go_meet; case rel => exact ⟨by rw [← HBD.out]; first | rfl | (simp [badA, hf]; done) | (simp [badA]; done) | (simp [badA]; omega), ⟨BX.out, BR.out, HB.out⟩⟩)
    case rest =>
      obtain ⟨rfl, HW⟩ := hcut
      clear HB BX BR t1 k0 k1 k2 k3
      obtain ⟨hx0, hr0, hB⟩ := HW.out; have BX := Aside0.mk hx0; have BR := Aside0.mk hr0; have HB := Aside0.mk hB; clear hx0 hr0 hB HW; have t1 : wc.cell? ⟨w.heap.size, 1, none⟩ = some (.slice (some ⟨b, o, none⟩) x.words.length c1) := (blk_cell BX.out 1).trans rfl; have k0 : wc.cell? ⟨b, o, none⟩ = some (.string v0) := (Below.cell HB.out (p := ⟨b, o, none⟩) hb0).trans HC0.out; have k1 : wc.cell? ⟨b, o + 1, none⟩ = some (.string v1) := (Below.cell HB.out (p := ⟨b, o + 1, none⟩) hb0).trans HC1.out; have k2 : wc.cell? ⟨b, o + 2, none⟩ = some (.string v2) := (Below.cell HB.out (p := ⟨b, o + 2, none⟩) hb0).trans HC2.out; have k3 : wc.cell? ⟨b, o + 3, none⟩ = some (.string v3) := (Below.cell HB.out (p := ⟨b, o + 3, none⟩) hb0).trans HC3.out
      have t0 : wc.cell? ⟨w.heap.size, 0, none⟩ = some (.string x.verb) := (blk_cell BX.out 0).trans rfl; have t2 : wc.cell? ⟨w.heap.size, 2, none⟩ = some (.bool x.quiet) := (blk_cell BX.out 2).trans rfl; have t3 : wc.cell? ⟨w.heap.size, 3, none⟩ = some (.int .i64 x.used) := (blk_cell BX.out 3).trans rfl; have t4 : wc.cell? ⟨w.heap.size, 4, none⟩ = some (.slice A4 x.rest.length c4) := (blk_cell BX.out 4).trans rfl
      have GLT := Aside0.mk (blk_lt BR.out)
      cases bd
      · have hR := HR.out
        rw [if_neg (by decide)] at hR
        by_cases hl : (z3 : Int) > 1000
        · rw [if_pos (by exact hl)] at hR
          subst hR
          have HOL : Aside0 (∀ w', Below w.heap.size w w' → Calls Tryz.prog 136 #[.agg #[.string x.verb, .slice (some ⟨b, o, none⟩) x.words.length c1, .bool x.quiet, .int .i64 x.used, .slice A4 x.rest.length c4], .string (⟨#[83, 69, 82, 86, 69, 82, 95, 69, 82, 82, 79, 82, 32, 111, 98, 106, 101, 99, 116, 32, 116, 111, 111, 32, 108, 97, 114, 103, 101, 32, 102, 111, 114, 32, 99, 97, 99, 104, 101]⟩ : ByteArray)] w' (StepR (fun k => k < w.heap.size ∧ F k) w' (stepFS x.used largeT (skipN (z3, p3)) false))) := ⟨HSK.out _ (by decide)⟩
          clear HR
          go_wp2_with (first | (go_at_call 136; (with_reducible refine (HOL.out _ (by repeat (first | (with_reducible first | exact HB.out | apply below_alloc | apply pw_below_drewN | apply below_drew1) | exact HB.out))).mono ?_); rintro e w1 ⟨⟨cs, rfl, hk⟩, hb⟩; have BK := Aside0.mk (blk_below BR.out hb); have HBn := Aside0.mk (below_step (by repeat (first | (with_reducible first | exact HB.out | apply below_alloc | apply pw_below_drewN | apply below_drew1) | exact HB.out)) hb); clear HB; have HB := HBn; clear HBn; have HK := Aside0.mk hk; clear hb hk) | (refine wpList_store_K HK.out.now rfl 61 _ _ rfl (w.heap.size + 1) rfl rfl 61 _ BK.out (by kernel_rfl) rfl ?_; intro w8 hbk hlow hfar; have HK2 := Aside0.mk (hfar _ _ (fun h => absurd (h GLT.out).1 (by omega)) HK.out); clear BK; have BK := Aside0.mk hbk; have HL := Aside0.mk hlow; clear hbk hlow hfar))
          ((try simp only [Exit.inBlock, Exit.then]); refine bodyPost_ret (results_cell_row rfl _ _ (w.heap.size + 1) 61 _ (0, 0) _ rfl BK.out Tryz.underlying61 rfl (by rw [List.size_toArray, kStep.K_len HK.out.now]; kernel_rfl)) rfl ?_)
          exact ⟨⟨_, rfl, HK2.out.mono (fun k hk h3 => (hk (by have := GLT.out; omega)).2)⟩, HB.out.trans (HL.out _ (by omega))⟩
        · rw [if_neg (by exact hl)] at hR
          have HRn := Aside0.mk hR
          clear HR hR
          have HR := HRn
          clear HRn
          have hz0 : (0 : Int) ≤ ↑z3 := by omega
          have hz1 : (z3 : Int) ≤ 1000 := by omega
          have hE := bodyS_e x.rest ↑z3 hz0 hz1
          have HBY : Aside0 (∀ w', Below w.heap.size w w' → Calls Tryz.prog 85 #[.slice A4 x.rest.length c4, .int .i64 ↑z3] w' (BL w' (bodyS x.rest ↑z3))) := ⟨fun w' hb => fbody_calls x.rest A4 c4 ↑z3 w' (Kd.C_below HG4.out hb) hl4 hrl H8.out⟩
          obtain ⟨⟨vl, u, e⟩, hB⟩ : ∃ r, bodyS x.rest ↑z3 = r := ⟨_, rfl⟩
          rw [hB] at HBY hE HR
          clear hB hl
          dsimp only at HR hE
          have HXU : Aside0 (∀ w', Below w.heap.size w w' → kTextinLine.K w' { x with used := x.used + u } [.string x.verb, .slice (some ⟨b, o, none⟩) x.words.length c1, .bool x.quiet, .int .i64 (x.used + u), .slice A4 x.rest.length c4]) := ⟨fun w' hb => kTextinLine_mk w' { x with used := x.used + u } hl1 (Kd.C_below HG.out hb) hl4 (Kd.C_below HG4.out hb)⟩
          rcases hE with ⟨rfl, rfl⟩ | ⟨rfl, hu⟩ | ⟨rfl, hu⟩
          · have hR := HR.out
            rw [if_pos rfl] at hR
            subst hR
            clear HR HXU
            have hs0 : (0 : Int) ≤ x.used + 0 := by omega
            have hs1 : x.used + 0 ≤ 9223372036854775807 := by omega
            go_wp2_with (first | (go_at_call 85; (with_reducible refine (HBY.out _ (by repeat (first | (with_reducible first | exact HB.out | apply below_alloc | apply pw_below_drewN | apply below_drew1) | exact HB.out))).mono ?_); rintro e w1 ⟨V, rfl, hrow⟩; have hb := hrow.2; have HRW := Aside0.mk hrow; clear hrow; have BXn := Aside0.mk (blk_below BX.out hb); have BRn := Aside0.mk (blk_below BR.out hb); clear BX BR t1 t2 t3 t4 k0 k1 k2 k3; have BX := BXn; have BR := BRn; clear BXn BRn; have HBn := Aside0.mk (below_step (by repeat (first | (with_reducible first | exact HB.out | apply below_alloc | apply pw_below_drewN | apply below_drew1) | exact HB.out)) hb); clear HB; have HB := HBn; clear HBn; clear hb; have t3 : w1.cell? ⟨w.heap.size, 3, none⟩ = some (.int .i64 x.used) := (blk_cell BX.out 3).trans rfl) | (refine wpList_store_1 rfl 3 _ _ rfl w.heap.size 3 (.int .i64 x.used) rfl rfl rfl 90 _ #[.string x.verb, .slice (some ⟨b, o, none⟩) x.words.length c1, .bool x.quiet, .int .i64 x.used, .slice A4 x.rest.length c4] BX.out (by simp) (by kernel_rfl) rfl ?_; intro w2 hbk hst; have BR2 := Aside0.mk (hst.blk BR.out (by omega)); have HB2 := Aside0.mk (hst.up HB.out (by omega)); clear hbk hst BX BR HB t3; have HB := HB2; clear HB2) | (refine wpList_store_F rfl 61 _ _ rfl (w.heap.size + 1) 0 stepMC rfl rfl (by simp [stepMC, Value.oneCell']) 61 _ _ BR2.out (by simp [zStepC, stepMC]) (by kernel_rfl) rfl ?_; intro w8 hbk hst; have BR8 := Aside0.mk hbk; have HB8 := Aside0.mk (hst.up HB.out (by omega)); clear hbk hst))
            ((try simp only [Exit.inBlock, Exit.then]); refine bodyPost_ret (results_cell_row rfl _ _ (w.heap.size + 1) 61 _ (0, 0) _ rfl BR8.out Tryz.underlying61 rfl (by kernel_rfl)) rfl ?_)
            exact ⟨⟨_, rfl, fun w2 _ _ => stepM_K w2⟩, HB8.out⟩
          · have hR := HR.out
            rw [if_neg (by decide), if_pos rfl] at hR
            subst hR
            have HOC : Aside0 (∀ w', Below w.heap.size w w' → Calls Tryz.prog 50 #[.agg #[.string x.verb, .slice (some ⟨b, o, none⟩) x.words.length c1, .bool x.quiet, .int .i64 (x.used + u), .slice A4 x.rest.length c4], .string (⟨#[67, 76, 73, 69, 78, 84, 95, 69, 82, 82, 79, 82, 32, 98, 97, 100, 32, 100, 97, 116, 97, 32, 99, 104, 117, 110, 107]⟩ : ByteArray)] w' fun e w'' => e = .returned (.agg (stepFC (x.used + u) chunkT 0 false).toArray) ∧ Below w'.heap.size w' w'') := ⟨fun w' hb => fault_ex { x with used := x.used + u } _ chunkT w' (HXU.out w' hb) (by decide)⟩
            have hs0 : (0 : Int) ≤ x.used + u := by omega
            have hs1 : x.used + u ≤ 9223372036854775807 := by omega
            clear hu
            clear HR HXU
            go_wp2_with (first | (go_at_call 85; (with_reducible refine (HBY.out _ (by repeat (first | (with_reducible first | exact HB.out | apply below_alloc | apply pw_below_drewN | apply below_drew1) | exact HB.out))).mono ?_); rintro e w1 ⟨V, rfl, hrow⟩; have hb := hrow.2; have HRW := Aside0.mk hrow; clear hrow; have BXn := Aside0.mk (blk_below BX.out hb); have BRn := Aside0.mk (blk_below BR.out hb); clear BX BR t1 t2 t3 t4 k0 k1 k2 k3; have BX := BXn; have BR := BRn; clear BXn BRn; have HBn := Aside0.mk (below_step (by repeat (first | (with_reducible first | exact HB.out | apply below_alloc | apply pw_below_drewN | apply below_drew1) | exact HB.out)) hb); clear HB; have HB := HBn; clear HBn; clear hb; have t3 : w1.cell? ⟨w.heap.size, 3, none⟩ = some (.int .i64 x.used) := (blk_cell BX.out 3).trans rfl) | (refine wpList_store_1 rfl 3 _ _ rfl w.heap.size 3 (.int .i64 (x.used + u)) rfl rfl rfl 90 _ #[.string x.verb, .slice (some ⟨b, o, none⟩) x.words.length c1, .bool x.quiet, .int .i64 (x.used + u), .slice A4 x.rest.length c4] BX.out (by simp) (by kernel_rfl) rfl ?_; intro w2 hbk hst; have BX2 := Aside0.mk hbk; have BR2 := Aside0.mk (hst.blk BR.out (by omega)); have HB2 := Aside0.mk (hst.up HB.out (by omega)); have HST := Aside0.mk hst; clear hbk hst BX BR HB t3; have HB := HB2; clear HB2; have hx2 : w.heap.size < w2.heap.size := blk_lt BX2.out; have hr2 : w.heap.size + 1 < w2.heap.size := blk_lt BR2.out; have t0 : w2.cell? ⟨w.heap.size, 0, none⟩ = some (.string x.verb) := (blk_cell BX2.out 0).trans rfl; have t1 : w2.cell? ⟨w.heap.size, 1, none⟩ = some (.slice (some ⟨b, o, none⟩) x.words.length c1) := (blk_cell BX2.out 1).trans rfl; have t2 : w2.cell? ⟨w.heap.size, 2, none⟩ = some (.bool x.quiet) := (blk_cell BX2.out 2).trans rfl; have t3 : w2.cell? ⟨w.heap.size, 3, none⟩ = some (.int .i64 (x.used + u)) := (blk_cell BX2.out 3).trans rfl; have t4 : w2.cell? ⟨w.heap.size, 4, none⟩ = some (.slice A4 x.rest.length c4) := (blk_cell BX2.out 4).trans rfl) | (go_at_call 50; (with_reducible refine (HOC.out _ (by repeat (first | (with_reducible first | exact HB.out | apply below_alloc | apply pw_below_drewN | apply below_drew1) | exact HB.out))).mono ?_); rintro e w3 ⟨rfl, hb⟩; unfold stepFC; have BR3 := Aside0.mk (blk_below BR2.out hb); have HBn := Aside0.mk (below_step (by repeat (first | (with_reducible first | exact HB.out | apply below_alloc | apply pw_below_drewN | apply below_drew1) | exact HB.out)) hb); clear HB; have HB := HBn; clear HBn; clear hb; have hr3 : w.heap.size + 1 < w3.heap.size := blk_lt BR3.out) | (refine wpList_store_1 rfl 4 _ _ rfl w3.heap.size 14 (.bool true) rfl rfl rfl 61 _ (stepFC (x.used + u) chunkT 0 true).toArray (blk_at_new _ _ _ rfl) (by simp) (by kernel_rfl) rfl ?_; intro w4 hbk hst; have BS4 := Aside0.mk hbk; have BR4 := Aside0.mk (hst.blk (blk_alloc BR3.out _) (by omega)); have HB4 := Aside0.mk (hst.up (by repeat (first | (with_reducible first | exact HB.out | apply below_alloc | apply pw_below_drewN | apply below_drew1) | exact HB.out)) (by omega)); clear hbk hst HB; have HB := HB4; clear HB4; have e0 : w4.cell? ⟨w3.heap.size, 0, none⟩ = some (.slice none 0 0) := (blk_cell BS4.out 0).trans rfl; have e1 : w4.cell? ⟨w3.heap.size, 1, none⟩ = some (.int .i64 0) := (blk_cell BS4.out 1).trans rfl; have e2 : w4.cell? ⟨w3.heap.size, 2, none⟩ = some (.string ⟨#[]⟩) := (blk_cell BS4.out 2).trans rfl; have e3 : w4.cell? ⟨w3.heap.size, 3, none⟩ = some (.int .i64 0) := (blk_cell BS4.out 3).trans rfl; have e4 : w4.cell? ⟨w3.heap.size, 4, none⟩ = some (.int .u32 0) := (blk_cell BS4.out 4).trans rfl; have e5 : w4.cell? ⟨w3.heap.size, 5, none⟩ = some (.bool false) := (blk_cell BS4.out 5).trans rfl; have e6 : w4.cell? ⟨w3.heap.size, 6, none⟩ = some (.bool false) := (blk_cell BS4.out 6).trans rfl; have e7 : w4.cell? ⟨w3.heap.size, 7, none⟩ = some (.string ⟨#[]⟩) := (blk_cell BS4.out 7).trans rfl; have e8 : w4.cell? ⟨w3.heap.size, 8, none⟩ = some (.slice none 0 0) := (blk_cell BS4.out 8).trans rfl; have e9 : w4.cell? ⟨w3.heap.size, 9, none⟩ = some (.slice none 0 0) := (blk_cell BS4.out 9).trans rfl; have e10 : w4.cell? ⟨w3.heap.size, 10, none⟩ = some (.bool false) := (blk_cell BS4.out 10).trans rfl; have e11 : w4.cell? ⟨w3.heap.size, 11, none⟩ = some (.string (chunkT ++ (⟨#[13, 10]⟩ : ByteArray))) := (blk_cell BS4.out 11).trans rfl; have e12 : w4.cell? ⟨w3.heap.size, 12, none⟩ = some (.int .i64 (x.used + u)) := (blk_cell BS4.out 12).trans rfl; have e13 : w4.cell? ⟨w3.heap.size, 13, none⟩ = some (.int .i64 0) := (blk_cell BS4.out 13).trans rfl; have e14 : w4.cell? ⟨w3.heap.size, 14, none⟩ = some (.bool true) := (blk_cell BS4.out 14).trans rfl; have e15 : w4.cell? ⟨w3.heap.size, 15, none⟩ = some (.int .i64 2) := (blk_cell BS4.out 15).trans rfl) | (refine wpList_store_F rfl 61 _ _ rfl (w.heap.size + 1) 0 _ rfl rfl (by simp [Value.oneCell']) 61 _ _ BR4.out (by simp [zStepC]) (by kernel_rfl) rfl ?_; intro w8 hbk hst; have BR8 := Aside0.mk hbk; have HB8 := Aside0.mk (hst.up HB.out (by omega)); clear hbk hst))
            ((try simp only [Exit.inBlock, Exit.then]); refine bodyPost_ret (results_cell_row rfl _ _ (w.heap.size + 1) 61 _ (0, 0) _ rfl BR8.out Tryz.underlying61 rfl (by kernel_rfl)) rfl ?_)
            exact ⟨⟨_, rfl, fun w2 _ _ => stepFS_K w2 (x.used + u) chunkT 0 true⟩, HB8.out⟩
          · have hR := HR.out
            rw [if_neg (by decide), if_neg (by decide)] at hR
            subst hR
            have hs0 : (0 : Int) ≤ x.used + u := by omega
            have hs1 : x.used + u ≤ 9223372036854775807 := by omega
            clear hu
            clear HR
            go_wp2_with (first | (go_at_call 85; (with_reducible refine (HBY.out _ (by repeat (first | (with_reducible first | exact HB.out | apply below_alloc | apply pw_below_drewN | apply below_drew1) | exact HB.out))).mono ?_); rintro e w1 ⟨V, rfl, hrow⟩; have hb := hrow.2; have HRW := Aside0.mk hrow; clear hrow; have BXn := Aside0.mk (blk_below BX.out hb); have BRn := Aside0.mk (blk_below BR.out hb); clear BX BR t1 t2 t3 t4 k0 k1 k2 k3; have BX := BXn; have BR := BRn; clear BXn BRn; have HBn := Aside0.mk (below_step (by repeat (first | (with_reducible first | exact HB.out | apply below_alloc | apply pw_below_drewN | apply below_drew1) | exact HB.out)) hb); clear HB; have HB := HBn; clear HBn; clear hb; have t3 : w1.cell? ⟨w.heap.size, 3, none⟩ = some (.int .i64 x.used) := (blk_cell BX.out 3).trans rfl) | (refine wpList_store_1 rfl 3 _ _ rfl w.heap.size 3 (.int .i64 (x.used + u)) rfl rfl rfl 90 _ #[.string x.verb, .slice (some ⟨b, o, none⟩) x.words.length c1, .bool x.quiet, .int .i64 (x.used + u), .slice A4 x.rest.length c4] BX.out (by simp) (by kernel_rfl) rfl ?_; intro w2 hbk hst; have BX2 := Aside0.mk hbk; have BR2 := Aside0.mk (hst.blk BR.out (by omega)); have HB2 := Aside0.mk (hst.up HB.out (by omega)); have HST := Aside0.mk hst; clear hbk hst BX BR HB t3; have HB := HB2; clear HB2; have hx2 : w.heap.size < w2.heap.size := blk_lt BX2.out; have hr2 : w.heap.size + 1 < w2.heap.size := blk_lt BR2.out; have t0 : w2.cell? ⟨w.heap.size, 0, none⟩ = some (.string x.verb) := (blk_cell BX2.out 0).trans rfl; have t1 : w2.cell? ⟨w.heap.size, 1, none⟩ = some (.slice (some ⟨b, o, none⟩) x.words.length c1) := (blk_cell BX2.out 1).trans rfl; have t2 : w2.cell? ⟨w.heap.size, 2, none⟩ = some (.bool x.quiet) := (blk_cell BX2.out 2).trans rfl; have t3 : w2.cell? ⟨w.heap.size, 3, none⟩ = some (.int .i64 (x.used + u)) := (blk_cell BX2.out 3).trans rfl; have t4 : w2.cell? ⟨w.heap.size, 4, none⟩ = some (.slice A4 x.rest.length c4) := (blk_cell BX2.out 4).trans rfl))
            have hbf := HBD.out
            simp only [badA, Bool.or_eq_false_iff, Bool.not_eq_false', decide_eq_false_iff_not] at hbf
            obtain ⟨rfl, rfl, hzl, rfl, rfl, rfl⟩ := hbf
            have hn0 : 0 < x.words.length := by omega
            have hz1a : (0 : Int) ≤ ↑z1 := by omega
            have hz1b : (z1 : Int) ≤ 4294967295 := by omega
            have hw32 : IntKind.u32.wrap ↑z1 = ↑z1 := by show (↑z1 : Int) % 4294967296 = ↑z1; omega
            have hks : keysOf (cmdS op v0 vl ↑z1 z2 ↑z4).key = [v0] := by
              unfold keysOf
              refine if_neg (fun h => ?_)
              have h : v0.size = 0 := h
              have h2 := HQ.out
              have : keyS v0 = false := by unfold keyS; rw [decide_eq_false (by omega), Bool.false_and]
              rw [this] at h2
              cases h2
            obtain ⟨A', c', rfl, hlv, -⟩ := HRW.out.C
            have HCV : Aside0 (HolF (fun k => k ≠ w.heap.size + 1 ∧ (k < w.heap.size → F k)) w2.drew (fun w3 => (Kd.int .u8).C w3 A' vl.length vl)) := ⟨fun w3 hb3 hk3 => own_Cu8 (own_keep HRW.out.1 (fun k h1 h2 => by
              have hlt := GLT.out
              have e1 := hk3 k (by rw [World.size_drew]; have := HST.out.size; omega) ⟨by omega, fun h => by omega⟩
              exact e1.trans (HST.out.block k (by omega))))⟩
            have HO1 : Aside0 (Calls Tryz.prog 135 #[.agg #[.string x.verb, .slice (some ⟨b, o, none⟩) x.words.length c1, .bool x.quiet, .int .i64 (x.used + u), .slice A4 x.rest.length c4], .agg #[.int .i64 op, .string v0, .slice A' vl.length c', .int .u32 ↑z1, .int .i64 z2, .int .u64 ↑z4, .int .u64 0, .int .u64 0, .bool false, .bool false]] w2.drew (StepR (fun k => k ≠ w.heap.size + 1 ∧ (k < w.heap.size → F k)) w2.drew (stepO (x.used + u) (formT x.verb x.quiet [v0]) (cmdS op v0 vl ↑z1 z2 ↑z4)))) := ⟨by
              have := one_calls { x with used := x.used + u } (cmdS op v0 vl ↑z1 z2 ↑z4) _ _ (fun k => k ≠ w.heap.size + 1 ∧ (k < w.heap.size → F k)) w2.drew (HXU.out w2.drew (by repeat (first | (with_reducible first | exact HB.out | apply below_alloc | apply pw_below_drewN | apply below_drew1) | exact HB.out))) (HCV.out.imp (fun w3 h => kCmd_mk w3 (cmdS op v0 vl ↑z1 z2 ↑z4) hlv h))
              rw [hks] at this
              exact this⟩
            clear hks HCV HRW HST HXU hs0 hs1 hzl
            (refine wp_region_noPanic ?_; refine wp_region_held_drew (S := fun w' => LineAt x.verb (.slice (some ⟨b, o, none⟩) x.words.length c1) x.quiet (x.used + u) (.slice A4 x.rest.length c4) w.heap.size w' ∧ w'.cell? ⟨b, o, none⟩ = some (.string v0)) (by kernel_rfl) ⟨LineAt.of (blk_drew BX2.out), (Below.cell (below_drew1 HB.out) (p := ⟨b, o, none⟩) hb0).trans HC0.out⟩ ?_; intro hHeld)
            (refine wpAnyH_take (i := 0) (v := ?_) (by simp only [List.getElem?_toArray, List.getElem?_cons_succ, List.getElem?_cons_zero]; rfl) (by kernel_rfl) (by kernel_rfl) (by kernel_rfl) (fun _ _ _ h => h) (Or.inl ⟨by rfl, ?_⟩) (by exact hHeld) ?_; rotate_left; (focus (intro w' hSw; obtain ⟨⟨s0, s1, s2, s3, s4⟩, s5⟩ := hSw; go_simp; (try with_reducible rfl); done)); (try simp only [Act.put, List.setIfInBounds_toArray, List.set_cons_zero, List.set_cons_succ]))
            (refine wpAnyH_take (i := 1) (v := ?_) (by simp only [List.getElem?_toArray, List.getElem?_cons_succ, List.getElem?_cons_zero]; rfl) (by kernel_rfl) (by kernel_rfl) (by kernel_rfl) (fun _ _ _ h => h) (Or.inl ⟨by rfl, ?_⟩) (by exact hHeld) ?_; rotate_left; (focus (intro w' hSw; obtain ⟨⟨s0, s1, s2, s3, s4⟩, s5⟩ := hSw; go_simp; (try with_reducible rfl); done)); (try simp only [Act.put, List.setIfInBounds_toArray, List.set_cons_zero, List.set_cons_succ]))
            (refine wpAnyH_take (i := 2) (v := ?_) (by simp only [List.getElem?_toArray, List.getElem?_cons_succ, List.getElem?_cons_zero]; rfl) (by kernel_rfl) (by kernel_rfl) (by kernel_rfl) (fun _ _ _ h => h) (Or.inl ⟨by rfl, ?_⟩) (by exact hHeld) ?_; rotate_left; (focus (intro w' hSw; obtain ⟨⟨s0, s1, s2, s3, s4⟩, s5⟩ := hSw; go_simp; (try with_reducible rfl); done)); (try simp only [Act.put, List.setIfInBounds_toArray, List.set_cons_zero, List.set_cons_succ]))
            (refine wpAnyH_take (i := 3) (v := ?_) (by simp only [List.getElem?_toArray, List.getElem?_cons_succ, List.getElem?_cons_zero]; rfl) (by kernel_rfl) (by kernel_rfl) (by kernel_rfl) (fun _ _ _ h => h) (Or.inl ⟨by rfl, ?_⟩) (by exact hHeld) ?_; rotate_left; (focus (intro w' hSw; obtain ⟨⟨s0, s1, s2, s3, s4⟩, s5⟩ := hSw; go_simp; (try with_reducible rfl); done)); (try simp only [Act.put, List.setIfInBounds_toArray, List.set_cons_zero, List.set_cons_succ]))
            (refine wpAnyH_take (i := 4) (v := ?_) (by simp only [List.getElem?_toArray, List.getElem?_cons_succ, List.getElem?_cons_zero]; rfl) (by kernel_rfl) (by kernel_rfl) (by kernel_rfl) (fun _ _ _ h => h) (Or.inl ⟨by rfl, ?_⟩) (by exact hHeld) ?_; rotate_left; (focus (intro w' hSw; obtain ⟨⟨s0, s1, s2, s3, s4⟩, s5⟩ := hSw; go_simp; (try with_reducible rfl); done)); (try simp only [Act.put, List.setIfInBounds_toArray, List.set_cons_zero, List.set_cons_succ]))
            (refine wpAnyH_take (i := 5) (v := ?_) (by simp only [List.getElem?_toArray, List.getElem?_cons_succ, List.getElem?_cons_zero]; rfl) (by kernel_rfl) (by kernel_rfl) (by kernel_rfl) (fun _ _ _ h => h) (Or.inl ⟨by rfl, ?_⟩) (by exact hHeld) ?_; rotate_left; (focus (intro w' hSw; obtain ⟨⟨s0, s1, s2, s3, s4⟩, s5⟩ := hSw; go_simp; (try with_reducible rfl); done)); (try simp only [Act.put, List.setIfInBounds_toArray, List.set_cons_zero, List.set_cons_succ]))
            (refine wpAnyH_take (i := 6) (v := ?_) (by simp only [List.getElem?_toArray, List.getElem?_cons_succ, List.getElem?_cons_zero]; rfl) (by kernel_rfl) (by kernel_rfl) (by kernel_rfl) (fun _ _ _ h => h) (Or.inl ⟨by rfl, ?_⟩) (by exact hHeld) ?_; rotate_left; (focus (intro w' hSw; obtain ⟨⟨s0, s1, s2, s3, s4⟩, s5⟩ := hSw; go_simp; (try with_reducible rfl); done)); (try simp only [Act.put, List.setIfInBounds_toArray, List.set_cons_zero, List.set_cons_succ]))
            (refine wpAnyH_take (i := 7) (v := ?_) (by simp only [List.getElem?_toArray, List.getElem?_cons_succ, List.getElem?_cons_zero]; rfl) (by kernel_rfl) (by kernel_rfl) (by kernel_rfl) (fun _ _ _ h => h) (Or.inl ⟨by rfl, ?_⟩) (by exact hHeld) ?_; rotate_left; (focus (intro w' hSw; obtain ⟨⟨s0, s1, s2, s3, s4⟩, s5⟩ := hSw; go_simp; (try with_reducible rfl); done)); (try simp only [Act.put, List.setIfInBounds_toArray, List.set_cons_zero, List.set_cons_succ]))
            (refine wpAnyH_take (i := 8) (v := ?_) (by simp only [List.getElem?_toArray, List.getElem?_cons_succ, List.getElem?_cons_zero]; rfl) (by kernel_rfl) (by kernel_rfl) (by kernel_rfl) (fun _ _ _ h => h) (Or.inl ⟨by rfl, ?_⟩) (by exact hHeld) ?_; rotate_left; (focus (intro w' hSw; obtain ⟨⟨s0, s1, s2, s3, s4⟩, s5⟩ := hSw; go_simp; (try with_reducible rfl); done)); (try simp only [Act.put, List.setIfInBounds_toArray, List.set_cons_zero, List.set_cons_succ]))
            (refine wpAnyH_take (i := 9) (v := ?_) (by simp only [List.getElem?_toArray, List.getElem?_cons_succ, List.getElem?_cons_zero]; rfl) (by kernel_rfl) (by kernel_rfl) (by kernel_rfl) (fun _ _ _ h => h) (Or.inl ⟨by rfl, ?_⟩) (by exact hHeld) ?_; rotate_left; (focus (intro w' hSw; obtain ⟨⟨s0, s1, s2, s3, s4⟩, s5⟩ := hSw; go_simp; (try with_reducible rfl); done)); (try simp only [Act.put, List.setIfInBounds_toArray, List.set_cons_zero, List.set_cons_succ]))
            (refine wpAnyH_take (i := 10) (v := ?_) (by simp only [List.getElem?_toArray, List.getElem?_cons_succ, List.getElem?_cons_zero]; rfl) (by kernel_rfl) (by kernel_rfl) (by kernel_rfl) (fun _ _ _ h => h) (Or.inl ⟨by rfl, ?_⟩) (by exact hHeld) ?_; rotate_left; (focus (intro w' hSw; obtain ⟨⟨s0, s1, s2, s3, s4⟩, s5⟩ := hSw; go_simp; (try with_reducible rfl); done)); (try simp only [Act.put, List.setIfInBounds_toArray, List.set_cons_zero, List.set_cons_succ]))
            (refine wpAnyH_take (i := 11) (v := ?_) (by simp only [List.getElem?_toArray, List.getElem?_cons_succ, List.getElem?_cons_zero]; rfl) (by kernel_rfl) (by kernel_rfl) (by kernel_rfl) (fun _ _ _ h => h) (Or.inl ⟨by rfl, ?_⟩) (by exact hHeld) ?_; rotate_left; (focus (intro w' hSw; obtain ⟨⟨s0, s1, s2, s3, s4⟩, s5⟩ := hSw; go_simp; (try with_reducible rfl); done)); (try simp only [Act.put, List.setIfInBounds_toArray, List.set_cons_zero, List.set_cons_succ]))
            refine wpAnyH_ready (rs := [12]) (by kernel_rfl) (by simp) ?_
            refine AllReadyH.cons (by simp only [List.getElem?_toArray, List.getElem?_cons_succ, List.getElem?_cons_zero]; rfl) (fun K hK => ?_) AllReadyH.nil
            go_simp
            (go_at_call 135; (with_reducible refine HO1.out.mono ?_); rintro e w5 ⟨⟨cs, rfl, hk⟩, hb⟩)
            have BX5 := Aside0.mk (blk_below (blk_drew BX2.out) hb)
            have BR5 := Aside0.mk (blk_below (blk_drew BR2.out) hb)
            have HBn := Aside0.mk (below_step (by repeat (first | (with_reducible first | exact HB.out | apply below_alloc | apply pw_below_drewN | apply below_drew1) | exact HB.out)) hb); clear HB; have HB := HBn; clear HBn
            have HK := Aside0.mk hk
            have hgd : w.heap.size + 1 < w2.drew.heap.size := by rw [World.size_drew]; exact hr2
            refine hK.out _ _ ⟨LineAt.of BX5.out, (Below.cell HB.out (p := ⟨b, o, none⟩) hb0).trans HC0.out⟩ ?_
            clear hK K hHeld hk hb
            intro hHeld
            (try simp only [Act.put, List.setIfInBounds_toArray, List.set_cons_zero, List.set_cons_succ])
            refine wpAnyH_ready (rs := [13]) (by kernel_rfl) (by simp) ?_
            refine AllReadyH.cons (by simp only [List.getElem?_toArray, List.getElem?_cons_succ, List.getElem?_cons_zero]; rfl) (fun K hK => ?_) AllReadyH.nil
            refine step_store_F rfl 61 _ _ rfl (w.heap.size + 1) 0 cs rfl rfl (fun u hu => kStep.K_one HK.out.now u hu) 61 _ cs.toArray BR5.out (by rw [kStep.K_len HK.out.now]; first | done | decide) (by rw [kStep.K_len HK.out.now]; kernel_rfl) (congrArg List.toArray (by rw [kStep.K_len HK.out.now]; exact List.append_nil cs)) ?_
            intro w6 hbk hst
            have BK := Aside0.mk hbk
            have HK2 := Aside0.mk (hst.hol HK.out (fun h => (h hgd).1 rfl))
            have HB6 := Aside0.mk (hst.up HB.out (by omega))
            refine hK.out _ _ ⟨LineAt.of (hst.blk BX5.out (by omega)), (Below.cell HB6.out (p := ⟨b, o, none⟩) hb0).trans HC0.out⟩ ?_
            clear hK K hHeld hbk hst
            intro hHeld
            (try simp only [Act.put, List.setIfInBounds_toArray, List.set_cons_zero, List.set_cons_succ])
            (refine wpAnyH_done (by kernel_rfl) ?_ _; refine NoPanic.normal ?_)
            go_wp2
            ((try simp only [Exit.inBlock, Exit.then]); refine bodyPost_ret (results_cell_row rfl _ _ (w.heap.size + 1) 61 _ (0, 0) _ rfl BK.out Tryz.underlying61 rfl (by rw [List.size_toArray, kStep.K_len HK.out.now]; kernel_rfl)) rfl ?_)
            exact ⟨⟨_, rfl, HK2.out.mono (fun k hk h3 => (hk (by omega)).2 h3)⟩, HB6.out⟩
      · have hR := HR.out
        rw [if_pos rfl] at hR
        subst hR
        have HOB : Aside0 (∀ w', Below w.heap.size w w' → Calls Tryz.prog 136 #[.agg #[.string x.verb, .slice (some ⟨b, o, none⟩) x.words.length c1, .bool x.quiet, .int .i64 x.used, .slice A4 x.rest.length c4], .string (⟨#[67, 76, 73, 69, 78, 84, 95, 69, 82, 82, 79, 82, 32, 98, 97, 100, 32, 99, 111, 109, 109, 97, 110, 100, 32, 108, 105, 110, 101, 32, 102, 111, 114, 109, 97, 116]⟩ : ByteArray)] w' (StepR (fun k => k < w.heap.size ∧ F k) w' (stepFS x.used badT (skipN (z3, p3)) false))) := ⟨HSK.out _ (by decide)⟩
        clear HR
        go_wp2_with (first | (go_at_call 136; (with_reducible refine (HOB.out _ (by repeat (first | (with_reducible first | exact HB.out | apply below_alloc | apply pw_below_drewN | apply below_drew1) | exact HB.out))).mono ?_); rintro e w1 ⟨⟨cs, rfl, hk⟩, hb⟩; have BK := Aside0.mk (blk_below BR.out hb); have HBn := Aside0.mk (below_step (by repeat (first | (with_reducible first | exact HB.out | apply below_alloc | apply pw_below_drewN | apply below_drew1) | exact HB.out)) hb); clear HB; have HB := HBn; clear HBn; have HK := Aside0.mk hk; clear hb hk) | (refine wpList_store_K HK.out.now rfl 61 _ _ rfl (w.heap.size + 1) rfl rfl 61 _ BK.out (by kernel_rfl) rfl ?_; intro w8 hbk hlow hfar; have HK2 := Aside0.mk (hfar _ _ (fun h => absurd (h GLT.out).1 (by omega)) HK.out); clear BK; have BK := Aside0.mk hbk; have HL := Aside0.mk hlow; clear hbk hlow hfar))
        ((try simp only [Exit.inBlock, Exit.then]); refine bodyPost_ret (results_cell_row rfl _ _ (w.heap.size + 1) 61 _ (0, 0) _ rfl BK.out Tryz.underlying61 rfl (by rw [List.size_toArray, kStep.K_len HK.out.now]; kernel_rfl)) rfl ?_)
        exact ⟨⟨_, rfl, HK2.out.mono (fun k hk h3 => (hk (by have := GLT.out; omega)).2)⟩, HB.out.trans (HL.out _ (by omega))⟩
end Go.Proofs.YtdjbbncoioghfaaGreatDoor.X
namespace Go.Proofs.YtdjbbncoioghfaaGreatDoor.X
open Go.RowKit Go.Proofs.YtdjbbncoioghfaaGreatDoorW.PrintWords Go.Proofs.YtdjbbncoioghfaaGreatDoorW.PrintMore
set_option linter.unusedVariables false
set_option linter.unusedSimpArgs false
def noreplyT : ByteArray := (⟨#[110, 111, 114, 101, 112, 108, 121]⟩ : ByteArray)
def moreB (verb : ByteArray) (n : Nat) : Bool := decide ((n : Int) = asksL verb.toList + 1) || (verb.toList == [102, 108, 117, 115, 104, 95, 97, 108, 108]) && decide (n ≤ 2)
def hushB (verb : ByteArray) (words : List ByteArray) : Bool := decide (0 < words.length) && (moreB verb words.length && ((words.getD (words.length - 1) ⟨#[]⟩).toList == [110, 111, 114, 101, 112, 108, 121]))
theorem asksL_in (l : List UInt8) : -1 ≤ asksL l ∧ asksL l ≤ 5 := by
  unfold asksL
  repeat' split
  all_goals omega
/-- What hush leaves: the block of the line, without the word, if it is there. -/
def HushP (g : Nat) (cells : Array Value) (w : World) (e : Ending) (w' : World) : Prop := e = .returned (.tuple #[]) ∧ w'.heap[g]? = some (.cells cells 90 (0, 0)) ∧ (∀ B, B ≤ g → Below B w w') ∧ (∀ k, k < w.heap.size → k ≠ g → w'.heap[k]? = w.heap[k]?)
set_option maxRecDepth 100000 in
set_option maxHeartbeats 1000000 in
theorem hush_calls (g : Nat) (verb : ByteArray) (A1 : Option Addr) (c1 : Nat) (words : List ByteArray) (quiet : Bool) (used : Int) (v4 : Value) (w : World) (hg : w.heap[g]? = some (.cells #[.string verb, .slice A1 words.length c1, .bool quiet, .int .i64 used, v4] 90 (0, 0)))
    (hC : Kd.string.C w A1 words.length words) (hc : words.length ≤ c1) (hl : words.length ≤ 1000000) :
    Calls Tryz.prog 52 #[.pointer (some ⟨g, 0, none⟩)] w
      (HushP g (if hushB verb words = true then #[.string verb, .slice A1 (words.length - 1) c1, .bool true, .int .i64 used, v4] else #[.string verb, .slice A1 words.length c1, .bool quiet, .int .i64 used, v4]) w) := by
  have BX := Aside0.mk hg
  have HC := Aside0.mk hC
  obtain ⟨R, hR⟩ : ∃ R, (if hushB verb words = true then #[.string verb, .slice A1 (words.length - 1) c1, .bool true, .int .i64 used, v4] else #[.string verb, .slice A1 words.length c1, .bool quiet, .int .i64 used, v4]) = R := ⟨_, rfl⟩
  rw [hR]
  unfold hushB at hR
  have HA := Aside0.mk (fun w => asks_w verb w)
  have hin := asksL_in verb.toList
  obtain ⟨mo, hmo⟩ : ∃ mo, moreB verb words.length = mo := ⟨_, rfl⟩
  rw [hmo] at hR
  unfold moreB at hmo
  obtain ⟨a, ha⟩ : ∃ a, asksL verb.toList = a := ⟨_, rfl⟩
  rw [ha] at HA hin hmo
  obtain ⟨fl, hfl⟩ : ∃ fl, (verb.toList == [102, 108, 117, 115, 104, 95, 97, 108, 108]) = fl := ⟨_, rfl⟩
  have HFL := Aside0.mk hfl
  rw [hfl] at hmo
  obtain ⟨n, hn⟩ : ∃ n, words.length = n := ⟨_, rfl⟩
  have HN := Aside0.mk hn
  rw [hn] at BX HC hR hmo hc hl
  have HR := Aside0.mk hR
  have HMO := Aside0.mk hmo
  clear hg hC hR hmo ha hn hfl
  have ha0 : -1 ≤ a := hin.1
  have ha1 : a ≤ 5 := hin.2
  clear hin
  have hn0 : (0 : Int) ≤ n := by omega
  have hs0 : (0 : Int) ≤ a + 1 := by omega
  have hs1 : a + 1 ≤ 9223372036854775807 := by omega
  have t0 : w.cell? ⟨g, 0, none⟩ = some (.string verb) := (blk_cell BX.out 0).trans rfl; have t1 : w.cell? ⟨g, 1, none⟩ = some (.slice A1 n c1) := (blk_cell BX.out 1).trans rfl
  go_enter Tryz.func52, Tryz.ntmps52
  go_upto_region 1 with fail
  go_cut [3] (fun sm wx => sm = .bool mo ∧ Aside0 (wx.heap[g]? = some (.cells #[.string verb, .slice A1 n c1, .bool quiet, .int .i64 used, v4] 90 (0, 0)) ∧ Below w.heap.size w wx))
  case first =>
    have hfl := HFL.out
    by_cases h1 : (n : Int) = a + 1
    · have h1b : ((n : Int) == a + 1) = true := beq_iff_eq.2 h1
      have H1 := Aside0.mk h1
      clear h1
      go_wp2_with (first | (go_at_call 92; (with_reducible refine (HA.out _).mono ?_); rintro e w1 ⟨rfl, hb⟩; have BX1 := Aside0.mk (blk_below BX.out hb); have HB1 := Aside0.mk hb; clear hb; have t0 : w1.cell? ⟨g, 0, none⟩ = some (.string verb) := (blk_cell BX1.out 0).trans rfl; have t1 : w1.cell? ⟨g, 1, none⟩ = some (.slice A1 n c1) := (blk_cell BX1.out 1).trans rfl))
      go_meet
      case rel => exact ⟨by have h1 := H1.out; rw [← HMO.out]; first | rfl | (simp [moreB, *]; done) | (simp [moreB, *]; omega), ⟨BX1.out, HB1.out⟩⟩
    have h1b : ((n : Int) == a + 1) = false := beq_eq_false_iff_ne.2 h1
    have H1 := Aside0.mk h1
    clear h1
    cases fl
    · go_wp2_with (first | (go_at_call 92; (with_reducible refine (HA.out _).mono ?_); rintro e w1 ⟨rfl, hb⟩; have BX1 := Aside0.mk (blk_below BX.out hb); have HB1 := Aside0.mk hb; clear hb; have t0 : w1.cell? ⟨g, 0, none⟩ = some (.string verb) := (blk_cell BX1.out 0).trans rfl; have t1 : w1.cell? ⟨g, 1, none⟩ = some (.slice A1 n c1) := (blk_cell BX1.out 1).trans rfl))
      go_meet
      case rel => exact ⟨by have h1 := H1.out; rw [← HMO.out]; first | rfl | (simp [moreB, *]; done) | (simp [moreB, *]; omega), ⟨BX1.out, HB1.out⟩⟩
    by_cases h2 : (n : Int) ≤ 2
    · go_wp2_with (first | (go_at_call 92; (with_reducible refine (HA.out _).mono ?_); rintro e w1 ⟨rfl, hb⟩; have BX1 := Aside0.mk (blk_below BX.out hb); have HB1 := Aside0.mk hb; clear hb; have t0 : w1.cell? ⟨g, 0, none⟩ = some (.string verb) := (blk_cell BX1.out 0).trans rfl; have t1 : w1.cell? ⟨g, 1, none⟩ = some (.slice A1 n c1) := (blk_cell BX1.out 1).trans rfl))
      go_meet
      case rel => exact ⟨by have h1 := H1.out; rw [← HMO.out]; first | rfl | (simp [moreB, *]; done) | (simp [moreB, *]; omega), ⟨BX1.out, HB1.out⟩⟩
    · go_wp2_with (first | (go_at_call 92; (with_reducible refine (HA.out _).mono ?_); rintro e w1 ⟨rfl, hb⟩; have BX1 := Aside0.mk (blk_below BX.out hb); have HB1 := Aside0.mk hb; clear hb; have t0 : w1.cell? ⟨g, 0, none⟩ = some (.string verb) := (blk_cell BX1.out 0).trans rfl; have t1 : w1.cell? ⟨g, 1, none⟩ = some (.slice A1 n c1) := (blk_cell BX1.out 1).trans rfl))
      go_meet
      case rel => exact ⟨by have h1 := H1.out; rw [← HMO.out]; first | rfl | (simp [moreB, *]; done) | (simp [moreB, *]; omega), ⟨BX1.out, HB1.out⟩⟩
  case rest =>
    obtain ⟨rfl, HI⟩ := hcut
    have BXc := Aside0.mk HI.out.1
    have HBc := Aside0.mk HI.out.2
    clear HI t0 t1
    have t0 : wc.cell? ⟨g, 0, none⟩ = some (.string verb) := (blk_cell BXc.out 0).trans rfl; have t1 : wc.cell? ⟨g, 1, none⟩ = some (.slice A1 n c1) := (blk_cell BXc.out 1).trans rfl
    by_cases hz : n = 0
    · subst hz
      have hR := HR.out
      rw [decide_eq_false (by omega), Bool.false_and, if_neg (by decide)] at hR
      subst hR
      go_wp2
      go_end0; exact ⟨rfl, BXc.out, fun B hB => HBc.out.mono (Nat.le_of_lt (Nat.lt_of_le_of_lt hB (blk_lt BX.out))), fun k hk _ => HBc.out.block k hk⟩
    obtain ⟨m, rfl⟩ : ∃ m, n = m + 1 := ⟨n - 1, by omega⟩
    have hR := HR.out
    rw [decide_eq_true (by omega), Bool.true_and, Nat.add_sub_cancel] at hR
    cases mo
    · rw [Bool.false_and, if_neg (by decide)] at hR
      subst hR
      go_wp2
      go_end0; exact ⟨rfl, BXc.out, fun B hB => HBc.out.mono (Nat.le_of_lt (Nat.lt_of_le_of_lt hB (blk_lt BX.out))), fun k hk _ => HBc.out.block k hk⟩
    rw [Bool.true_and] at hR
    have hC := HC.out
    rw [← HN.out] at hC
    obtain ⟨b, o, rfl, hb0, hcell⟩ := S_cell hC m (by rw [HN.out]; omega)
    obtain ⟨z, hz2⟩ : ∃ z, words.getD m ⟨#[]⟩ = z := ⟨_, rfl⟩
    rw [hz2] at hR hcell
    have hc2 : wc.cell? ⟨b, o + m, none⟩ = some (.string z) := (Below.cell HBc.out (p := ⟨b, o + m, none⟩) hb0).trans hcell
    obtain ⟨y, hy⟩ : ∃ y, (z.toList == [110, 111, 114, 101, 112, 108, 121]) = y := ⟨_, rfl⟩
    rw [hy] at hR
    clear hC hcell hz2
    cases y
    · rw [if_neg (by decide)] at hR
      subst hR
      go_wp2
      go_end0; exact ⟨rfl, BXc.out, fun B hB => HBc.out.mono (Nat.le_of_lt (Nat.lt_of_le_of_lt hB (blk_lt BX.out))), fun k hk _ => HBc.out.block k hk⟩
    · rw [if_pos rfl] at hR
      subst hR
      go_wp2_with (first | (refine wpList_store_1 rfl 30 _ _ rfl g 1 (.slice (some ⟨b, o, none⟩) m c1) rfl rfl rfl 90 _ #[.string verb, .slice (some ⟨b, o, none⟩) m c1, .bool quiet, .int .i64 used, v4] BXc.out (by simp) (by kernel_rfl) rfl ?_; intro w2 hbk hst; have BX2 := Aside0.mk hbk; have HS2 := Aside0.mk hst; clear hbk hst) | (refine wpList_store_1 rfl 4 _ _ rfl g 2 (.bool true) rfl rfl rfl 90 _ #[.string verb, .slice (some ⟨b, o, none⟩) m c1, .bool true, .int .i64 used, v4] BX2.out (by simp) (by kernel_rfl) rfl ?_; intro w3 hbk hst; have BX3 := Aside0.mk hbk; have HS3 := Aside0.mk hst; clear hbk hst))
      go_end0
      exact ⟨rfl, BX3.out, fun B hB => (HBc.out.mono (Nat.le_of_lt (Nat.lt_of_le_of_lt hB (blk_lt BX.out)))).trans ((HS2.out.below B hB).trans (HS3.out.below B hB)), fun k hk hkg => (HS3.out.block k hkg).trans ((HS2.out.block k hkg).trans (HBc.out.block k hk))⟩
def storesS (verb : ByteArray) (quiet : Bool) (used : Int) (words : List ByteArray) (rest : List Int) (op : Int) (many : Nat) : Step :=
  if words.length ≠ many then stepF used (⟨#[69, 82, 82, 79, 82]⟩ : ByteArray) else storesR verb quiet used rest op (words.getD 0 ⟨#[]⟩) (words.getD 1 ⟨#[]⟩) (words.getD 2 ⟨#[]⟩) (words.getD 3 ⟨#[]⟩) (casS words.length (words.getD 4 ⟨#[]⟩))
end Go.Proofs.YtdjbbncoioghfaaGreatDoor.X
namespace Go.Proofs.YtdjbbncoioghfaaGreatDoor.X
open Go.RowKit Go.Proofs.YtdjbbncoioghfaaGreatDoorW.PrintWords Go.Proofs.YtdjbbncoioghfaaGreatDoorW.PrintMore
set_option linter.unusedVariables false
set_option linter.unusedSimpArgs false
set_option maxRecDepth 100000 in
set_option maxHeartbeats 1000000 in
theorem stores_no (x : TextinLine) (cx : List Value) (op many : Int) (F : Nat → Prop) (w : World) (hx : kTextinLine.K w x cx) (hw : (x.words.length : Int) ≠ many) :
    Calls Tryz.prog 93 #[.agg cx.toArray, .int .i64 op, .int .i64 many] w (StepR F w (stepF x.used (⟨#[69, 82, 82, 79, 82]⟩ : ByteArray))) := by
  have HB := Aside0.mk (Below.refl w.heap.size w)
  have HX := Aside0.mk hx
  obtain ⟨A1, c1, A4, c4, rfl, hl1, hg1, hl4, hg4⟩ := kTextinLine_open hx
  have HO : Aside0 (∀ w', Below w.heap.size w w' → Calls Tryz.prog 50 #[.agg #[.string x.verb, .slice A1 x.words.length c1, .bool x.quiet, .int .i64 x.used, .slice A4 x.rest.length c4], .string (⟨#[69, 82, 82, 79, 82]⟩ : ByteArray)] w' (StepR (fun k => k < w.heap.size ∧ F k) w' (stepF x.used (⟨#[69, 82, 82, 79, 82]⟩ : ByteArray)))) := ⟨fun w' hb => fault_calls x _ _ _ w' (kTextinLine.K_below hb HX.out) (by decide)⟩
  clear hx hg1 hg4
  have hwb : ((x.words.length : Int) == many) = false := beq_eq_false_iff_ne.2 hw
  go_enter Tryz.func93, Tryz.ntmps93
  go_wp2_with (first | (refine wpList_store_K HK.out.now rfl 61 _ _ rfl (w.heap.size + 1) rfl rfl 61 _ BK.out (by kernel_rfl) rfl ?_; intro w2 hbk hlow hfar; have HK2 := Aside0.mk (hfar _ _ (fun h => absurd (h (by simp <;> omega)).1 (by omega)) HK.out); clear BK; have BK := Aside0.mk hbk; have HL := Aside0.mk hlow; clear hbk hlow hfar) | go_at_call 50; (with_reducible refine (HO.out _ (by repeat (first | (with_reducible first | exact HB.out | apply below_alloc | apply pw_below_drewN | apply below_drew1) | exact HB.out))).mono ?_); rintro e w1 ⟨⟨cs, rfl, hk⟩, hb⟩; have BK := Aside0.mk (blk_below (g := w.heap.size + 1) (by repeat (first | exact blk_at_new _ _ _ (by simp; done) | exact blk_at_new _ _ _ rfl | refine blk_alloc ?_ _ | refine blk_drew ?_ | refine blk_drewN ?_ _)) hb); have HBn := Aside0.mk (below_step (by repeat (first | (with_reducible first | exact HB.out | apply below_alloc | apply pw_below_drewN | apply below_drew1) | exact HB.out)) hb); clear HB; have HB := HBn; clear HBn; have HK := Aside0.mk hk; clear hb hk)
  ((try simp only [Exit.inBlock, Exit.then]); refine bodyPost_ret (results_cell_row rfl _ _ (w.heap.size + 1) 61 _ (0, 0) _ rfl BK.out Tryz.underlying61 rfl (by rw [List.size_toArray, kStep.K_len HK.out.now]; kernel_rfl)) rfl ?_)
  exact ⟨⟨_, rfl, HK2.out.mono (fun k hk h3 => (hk (by simp; omega)).2)⟩, HB.out.trans (HL.out _ (by omega))⟩
theorem stores_calls (x : TextinLine) (cx : List Value) (F : Nat → Prop) (w : World) (hx : HolF F w (fun w2 => kTextinLine.K w2 x cx)) (hT : Tabs w) (hl : x.words.length ≤ 1000000) (hs : ∀ k ∈ x.words, k.size ≤ 1000000) (hu0 : 0 ≤ x.used) (hu1 : x.used ≤ 1000000) (h8 : B8 x.rest) (hrl : x.rest.length ≤ 1000000) (op : Int) (many : Nat) (hm : many = 4 ∨ many = 5) :
    Calls Tryz.prog 93 #[.agg cx.toArray, .int .i64 op, .int .i64 (many : Int)] w (StepR F w (storesS x.verb x.quiet x.used x.words x.rest op many)) := by
  unfold storesS
  by_cases hw : x.words.length = many
  · rw [if_neg (fun h => h hw)]
    subst hw
    refine stores_walk x cx op _ _ _ _ _ F w hx hT hm rfl rfl rfl rfl rfl ?_ hu0 hu1 h8 hrl
    refine hs _ ?_
    rw [List.getD_eq_getElem?_getD, List.getElem?_eq_getElem (show 0 < x.words.length by omega)]
    exact List.getElem_mem _
  · rw [if_pos hw]
    exact stores_no x cx op many F w hx.now (by omega)
theorem lit_ne {a : ByteArray} {l : List UInt8} (h : a ≠ ⟨l.toArray⟩) : (a.toList == l) = false := by
  rw [beq_eq_false_iff_ne]
  intro e
  refine h ?_
  rw [ByteArray.toList_eq] at e
  rcases a with ⟨⟨q⟩⟩
  have e : q = l := e
  rw [e]
theorem words_hol {x : TextinLine} {F : Nat → Prop} {w : World} {A1 A4 : Option Addr} {c1 c4 : Nat} (hx : HolF F w (fun w2 => kTextinLine.K w2 x [.string x.verb, .slice A1 x.words.length c1, .bool x.quiet, .int .i64 x.used, .slice A4 x.rest.length c4])) : HolF F w (fun w2 => Kd.string.C w2 A1 x.words.length x.words) := hx.imp (fun w2 h => by
  obtain ⟨A1', c1', A4', c4', e, -, hg, -, -⟩ := kTextinLine_open h
  simp only [List.cons.injEq, Value.slice.injEq, and_true, true_and] at e
  obtain ⟨⟨rfl, rfl⟩, rfl, rfl⟩ := e
  exact hg)
/-- loud's answer: a step, and whether it is one. -/
def LoudR (F : Nat → Prop) (w : World) (st : Step) (b : Bool) (e : Ending) (w' : World) : Prop := (∃ cs, e = .returned (.tuple #[.agg cs.toArray, .bool b]) ∧ HolF (fun k => k < w.heap.size → F k) w' (fun w2 => kStep.K w2 st cs)) ∧ Below w.heap.size w w'
def loudS (verb : ByteArray) (used : Int) (words : List ByteArray) : Step × Bool :=
  if verb = (⟨#[103, 101, 116]⟩ : ByteArray) ∨ verb = (⟨#[103, 101, 116, 115]⟩ : ByteArray) then (getsS verb used words 0, true) else if verb = (⟨#[103, 97, 116]⟩ : ByteArray) ∨ verb = (⟨#[103, 97, 116, 115]⟩ : ByteArray) then (gatsS verb used words, true)
  else if verb = (⟨#[118, 101, 114, 115, 105, 111, 110]⟩ : ByteArray) then (bareS verb words.length used 15, true) else if verb = (⟨#[113, 117, 105, 116]⟩ : ByteArray) then (bareS verb words.length used 16, true) else (zStep, false)
set_option maxRecDepth 100000 in
set_option maxHeartbeats 1000000 in
theorem loud_get (x : TextinLine) (cx : List Value) (F : Nat → Prop) (w : World) (hx : HolF F w (fun w2 => kTextinLine.K w2 x cx)) (hT : Tabs w) (hl : x.words.length ≤ 1000000) (hs : ∀ k ∈ x.words, k.size ≤ 1000000) (hu0 : 0 ≤ x.used) (hu1 : x.used ≤ 1000000) (h8 : B8 x.rest) (hrl : x.rest.length ≤ 1000000) (hq : x.quiet = false) (hv : x.verb = (⟨#[103, 101, 116]⟩ : ByteArray)) :
    Calls Tryz.prog 51 #[.agg cx.toArray] w (LoudR F w (getsS x.verb x.used x.words 0) true) := by
  have HB := Aside0.mk (Below.refl w.heap.size w)
  have HX := Aside0.mk hx
  have HT := Aside0.mk hT
  have hvs : x.verb.size ≤ 1000000 := by rw [hv]; decide
  obtain ⟨A1, c1, A4, c4, rfl, hl1, hg1, hl4, hg4⟩ := kTextinLine_open hx.now
  obtain ⟨R, hR⟩ : ∃ R, getsS x.verb x.used x.words 0 = R := ⟨_, rfl⟩
  have HO : Aside0 (∀ w', Below w.heap.size w w' → Calls Tryz.prog 89 #[.agg #[.string x.verb, .slice A1 x.words.length c1, .bool x.quiet, .int .i64 x.used, .slice A4 x.rest.length c4], .agg #[.int .i64 0, .string ⟨#[]⟩, .slice none 0 0, .int .u32 0, .int .i64 0, .int .u64 0, .int .u64 0, .int .u64 0, .bool false, .bool false], .slice A1 x.words.length c1] w' (StepR (fun k => k < w.heap.size ∧ F k) w' R)) := ⟨fun w' hb => by rw [← hR]; exact gets_calls x _ 0 x.words A1 c1 _ w' (kTextinLine.K_below hb HX.out.now) hl hs hvs (words_hol (HX.out.deep hb)) hl1⟩
  rw [hR]
  rw [hv] at HO ⊢
  clear hx hg1 hg4 hR hv hvs hT hs h8 hq
  go_enter Tryz.func51, Tryz.ntmps51
  go_wp2_with (first | (refine wpList_store_K HK.out.now rfl 61 _ _ rfl (w.heap.size + 1) rfl rfl 61 _ BK.out (by kernel_rfl) rfl ?_; intro w2 hbk hlow hfar; have HK2 := Aside0.mk (hfar _ _ (fun h => absurd (h (by simp <;> omega)).1 (by omega)) HK.out); clear BK; have BK := Aside0.mk hbk; have HL := Aside0.mk hlow; clear hbk hlow hfar) | go_at_call 89; (with_reducible refine (HO.out _ (by repeat (first | (with_reducible first | exact HB.out | apply below_alloc | apply pw_below_drewN | apply below_drew1) | exact HB.out))).mono ?_); rintro e w1 ⟨⟨cs, rfl, hk⟩, hb⟩; have BK := Aside0.mk (blk_below (g := w.heap.size + 1) (by repeat (first | exact blk_at_new _ _ _ (by simp; done) | exact blk_at_new _ _ _ rfl | refine blk_alloc ?_ _ | refine blk_drew ?_ | refine blk_drewN ?_ _)) hb); have HBn := Aside0.mk (below_step (by repeat (first | (with_reducible first | exact HB.out | apply below_alloc | apply pw_below_drewN | apply below_drew1) | exact HB.out)) hb); clear HB; have HB := HBn; clear HBn; have HK := Aside0.mk hk; clear hb hk)
  ((try simp only [Exit.inBlock, Exit.then]); refine bodyPost_ret (results_ct rfl _ _ (w.heap.size + 1) 61 _ (0, 0) _ rfl BK.out Tryz.underlying61 rfl (by rw [List.size_toArray, kStep.K_len HK.out.now]; kernel_rfl)) rfl ?_)
  exact ⟨⟨_, rfl, HK2.out.mono (fun k hk h3 => (hk (by simp; omega)).2)⟩, HB.out.trans (HL.out _ (by omega))⟩
set_option maxRecDepth 100000 in
set_option maxHeartbeats 1000000 in
theorem loud_gets (x : TextinLine) (cx : List Value) (F : Nat → Prop) (w : World) (hx : HolF F w (fun w2 => kTextinLine.K w2 x cx)) (hT : Tabs w) (hl : x.words.length ≤ 1000000) (hs : ∀ k ∈ x.words, k.size ≤ 1000000) (hu0 : 0 ≤ x.used) (hu1 : x.used ≤ 1000000) (h8 : B8 x.rest) (hrl : x.rest.length ≤ 1000000) (hq : x.quiet = false) (hv : x.verb = (⟨#[103, 101, 116, 115]⟩ : ByteArray)) :
    Calls Tryz.prog 51 #[.agg cx.toArray] w (LoudR F w (getsS x.verb x.used x.words 0) true) := by
  have HB := Aside0.mk (Below.refl w.heap.size w)
  have HX := Aside0.mk hx
  have HT := Aside0.mk hT
  have hvs : x.verb.size ≤ 1000000 := by rw [hv]; decide
  obtain ⟨A1, c1, A4, c4, rfl, hl1, hg1, hl4, hg4⟩ := kTextinLine_open hx.now
  obtain ⟨R, hR⟩ : ∃ R, getsS x.verb x.used x.words 0 = R := ⟨_, rfl⟩
  have HO : Aside0 (∀ w', Below w.heap.size w w' → Calls Tryz.prog 89 #[.agg #[.string x.verb, .slice A1 x.words.length c1, .bool x.quiet, .int .i64 x.used, .slice A4 x.rest.length c4], .agg #[.int .i64 0, .string ⟨#[]⟩, .slice none 0 0, .int .u32 0, .int .i64 0, .int .u64 0, .int .u64 0, .int .u64 0, .bool false, .bool false], .slice A1 x.words.length c1] w' (StepR (fun k => k < w.heap.size ∧ F k) w' R)) := ⟨fun w' hb => by rw [← hR]; exact gets_calls x _ 0 x.words A1 c1 _ w' (kTextinLine.K_below hb HX.out.now) hl hs hvs (words_hol (HX.out.deep hb)) hl1⟩
  rw [hR]
  rw [hv] at HO ⊢
  clear hx hg1 hg4 hR hv hvs hT hs h8 hq
  go_enter Tryz.func51, Tryz.ntmps51
  go_wp2_with (first | (refine wpList_store_K HK.out.now rfl 61 _ _ rfl (w.heap.size + 1) rfl rfl 61 _ BK.out (by kernel_rfl) rfl ?_; intro w2 hbk hlow hfar; have HK2 := Aside0.mk (hfar _ _ (fun h => absurd (h (by simp <;> omega)).1 (by omega)) HK.out); clear BK; have BK := Aside0.mk hbk; have HL := Aside0.mk hlow; clear hbk hlow hfar) | go_at_call 89; (with_reducible refine (HO.out _ (by repeat (first | (with_reducible first | exact HB.out | apply below_alloc | apply pw_below_drewN | apply below_drew1) | exact HB.out))).mono ?_); rintro e w1 ⟨⟨cs, rfl, hk⟩, hb⟩; have BK := Aside0.mk (blk_below (g := w.heap.size + 1) (by repeat (first | exact blk_at_new _ _ _ (by simp; done) | exact blk_at_new _ _ _ rfl | refine blk_alloc ?_ _ | refine blk_drew ?_ | refine blk_drewN ?_ _)) hb); have HBn := Aside0.mk (below_step (by repeat (first | (with_reducible first | exact HB.out | apply below_alloc | apply pw_below_drewN | apply below_drew1) | exact HB.out)) hb); clear HB; have HB := HBn; clear HBn; have HK := Aside0.mk hk; clear hb hk)
  ((try simp only [Exit.inBlock, Exit.then]); refine bodyPost_ret (results_ct rfl _ _ (w.heap.size + 1) 61 _ (0, 0) _ rfl BK.out Tryz.underlying61 rfl (by rw [List.size_toArray, kStep.K_len HK.out.now]; kernel_rfl)) rfl ?_)
  exact ⟨⟨_, rfl, HK2.out.mono (fun k hk h3 => (hk (by simp; omega)).2)⟩, HB.out.trans (HL.out _ (by omega))⟩
set_option maxRecDepth 100000 in
set_option maxHeartbeats 1000000 in
theorem loud_gat (x : TextinLine) (cx : List Value) (F : Nat → Prop) (w : World) (hx : HolF F w (fun w2 => kTextinLine.K w2 x cx)) (hT : Tabs w) (hl : x.words.length ≤ 1000000) (hs : ∀ k ∈ x.words, k.size ≤ 1000000) (hu0 : 0 ≤ x.used) (hu1 : x.used ≤ 1000000) (h8 : B8 x.rest) (hrl : x.rest.length ≤ 1000000) (hq : x.quiet = false) (hv : x.verb = (⟨#[103, 97, 116]⟩ : ByteArray)) :
    Calls Tryz.prog 51 #[.agg cx.toArray] w (LoudR F w (gatsS x.verb x.used x.words) true) := by
  have HB := Aside0.mk (Below.refl w.heap.size w)
  have HX := Aside0.mk hx
  have HT := Aside0.mk hT
  have hvs : x.verb.size ≤ 1000000 := by rw [hv]; decide
  obtain ⟨A1, c1, A4, c4, rfl, hl1, hg1, hl4, hg4⟩ := kTextinLine_open hx.now
  obtain ⟨R, hR⟩ : ∃ R, gatsS x.verb x.used x.words = R := ⟨_, rfl⟩
  have HO : Aside0 (∀ w', Below w.heap.size w w' → Calls Tryz.prog 90 #[.agg #[.string x.verb, .slice A1 x.words.length c1, .bool x.quiet, .int .i64 x.used, .slice A4 x.rest.length c4]] w' (StepR (fun k => k < w.heap.size ∧ F k) w' R)) := ⟨fun w' hb => by rw [← hR]; exact gats_calls x _ _ w' (HX.out.deep hb) (Tabs.below HT.out hb) hl hs hvs⟩
  rw [hR]
  rw [hv] at HO ⊢
  clear hx hg1 hg4 hR hv hvs hT hs h8 hq
  go_enter Tryz.func51, Tryz.ntmps51
  go_wp2_with (first | (refine wpList_store_K HK.out.now rfl 61 _ _ rfl (w.heap.size + 1) rfl rfl 61 _ BK.out (by kernel_rfl) rfl ?_; intro w2 hbk hlow hfar; have HK2 := Aside0.mk (hfar _ _ (fun h => absurd (h (by simp <;> omega)).1 (by omega)) HK.out); clear BK; have BK := Aside0.mk hbk; have HL := Aside0.mk hlow; clear hbk hlow hfar) | go_at_call 90; (with_reducible refine (HO.out _ (by repeat (first | (with_reducible first | exact HB.out | apply below_alloc | apply pw_below_drewN | apply below_drew1) | exact HB.out))).mono ?_); rintro e w1 ⟨⟨cs, rfl, hk⟩, hb⟩; have BK := Aside0.mk (blk_below (g := w.heap.size + 1) (by repeat (first | exact blk_at_new _ _ _ (by simp; done) | exact blk_at_new _ _ _ rfl | refine blk_alloc ?_ _ | refine blk_drew ?_ | refine blk_drewN ?_ _)) hb); have HBn := Aside0.mk (below_step (by repeat (first | (with_reducible first | exact HB.out | apply below_alloc | apply pw_below_drewN | apply below_drew1) | exact HB.out)) hb); clear HB; have HB := HBn; clear HBn; have HK := Aside0.mk hk; clear hb hk)
  ((try simp only [Exit.inBlock, Exit.then]); refine bodyPost_ret (results_ct rfl _ _ (w.heap.size + 1) 61 _ (0, 0) _ rfl BK.out Tryz.underlying61 rfl (by rw [List.size_toArray, kStep.K_len HK.out.now]; kernel_rfl)) rfl ?_)
  exact ⟨⟨_, rfl, HK2.out.mono (fun k hk h3 => (hk (by simp; omega)).2)⟩, HB.out.trans (HL.out _ (by omega))⟩
set_option maxRecDepth 100000 in
set_option maxHeartbeats 1000000 in
theorem loud_gats (x : TextinLine) (cx : List Value) (F : Nat → Prop) (w : World) (hx : HolF F w (fun w2 => kTextinLine.K w2 x cx)) (hT : Tabs w) (hl : x.words.length ≤ 1000000) (hs : ∀ k ∈ x.words, k.size ≤ 1000000) (hu0 : 0 ≤ x.used) (hu1 : x.used ≤ 1000000) (h8 : B8 x.rest) (hrl : x.rest.length ≤ 1000000) (hq : x.quiet = false) (hv : x.verb = (⟨#[103, 97, 116, 115]⟩ : ByteArray)) :
    Calls Tryz.prog 51 #[.agg cx.toArray] w (LoudR F w (gatsS x.verb x.used x.words) true) := by
  have HB := Aside0.mk (Below.refl w.heap.size w)
  have HX := Aside0.mk hx
  have HT := Aside0.mk hT
  have hvs : x.verb.size ≤ 1000000 := by rw [hv]; decide
  obtain ⟨A1, c1, A4, c4, rfl, hl1, hg1, hl4, hg4⟩ := kTextinLine_open hx.now
  obtain ⟨R, hR⟩ : ∃ R, gatsS x.verb x.used x.words = R := ⟨_, rfl⟩
  have HO : Aside0 (∀ w', Below w.heap.size w w' → Calls Tryz.prog 90 #[.agg #[.string x.verb, .slice A1 x.words.length c1, .bool x.quiet, .int .i64 x.used, .slice A4 x.rest.length c4]] w' (StepR (fun k => k < w.heap.size ∧ F k) w' R)) := ⟨fun w' hb => by rw [← hR]; exact gats_calls x _ _ w' (HX.out.deep hb) (Tabs.below HT.out hb) hl hs hvs⟩
  rw [hR]
  rw [hv] at HO ⊢
  clear hx hg1 hg4 hR hv hvs hT hs h8 hq
  go_enter Tryz.func51, Tryz.ntmps51
  go_wp2_with (first | (refine wpList_store_K HK.out.now rfl 61 _ _ rfl (w.heap.size + 1) rfl rfl 61 _ BK.out (by kernel_rfl) rfl ?_; intro w2 hbk hlow hfar; have HK2 := Aside0.mk (hfar _ _ (fun h => absurd (h (by simp <;> omega)).1 (by omega)) HK.out); clear BK; have BK := Aside0.mk hbk; have HL := Aside0.mk hlow; clear hbk hlow hfar) | go_at_call 90; (with_reducible refine (HO.out _ (by repeat (first | (with_reducible first | exact HB.out | apply below_alloc | apply pw_below_drewN | apply below_drew1) | exact HB.out))).mono ?_); rintro e w1 ⟨⟨cs, rfl, hk⟩, hb⟩; have BK := Aside0.mk (blk_below (g := w.heap.size + 1) (by repeat (first | exact blk_at_new _ _ _ (by simp; done) | exact blk_at_new _ _ _ rfl | refine blk_alloc ?_ _ | refine blk_drew ?_ | refine blk_drewN ?_ _)) hb); have HBn := Aside0.mk (below_step (by repeat (first | (with_reducible first | exact HB.out | apply below_alloc | apply pw_below_drewN | apply below_drew1) | exact HB.out)) hb); clear HB; have HB := HBn; clear HBn; have HK := Aside0.mk hk; clear hb hk)
  ((try simp only [Exit.inBlock, Exit.then]); refine bodyPost_ret (results_ct rfl _ _ (w.heap.size + 1) 61 _ (0, 0) _ rfl BK.out Tryz.underlying61 rfl (by rw [List.size_toArray, kStep.K_len HK.out.now]; kernel_rfl)) rfl ?_)
  exact ⟨⟨_, rfl, HK2.out.mono (fun k hk h3 => (hk (by simp; omega)).2)⟩, HB.out.trans (HL.out _ (by omega))⟩
set_option maxRecDepth 100000 in
set_option maxHeartbeats 1000000 in
theorem loud_version (x : TextinLine) (cx : List Value) (F : Nat → Prop) (w : World) (hx : HolF F w (fun w2 => kTextinLine.K w2 x cx)) (hT : Tabs w) (hl : x.words.length ≤ 1000000) (hs : ∀ k ∈ x.words, k.size ≤ 1000000) (hu0 : 0 ≤ x.used) (hu1 : x.used ≤ 1000000) (h8 : B8 x.rest) (hrl : x.rest.length ≤ 1000000) (hq : x.quiet = false) (hv : x.verb = (⟨#[118, 101, 114, 115, 105, 111, 110]⟩ : ByteArray)) :
    Calls Tryz.prog 51 #[.agg cx.toArray] w (LoudR F w (bareS x.verb x.words.length x.used 15) true) := by
  have HB := Aside0.mk (Below.refl w.heap.size w)
  have HX := Aside0.mk hx
  have HT := Aside0.mk hT
  have hvs : x.verb.size ≤ 1000000 := by rw [hv]; decide
  obtain ⟨A1, c1, A4, c4, rfl, hl1, hg1, hl4, hg4⟩ := kTextinLine_open hx.now
  obtain ⟨R, hR⟩ : ∃ R, bareS x.verb x.words.length x.used 15 = R := ⟨_, rfl⟩
  have HO : Aside0 (∀ w', Below w.heap.size w w' → Calls Tryz.prog 91 #[.agg #[.string x.verb, .slice A1 x.words.length c1, .bool x.quiet, .int .i64 x.used, .slice A4 x.rest.length c4], .int .i64 15] w' (StepR (fun k => k < w.heap.size ∧ F k) w' R)) := ⟨fun w' hb => by rw [← hR]; exact bare_calls x _ 15 _ w' (kTextinLine.K_below hb HX.out.now) hq⟩
  rw [hR]
  rw [hv] at HO ⊢
  clear hx hg1 hg4 hR hv hvs hT hs h8 hq
  go_enter Tryz.func51, Tryz.ntmps51
  go_wp2_with (first | (refine wpList_store_K HK.out.now rfl 61 _ _ rfl (w.heap.size + 1) rfl rfl 61 _ BK.out (by kernel_rfl) rfl ?_; intro w2 hbk hlow hfar; have HK2 := Aside0.mk (hfar _ _ (fun h => absurd (h (by simp <;> omega)).1 (by omega)) HK.out); clear BK; have BK := Aside0.mk hbk; have HL := Aside0.mk hlow; clear hbk hlow hfar) | go_at_call 91; (with_reducible refine (HO.out _ (by repeat (first | (with_reducible first | exact HB.out | apply below_alloc | apply pw_below_drewN | apply below_drew1) | exact HB.out))).mono ?_); rintro e w1 ⟨⟨cs, rfl, hk⟩, hb⟩; have BK := Aside0.mk (blk_below (g := w.heap.size + 1) (by repeat (first | exact blk_at_new _ _ _ (by simp; done) | exact blk_at_new _ _ _ rfl | refine blk_alloc ?_ _ | refine blk_drew ?_ | refine blk_drewN ?_ _)) hb); have HBn := Aside0.mk (below_step (by repeat (first | (with_reducible first | exact HB.out | apply below_alloc | apply pw_below_drewN | apply below_drew1) | exact HB.out)) hb); clear HB; have HB := HBn; clear HBn; have HK := Aside0.mk hk; clear hb hk)
  ((try simp only [Exit.inBlock, Exit.then]); refine bodyPost_ret (results_ct rfl _ _ (w.heap.size + 1) 61 _ (0, 0) _ rfl BK.out Tryz.underlying61 rfl (by rw [List.size_toArray, kStep.K_len HK.out.now]; kernel_rfl)) rfl ?_)
  exact ⟨⟨_, rfl, HK2.out.mono (fun k hk h3 => (hk (by simp; omega)).2)⟩, HB.out.trans (HL.out _ (by omega))⟩
set_option maxRecDepth 100000 in
set_option maxHeartbeats 1000000 in
theorem loud_quit (x : TextinLine) (cx : List Value) (F : Nat → Prop) (w : World) (hx : HolF F w (fun w2 => kTextinLine.K w2 x cx)) (hT : Tabs w) (hl : x.words.length ≤ 1000000) (hs : ∀ k ∈ x.words, k.size ≤ 1000000) (hu0 : 0 ≤ x.used) (hu1 : x.used ≤ 1000000) (h8 : B8 x.rest) (hrl : x.rest.length ≤ 1000000) (hq : x.quiet = false) (hv : x.verb = (⟨#[113, 117, 105, 116]⟩ : ByteArray)) :
    Calls Tryz.prog 51 #[.agg cx.toArray] w (LoudR F w (bareS x.verb x.words.length x.used 16) true) := by
  have HB := Aside0.mk (Below.refl w.heap.size w)
  have HX := Aside0.mk hx
  have HT := Aside0.mk hT
  have hvs : x.verb.size ≤ 1000000 := by rw [hv]; decide
  obtain ⟨A1, c1, A4, c4, rfl, hl1, hg1, hl4, hg4⟩ := kTextinLine_open hx.now
  obtain ⟨R, hR⟩ : ∃ R, bareS x.verb x.words.length x.used 16 = R := ⟨_, rfl⟩
  have HO : Aside0 (∀ w', Below w.heap.size w w' → Calls Tryz.prog 91 #[.agg #[.string x.verb, .slice A1 x.words.length c1, .bool x.quiet, .int .i64 x.used, .slice A4 x.rest.length c4], .int .i64 16] w' (StepR (fun k => k < w.heap.size ∧ F k) w' R)) := ⟨fun w' hb => by rw [← hR]; exact bare_calls x _ 16 _ w' (kTextinLine.K_below hb HX.out.now) hq⟩
  rw [hR]
  rw [hv] at HO ⊢
  clear hx hg1 hg4 hR hv hvs hT hs h8 hq
  go_enter Tryz.func51, Tryz.ntmps51
  go_wp2_with (first | (refine wpList_store_K HK.out.now rfl 61 _ _ rfl (w.heap.size + 1) rfl rfl 61 _ BK.out (by kernel_rfl) rfl ?_; intro w2 hbk hlow hfar; have HK2 := Aside0.mk (hfar _ _ (fun h => absurd (h (by simp <;> omega)).1 (by omega)) HK.out); clear BK; have BK := Aside0.mk hbk; have HL := Aside0.mk hlow; clear hbk hlow hfar) | go_at_call 91; (with_reducible refine (HO.out _ (by repeat (first | (with_reducible first | exact HB.out | apply below_alloc | apply pw_below_drewN | apply below_drew1) | exact HB.out))).mono ?_); rintro e w1 ⟨⟨cs, rfl, hk⟩, hb⟩; have BK := Aside0.mk (blk_below (g := w.heap.size + 1) (by repeat (first | exact blk_at_new _ _ _ (by simp; done) | exact blk_at_new _ _ _ rfl | refine blk_alloc ?_ _ | refine blk_drew ?_ | refine blk_drewN ?_ _)) hb); have HBn := Aside0.mk (below_step (by repeat (first | (with_reducible first | exact HB.out | apply below_alloc | apply pw_below_drewN | apply below_drew1) | exact HB.out)) hb); clear HB; have HB := HBn; clear HBn; have HK := Aside0.mk hk; clear hb hk)
  ((try simp only [Exit.inBlock, Exit.then]); refine bodyPost_ret (results_ct rfl _ _ (w.heap.size + 1) 61 _ (0, 0) _ rfl BK.out Tryz.underlying61 rfl (by rw [List.size_toArray, kStep.K_len HK.out.now]; kernel_rfl)) rfl ?_)
  exact ⟨⟨_, rfl, HK2.out.mono (fun k hk h3 => (hk (by simp; omega)).2)⟩, HB.out.trans (HL.out _ (by omega))⟩
theorem zStep_K (w : World) : kStep.K w zStep zStepC.toList := kStep_mk w zStep (Nat.le_refl _) (C_nil _ _) (Nat.le_refl _) (C_nil _ _) (Nat.le_refl _) (C_nil _ _)
set_option maxRecDepth 100000 in
set_option maxHeartbeats 1000000 in
theorem loud_no (x : TextinLine) (cx : List Value) (F : Nat → Prop) (w : World) (hx : HolF F w (fun w2 => kTextinLine.K w2 x cx)) (hT : Tabs w) (hl : x.words.length ≤ 1000000) (hs : ∀ k ∈ x.words, k.size ≤ 1000000) (hu0 : 0 ≤ x.used) (hu1 : x.used ≤ 1000000) (h8 : B8 x.rest) (hrl : x.rest.length ≤ 1000000) (hv : x.verb ≠ (⟨#[103, 101, 116]⟩ : ByteArray) ∧ x.verb ≠ (⟨#[103, 101, 116, 115]⟩ : ByteArray) ∧ x.verb ≠ (⟨#[103, 97, 116]⟩ : ByteArray) ∧ x.verb ≠ (⟨#[103, 97, 116, 115]⟩ : ByteArray) ∧ x.verb ≠ (⟨#[118, 101, 114, 115, 105, 111, 110]⟩ : ByteArray) ∧ x.verb ≠ (⟨#[113, 117, 105, 116]⟩ : ByteArray)) :
    Calls Tryz.prog 51 #[.agg cx.toArray] w (LoudR F w zStep false) := by
  have HB := Aside0.mk (Below.refl w.heap.size w)
  obtain ⟨A1, c1, A4, c4, rfl, hl1, hg1, hl4, hg4⟩ := kTextinLine_open hx.now
  obtain ⟨n0, n1, n2, n3, n4, n5⟩ := hv
  have b0 : (x.verb.toList == ([103, 101, 116] : List UInt8)) = false := lit_ne n0
  have b1 : (x.verb.toList == ([103, 101, 116, 115] : List UInt8)) = false := lit_ne n1
  have b2 : (x.verb.toList == ([103, 97, 116] : List UInt8)) = false := lit_ne n2
  have b3 : (x.verb.toList == ([103, 97, 116, 115] : List UInt8)) = false := lit_ne n3
  have b4 : (x.verb.toList == ([118, 101, 114, 115, 105, 111, 110] : List UInt8)) = false := lit_ne n4
  have b5 : (x.verb.toList == ([113, 117, 105, 116] : List UInt8)) = false := lit_ne n5
  clear hx hg1 hg4 n0 n1 n2 n3 n4 n5
  go_enter Tryz.func51, Tryz.ntmps51
  go_wp2
  ((try simp only [Exit.inBlock, Exit.then]); refine bodyPost_ret (results_ct rfl _ _ (w.heap.size + 1) 61 _ (0, 0) _ rfl (by repeat (first | exact blk_at_new _ _ _ (by simp; done) | exact blk_at_new _ _ _ rfl | refine blk_alloc ?_ _ | refine blk_drew ?_ | refine blk_drewN ?_ _)) Tryz.underlying61 rfl (by kernel_rfl)) rfl ?_)
  exact ⟨⟨_, rfl, fun w2 _ _ => zStep_K w2⟩, (by repeat (first | (with_reducible first | exact HB.out | apply below_alloc | apply pw_below_drewN | apply below_drew1) | exact HB.out))⟩
theorem loud_calls (x : TextinLine) (cx : List Value) (F : Nat → Prop) (w : World) (hx : HolF F w (fun w2 => kTextinLine.K w2 x cx)) (hT : Tabs w) (hl : x.words.length ≤ 1000000) (hs : ∀ k ∈ x.words, k.size ≤ 1000000) (hu0 : 0 ≤ x.used) (hu1 : x.used ≤ 1000000) (h8 : B8 x.rest) (hrl : x.rest.length ≤ 1000000) (hq : x.quiet = false) :
    Calls Tryz.prog 51 #[.agg cx.toArray] w (LoudR F w (loudS x.verb x.used x.words).1 (loudS x.verb x.used x.words).2) := by
  unfold loudS
  by_cases h0 : x.verb = (⟨#[103, 101, 116]⟩ : ByteArray)
  · rw [if_pos (.inl h0)]
    exact loud_get x cx F w hx hT hl hs hu0 hu1 h8 hrl hq h0
  by_cases h1 : x.verb = (⟨#[103, 101, 116, 115]⟩ : ByteArray)
  · rw [if_pos (.inr h1)]
    exact loud_gets x cx F w hx hT hl hs hu0 hu1 h8 hrl hq h1
  rw [if_neg (fun h => h.elim h0 h1)]
  by_cases h2 : x.verb = (⟨#[103, 97, 116]⟩ : ByteArray)
  · rw [if_pos (.inl h2)]
    exact loud_gat x cx F w hx hT hl hs hu0 hu1 h8 hrl hq h2
  by_cases h3 : x.verb = (⟨#[103, 97, 116, 115]⟩ : ByteArray)
  · rw [if_pos (.inr h3)]
    exact loud_gats x cx F w hx hT hl hs hu0 hu1 h8 hrl hq h3
  rw [if_neg (fun h => h.elim h2 h3)]
  by_cases h4 : x.verb = (⟨#[118, 101, 114, 115, 105, 111, 110]⟩ : ByteArray)
  · rw [if_pos h4]
    exact loud_version x cx F w hx hT hl hs hu0 hu1 h8 hrl hq h4
  rw [if_neg h4]
  by_cases h5 : x.verb = (⟨#[113, 117, 105, 116]⟩ : ByteArray)
  · rw [if_pos h5]
    exact loud_quit x cx F w hx hT hl hs hu0 hu1 h8 hrl hq h5
  rw [if_neg h5]
  exact loud_no x cx F w hx hT hl hs hu0 hu1 h8 hrl ⟨h0, h1, h2, h3, h4, h5⟩
end Go.Proofs.YtdjbbncoioghfaaGreatDoor.X
namespace Go.Proofs.YtdjbbncoioghfaaGreatDoor.X
open Go.RowKit Go.Proofs.YtdjbbncoioghfaaGreatDoorW.PrintWords Go.Proofs.YtdjbbncoioghfaaGreatDoorW.PrintMore
set_option linter.unusedVariables false
set_option linter.unusedSimpArgs false
set_option maxRecDepth 100000 in
set_option maxHeartbeats 1000000 in
theorem other_set (x : TextinLine) (cx : List Value) (F : Nat → Prop) (w : World) (hx : HolF F w (fun w2 => kTextinLine.K w2 x cx)) (hT : Tabs w) (hl : x.words.length ≤ 1000000) (hs : ∀ k ∈ x.words, k.size ≤ 1000000) (hu0 : 0 ≤ x.used) (hu1 : x.used ≤ 1000000) (h8 : B8 x.rest) (hrl : x.rest.length ≤ 1000000) (hv : x.verb = (⟨#[115, 101, 116]⟩ : ByteArray)) :
    Calls Tryz.prog 53 #[.agg cx.toArray] w (StepR F w (storesS x.verb x.quiet x.used x.words x.rest 3 4)) := by
  have HB := Aside0.mk (Below.refl w.heap.size w)
  have HX := Aside0.mk hx
  have HT := Aside0.mk hT
  have hvs : x.verb.size ≤ 1000000 := by rw [hv]; decide
  obtain ⟨A1, c1, A4, c4, rfl, hl1, hg1, hl4, hg4⟩ := kTextinLine_open hx.now
  obtain ⟨R, hR⟩ : ∃ R, storesS x.verb x.quiet x.used x.words x.rest 3 4 = R := ⟨_, rfl⟩
  have HO : Aside0 (∀ w', Below w.heap.size w w' → Calls Tryz.prog 93 #[.agg #[.string x.verb, .slice A1 x.words.length c1, .bool x.quiet, .int .i64 x.used, .slice A4 x.rest.length c4], .int .i64 3, .int .i64 4] w' (StepR (fun k => k < w.heap.size ∧ F k) w' R)) := ⟨fun w' hb => by rw [← hR]; exact stores_calls x _ _ w' (HX.out.deep hb) (Tabs.below HT.out hb) hl hs hu0 hu1 h8 hrl 3 4 (.inl rfl)⟩
  rw [hR]
  rw [hv] at HO ⊢
  clear hx hg1 hg4 hR hv hvs hT hs h8
  go_enter Tryz.func53, Tryz.ntmps53
  go_wp2_with (first | (refine wpList_store_K HK.out.now rfl 61 _ _ rfl (w.heap.size + 1) rfl rfl 61 _ BK.out (by kernel_rfl) rfl ?_; intro w2 hbk hlow hfar; have HK2 := Aside0.mk (hfar _ _ (fun h => absurd (h (by simp <;> omega)).1 (by omega)) HK.out); clear BK; have BK := Aside0.mk hbk; have HL := Aside0.mk hlow; clear hbk hlow hfar) | go_at_call 93; (with_reducible refine (HO.out _ (by repeat (first | (with_reducible first | exact HB.out | apply below_alloc | apply pw_below_drewN | apply below_drew1) | exact HB.out))).mono ?_); rintro e w1 ⟨⟨cs, rfl, hk⟩, hb⟩; have BK := Aside0.mk (blk_below (g := w.heap.size + 1) (by repeat (first | exact blk_at_new _ _ _ (by simp; done) | exact blk_at_new _ _ _ rfl | refine blk_alloc ?_ _ | refine blk_drew ?_ | refine blk_drewN ?_ _)) hb); have HBn := Aside0.mk (below_step (by repeat (first | (with_reducible first | exact HB.out | apply below_alloc | apply pw_below_drewN | apply below_drew1) | exact HB.out)) hb); clear HB; have HB := HBn; clear HBn; have HK := Aside0.mk hk; clear hb hk)
  ((try simp only [Exit.inBlock, Exit.then]); refine bodyPost_ret (results_cell_row rfl _ _ (w.heap.size + 1) 61 _ (0, 0) _ rfl BK.out Tryz.underlying61 rfl (by rw [List.size_toArray, kStep.K_len HK.out.now]; kernel_rfl)) rfl ?_)
  exact ⟨⟨_, rfl, HK2.out.mono (fun k hk h3 => (hk (by simp; omega)).2)⟩, HB.out.trans (HL.out _ (by omega))⟩
set_option maxRecDepth 100000 in
set_option maxHeartbeats 1000000 in
theorem other_add (x : TextinLine) (cx : List Value) (F : Nat → Prop) (w : World) (hx : HolF F w (fun w2 => kTextinLine.K w2 x cx)) (hT : Tabs w) (hl : x.words.length ≤ 1000000) (hs : ∀ k ∈ x.words, k.size ≤ 1000000) (hu0 : 0 ≤ x.used) (hu1 : x.used ≤ 1000000) (h8 : B8 x.rest) (hrl : x.rest.length ≤ 1000000) (hv : x.verb = (⟨#[97, 100, 100]⟩ : ByteArray)) :
    Calls Tryz.prog 53 #[.agg cx.toArray] w (StepR F w (storesS x.verb x.quiet x.used x.words x.rest 4 4)) := by
  have HB := Aside0.mk (Below.refl w.heap.size w)
  have HX := Aside0.mk hx
  have HT := Aside0.mk hT
  have hvs : x.verb.size ≤ 1000000 := by rw [hv]; decide
  obtain ⟨A1, c1, A4, c4, rfl, hl1, hg1, hl4, hg4⟩ := kTextinLine_open hx.now
  obtain ⟨R, hR⟩ : ∃ R, storesS x.verb x.quiet x.used x.words x.rest 4 4 = R := ⟨_, rfl⟩
  have HO : Aside0 (∀ w', Below w.heap.size w w' → Calls Tryz.prog 93 #[.agg #[.string x.verb, .slice A1 x.words.length c1, .bool x.quiet, .int .i64 x.used, .slice A4 x.rest.length c4], .int .i64 4, .int .i64 4] w' (StepR (fun k => k < w.heap.size ∧ F k) w' R)) := ⟨fun w' hb => by rw [← hR]; exact stores_calls x _ _ w' (HX.out.deep hb) (Tabs.below HT.out hb) hl hs hu0 hu1 h8 hrl 4 4 (.inl rfl)⟩
  rw [hR]
  rw [hv] at HO ⊢
  clear hx hg1 hg4 hR hv hvs hT hs h8
  go_enter Tryz.func53, Tryz.ntmps53
  go_wp2_with (first | (refine wpList_store_K HK.out.now rfl 61 _ _ rfl (w.heap.size + 1) rfl rfl 61 _ BK.out (by kernel_rfl) rfl ?_; intro w2 hbk hlow hfar; have HK2 := Aside0.mk (hfar _ _ (fun h => absurd (h (by simp <;> omega)).1 (by omega)) HK.out); clear BK; have BK := Aside0.mk hbk; have HL := Aside0.mk hlow; clear hbk hlow hfar) | go_at_call 93; (with_reducible refine (HO.out _ (by repeat (first | (with_reducible first | exact HB.out | apply below_alloc | apply pw_below_drewN | apply below_drew1) | exact HB.out))).mono ?_); rintro e w1 ⟨⟨cs, rfl, hk⟩, hb⟩; have BK := Aside0.mk (blk_below (g := w.heap.size + 1) (by repeat (first | exact blk_at_new _ _ _ (by simp; done) | exact blk_at_new _ _ _ rfl | refine blk_alloc ?_ _ | refine blk_drew ?_ | refine blk_drewN ?_ _)) hb); have HBn := Aside0.mk (below_step (by repeat (first | (with_reducible first | exact HB.out | apply below_alloc | apply pw_below_drewN | apply below_drew1) | exact HB.out)) hb); clear HB; have HB := HBn; clear HBn; have HK := Aside0.mk hk; clear hb hk)
  ((try simp only [Exit.inBlock, Exit.then]); refine bodyPost_ret (results_cell_row rfl _ _ (w.heap.size + 1) 61 _ (0, 0) _ rfl BK.out Tryz.underlying61 rfl (by rw [List.size_toArray, kStep.K_len HK.out.now]; kernel_rfl)) rfl ?_)
  exact ⟨⟨_, rfl, HK2.out.mono (fun k hk h3 => (hk (by simp; omega)).2)⟩, HB.out.trans (HL.out _ (by omega))⟩
set_option maxRecDepth 100000 in
set_option maxHeartbeats 1000000 in
theorem other_replace (x : TextinLine) (cx : List Value) (F : Nat → Prop) (w : World) (hx : HolF F w (fun w2 => kTextinLine.K w2 x cx)) (hT : Tabs w) (hl : x.words.length ≤ 1000000) (hs : ∀ k ∈ x.words, k.size ≤ 1000000) (hu0 : 0 ≤ x.used) (hu1 : x.used ≤ 1000000) (h8 : B8 x.rest) (hrl : x.rest.length ≤ 1000000) (hv : x.verb = (⟨#[114, 101, 112, 108, 97, 99, 101]⟩ : ByteArray)) :
    Calls Tryz.prog 53 #[.agg cx.toArray] w (StepR F w (storesS x.verb x.quiet x.used x.words x.rest 5 4)) := by
  have HB := Aside0.mk (Below.refl w.heap.size w)
  have HX := Aside0.mk hx
  have HT := Aside0.mk hT
  have hvs : x.verb.size ≤ 1000000 := by rw [hv]; decide
  obtain ⟨A1, c1, A4, c4, rfl, hl1, hg1, hl4, hg4⟩ := kTextinLine_open hx.now
  obtain ⟨R, hR⟩ : ∃ R, storesS x.verb x.quiet x.used x.words x.rest 5 4 = R := ⟨_, rfl⟩
  have HO : Aside0 (∀ w', Below w.heap.size w w' → Calls Tryz.prog 93 #[.agg #[.string x.verb, .slice A1 x.words.length c1, .bool x.quiet, .int .i64 x.used, .slice A4 x.rest.length c4], .int .i64 5, .int .i64 4] w' (StepR (fun k => k < w.heap.size ∧ F k) w' R)) := ⟨fun w' hb => by rw [← hR]; exact stores_calls x _ _ w' (HX.out.deep hb) (Tabs.below HT.out hb) hl hs hu0 hu1 h8 hrl 5 4 (.inl rfl)⟩
  rw [hR]
  rw [hv] at HO ⊢
  clear hx hg1 hg4 hR hv hvs hT hs h8
  go_enter Tryz.func53, Tryz.ntmps53
  go_wp2_with (first | (refine wpList_store_K HK.out.now rfl 61 _ _ rfl (w.heap.size + 1) rfl rfl 61 _ BK.out (by kernel_rfl) rfl ?_; intro w2 hbk hlow hfar; have HK2 := Aside0.mk (hfar _ _ (fun h => absurd (h (by simp <;> omega)).1 (by omega)) HK.out); clear BK; have BK := Aside0.mk hbk; have HL := Aside0.mk hlow; clear hbk hlow hfar) | go_at_call 93; (with_reducible refine (HO.out _ (by repeat (first | (with_reducible first | exact HB.out | apply below_alloc | apply pw_below_drewN | apply below_drew1) | exact HB.out))).mono ?_); rintro e w1 ⟨⟨cs, rfl, hk⟩, hb⟩; have BK := Aside0.mk (blk_below (g := w.heap.size + 1) (by repeat (first | exact blk_at_new _ _ _ (by simp; done) | exact blk_at_new _ _ _ rfl | refine blk_alloc ?_ _ | refine blk_drew ?_ | refine blk_drewN ?_ _)) hb); have HBn := Aside0.mk (below_step (by repeat (first | (with_reducible first | exact HB.out | apply below_alloc | apply pw_below_drewN | apply below_drew1) | exact HB.out)) hb); clear HB; have HB := HBn; clear HBn; have HK := Aside0.mk hk; clear hb hk)
  ((try simp only [Exit.inBlock, Exit.then]); refine bodyPost_ret (results_cell_row rfl _ _ (w.heap.size + 1) 61 _ (0, 0) _ rfl BK.out Tryz.underlying61 rfl (by rw [List.size_toArray, kStep.K_len HK.out.now]; kernel_rfl)) rfl ?_)
  exact ⟨⟨_, rfl, HK2.out.mono (fun k hk h3 => (hk (by simp; omega)).2)⟩, HB.out.trans (HL.out _ (by omega))⟩
set_option maxRecDepth 100000 in
set_option maxHeartbeats 1000000 in
theorem other_append (x : TextinLine) (cx : List Value) (F : Nat → Prop) (w : World) (hx : HolF F w (fun w2 => kTextinLine.K w2 x cx)) (hT : Tabs w) (hl : x.words.length ≤ 1000000) (hs : ∀ k ∈ x.words, k.size ≤ 1000000) (hu0 : 0 ≤ x.used) (hu1 : x.used ≤ 1000000) (h8 : B8 x.rest) (hrl : x.rest.length ≤ 1000000) (hv : x.verb = (⟨#[97, 112, 112, 101, 110, 100]⟩ : ByteArray)) :
    Calls Tryz.prog 53 #[.agg cx.toArray] w (StepR F w (storesS x.verb x.quiet x.used x.words x.rest 6 4)) := by
  have HB := Aside0.mk (Below.refl w.heap.size w)
  have HX := Aside0.mk hx
  have HT := Aside0.mk hT
  have hvs : x.verb.size ≤ 1000000 := by rw [hv]; decide
  obtain ⟨A1, c1, A4, c4, rfl, hl1, hg1, hl4, hg4⟩ := kTextinLine_open hx.now
  obtain ⟨R, hR⟩ : ∃ R, storesS x.verb x.quiet x.used x.words x.rest 6 4 = R := ⟨_, rfl⟩
  have HO : Aside0 (∀ w', Below w.heap.size w w' → Calls Tryz.prog 93 #[.agg #[.string x.verb, .slice A1 x.words.length c1, .bool x.quiet, .int .i64 x.used, .slice A4 x.rest.length c4], .int .i64 6, .int .i64 4] w' (StepR (fun k => k < w.heap.size ∧ F k) w' R)) := ⟨fun w' hb => by rw [← hR]; exact stores_calls x _ _ w' (HX.out.deep hb) (Tabs.below HT.out hb) hl hs hu0 hu1 h8 hrl 6 4 (.inl rfl)⟩
  rw [hR]
  rw [hv] at HO ⊢
  clear hx hg1 hg4 hR hv hvs hT hs h8
  go_enter Tryz.func53, Tryz.ntmps53
  go_wp2_with (first | (refine wpList_store_K HK.out.now rfl 61 _ _ rfl (w.heap.size + 1) rfl rfl 61 _ BK.out (by kernel_rfl) rfl ?_; intro w2 hbk hlow hfar; have HK2 := Aside0.mk (hfar _ _ (fun h => absurd (h (by simp <;> omega)).1 (by omega)) HK.out); clear BK; have BK := Aside0.mk hbk; have HL := Aside0.mk hlow; clear hbk hlow hfar) | go_at_call 93; (with_reducible refine (HO.out _ (by repeat (first | (with_reducible first | exact HB.out | apply below_alloc | apply pw_below_drewN | apply below_drew1) | exact HB.out))).mono ?_); rintro e w1 ⟨⟨cs, rfl, hk⟩, hb⟩; have BK := Aside0.mk (blk_below (g := w.heap.size + 1) (by repeat (first | exact blk_at_new _ _ _ (by simp; done) | exact blk_at_new _ _ _ rfl | refine blk_alloc ?_ _ | refine blk_drew ?_ | refine blk_drewN ?_ _)) hb); have HBn := Aside0.mk (below_step (by repeat (first | (with_reducible first | exact HB.out | apply below_alloc | apply pw_below_drewN | apply below_drew1) | exact HB.out)) hb); clear HB; have HB := HBn; clear HBn; have HK := Aside0.mk hk; clear hb hk)
  ((try simp only [Exit.inBlock, Exit.then]); refine bodyPost_ret (results_cell_row rfl _ _ (w.heap.size + 1) 61 _ (0, 0) _ rfl BK.out Tryz.underlying61 rfl (by rw [List.size_toArray, kStep.K_len HK.out.now]; kernel_rfl)) rfl ?_)
  exact ⟨⟨_, rfl, HK2.out.mono (fun k hk h3 => (hk (by simp; omega)).2)⟩, HB.out.trans (HL.out _ (by omega))⟩
set_option maxRecDepth 100000 in
set_option maxHeartbeats 1000000 in
theorem other_prepend (x : TextinLine) (cx : List Value) (F : Nat → Prop) (w : World) (hx : HolF F w (fun w2 => kTextinLine.K w2 x cx)) (hT : Tabs w) (hl : x.words.length ≤ 1000000) (hs : ∀ k ∈ x.words, k.size ≤ 1000000) (hu0 : 0 ≤ x.used) (hu1 : x.used ≤ 1000000) (h8 : B8 x.rest) (hrl : x.rest.length ≤ 1000000) (hv : x.verb = (⟨#[112, 114, 101, 112, 101, 110, 100]⟩ : ByteArray)) :
    Calls Tryz.prog 53 #[.agg cx.toArray] w (StepR F w (storesS x.verb x.quiet x.used x.words x.rest 7 4)) := by
  have HB := Aside0.mk (Below.refl w.heap.size w)
  have HX := Aside0.mk hx
  have HT := Aside0.mk hT
  have hvs : x.verb.size ≤ 1000000 := by rw [hv]; decide
  obtain ⟨A1, c1, A4, c4, rfl, hl1, hg1, hl4, hg4⟩ := kTextinLine_open hx.now
  obtain ⟨R, hR⟩ : ∃ R, storesS x.verb x.quiet x.used x.words x.rest 7 4 = R := ⟨_, rfl⟩
  have HO : Aside0 (∀ w', Below w.heap.size w w' → Calls Tryz.prog 93 #[.agg #[.string x.verb, .slice A1 x.words.length c1, .bool x.quiet, .int .i64 x.used, .slice A4 x.rest.length c4], .int .i64 7, .int .i64 4] w' (StepR (fun k => k < w.heap.size ∧ F k) w' R)) := ⟨fun w' hb => by rw [← hR]; exact stores_calls x _ _ w' (HX.out.deep hb) (Tabs.below HT.out hb) hl hs hu0 hu1 h8 hrl 7 4 (.inl rfl)⟩
  rw [hR]
  rw [hv] at HO ⊢
  clear hx hg1 hg4 hR hv hvs hT hs h8
  go_enter Tryz.func53, Tryz.ntmps53
  go_wp2_with (first | (refine wpList_store_K HK.out.now rfl 61 _ _ rfl (w.heap.size + 1) rfl rfl 61 _ BK.out (by kernel_rfl) rfl ?_; intro w2 hbk hlow hfar; have HK2 := Aside0.mk (hfar _ _ (fun h => absurd (h (by simp <;> omega)).1 (by omega)) HK.out); clear BK; have BK := Aside0.mk hbk; have HL := Aside0.mk hlow; clear hbk hlow hfar) | go_at_call 93; (with_reducible refine (HO.out _ (by repeat (first | (with_reducible first | exact HB.out | apply below_alloc | apply pw_below_drewN | apply below_drew1) | exact HB.out))).mono ?_); rintro e w1 ⟨⟨cs, rfl, hk⟩, hb⟩; have BK := Aside0.mk (blk_below (g := w.heap.size + 1) (by repeat (first | exact blk_at_new _ _ _ (by simp; done) | exact blk_at_new _ _ _ rfl | refine blk_alloc ?_ _ | refine blk_drew ?_ | refine blk_drewN ?_ _)) hb); have HBn := Aside0.mk (below_step (by repeat (first | (with_reducible first | exact HB.out | apply below_alloc | apply pw_below_drewN | apply below_drew1) | exact HB.out)) hb); clear HB; have HB := HBn; clear HBn; have HK := Aside0.mk hk; clear hb hk)
  ((try simp only [Exit.inBlock, Exit.then]); refine bodyPost_ret (results_cell_row rfl _ _ (w.heap.size + 1) 61 _ (0, 0) _ rfl BK.out Tryz.underlying61 rfl (by rw [List.size_toArray, kStep.K_len HK.out.now]; kernel_rfl)) rfl ?_)
  exact ⟨⟨_, rfl, HK2.out.mono (fun k hk h3 => (hk (by simp; omega)).2)⟩, HB.out.trans (HL.out _ (by omega))⟩
set_option maxRecDepth 100000 in
set_option maxHeartbeats 1000000 in
theorem other_cas (x : TextinLine) (cx : List Value) (F : Nat → Prop) (w : World) (hx : HolF F w (fun w2 => kTextinLine.K w2 x cx)) (hT : Tabs w) (hl : x.words.length ≤ 1000000) (hs : ∀ k ∈ x.words, k.size ≤ 1000000) (hu0 : 0 ≤ x.used) (hu1 : x.used ≤ 1000000) (h8 : B8 x.rest) (hrl : x.rest.length ≤ 1000000) (hv : x.verb = (⟨#[99, 97, 115]⟩ : ByteArray)) :
    Calls Tryz.prog 53 #[.agg cx.toArray] w (StepR F w (storesS x.verb x.quiet x.used x.words x.rest 3 5)) := by
  have HB := Aside0.mk (Below.refl w.heap.size w)
  have HX := Aside0.mk hx
  have HT := Aside0.mk hT
  have hvs : x.verb.size ≤ 1000000 := by rw [hv]; decide
  obtain ⟨A1, c1, A4, c4, rfl, hl1, hg1, hl4, hg4⟩ := kTextinLine_open hx.now
  obtain ⟨R, hR⟩ : ∃ R, storesS x.verb x.quiet x.used x.words x.rest 3 5 = R := ⟨_, rfl⟩
  have HO : Aside0 (∀ w', Below w.heap.size w w' → Calls Tryz.prog 93 #[.agg #[.string x.verb, .slice A1 x.words.length c1, .bool x.quiet, .int .i64 x.used, .slice A4 x.rest.length c4], .int .i64 3, .int .i64 5] w' (StepR (fun k => k < w.heap.size ∧ F k) w' R)) := ⟨fun w' hb => by rw [← hR]; exact stores_calls x _ _ w' (HX.out.deep hb) (Tabs.below HT.out hb) hl hs hu0 hu1 h8 hrl 3 5 (.inr rfl)⟩
  rw [hR]
  rw [hv] at HO ⊢
  clear hx hg1 hg4 hR hv hvs hT hs h8
  go_enter Tryz.func53, Tryz.ntmps53
  go_wp2_with (first | (refine wpList_store_K HK.out.now rfl 61 _ _ rfl (w.heap.size + 1) rfl rfl 61 _ BK.out (by kernel_rfl) rfl ?_; intro w2 hbk hlow hfar; have HK2 := Aside0.mk (hfar _ _ (fun h => absurd (h (by simp <;> omega)).1 (by omega)) HK.out); clear BK; have BK := Aside0.mk hbk; have HL := Aside0.mk hlow; clear hbk hlow hfar) | go_at_call 93; (with_reducible refine (HO.out _ (by repeat (first | (with_reducible first | exact HB.out | apply below_alloc | apply pw_below_drewN | apply below_drew1) | exact HB.out))).mono ?_); rintro e w1 ⟨⟨cs, rfl, hk⟩, hb⟩; have BK := Aside0.mk (blk_below (g := w.heap.size + 1) (by repeat (first | exact blk_at_new _ _ _ (by simp; done) | exact blk_at_new _ _ _ rfl | refine blk_alloc ?_ _ | refine blk_drew ?_ | refine blk_drewN ?_ _)) hb); have HBn := Aside0.mk (below_step (by repeat (first | (with_reducible first | exact HB.out | apply below_alloc | apply pw_below_drewN | apply below_drew1) | exact HB.out)) hb); clear HB; have HB := HBn; clear HBn; have HK := Aside0.mk hk; clear hb hk)
  ((try simp only [Exit.inBlock, Exit.then]); refine bodyPost_ret (results_cell_row rfl _ _ (w.heap.size + 1) 61 _ (0, 0) _ rfl BK.out Tryz.underlying61 rfl (by rw [List.size_toArray, kStep.K_len HK.out.now]; kernel_rfl)) rfl ?_)
  exact ⟨⟨_, rfl, HK2.out.mono (fun k hk h3 => (hk (by simp; omega)).2)⟩, HB.out.trans (HL.out _ (by omega))⟩
set_option maxRecDepth 100000 in
set_option maxHeartbeats 1000000 in
theorem other_delete (x : TextinLine) (cx : List Value) (F : Nat → Prop) (w : World) (hx : HolF F w (fun w2 => kTextinLine.K w2 x cx)) (hT : Tabs w) (hl : x.words.length ≤ 1000000) (hs : ∀ k ∈ x.words, k.size ≤ 1000000) (hu0 : 0 ≤ x.used) (hu1 : x.used ≤ 1000000) (h8 : B8 x.rest) (hrl : x.rest.length ≤ 1000000) (hv : x.verb = (⟨#[100, 101, 108, 101, 116, 101]⟩ : ByteArray)) :
    Calls Tryz.prog 53 #[.agg cx.toArray] w (StepR F w (delS x.verb x.quiet x.used x.words)) := by
  have HB := Aside0.mk (Below.refl w.heap.size w)
  have HX := Aside0.mk hx
  have HT := Aside0.mk hT
  have hvs : x.verb.size ≤ 1000000 := by rw [hv]; decide
  obtain ⟨A1, c1, A4, c4, rfl, hl1, hg1, hl4, hg4⟩ := kTextinLine_open hx.now
  obtain ⟨R, hR⟩ : ∃ R, delS x.verb x.quiet x.used x.words = R := ⟨_, rfl⟩
  have HO : Aside0 (∀ w', Below w.heap.size w w' → Calls Tryz.prog 94 #[.agg #[.string x.verb, .slice A1 x.words.length c1, .bool x.quiet, .int .i64 x.used, .slice A4 x.rest.length c4], .int .i64 1, .func (.func 95) #[] #[]] w' (StepR (fun k => k < w.heap.size ∧ F k) w' R)) := ⟨fun w' hb => by rw [← hR]; exact keyedDU x _ _ w' (kTextinLine.K_below hb HX.out.now) hs⟩
  rw [hR]
  rw [hv] at HO ⊢
  clear hx hg1 hg4 hR hv hvs hT hs h8
  go_enter Tryz.func53, Tryz.ntmps53
  go_wp2_with (first | (refine wpList_store_K HK.out.now rfl 61 _ _ rfl (w.heap.size + 1) rfl rfl 61 _ BK.out (by kernel_rfl) rfl ?_; intro w2 hbk hlow hfar; have HK2 := Aside0.mk (hfar _ _ (fun h => absurd (h (by simp <;> omega)).1 (by omega)) HK.out); clear BK; have BK := Aside0.mk hbk; have HL := Aside0.mk hlow; clear hbk hlow hfar) | go_at_call 94; (with_reducible refine (HO.out _ (by repeat (first | (with_reducible first | exact HB.out | apply below_alloc | apply pw_below_drewN | apply below_drew1) | exact HB.out))).mono ?_); rintro e w1 ⟨⟨cs, rfl, hk⟩, hb⟩; have BK := Aside0.mk (blk_below (g := w.heap.size + 1) (by repeat (first | exact blk_at_new _ _ _ (by simp; done) | exact blk_at_new _ _ _ rfl | refine blk_alloc ?_ _ | refine blk_drew ?_ | refine blk_drewN ?_ _)) hb); have HBn := Aside0.mk (below_step (by repeat (first | (with_reducible first | exact HB.out | apply below_alloc | apply pw_below_drewN | apply below_drew1) | exact HB.out)) hb); clear HB; have HB := HBn; clear HBn; have HK := Aside0.mk hk; clear hb hk)
  ((try simp only [Exit.inBlock, Exit.then]); refine bodyPost_ret (results_cell_row rfl _ _ (w.heap.size + 1) 61 _ (0, 0) _ rfl BK.out Tryz.underlying61 rfl (by rw [List.size_toArray, kStep.K_len HK.out.now]; kernel_rfl)) rfl ?_)
  exact ⟨⟨_, rfl, HK2.out.mono (fun k hk h3 => (hk (by simp; omega)).2)⟩, HB.out.trans (HL.out _ (by omega))⟩
set_option maxRecDepth 100000 in
set_option maxHeartbeats 1000000 in
theorem other_incr (x : TextinLine) (cx : List Value) (F : Nat → Prop) (w : World) (hx : HolF F w (fun w2 => kTextinLine.K w2 x cx)) (hT : Tabs w) (hl : x.words.length ≤ 1000000) (hs : ∀ k ∈ x.words, k.size ≤ 1000000) (hu0 : 0 ≤ x.used) (hu1 : x.used ≤ 1000000) (h8 : B8 x.rest) (hrl : x.rest.length ≤ 1000000) (hv : x.verb = (⟨#[105, 110, 99, 114]⟩ : ByteArray)) :
    Calls Tryz.prog 53 #[.agg cx.toArray] w (StepR F w (sumS x.verb x.quiet x.used x.words 10)) := by
  have HB := Aside0.mk (Below.refl w.heap.size w)
  have HX := Aside0.mk hx
  have HT := Aside0.mk hT
  have hvs : x.verb.size ≤ 1000000 := by rw [hv]; decide
  obtain ⟨A1, c1, A4, c4, rfl, hl1, hg1, hl4, hg4⟩ := kTextinLine_open hx.now
  obtain ⟨R, hR⟩ : ∃ R, sumS x.verb x.quiet x.used x.words 10 = R := ⟨_, rfl⟩
  have HO : Aside0 (∀ w', Below w.heap.size w w' → Calls Tryz.prog 96 #[.agg #[.string x.verb, .slice A1 x.words.length c1, .bool x.quiet, .int .i64 x.used, .slice A4 x.rest.length c4], .int .i64 10] w' (StepR (fun k => k < w.heap.size ∧ F k) w' R)) := ⟨fun w' hb => by rw [← hR]; exact sum_calls x _ 10 _ w' (kTextinLine.K_below hb HX.out.now) (Tabs.below HT.out hb) hs⟩
  rw [hR]
  rw [hv] at HO ⊢
  clear hx hg1 hg4 hR hv hvs hT hs h8
  go_enter Tryz.func53, Tryz.ntmps53
  go_wp2_with (first | (refine wpList_store_K HK.out.now rfl 61 _ _ rfl (w.heap.size + 1) rfl rfl 61 _ BK.out (by kernel_rfl) rfl ?_; intro w2 hbk hlow hfar; have HK2 := Aside0.mk (hfar _ _ (fun h => absurd (h (by simp <;> omega)).1 (by omega)) HK.out); clear BK; have BK := Aside0.mk hbk; have HL := Aside0.mk hlow; clear hbk hlow hfar) | go_at_call 96; (with_reducible refine (HO.out _ (by repeat (first | (with_reducible first | exact HB.out | apply below_alloc | apply pw_below_drewN | apply below_drew1) | exact HB.out))).mono ?_); rintro e w1 ⟨⟨cs, rfl, hk⟩, hb⟩; have BK := Aside0.mk (blk_below (g := w.heap.size + 1) (by repeat (first | exact blk_at_new _ _ _ (by simp; done) | exact blk_at_new _ _ _ rfl | refine blk_alloc ?_ _ | refine blk_drew ?_ | refine blk_drewN ?_ _)) hb); have HBn := Aside0.mk (below_step (by repeat (first | (with_reducible first | exact HB.out | apply below_alloc | apply pw_below_drewN | apply below_drew1) | exact HB.out)) hb); clear HB; have HB := HBn; clear HBn; have HK := Aside0.mk hk; clear hb hk)
  ((try simp only [Exit.inBlock, Exit.then]); refine bodyPost_ret (results_cell_row rfl _ _ (w.heap.size + 1) 61 _ (0, 0) _ rfl BK.out Tryz.underlying61 rfl (by rw [List.size_toArray, kStep.K_len HK.out.now]; kernel_rfl)) rfl ?_)
  exact ⟨⟨_, rfl, HK2.out.mono (fun k hk h3 => (hk (by simp; omega)).2)⟩, HB.out.trans (HL.out _ (by omega))⟩
set_option maxRecDepth 100000 in
set_option maxHeartbeats 1000000 in
theorem other_decr (x : TextinLine) (cx : List Value) (F : Nat → Prop) (w : World) (hx : HolF F w (fun w2 => kTextinLine.K w2 x cx)) (hT : Tabs w) (hl : x.words.length ≤ 1000000) (hs : ∀ k ∈ x.words, k.size ≤ 1000000) (hu0 : 0 ≤ x.used) (hu1 : x.used ≤ 1000000) (h8 : B8 x.rest) (hrl : x.rest.length ≤ 1000000) (hv : x.verb = (⟨#[100, 101, 99, 114]⟩ : ByteArray)) :
    Calls Tryz.prog 53 #[.agg cx.toArray] w (StepR F w (sumS x.verb x.quiet x.used x.words 11)) := by
  have HB := Aside0.mk (Below.refl w.heap.size w)
  have HX := Aside0.mk hx
  have HT := Aside0.mk hT
  have hvs : x.verb.size ≤ 1000000 := by rw [hv]; decide
  obtain ⟨A1, c1, A4, c4, rfl, hl1, hg1, hl4, hg4⟩ := kTextinLine_open hx.now
  obtain ⟨R, hR⟩ : ∃ R, sumS x.verb x.quiet x.used x.words 11 = R := ⟨_, rfl⟩
  have HO : Aside0 (∀ w', Below w.heap.size w w' → Calls Tryz.prog 96 #[.agg #[.string x.verb, .slice A1 x.words.length c1, .bool x.quiet, .int .i64 x.used, .slice A4 x.rest.length c4], .int .i64 11] w' (StepR (fun k => k < w.heap.size ∧ F k) w' R)) := ⟨fun w' hb => by rw [← hR]; exact sum_calls x _ 11 _ w' (kTextinLine.K_below hb HX.out.now) (Tabs.below HT.out hb) hs⟩
  rw [hR]
  rw [hv] at HO ⊢
  clear hx hg1 hg4 hR hv hvs hT hs h8
  go_enter Tryz.func53, Tryz.ntmps53
  go_wp2_with (first | (refine wpList_store_K HK.out.now rfl 61 _ _ rfl (w.heap.size + 1) rfl rfl 61 _ BK.out (by kernel_rfl) rfl ?_; intro w2 hbk hlow hfar; have HK2 := Aside0.mk (hfar _ _ (fun h => absurd (h (by simp <;> omega)).1 (by omega)) HK.out); clear BK; have BK := Aside0.mk hbk; have HL := Aside0.mk hlow; clear hbk hlow hfar) | go_at_call 96; (with_reducible refine (HO.out _ (by repeat (first | (with_reducible first | exact HB.out | apply below_alloc | apply pw_below_drewN | apply below_drew1) | exact HB.out))).mono ?_); rintro e w1 ⟨⟨cs, rfl, hk⟩, hb⟩; have BK := Aside0.mk (blk_below (g := w.heap.size + 1) (by repeat (first | exact blk_at_new _ _ _ (by simp; done) | exact blk_at_new _ _ _ rfl | refine blk_alloc ?_ _ | refine blk_drew ?_ | refine blk_drewN ?_ _)) hb); have HBn := Aside0.mk (below_step (by repeat (first | (with_reducible first | exact HB.out | apply below_alloc | apply pw_below_drewN | apply below_drew1) | exact HB.out)) hb); clear HB; have HB := HBn; clear HBn; have HK := Aside0.mk hk; clear hb hk)
  ((try simp only [Exit.inBlock, Exit.then]); refine bodyPost_ret (results_cell_row rfl _ _ (w.heap.size + 1) 61 _ (0, 0) _ rfl BK.out Tryz.underlying61 rfl (by rw [List.size_toArray, kStep.K_len HK.out.now]; kernel_rfl)) rfl ?_)
  exact ⟨⟨_, rfl, HK2.out.mono (fun k hk h3 => (hk (by simp; omega)).2)⟩, HB.out.trans (HL.out _ (by omega))⟩
set_option maxRecDepth 100000 in
set_option maxHeartbeats 1000000 in
theorem other_touch (x : TextinLine) (cx : List Value) (F : Nat → Prop) (w : World) (hx : HolF F w (fun w2 => kTextinLine.K w2 x cx)) (hT : Tabs w) (hl : x.words.length ≤ 1000000) (hs : ∀ k ∈ x.words, k.size ≤ 1000000) (hu0 : 0 ≤ x.used) (hu1 : x.used ≤ 1000000) (h8 : B8 x.rest) (hrl : x.rest.length ≤ 1000000) (hv : x.verb = (⟨#[116, 111, 117, 99, 104]⟩ : ByteArray)) :
    Calls Tryz.prog 53 #[.agg cx.toArray] w (StepR F w (touchS x.verb x.quiet x.used x.words)) := by
  have HB := Aside0.mk (Below.refl w.heap.size w)
  have HX := Aside0.mk hx
  have HT := Aside0.mk hT
  have hvs : x.verb.size ≤ 1000000 := by rw [hv]; decide
  obtain ⟨A1, c1, A4, c4, rfl, hl1, hg1, hl4, hg4⟩ := kTextinLine_open hx.now
  obtain ⟨R, hR⟩ : ∃ R, touchS x.verb x.quiet x.used x.words = R := ⟨_, rfl⟩
  have HO : Aside0 (∀ w', Below w.heap.size w w' → Calls Tryz.prog 94 #[.agg #[.string x.verb, .slice A1 x.words.length c1, .bool x.quiet, .int .i64 x.used, .slice A4 x.rest.length c4], .int .i64 2, .func (.func 97) #[.agg #[.string x.verb, .slice A1 x.words.length c1, .bool x.quiet, .int .i64 x.used, .slice A4 x.rest.length c4]] #[]] w' (StepR (fun k => k < w.heap.size ∧ F k) w' R)) := ⟨fun w' hb => by rw [← hR]; exact keyedTU x _ _ w' (kTextinLine.K_below hb HX.out.now) (Tabs.below HT.out hb) hs⟩
  rw [hR]
  rw [hv] at HO ⊢
  clear hx hg1 hg4 hR hv hvs hT hs h8
  go_enter Tryz.func53, Tryz.ntmps53
  go_wp2_with (first | (refine wpList_store_K HK.out.now rfl 61 _ _ rfl (w.heap.size + 1) rfl rfl 61 _ BK.out (by kernel_rfl) rfl ?_; intro w2 hbk hlow hfar; have HK2 := Aside0.mk (hfar _ _ (fun h => absurd (h (by simp <;> omega)).1 (by omega)) HK.out); clear BK; have BK := Aside0.mk hbk; have HL := Aside0.mk hlow; clear hbk hlow hfar) | go_at_call 94; (with_reducible refine (HO.out _ (by repeat (first | (with_reducible first | exact HB.out | apply below_alloc | apply pw_below_drewN | apply below_drew1) | exact HB.out))).mono ?_); rintro e w1 ⟨⟨cs, rfl, hk⟩, hb⟩; have BK := Aside0.mk (blk_below (g := w.heap.size + 1) (by repeat (first | exact blk_at_new _ _ _ (by simp; done) | exact blk_at_new _ _ _ rfl | refine blk_alloc ?_ _ | refine blk_drew ?_ | refine blk_drewN ?_ _)) hb); have HBn := Aside0.mk (below_step (by repeat (first | (with_reducible first | exact HB.out | apply below_alloc | apply pw_below_drewN | apply below_drew1) | exact HB.out)) hb); clear HB; have HB := HBn; clear HBn; have HK := Aside0.mk hk; clear hb hk)
  ((try simp only [Exit.inBlock, Exit.then]); refine bodyPost_ret (results_cell_row rfl _ _ (w.heap.size + 1) 61 _ (0, 0) _ rfl BK.out Tryz.underlying61 rfl (by rw [List.size_toArray, kStep.K_len HK.out.now]; kernel_rfl)) rfl ?_)
  exact ⟨⟨_, rfl, HK2.out.mono (fun k hk h3 => (hk (by simp; omega)).2)⟩, HB.out.trans (HL.out _ (by omega))⟩
set_option maxRecDepth 100000 in
set_option maxHeartbeats 1000000 in
theorem other_flush (x : TextinLine) (cx : List Value) (F : Nat → Prop) (w : World) (hx : HolF F w (fun w2 => kTextinLine.K w2 x cx)) (hT : Tabs w) (hl : x.words.length ≤ 1000000) (hs : ∀ k ∈ x.words, k.size ≤ 1000000) (hu0 : 0 ≤ x.used) (hu1 : x.used ≤ 1000000) (h8 : B8 x.rest) (hrl : x.rest.length ≤ 1000000) (hv : x.verb = (⟨#[102, 108, 117, 115, 104, 95, 97, 108, 108]⟩ : ByteArray)) :
    Calls Tryz.prog 53 #[.agg cx.toArray] w (StepR F w (flushS x.verb x.quiet x.words x.used)) := by
  have HB := Aside0.mk (Below.refl w.heap.size w)
  have HX := Aside0.mk hx
  have HT := Aside0.mk hT
  have hvs : x.verb.size ≤ 1000000 := by rw [hv]; decide
  obtain ⟨A1, c1, A4, c4, rfl, hl1, hg1, hl4, hg4⟩ := kTextinLine_open hx.now
  obtain ⟨R, hR⟩ : ∃ R, flushS x.verb x.quiet x.words x.used = R := ⟨_, rfl⟩
  have HO : Aside0 (∀ w', Below w.heap.size w w' → Calls Tryz.prog 98 #[.agg #[.string x.verb, .slice A1 x.words.length c1, .bool x.quiet, .int .i64 x.used, .slice A4 x.rest.length c4]] w' (StepR (fun k => k < w.heap.size ∧ F k) w' R)) := ⟨fun w' hb => by rw [← hR]; exact flush_calls x _ _ w' (kTextinLine.K_below hb HX.out.now) (Tabs.below HT.out hb)⟩
  rw [hR]
  rw [hv] at HO ⊢
  clear hx hg1 hg4 hR hv hvs hT hs h8
  go_enter Tryz.func53, Tryz.ntmps53
  go_wp2_with (first | (refine wpList_store_K HK.out.now rfl 61 _ _ rfl (w.heap.size + 1) rfl rfl 61 _ BK.out (by kernel_rfl) rfl ?_; intro w2 hbk hlow hfar; have HK2 := Aside0.mk (hfar _ _ (fun h => absurd (h (by simp <;> omega)).1 (by omega)) HK.out); clear BK; have BK := Aside0.mk hbk; have HL := Aside0.mk hlow; clear hbk hlow hfar) | go_at_call 98; (with_reducible refine (HO.out _ (by repeat (first | (with_reducible first | exact HB.out | apply below_alloc | apply pw_below_drewN | apply below_drew1) | exact HB.out))).mono ?_); rintro e w1 ⟨⟨cs, rfl, hk⟩, hb⟩; have BK := Aside0.mk (blk_below (g := w.heap.size + 1) (by repeat (first | exact blk_at_new _ _ _ (by simp; done) | exact blk_at_new _ _ _ rfl | refine blk_alloc ?_ _ | refine blk_drew ?_ | refine blk_drewN ?_ _)) hb); have HBn := Aside0.mk (below_step (by repeat (first | (with_reducible first | exact HB.out | apply below_alloc | apply pw_below_drewN | apply below_drew1) | exact HB.out)) hb); clear HB; have HB := HBn; clear HBn; have HK := Aside0.mk hk; clear hb hk)
  ((try simp only [Exit.inBlock, Exit.then]); refine bodyPost_ret (results_cell_row rfl _ _ (w.heap.size + 1) 61 _ (0, 0) _ rfl BK.out Tryz.underlying61 rfl (by rw [List.size_toArray, kStep.K_len HK.out.now]; kernel_rfl)) rfl ?_)
  exact ⟨⟨_, rfl, HK2.out.mono (fun k hk h3 => (hk (by simp; omega)).2)⟩, HB.out.trans (HL.out _ (by omega))⟩
set_option maxRecDepth 100000 in
set_option maxHeartbeats 1000000 in
theorem other_no (x : TextinLine) (cx : List Value) (F : Nat → Prop) (w : World) (hx : HolF F w (fun w2 => kTextinLine.K w2 x cx)) (hT : Tabs w) (hl : x.words.length ≤ 1000000) (hs : ∀ k ∈ x.words, k.size ≤ 1000000) (hu0 : 0 ≤ x.used) (hu1 : x.used ≤ 1000000) (h8 : B8 x.rest) (hrl : x.rest.length ≤ 1000000) (hv : x.verb ≠ (⟨#[115, 101, 116]⟩ : ByteArray) ∧ x.verb ≠ (⟨#[97, 100, 100]⟩ : ByteArray) ∧ x.verb ≠ (⟨#[114, 101, 112, 108, 97, 99, 101]⟩ : ByteArray) ∧ x.verb ≠ (⟨#[97, 112, 112, 101, 110, 100]⟩ : ByteArray) ∧ x.verb ≠ (⟨#[112, 114, 101, 112, 101, 110, 100]⟩ : ByteArray) ∧ x.verb ≠ (⟨#[99, 97, 115]⟩ : ByteArray) ∧ x.verb ≠ (⟨#[100, 101, 108, 101, 116, 101]⟩ : ByteArray) ∧ x.verb ≠ (⟨#[105, 110, 99, 114]⟩ : ByteArray) ∧ x.verb ≠ (⟨#[100, 101, 99, 114]⟩ : ByteArray) ∧ x.verb ≠ (⟨#[116, 111, 117, 99, 104]⟩ : ByteArray) ∧ x.verb ≠ (⟨#[102, 108, 117, 115, 104, 95, 97, 108, 108]⟩ : ByteArray)) :
    Calls Tryz.prog 53 #[.agg cx.toArray] w (StepR F w (stepF x.used (⟨#[69, 82, 82, 79, 82]⟩ : ByteArray))) := by
  have HB := Aside0.mk (Below.refl w.heap.size w)
  have HX := Aside0.mk hx.now
  obtain ⟨A1, c1, A4, c4, rfl, hl1, hg1, hl4, hg4⟩ := kTextinLine_open hx.now
  have HO : Aside0 (∀ w', Below w.heap.size w w' → Calls Tryz.prog 50 #[.agg #[.string x.verb, .slice A1 x.words.length c1, .bool x.quiet, .int .i64 x.used, .slice A4 x.rest.length c4], .string (⟨#[69, 82, 82, 79, 82]⟩ : ByteArray)] w' (StepR (fun k => k < w.heap.size ∧ F k) w' (stepF x.used (⟨#[69, 82, 82, 79, 82]⟩ : ByteArray)))) := ⟨fun w' hb => fault_calls x _ _ _ w' (kTextinLine.K_below hb HX.out) (by decide)⟩
  obtain ⟨n0, n1, n2, n3, n4, n5, n6, n7, n8, n9, n10⟩ := hv
  have b0 : (x.verb.toList == ([115, 101, 116] : List UInt8)) = false := lit_ne n0
  have b1 : (x.verb.toList == ([97, 100, 100] : List UInt8)) = false := lit_ne n1
  have b2 : (x.verb.toList == ([114, 101, 112, 108, 97, 99, 101] : List UInt8)) = false := lit_ne n2
  have b3 : (x.verb.toList == ([97, 112, 112, 101, 110, 100] : List UInt8)) = false := lit_ne n3
  have b4 : (x.verb.toList == ([112, 114, 101, 112, 101, 110, 100] : List UInt8)) = false := lit_ne n4
  have b5 : (x.verb.toList == ([99, 97, 115] : List UInt8)) = false := lit_ne n5
  have b6 : (x.verb.toList == ([100, 101, 108, 101, 116, 101] : List UInt8)) = false := lit_ne n6
  have b7 : (x.verb.toList == ([105, 110, 99, 114] : List UInt8)) = false := lit_ne n7
  have b8 : (x.verb.toList == ([100, 101, 99, 114] : List UInt8)) = false := lit_ne n8
  have b9 : (x.verb.toList == ([116, 111, 117, 99, 104] : List UInt8)) = false := lit_ne n9
  have b10 : (x.verb.toList == ([102, 108, 117, 115, 104, 95, 97, 108, 108] : List UInt8)) = false := lit_ne n10
  clear hx hg1 hg4 n0 n1 n2 n3 n4 n5 n6 n7 n8 n9 n10
  go_enter Tryz.func53, Tryz.ntmps53
  go_wp2_with (first | (refine wpList_store_K HK.out.now rfl 61 _ _ rfl (w.heap.size + 1) rfl rfl 61 _ BK.out (by kernel_rfl) rfl ?_; intro w2 hbk hlow hfar; have HK2 := Aside0.mk (hfar _ _ (fun h => absurd (h (by simp <;> omega)).1 (by omega)) HK.out); clear BK; have BK := Aside0.mk hbk; have HL := Aside0.mk hlow; clear hbk hlow hfar) | go_at_call 50; (with_reducible refine (HO.out _ (by repeat (first | (with_reducible first | exact HB.out | apply below_alloc | apply pw_below_drewN | apply below_drew1) | exact HB.out))).mono ?_); rintro e w1 ⟨⟨cs, rfl, hk⟩, hb⟩; have BK := Aside0.mk (blk_below (g := w.heap.size + 1) (by repeat (first | exact blk_at_new _ _ _ (by simp; done) | exact blk_at_new _ _ _ rfl | refine blk_alloc ?_ _ | refine blk_drew ?_ | refine blk_drewN ?_ _)) hb); have HBn := Aside0.mk (below_step (by repeat (first | (with_reducible first | exact HB.out | apply below_alloc | apply pw_below_drewN | apply below_drew1) | exact HB.out)) hb); clear HB; have HB := HBn; clear HBn; have HK := Aside0.mk hk; clear hb hk)
  ((try simp only [Exit.inBlock, Exit.then]); refine bodyPost_ret (results_cell_row rfl _ _ (w.heap.size + 1) 61 _ (0, 0) _ rfl BK.out Tryz.underlying61 rfl (by rw [List.size_toArray, kStep.K_len HK.out.now]; kernel_rfl)) rfl ?_)
  exact ⟨⟨_, rfl, HK2.out.mono (fun k hk h3 => (hk (by simp; omega)).2)⟩, HB.out.trans (HL.out _ (by omega))⟩
def otherS (verb : ByteArray) (quiet : Bool) (used : Int) (words : List ByteArray) (rest : List Int) : Step :=
  if verb = (⟨#[115, 101, 116]⟩ : ByteArray) then storesS verb quiet used words rest 3 4 else if verb = (⟨#[97, 100, 100]⟩ : ByteArray) then storesS verb quiet used words rest 4 4 else if verb = (⟨#[114, 101, 112, 108, 97, 99, 101]⟩ : ByteArray) then storesS verb quiet used words rest 5 4 else if verb = (⟨#[97, 112, 112, 101, 110, 100]⟩ : ByteArray) then storesS verb quiet used words rest 6 4 else if verb = (⟨#[112, 114, 101, 112, 101, 110, 100]⟩ : ByteArray) then storesS verb quiet used words rest 7 4 else if verb = (⟨#[99, 97, 115]⟩ : ByteArray) then storesS verb quiet used words rest 3 5 else if verb = (⟨#[100, 101, 108, 101, 116, 101]⟩ : ByteArray) then delS verb quiet used words else if verb = (⟨#[105, 110, 99, 114]⟩ : ByteArray) then sumS verb quiet used words 10 else if verb = (⟨#[100, 101, 99, 114]⟩ : ByteArray) then sumS verb quiet used words 11 else if verb = (⟨#[116, 111, 117, 99, 104]⟩ : ByteArray) then touchS verb quiet used words else if verb = (⟨#[102, 108, 117, 115, 104, 95, 97, 108, 108]⟩ : ByteArray) then flushS verb quiet words used else stepF used (⟨#[69, 82, 82, 79, 82]⟩ : ByteArray)
theorem other_calls (x : TextinLine) (cx : List Value) (F : Nat → Prop) (w : World) (hx : HolF F w (fun w2 => kTextinLine.K w2 x cx)) (hT : Tabs w) (hl : x.words.length ≤ 1000000) (hs : ∀ k ∈ x.words, k.size ≤ 1000000) (hu0 : 0 ≤ x.used) (hu1 : x.used ≤ 1000000) (h8 : B8 x.rest) (hrl : x.rest.length ≤ 1000000) :
    Calls Tryz.prog 53 #[.agg cx.toArray] w (StepR F w (otherS x.verb x.quiet x.used x.words x.rest)) := by
  unfold otherS
  by_cases q0 : x.verb = (⟨#[115, 101, 116]⟩ : ByteArray)
  · rw [if_pos q0]
    exact other_set x cx F w hx hT hl hs hu0 hu1 h8 hrl q0
  rw [if_neg q0]
  by_cases q1 : x.verb = (⟨#[97, 100, 100]⟩ : ByteArray)
  · rw [if_pos q1]
    exact other_add x cx F w hx hT hl hs hu0 hu1 h8 hrl q1
  rw [if_neg q1]
  by_cases q2 : x.verb = (⟨#[114, 101, 112, 108, 97, 99, 101]⟩ : ByteArray)
  · rw [if_pos q2]
    exact other_replace x cx F w hx hT hl hs hu0 hu1 h8 hrl q2
  rw [if_neg q2]
  by_cases q3 : x.verb = (⟨#[97, 112, 112, 101, 110, 100]⟩ : ByteArray)
  · rw [if_pos q3]
    exact other_append x cx F w hx hT hl hs hu0 hu1 h8 hrl q3
  rw [if_neg q3]
  by_cases q4 : x.verb = (⟨#[112, 114, 101, 112, 101, 110, 100]⟩ : ByteArray)
  · rw [if_pos q4]
    exact other_prepend x cx F w hx hT hl hs hu0 hu1 h8 hrl q4
  rw [if_neg q4]
  by_cases q5 : x.verb = (⟨#[99, 97, 115]⟩ : ByteArray)
  · rw [if_pos q5]
    exact other_cas x cx F w hx hT hl hs hu0 hu1 h8 hrl q5
  rw [if_neg q5]
  by_cases q6 : x.verb = (⟨#[100, 101, 108, 101, 116, 101]⟩ : ByteArray)
  · rw [if_pos q6]
    exact other_delete x cx F w hx hT hl hs hu0 hu1 h8 hrl q6
  rw [if_neg q6]
  by_cases q7 : x.verb = (⟨#[105, 110, 99, 114]⟩ : ByteArray)
  · rw [if_pos q7]
    exact other_incr x cx F w hx hT hl hs hu0 hu1 h8 hrl q7
  rw [if_neg q7]
  by_cases q8 : x.verb = (⟨#[100, 101, 99, 114]⟩ : ByteArray)
  · rw [if_pos q8]
    exact other_decr x cx F w hx hT hl hs hu0 hu1 h8 hrl q8
  rw [if_neg q8]
  by_cases q9 : x.verb = (⟨#[116, 111, 117, 99, 104]⟩ : ByteArray)
  · rw [if_pos q9]
    exact other_touch x cx F w hx hT hl hs hu0 hu1 h8 hrl q9
  rw [if_neg q9]
  by_cases q10 : x.verb = (⟨#[102, 108, 117, 115, 104, 95, 97, 108, 108]⟩ : ByteArray)
  · rw [if_pos q10]
    exact other_flush x cx F w hx hT hl hs hu0 hu1 h8 hrl q10
  rw [if_neg q10]
  exact other_no x cx F w hx hT hl hs hu0 hu1 h8 hrl ⟨q0, q1, q2, q3, q4, q5, q6, q7, q8, q9, q10⟩
end Go.Proofs.YtdjbbncoioghfaaGreatDoor.X
namespace Go.Proofs.YtdjbbncoioghfaaGreatDoor.X
set_option linter.unusedVariables false
section
variable {P : Program} {md : Region.Mode} {ops : Array Oper} {Q : Exit → Act → World → Prop} {S : World → Prop}
def wpAnyL (P : Program) (md : Region.Mode) (ops : Array Oper) (Q : Exit → Act → World → Prop) (S : World → Prop) (N : Nat) : Nat → Array Bool → Act → World → Prop
  | 0, listed, a, w => Region.ready md ops listed = [] ∧ Q .normal a w
  | fuel + 1, listed, a, w =>
    (Region.ready md ops listed = [] → Q .normal a w) ∧
    ∀ i ∈ Region.ready md ops listed, wpOp P ops Q i (fun a' w' => (i ≠ N → S w') ∧ wpAnyL P md ops Q S N fuel (listed.setIfInBounds i true) a' w') a w
theorem wpAny_of_L {N : Nat} : ∀ (fuel : Nat) (listed : Array Bool) (a : Act) (w : World), wpAnyL P md ops Q S N fuel listed a w → wpAny P md ops Q fuel listed a w
  | 0, _, _, _, h => h
  | fuel + 1, _, _, _, h => ⟨h.1, fun i hi => wpOp_mono (fun a' w' h' => wpAny_of_L fuel _ a' w' h'.2) (h.2 i hi)⟩
theorem wpAnyL_first {N i : Nat} {oi : Oper} {v : Value} (hi : ops[i]? = some oi) (hsel : ∀ (j : Nat) (o : Oper) cs b, ops[j]? = some o → o.op ≠ .select cs b)
    (hQ : ∀ c a w, Q (.panic c) (a.put oi.dst v) w → Q (.panic c) a w) (hN : ∀ oN, ops[N]? = some oN → ∃ e ∈ oN.after, Region.binds md e = true ∧ e.on = i) :
    ∀ (fuel : Nat) (listed : Array Bool) (a : Act) (w : World),
      (∀ j oj, ops[j]? = some oj → j ≠ i → listed.getD j true = false → (∀ e ∈ oj.after, Region.binds md e = true → e.on ≠ i) → oi.apart ops oj = true) →
      i ∈ Region.ready md ops listed → YieldsIf P ops S oi v a → S w →
      wpAnyL P md ops Q S N fuel (listed.setIfInBounds i true) (a.put oi.dst v) w → wpAnyL P md ops Q S N (fuel + 1) listed a w := by
  intro fuel
  induction fuel with
  | zero =>
    intro listed a w _ hr hy hS H
    refine ⟨fun h => (by rw [h] at hr; cases hr), fun j hj => ?_⟩
    by_cases hji : j = i
    · subst hji; exact hy.wpOp hi hS ⟨fun _ => hS, H⟩
    · have := ready_mono hj hji
      rw [H.1] at this
      cases this
  | succ fuel ih =>
    intro listed a w hfree hr hy hS H
    refine ⟨fun h => (by rw [h] at hr; cases hr), fun j hj => ?_⟩
    by_cases hji : j = i
    · subst hji; exact hy.wpOp hi hS ⟨fun _ => hS, H⟩
    · have h1 := H.2 j (ready_mono hj hji)
      obtain ⟨hjun, oj, hoj, hall⟩ := mem_ready.1 hj
      have hnot : ∀ e ∈ oj.after, Region.binds md e = true → e.on ≠ i := fun e he hb heq => by
        have h1 := hall e he hb
        have h0 := (mem_ready.1 hr).1
        rw [heq] at h1
        rcases Nat.lt_or_ge i listed.size with h' | h'
        · simp [h'] at h0 h1; rw [h0] at h1; cases h1
        · simp [Array.getElem?_eq_none h'] at h1
      have h2 := wpOp_putIf hoj (hfree j oj hoj hji hjun hnot) (fun cs b => hsel i oi cs b hi) (fun cs b => hsel j oj cs b hoj) hQ hy h1
      have hfree' : ∀ k ok, ops[k]? = some ok → k ≠ i → (listed.setIfInBounds j true).getD k true = false →
          (∀ e ∈ ok.after, Region.binds md e = true → e.on ≠ i) → oi.apart ops ok = true := fun k ok hk hki hun hno => by
        refine hfree k ok hk hki ?_ hno
        by_cases hjk : j = k
        · subst hjk; exact hjun
        · rw [getD_set_ne true hjk] at hun; exact hun
      have hjN : j ≠ N := fun e => by
        obtain ⟨x, hx, hb, hon⟩ := hN oj (e ▸ hoj)
        exact hnot x hx hb hon
      refine wpOp_mono (fun a' w' h3 => ⟨h3.2.1, ih (listed.setIfInBounds j true) a' w' hfree' (ready_mono hr (Ne.symm hji)) h3.1 (h3.2.1 hjN) ?_⟩) h2
      rw [Array.setIfInBounds_comm _ _ hji]
      exact h3.2.2
def depB (md : Region.Mode) (ops : Array Oper) (N i : Nat) : Bool := match ops[N]? with | none => true | some o => o.after.any (fun e => Region.binds md e && e.on == i)
theorem depB_spec {N i : Nat} (h : depB md ops N i = true) : ∀ oN, ops[N]? = some oN → ∃ e ∈ oN.after, Region.binds md e = true ∧ e.on = i := by
  intro oN hoN
  unfold depB at h
  rw [hoN] at h
  obtain ⟨k, hk, hx⟩ := Array.any_eq_true.1 h
  rw [Bool.and_eq_true, beq_iff_eq] at hx
  exact ⟨_, Array.getElem_mem hk, hx.1, hx.2⟩
theorem wpAnyL_take {N i : Nat} {oi : Oper} {v : Value} {fuel : Nat} {listed : Array Bool} {a : Act} {w : World} (hi : ops[i]? = some oi)
    (hs : Region.noSelect ops = true) (hf : Region.free md ops listed i = true) (hr : (Region.ready md ops listed).contains i = true) (hd : depB md ops N i = true)
    (hQ : ∀ c a w, Q (.panic c) (a.put oi.dst v) w → Q (.panic c) a w) (hy : YieldsIf P ops S oi v a) (hS : S w)
    (h : wpAnyL P md ops Q S N fuel (listed.setIfInBounds i true) (a.put oi.dst v) w) : wpAnyL P md ops Q S N (fuel + 1) listed a w :=
  wpAnyL_first hi (Region.noSelect_spec hs) hQ (depB_spec hd) fuel listed a w (Region.free_spec hi hf) (by simpa using hr) hy hS h
/-- The one operation that may come up now. -/
theorem wpAnyL_one {N i : Nat} {o : Oper} {fuel : Nat} {listed : Array Bool} {a : Act} {w : World} (hr : Region.ready md ops listed = [i]) (ho : ops[i]? = some o)
    (h : ∀ K' : Act → World → Prop, Shut (∀ a w, (i ≠ N → S w) → ((i ≠ N → S w) → wpAnyL P md ops Q S N fuel (listed.setIfInBounds i true) a w) → K' a w) → if Region.wanted o (yielded ops a.tmps) = true then Oper.wp P o a w K' Q else K' (a.put o.dst undef) w) :
    wpAnyL P md ops Q S N (fuel + 1) listed a w := by
  refine ⟨fun h0 => (by rw [h0] at hr; cases hr), fun j hj => ?_⟩
  rw [hr, List.mem_singleton] at hj
  subst hj
  exact wpOp_step ho (fun K' hK => h K' (fun a w hS hW => hK a w ⟨hS, hW hS⟩))
theorem wpAnyL_done {N : Nat} {listed : Array Bool} {a : Act} {w : World} (hr : Region.ready md ops listed = []) (h : Q .normal a w) : ∀ fuel, wpAnyL P md ops Q S N fuel listed a w
  | 0 => ⟨hr, h⟩
  | _ + 1 => ⟨fun _ => h, by rw [hr]; simp⟩
theorem wp_region_L {id : Nat} {a : Act} {w : World} (N : Nat) (hm : P.follows .mixedOrders = true) (hS : S w.drew)
    (h : S w.drew → wpAnyL P .any ops Q S N ops.size (Array.replicate ops.size false) a w.drew) : (Code.region id ops true).wp P Q a w :=
  wp_region_any hm (wpAny_of_L _ _ _ _ (h hS))
end
end Go.Proofs.YtdjbbncoioghfaaGreatDoor.X
namespace Go.Proofs.YtdjbbncoioghfaaGreatDoor.X
open Go.RowKit Go.Proofs.YtdjbbncoioghfaaGreatDoorW.PrintWords Go.Proofs.YtdjbbncoioghfaaGreatDoorW.PrintMore
set_option linter.unusedVariables false
set_option linter.unusedSimpArgs false
set_option maxRecDepth 100000 in
set_option maxHeartbeats 1000000 in
theorem fault_raw (verb : ByteArray) (A1 A4 : Option Addr) (n1 c1 n4 c4 : Nat) (quiet : Bool) (used : Int) (reply : ByteArray) (w : World) (hr : reply.size ≤ 1000) :
    Calls Tryz.prog 50 #[.agg #[.string verb, .slice A1 n1 c1, .bool quiet, .int .i64 used, .slice A4 n4 c4], .string reply] w fun e w' => e = .returned (.agg (stepFC used reply 0 false).toArray) ∧ Below w.heap.size w w' := by
  have HB := Aside0.mk (Below.refl w.heap.size w)
  go_enter Tryz.func50, Tryz.ntmps50
  go_wp2
  ((try simp only [Exit.inBlock, Exit.then]); refine bodyPost_ret (results_cell_row rfl _ _ (w.heap.size + 1) 61 _ (0, 0) _ rfl (by repeat (first | exact blk_at_new _ _ _ (by simp; done) | exact blk_at_new _ _ _ rfl | refine blk_alloc ?_ _ | refine blk_drew ?_ | refine blk_drewN ?_ _)) Tryz.underlying61 rfl (by kernel_rfl)) rfl ?_)
  exact ⟨rfl, (by repeat (first | (with_reducible first | exact HB.out | apply below_alloc | apply pw_below_drewN | apply below_drew1) | exact HB.out))⟩
def longT : ByteArray := (⟨#[67, 76, 73, 69, 78, 84, 95, 69, 82, 82, 79, 82, 32, 108, 105, 110, 101, 32, 116, 111, 111, 32, 108, 111, 110, 103]⟩ : ByteArray)
set_option maxRecDepth 100000 in
set_option maxHeartbeats 1000000 in
theorem parse_more (l : List Int) (A : Option Addr) (c : Nat) (F : Nat → Prop) (w : World) (hC : (Kd.int .u8).C w A l.length l) (hc : l.length ≤ c) (hl : l.length ≤ 1000000) (h8 : B8 l) (he : lineS l = (⟨#[]⟩, 0, 3)) :
    Calls Tryz.prog 35 #[.slice A l.length c] w (StepR F w stepM) := by
  have HB := Aside0.mk (Below.refl w.heap.size w)
  have HC := Aside0.mk hC
  have HLN : Aside0 (∀ w', Below w.heap.size w w' → Calls Tryz.prog 43 #[.slice A l.length c] w' fun e w'' => e = .returned (.tuple #[.string ⟨#[]⟩, .int .i64 0, .int .i64 3]) ∧ Below w'.heap.size w' w'') := ⟨fun w' hb => by
    have := fline_calls l A c w' (Kd.C_below HC.out hb) hc hl h8
    rw [he] at this
    exact this⟩
  clear hC h8 he
  go_enter Tryz.func35, Tryz.ntmps35
  go_wp2_with (first | (go_at_call 43; (with_reducible refine (HLN.out _ (by repeat (first | (with_reducible first | exact HB.out | apply below_alloc | apply pw_below_drewN | apply below_drew1) | exact HB.out))).mono ?_); rintro e w1 ⟨rfl, hb⟩; have BR := Aside0.mk (blk_below (g := w.heap.size) (o := .cells zStepC 61 (0, 0)) (by repeat (first | exact blk_at_new _ _ _ (by simp; done) | exact blk_at_new _ _ _ rfl | refine blk_alloc ?_ _ | refine blk_drew ?_ | refine blk_drewN ?_ _)) hb); have HBn := Aside0.mk (below_step (by repeat (first | (with_reducible first | exact HB.out | apply below_alloc | apply pw_below_drewN | apply below_drew1) | exact HB.out)) hb); clear HB; have HB := HBn; clear HBn; clear hb; have hr1 : w.heap.size < w1.heap.size := blk_lt BR.out) | (refine wpList_store_F rfl 61 _ _ rfl w.heap.size 0 stepMC rfl rfl (by simp [stepMC, Value.oneCell']) 61 _ _ (blk_alloc BR.out _) (by simp [zStepC, stepMC]) (by kernel_rfl) rfl ?_; intro w8 hbk hst; have BR8 := Aside0.mk hbk; have HB8 := Aside0.mk (hst.up (by repeat (first | (with_reducible first | exact HB.out | apply below_alloc | apply pw_below_drewN | apply below_drew1) | exact HB.out)) (Nat.le_refl _)); clear hbk hst))
  ((try simp only [Exit.inBlock, Exit.then]); refine bodyPost_ret (results_cell_row rfl _ _ w.heap.size 61 _ (0, 0) _ rfl BR8.out Tryz.underlying61 rfl (by kernel_rfl)) rfl ?_)
  exact ⟨⟨_, rfl, fun w2 _ _ => stepM_K w2⟩, HB8.out⟩
set_option maxRecDepth 100000 in
set_option maxHeartbeats 1000000 in
theorem parse_long (l : List Int) (A : Option Addr) (c m : Nat) (F : Nat → Prop) (w : World) (hC : (Kd.int .u8).C w A l.length l) (hc : l.length ≤ c) (hl : l.length ≤ 1000000) (h8 : B8 l) (he : lineS l = (⟨#[]⟩, (m : Int) + 1, 4)) (hm : m < l.length) :
    Calls Tryz.prog 35 #[.slice A l.length c] w (StepR F w (stepFS ((m : Int) + 1) longT 0 (l.getD m 0 != 10))) := by
  have HB := Aside0.mk (Below.refl w.heap.size w)
  have HC := Aside0.mk hC
  have HLN : Aside0 (∀ w', Below w.heap.size w w' → Calls Tryz.prog 43 #[.slice A l.length c] w' fun e w'' => e = .returned (.tuple #[.string ⟨#[]⟩, .int .i64 ((m : Int) + 1), .int .i64 4]) ∧ Below w'.heap.size w' w'') := ⟨fun w' hb => by
    have := fline_calls l A c w' (Kd.C_below HC.out hb) hc hl h8
    rw [he] at this
    exact this⟩
  obtain ⟨b, o, rfl, hb0, hcell⟩ := C_cell hC m hm
  obtain ⟨z, hz⟩ : ∃ z, l.getD m 0 = z := ⟨_, rfl⟩
  rw [hz] at hcell ⊢
  have HCL := Aside0.mk hcell
  obtain ⟨q, hq⟩ : ∃ q, (z != 10) = q := ⟨_, rfl⟩
  rw [hq]
  have HOL : Aside0 (∀ (A4 : Option Addr) (n4 c4 : Nat) w', Calls Tryz.prog 50 #[.agg #[.string ⟨#[]⟩, .slice none 0 0, .bool false, .int .i64 ((m : Int) + 1), .slice A4 n4 c4], .string (⟨#[67, 76, 73, 69, 78, 84, 95, 69, 82, 82, 79, 82, 32, 108, 105, 110, 101, 32, 116, 111, 111, 32, 108, 111, 110, 103]⟩ : ByteArray)] w' fun e w'' => e = .returned (.agg (stepFC ((m : Int) + 1) longT 0 false).toArray) ∧ Below w'.heap.size w' w'') := ⟨fun A4 n4 c4 w' => fault_raw ⟨#[]⟩ none A4 0 0 n4 c4 false ((m : Int) + 1) longT w' (by decide)⟩
  clear hC h8 he hz hcell
  have hi0 : (0 : Int) ≤ ↑m + 1 := by omega
  have hi1 : (m : Int) + 1 ≤ ↑l.length := by omega
  have hi2 : (m : Int) < ↑l.length := by omega
  have hi3 : (l.length : Int) ≤ ↑c := by omega
  have hi4 : (0 : Int) ≤ ↑m := by omega
  go_enter Tryz.func35, Tryz.ntmps35
  go_wp2_with (first | (go_at_call 43; (with_reducible refine (HLN.out _ (by repeat (first | (with_reducible first | exact HB.out | apply below_alloc | apply pw_below_drewN | apply below_drew1) | exact HB.out))).mono ?_); rintro e w1 ⟨rfl, hb⟩; have BR := Aside0.mk (blk_below (g := w.heap.size) (o := .cells zStepC 61 (0, 0)) (by repeat (first | exact blk_at_new _ _ _ (by simp; done) | exact blk_at_new _ _ _ rfl | refine blk_alloc ?_ _ | refine blk_drew ?_ | refine blk_drewN ?_ _)) hb); have HBn := Aside0.mk (below_step (by repeat (first | (with_reducible first | exact HB.out | apply below_alloc | apply pw_below_drewN | apply below_drew1) | exact HB.out)) hb); clear HB; have HB := HBn; clear HBn; clear hb; have hr1 : w.heap.size < w1.heap.size := blk_lt BR.out) | (go_at_call 50; (with_reducible refine (HOL.out _ _ _ _).mono ?_); rintro e w3 ⟨rfl, hb⟩; unfold stepFC; have BR3 := Aside0.mk (blk_below (blk_alloc BR.out _) hb); have HBn := Aside0.mk (below_step (by repeat (first | (with_reducible first | exact HB.out | apply below_alloc | apply pw_below_drewN | apply below_drew1) | exact HB.out)) hb); clear HB; have HB := HBn; clear HBn; clear hb; have hr3 : w.heap.size < w3.heap.size := blk_lt BR3.out; have hb3 : b < w3.heap.size := Nat.lt_of_lt_of_le hb0 HB.out.size; have t5 : w3.cell? ⟨b, o + m, none⟩ = some (.int .u8 z) := (Below.cell HB.out (p := ⟨b, o + m, none⟩) hb0).trans HCL.out) | (refine wpList_store_1 rfl 4 _ _ rfl w3.heap.size 14 (.bool q) rfl rfl rfl 61 _ (stepFC ((m : Int) + 1) longT 0 q).toArray (blk_at_new _ _ _ rfl) (by simp) (by kernel_rfl) rfl ?_; intro w4 hbk hst; have BS4 := Aside0.mk hbk; have BR4 := Aside0.mk (hst.blk (blk_alloc BR3.out _) (by omega)); have HB4 := Aside0.mk (hst.up (by repeat (first | (with_reducible first | exact HB.out | apply below_alloc | apply pw_below_drewN | apply below_drew1) | exact HB.out)) (by omega)); clear hbk hst HB; have HB := HB4; clear HB4; have e0 : w4.cell? ⟨w3.heap.size, 0, none⟩ = some (.slice none 0 0) := (blk_cell BS4.out 0).trans rfl; have e1 : w4.cell? ⟨w3.heap.size, 1, none⟩ = some (.int .i64 0) := (blk_cell BS4.out 1).trans rfl; have e2 : w4.cell? ⟨w3.heap.size, 2, none⟩ = some (.string ⟨#[]⟩) := (blk_cell BS4.out 2).trans rfl; have e3 : w4.cell? ⟨w3.heap.size, 3, none⟩ = some (.int .i64 0) := (blk_cell BS4.out 3).trans rfl; have e4 : w4.cell? ⟨w3.heap.size, 4, none⟩ = some (.int .u32 0) := (blk_cell BS4.out 4).trans rfl; have e5 : w4.cell? ⟨w3.heap.size, 5, none⟩ = some (.bool false) := (blk_cell BS4.out 5).trans rfl; have e6 : w4.cell? ⟨w3.heap.size, 6, none⟩ = some (.bool false) := (blk_cell BS4.out 6).trans rfl; have e7 : w4.cell? ⟨w3.heap.size, 7, none⟩ = some (.string ⟨#[]⟩) := (blk_cell BS4.out 7).trans rfl; have e8 : w4.cell? ⟨w3.heap.size, 8, none⟩ = some (.slice none 0 0) := (blk_cell BS4.out 8).trans rfl; have e9 : w4.cell? ⟨w3.heap.size, 9, none⟩ = some (.slice none 0 0) := (blk_cell BS4.out 9).trans rfl; have e10 : w4.cell? ⟨w3.heap.size, 10, none⟩ = some (.bool false) := (blk_cell BS4.out 10).trans rfl; have e11 : w4.cell? ⟨w3.heap.size, 11, none⟩ = some (.string (longT ++ (⟨#[13, 10]⟩ : ByteArray))) := (blk_cell BS4.out 11).trans rfl; have e12 : w4.cell? ⟨w3.heap.size, 12, none⟩ = some (.int .i64 ((m : Int) + 1)) := (blk_cell BS4.out 12).trans rfl; have e13 : w4.cell? ⟨w3.heap.size, 13, none⟩ = some (.int .i64 0) := (blk_cell BS4.out 13).trans rfl; have e14 : w4.cell? ⟨w3.heap.size, 14, none⟩ = some (.bool q) := (blk_cell BS4.out 14).trans rfl; have e15 : w4.cell? ⟨w3.heap.size, 15, none⟩ = some (.int .i64 2) := (blk_cell BS4.out 15).trans rfl) | (refine wpList_store_F rfl 61 _ _ rfl w.heap.size 0 _ rfl rfl (by simp [Value.oneCell']) 61 _ _ BR4.out (by simp [zStepC]) (by kernel_rfl) rfl ?_; intro w8 hbk hst; have BR8 := Aside0.mk hbk; have HB8 := Aside0.mk (hst.up HB.out (Nat.le_refl _)); clear hbk hst))
  all_goals
    ((try simp only [Exit.inBlock, Exit.then]); refine bodyPost_ret (results_cell_row rfl _ _ w.heap.size 61 _ (0, 0) _ rfl BR8.out Tryz.underlying61 rfl (by kernel_rfl)) rfl ?_)
    exact ⟨⟨_, rfl, fun w2 _ _ => stepFS_K w2 ((m : Int) + 1) longT 0 q⟩, HB8.out⟩
end Go.Proofs.YtdjbbncoioghfaaGreatDoor.X
namespace Go.Proofs.YtdjbbncoioghfaaGreatDoor.X
open Go.RowKit Go.Shelf Go.Proofs.YtdjbbncoioghfaaGreatDoorW.PrintWords
set_option linter.unusedVariables false
set_option linter.unusedSimpArgs false
attribute [local go_sem] Oper.semAt_some

def strSz : Value → Nat
  | .string t => t.size
  | _ => 0
theorem grown_drewN (w : World) (n : Nat) : w.grownBy (w.drewN n) none := ⟨rfl, rfl, rfl, Nat.le_refl _, fun _ _ _ => rfl⟩
theorem wordsB_nil {t T : ByteArray} (hT : baOf (trimL t.data.toList) = T) (h : T.toList.isEmpty = true) : wordsB t = [] := by
  have h1 : trimL t.data.toList = [] := by
    rw [← hT, ByteArray.toList_eq] at h
    simpa [baOf] using h
  unfold wordsB
  rw [wordsL_nil _ h1]
  rfl
theorem wordsB_cons {t T : ByteArray} (hT : baOf (trimL t.data.toList) = T) (h : T.toList.isEmpty = false) : wordsB t = baOf (headW T.data.toList) :: wordsB (baOf (tailW T.data.toList)) ∧ (baOf (tailW T.data.toList)).size < t.size ∧ T.size ≤ t.size := by
  have h1 : trimL t.data.toList ≠ [] := fun e => by
    rw [← hT, e] at h
    rw [ByteArray.toList_eq] at h
    simp [baOf] at h
  have e : T.data.toList = trimL t.data.toList := by rw [← hT]; rfl
  rw [e]
  refine ⟨?_, tailW_lt _ h1, ?_⟩
  · unfold wordsB
    rw [wordsL_cons _ h1]
    rfl
  · have h2 := trimL_len t.data.toList
    rw [← e] at h2
    exact h2
set_option maxRecDepth 100000 in
set_option maxHeartbeats 2000000 in
theorem words1_in (n : Nat) (hn : 1 ≤ n) (l Bn n₀ : Nat) (s : ByteArray) (hs : s.size ≤ 9223372036854775807) (J Jx : List ByteArray → World → Prop)
    (hY : ∀ pre x W, J pre W → pre.length < (wordsB s).length → YieldAt Fence.wide (n - 1) Tryz.prog l #[.string x] W fun e W' =>
      (e = .returned (.bool true) ∧ J (pre ++ [x]) W' ∧ Below n₀ W W') ∨ (e = .returned (.bool false) ∧ Jx (pre ++ [x]) W'))
    (W : World) (hJ : AbidesFrom W.heap.size J) (hBn : W.cell? ⟨Bn, 0, none⟩ = some (.string s)) (h0 : J [] W) :
    CallsIn Fence.wide n Tryz.prog 81 #[.func (.yield l) #[] #[], .pointer (some ⟨Bn, 0, none⟩)] W fun e W' => (∃ v, e = .returned v) ∧
      ((∃ ys, ys = wordsB s ∧ J ys W') ∨ (∃ pre, pre <+: wordsB s ∧ Jx pre W')) := by
  refine callsIn_of_wp Tryz.func81 rfl trivial ?_ rfl
  simp only [Tryz.ntmps81, List.size_toArray, List.length_cons, List.length_nil, Nat.reduceAdd, Nat.reduceSub, Array.replicate_succ, Array.replicate_zero, List.push_toArray, List.append_toArray, List.nil_append, List.cons_append]
  gi_wp2
  gi_loopw [3] (fun v wr => ∃ (pre : List ByteArray) (t : ByteArray), v = .string t ∧ Aside0 (wordsB s = pre ++ wordsB t) ∧ t.size ≤ 9223372036854775807 ∧ J pre wr)
    (fun v wr => strSz v)
  case atStart => exact ⟨[], s, rfl, ⟨rfl⟩, hs, h0⟩
  case round =>
    obtain ⟨pre, t, rfl, hx, ht, hJs⟩ := hrel
    obtain ⟨T, hT⟩ : ∃ T, baOf (trimL t.data.toList) = T := ⟨_, rfl⟩
    have HT := Aside0.mk hT
    by_cases he : T.toList.isEmpty = true
    · have hfin := wordsB_nil hT he
      have HF := Aside0.mk hfin
      clear hfin hT
      gi_wp2_with (refine ⟨trivial, ?_⟩; gi_at_call 82; refine (callsIn_wide.2 (Tryz.strings_TrimLeft_one t 32 (by decide) _)).mono ?_; rintro e w' ⟨rfl, hw'⟩; obtain rfl := hw'.symm; rw [show (⟨(Lib.trimLeftB t.data.toList 32).toArray⟩ : ByteArray) = T from HT.out])
      refine bodyPost_ret (results_none rfl _ _ _) rfl ?_
      exact ⟨⟨_, rfl⟩, .inl ⟨pre, by rw [hx.out, HF.out, List.append_nil], hJs⟩⟩
    · have he2 : T.toList.isEmpty = false := Bool.eq_false_iff.2 he
      obtain ⟨h1, h2, h3⟩ := wordsB_cons hT he2
      have HC := Aside0.mk h1
      have hTs : T.size ≤ 9223372036854775807 := by omega
      have hlt : pre.length < (wordsB s).length := by rw [hx.out, h1]; simp
      obtain ⟨X, hX⟩ : ∃ X, baOf (headW T.data.toList) = X := ⟨_, rfl⟩
      obtain ⟨R, hR⟩ : ∃ R, baOf (tailW T.data.toList) = R := ⟨_, rfl⟩
      have HX := Aside0.mk hX; have HR := Aside0.mk hR
      rw [hR] at h2
      clear h1 hT he hX hR
      gi_wp2_with (first
        | (refine ⟨trivial, ?_⟩; gi_at_call 82; refine (callsIn_wide.2 (Tryz.strings_TrimLeft_one t 32 (by decide) _)).mono ?_; rintro e w' ⟨rfl, hw'⟩; obtain rfl := hw'.symm; rw [show (⟨(Lib.trimLeftB t.data.toList 32).toArray⟩ : ByteArray) = T from HT.out])
        | (refine ⟨trivial, ?_⟩; gi_at_call 83; refine (callsIn_wide.2 (cut_calls T _ hTs)).mono ?_; rintro e w' ⟨⟨b, rfl⟩, ⟨nd, rfl⟩⟩; rw [HX.out, HR.out]))
      have hJ2 : J pre (wr.drewN nd) := hJ pre wr _ none hJs (grown_drewN wr nd) (fun r e => by cases e)
      obtain ⟨fn, tmps, assign, body, hy, hRR⟩ := hY pre X (wr.drewN nd) hJ2 hlt
      rw [hy]
      go_simp
      refine hRR.mono ?_
      rintro e W3 (⟨rfl, hJ3, hk3⟩ | ⟨rfl, hJx3⟩)
      · gi_wp2
        go_roundw
        case rel => exact ⟨pre ++ [X], R, rfl, ⟨by rw [hx.out, HC.out, HX.out, HR.out, List.append_assoc]; rfl⟩, by omega, hJ3⟩
        case measure => simp [strSz]; exact h2
      · gi_wp2
        refine bodyPost_ret (results_none rfl _ _ _) rfl ?_
        exact ⟨⟨_, rfl⟩, .inr ⟨pre ++ [X], ⟨wordsB R, by rw [hx.out, HC.out, HX.out, HR.out]; simp⟩, hJx3⟩⟩
end Go.Proofs.YtdjbbncoioghfaaGreatDoor.X
