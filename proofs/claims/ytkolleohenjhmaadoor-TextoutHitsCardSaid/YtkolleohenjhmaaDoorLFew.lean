/- Functions of this seat and their contracts, printed by wip/tools/xprint.py (a program of this work, over the kit's printer). -/
import Derived.Test.YtkolleohenjhmaaDoorProg
import Derived.Below
import Derived.Deep.Draws
import Derived.Deep.AppendLies
import Derived.Maps.AppendAt
import Derived.OwnWalk
import Derived.Laws.BytesArg
import Derived.Laws.MakeOwn
import Derived.Laws.OwnMore
import Derived.Deep.OwnRows
import Derived.Tactics
import Derived.Lib.ConvBytes
import Derived.Laws.Slices
import Derived.WalkKit
import Derived.KernelRfl
import Derived.RowKit3
import Derived.Deep.LoopGhost
import Derived.Deep.QuietTactic
import Derived.BigQuiet
import Derived.WideLaws
import Derived.Deep.DeepCutAuto
import Derived.Deep.CutBlock
import Derived.Deep.RegionHeld3
import Derived.Laws.Rows
import Derived.Lib.AppendStr
import Derived.ArgAppend
import Derived.Laws.IdiomCopy
import Derived.OrdersHeld
import Derived.Laws.BitsLemmas
import Derived.RowKit
import Derived.Test.YtkolleohenjhmaaDoorWWords
import Derived.Test.YtkolleohenjhmaaDoorWLast
import Derived.Test.YtkolleohenjhmaaDoorWTab
import Derived.Test.YtkolleohenjhmaaDoorWFour
import Derived.Test.YtkolleohenjhmaaDoorWQPut
import Derived.Test.YtkolleohenjhmaaDoorWApart
import Derived.Test.YtkolleohenjhmaaDoorWArr
import Derived.Test.YtkolleohenjhmaaDoorWZeros
import Derived.Test.YtkolleohenjhmaaDoorWFoot
import Derived.Test.YtkolleohenjhmaaDoorWKept
import Derived.Test.YtkolleohenjhmaaDoorWShare
import Derived.Test.YtkolleohenjhmaaDoorWN
import Derived.Test.YtkolleohenjhmaaDoorWFootNe
import Derived.Test.YtkolleohenjhmaaDoorWAt
import Derived.Test.YtkolleohenjhmaaDoorWEqStruct
import Derived.Test.YtkolleohenjhmaaDoorWRepsOne
import Derived.Test.YtkolleohenjhmaaDoorWInv
import Derived.Test.YtkolleohenjhmaaDoorWInvWords
import Derived.Test.YtkolleohenjhmaaDoorWGuard
import Derived.Test.YtkolleohenjhmaaDoorWNEv
import Derived.Test.YtkolleohenjhmaaDoorWMore
import Derived.Test.YtkolleohenjhmaaDoorAw
namespace Go.Proofs.YtkolleohenjhmaaDoor.X
open Go.RowKit Go.Proofs.YtkolleohenjhmaaDoorW.PrintWords Go.Proofs.YtkolleohenjhmaaDoorW.PrintLast Go.Proofs.YtkolleohenjhmaaDoorW.PrintMore
attribute [local go_sem] max2_int min2_int max_two min_two max_three min_three max_four min_four
set_option linter.unusedVariables false
set_option linter.unusedSimpArgs false

/-! ### butterylaw15_Few -/
mutual
def butterylaw15_Few.j0 : Nat → List (S40) → Bool → List (S38) → Int → ByteArray → Int → Int → Bool → Bool → ByteArray → List ByteArray → List ByteArray → Bool → Option (Bool)
  | 0, _, _, _, _, _, _, _, _, _, _, _, _, _ => none
  | k + 1, x1, x30, x148000, x148001, x148002, x148003, x148004, x148005, x148006, x148007, x148008, x148009, x148010 => if x30 = true then (some false) else (butterylaw15_Few.l0 k x1 0 x148000 x148001 x148002 x148003 x148004 x148005 x148006 x148007 x148008 x148009 x148010)
def butterylaw15_Few.l0 : Nat → List (S40) → Int → List (S38) → Int → ByteArray → Int → Int → Bool → Bool → ByteArray → List ByteArray → List ByteArray → Bool → Option (Bool)
  | 0, _, _, _, _, _, _, _, _, _, _, _, _, _ => none
  | k + 1, x1, x5, x148000, x148001, x148002, x148003, x148004, x148005, x148006, x148007, x148008, x148009, x148010 => if x5 < (x148008.length : Int) then (if 0 ≤ x5 then (if ((rdOf ByteArray.empty x148008 x5).size : Int) > 300 then (some false) else (butterylaw15_Few.l0 k x1 (wrap64 (x5 + 1)) x148000 x148001 x148002 x148003 x148004 x148005 x148006 x148007 x148008 x148009 x148010)) else (none)) else (butterylaw15_Few.l1 k x1 0 x148000 x148001 x148002 x148003 x148004 x148005 x148006 x148007 x148008 x148009 x148010)
def butterylaw15_Few.l1 : Nat → List (S40) → Int → List (S38) → Int → ByteArray → Int → Int → Bool → Bool → ByteArray → List ByteArray → List ByteArray → Bool → Option (Bool)
  | 0, _, _, _, _, _, _, _, _, _, _, _, _, _ => none
  | k + 1, x1, x6, x148000, x148001, x148002, x148003, x148004, x148005, x148006, x148007, x148008, x148009, x148010 => if x6 < (x148000.length : Int) then (if 0 ≤ x6 then (if (((rd_T38 x148000 x6).f1).size : Int) > 300 then (some false) else (butterylaw15_Few.l1 k x1 (wrap64 (x6 + 1)) x148000 x148001 x148002 x148003 x148004 x148005 x148006 x148007 x148008 x148009 x148010)) else (none)) else (butterylaw15_Few.l2 k x1 0)
def butterylaw15_Few.l2 : Nat → List (S40) → Int → Option (Bool)
  | 0, _, _ => none
  | k + 1, x1, x7 => if x7 < (x1.length : Int) then (if 0 ≤ x7 then (if (((rd_T40 x1 x7).f1).length : Int) > 2000 then (some false) else (butterylaw15_Few.l2 k x1 (wrap64 (x7 + 1)))) else (none)) else (some true)
end
def butterylaw15_Few.f (k : Nat) (l0_0 : List (S38)) (a0_1 : Int) (a0_2 : ByteArray) (a0_3 : Int) (a0_4 : Int) (a0_5 : Bool) (a0_6 : Bool) (a0_7 : ByteArray) (l0_8 : List ByteArray) (l0_9 : List ByteArray) (a0_10 : Bool) (l1 : List (S40)) : Option (Bool) := if (l0_0.length : Int) > 40 then (butterylaw15_Few.j0 k l1 true l0_0 a0_1 a0_2 a0_3 a0_4 a0_5 a0_6 a0_7 l0_8 l0_9 a0_10) else (if (l1.length : Int) > 40 then (butterylaw15_Few.j0 k l1 true l0_0 a0_1 a0_2 a0_3 a0_4 a0_5 a0_6 a0_7 l0_8 l0_9 a0_10) else (if (a0_7.size : Int) > 100 then (butterylaw15_Few.j0 k l1 true l0_0 a0_1 a0_2 a0_3 a0_4 a0_5 a0_6 a0_7 l0_8 l0_9 a0_10) else (butterylaw15_Few.j0 k l1 (decide ((l0_8.length : Int) > 100)) l0_0 a0_1 a0_2 a0_3 a0_4 a0_5 a0_6 a0_7 l0_8 l0_9 a0_10)))
theorem butterylaw15_Few.mono_l : ∀ k, (∀ y0 y1 y2 y3 y4 y5 y6 y7 y8 y9 y10 y11 y12, LeO (butterylaw15_Few.j0 k y0 y1 y2 y3 y4 y5 y6 y7 y8 y9 y10 y11 y12) (butterylaw15_Few.j0 (k + 1) y0 y1 y2 y3 y4 y5 y6 y7 y8 y9 y10 y11 y12)) ∧ (∀ y0 y1 y2 y3 y4 y5 y6 y7 y8 y9 y10 y11 y12, LeO (butterylaw15_Few.l0 k y0 y1 y2 y3 y4 y5 y6 y7 y8 y9 y10 y11 y12) (butterylaw15_Few.l0 (k + 1) y0 y1 y2 y3 y4 y5 y6 y7 y8 y9 y10 y11 y12)) ∧ (∀ y0 y1 y2 y3 y4 y5 y6 y7 y8 y9 y10 y11 y12, LeO (butterylaw15_Few.l1 k y0 y1 y2 y3 y4 y5 y6 y7 y8 y9 y10 y11 y12) (butterylaw15_Few.l1 (k + 1) y0 y1 y2 y3 y4 y5 y6 y7 y8 y9 y10 y11 y12)) ∧ (∀ y0 y1, LeO (butterylaw15_Few.l2 k y0 y1) (butterylaw15_Few.l2 (k + 1) y0 y1))
  | 0 => ⟨fun _ _ _ _ _ _ _ _ _ _ _ _ _ r h => by simp [butterylaw15_Few.j0] at h, fun _ _ _ _ _ _ _ _ _ _ _ _ _ r h => by simp [butterylaw15_Few.l0] at h, fun _ _ _ _ _ _ _ _ _ _ _ _ _ r h => by simp [butterylaw15_Few.l1] at h, fun _ _ r h => by simp [butterylaw15_Few.l2] at h⟩
  | k + 1 => by
    obtain ⟨ih0, ih1, ih2, ih3⟩ := butterylaw15_Few.mono_l k
    refine ⟨?_, ?_, ?_, ?_⟩
    · intro y0 y1 y2 y3 y4 y5 y6 y7 y8 y9 y10 y11 y12
      unfold butterylaw15_Few.j0
      repeat' first
      | (with_reducible exact ih0 _ _ _ _ _ _ _ _ _ _ _ _ _)
      | (with_reducible exact ih1 _ _ _ _ _ _ _ _ _ _ _ _ _)
      | (with_reducible exact ih2 _ _ _ _ _ _ _ _ _ _ _ _ _)
      | (with_reducible exact ih3 _ _)
      | (with_reducible exact LeO.refl _)
      | (with_reducible exact LeO.none _)
      | (with_reducible refine LeO.ite ?_ ?_)
      | (with_reducible refine LeO.bind ?_ (fun _ => ?_))
      | exact ih0 _ _ _ _ _ _ _ _ _ _ _ _ _
      | exact ih1 _ _ _ _ _ _ _ _ _ _ _ _ _
      | exact ih2 _ _ _ _ _ _ _ _ _ _ _ _ _
      | exact ih3 _ _
      | exact LeO.none _
      | refine LeO.ite ?_ ?_
      | refine LeO.bind ?_ (fun _ => ?_)
    · intro y0 y1 y2 y3 y4 y5 y6 y7 y8 y9 y10 y11 y12
      unfold butterylaw15_Few.l0
      repeat' first
      | (with_reducible exact ih0 _ _ _ _ _ _ _ _ _ _ _ _ _)
      | (with_reducible exact ih1 _ _ _ _ _ _ _ _ _ _ _ _ _)
      | (with_reducible exact ih2 _ _ _ _ _ _ _ _ _ _ _ _ _)
      | (with_reducible exact ih3 _ _)
      | (with_reducible exact LeO.refl _)
      | (with_reducible exact LeO.none _)
      | (with_reducible refine LeO.ite ?_ ?_)
      | (with_reducible refine LeO.bind ?_ (fun _ => ?_))
      | exact ih0 _ _ _ _ _ _ _ _ _ _ _ _ _
      | exact ih1 _ _ _ _ _ _ _ _ _ _ _ _ _
      | exact ih2 _ _ _ _ _ _ _ _ _ _ _ _ _
      | exact ih3 _ _
      | exact LeO.none _
      | refine LeO.ite ?_ ?_
      | refine LeO.bind ?_ (fun _ => ?_)
    · intro y0 y1 y2 y3 y4 y5 y6 y7 y8 y9 y10 y11 y12
      unfold butterylaw15_Few.l1
      repeat' first
      | (with_reducible exact ih0 _ _ _ _ _ _ _ _ _ _ _ _ _)
      | (with_reducible exact ih1 _ _ _ _ _ _ _ _ _ _ _ _ _)
      | (with_reducible exact ih2 _ _ _ _ _ _ _ _ _ _ _ _ _)
      | (with_reducible exact ih3 _ _)
      | (with_reducible exact LeO.refl _)
      | (with_reducible exact LeO.none _)
      | (with_reducible refine LeO.ite ?_ ?_)
      | (with_reducible refine LeO.bind ?_ (fun _ => ?_))
      | exact ih0 _ _ _ _ _ _ _ _ _ _ _ _ _
      | exact ih1 _ _ _ _ _ _ _ _ _ _ _ _ _
      | exact ih2 _ _ _ _ _ _ _ _ _ _ _ _ _
      | exact ih3 _ _
      | exact LeO.none _
      | refine LeO.ite ?_ ?_
      | refine LeO.bind ?_ (fun _ => ?_)
    · intro y0 y1
      unfold butterylaw15_Few.l2
      repeat' first
      | (with_reducible exact ih0 _ _ _ _ _ _ _ _ _ _ _ _ _)
      | (with_reducible exact ih1 _ _ _ _ _ _ _ _ _ _ _ _ _)
      | (with_reducible exact ih2 _ _ _ _ _ _ _ _ _ _ _ _ _)
      | (with_reducible exact ih3 _ _)
      | (with_reducible exact LeO.refl _)
      | (with_reducible exact LeO.none _)
      | (with_reducible refine LeO.ite ?_ ?_)
      | (with_reducible refine LeO.bind ?_ (fun _ => ?_))
      | exact ih0 _ _ _ _ _ _ _ _ _ _ _ _ _
      | exact ih1 _ _ _ _ _ _ _ _ _ _ _ _ _
      | exact ih2 _ _ _ _ _ _ _ _ _ _ _ _ _
      | exact ih3 _ _
      | exact LeO.none _
      | refine LeO.ite ?_ ?_
      | refine LeO.bind ?_ (fun _ => ?_)
theorem butterylaw15_Few.mono : ∀ a0 a1 a2 a3 a4 a5 a6 a7 a8 a9 a10 a11 k, LeO (butterylaw15_Few.f k a0 a1 a2 a3 a4 a5 a6 a7 a8 a9 a10 a11) (butterylaw15_Few.f (k + 1) a0 a1 a2 a3 a4 a5 a6 a7 a8 a9 a10 a11) := by
  intro a0 a1 a2 a3 a4 a5 a6 a7 a8 a9 a10 a11 k
  obtain ⟨ih0, ih1, ih2, ih3⟩ := butterylaw15_Few.mono_l k
  unfold butterylaw15_Few.f
  repeat' first
      | (with_reducible exact ih0 _ _ _ _ _ _ _ _ _ _ _ _ _)
      | (with_reducible exact ih1 _ _ _ _ _ _ _ _ _ _ _ _ _)
      | (with_reducible exact ih2 _ _ _ _ _ _ _ _ _ _ _ _ _)
      | (with_reducible exact ih3 _ _)
      | (with_reducible exact LeO.refl _)
      | (with_reducible exact LeO.none _)
      | (with_reducible refine LeO.ite ?_ ?_)
      | (with_reducible refine LeO.bind ?_ (fun _ => ?_))
      | exact ih0 _ _ _ _ _ _ _ _ _ _ _ _ _
      | exact ih1 _ _ _ _ _ _ _ _ _ _ _ _ _
      | exact ih2 _ _ _ _ _ _ _ _ _ _ _ _ _
      | exact ih3 _ _
      | exact LeO.none _
      | refine LeO.ite ?_ ?_
      | refine LeO.bind ?_ (fun _ => ?_)
set_option maxHeartbeats 8000000 in
set_option maxRecDepth 100000 in
theorem butterylaw15_Few.calls (k : Nat) (A0_0 : Option Addr) (c0_0 : Nat) (l0_0 : List (S38)) (a0_1 : Int) (a0_2 : ByteArray) (a0_3 : Int) (a0_4 : Int) (a0_5 : Bool) (a0_6 : Bool) (a0_7 : ByteArray) (A0_8 : Option Addr) (c0_8 : Nat) (l0_8 : List ByteArray) (A0_9 : Option Addr) (c0_9 : Nat) (l0_9 : List ByteArray) (a0_10 : Bool) (A1 : Option Addr) (c1 : Nat) (l1 : List (S40)) (r : Bool) (w : World) (hr0_0 : Kd.C k38 w A0_0 l0_0.length l0_0) (hc0_0 : l0_0.length ≤ c0_0) (hr0_8 : Kd.C Kd.string w A0_8 l0_8.length l0_8) (hc0_8 : l0_8.length ≤ c0_8) (hr0_9 : Kd.C Kd.string w A0_9 l0_9.length l0_9) (hc0_9 : l0_9.length ≤ c0_9) (hr1 : Kd.C k40 w A1 l1.length l1) (hc1 : l1.length ≤ c1) (h : butterylaw15_Few.f k l0_0 a0_1 a0_2 a0_3 a0_4 a0_5 a0_6 a0_7 l0_8 l0_9 a0_10 l1 = some r) :
    Calls Tryd.prog 9 #[.agg #[.slice A0_0 l0_0.length c0_0, .int .i64 a0_1, .string a0_2, .int .i64 a0_3, .int .u32 a0_4, .bool a0_5, .bool a0_6, .string a0_7, .slice A0_8 l0_8.length c0_8, .slice A0_9 l0_9.length c0_9, .bool a0_10], .slice A1 l1.length c1] w fun e w' => e = .returned (.bool r) ∧ Below w.heap.size w w' := by
  have hu28 := Tryd.underlying28
  have HR0_0 := Aside0.mk hr0_0
  have HC0_0 := Aside0.mk hc0_0
  clear hr0_0 hc0_0
  have HR0_8 := Aside0.mk hr0_8
  have HC0_8 := Aside0.mk hc0_8
  clear hr0_8 hc0_8
  have HR0_9 := Aside0.mk hr0_9
  have HC0_9 := Aside0.mk hc0_9
  clear hr0_9 hc0_9
  have HR1 := Aside0.mk hr1
  have HC1 := Aside0.mk hc1
  clear hr1 hc1
  have HB := Aside0.mk (Below.refl w.heap.size w)
  have H : (if (l0_0.length : Int) > 40 then (butterylaw15_Few.j0 k l1 true l0_0 a0_1 a0_2 a0_3 a0_4 a0_5 a0_6 a0_7 l0_8 l0_9 a0_10) else (if (l1.length : Int) > 40 then (butterylaw15_Few.j0 k l1 true l0_0 a0_1 a0_2 a0_3 a0_4 a0_5 a0_6 a0_7 l0_8 l0_9 a0_10) else (if (a0_7.size : Int) > 100 then (butterylaw15_Few.j0 k l1 true l0_0 a0_1 a0_2 a0_3 a0_4 a0_5 a0_6 a0_7 l0_8 l0_9 a0_10) else (butterylaw15_Few.j0 k l1 (decide ((l0_8.length : Int) > 100)) l0_0 a0_1 a0_2 a0_3 a0_4 a0_5 a0_6 a0_7 l0_8 l0_9 a0_10)))) = some r := h
  clear h
  have HC3 := Aside0.mk H
  clear H
  go_enter Tryd.func9, Tryd.ntmps9
  go_upto_region 1 with (first | ((with_reducible refine gate_dst (N := 2) rfl ?_); (try (refine gate_guard (by rfl) ?_; dsimp only)); refine box_event ?hg (N := 2) ?hd (cs := #[.slice A0_0 l0_0.length c0_0, .int .i64 a0_1, .string a0_2, .int .i64 a0_3, .int .u32 a0_4, .bool a0_5, .bool a0_6, .string a0_7, .slice A0_8 l0_8.length c0_8, .slice A0_9 l0_9.length c0_9, .bool a0_10]) (t := 28) ?hr ?_; (case hd => rfl); (case hg => rfl); (case hr => first | (go_simp; done) | (go_simp; rfl)); intro gb147 hg w4 hbox hb; have n0_ := Aside0.mk (below_step (by repeat (first | (with_reducible first | exact HB.out | apply below_alloc | apply pw_below_drewN | apply below_drew1) | exact HB.out)) hb); have n1_ := Aside0.mk (hbox); have n2_ := Aside0.mk ((by rw [hg]; exact (below_size (by repeat (first | (with_reducible first | exact HB.out | apply below_alloc | apply pw_below_drewN | apply below_drew1) | exact HB.out))) : w.heap.size ≤ gb147)); have n3_ := Aside0.mk ((by rw [hg]; exact (below_size (by repeat (first | (with_reducible first | exact HB.out | apply below_alloc | apply pw_below_drewN | apply below_drew1) | exact HB.out))) : w.heap.size ≤ gb147)); clear HB; have HB := n0_; have BK147 := n1_; have GW147 := n2_; have GE147 := n3_; clear n0_ n1_ n2_ n3_; clear hb hbox hg))
  (try simp only [Act.put, List.setIfInBounds_toArray, List.set_cons_zero, List.set_cons_succ])
  go_cut [30] (fun v30 wc => ∃ (kq : Nat) (x30_2 : Bool), v30 = .bool x30_2 ∧ Aside0 (butterylaw15_Few.j0 kq l1 x30_2 l0_0 a0_1 a0_2 a0_3 a0_4 a0_5 a0_6 a0_7 l0_8 l0_9 a0_10 = some r) ∧ Aside0 (kq ≤ k) ∧ Aside0 (wc.heap[gb147]? = some (.cells #[(.slice A0_0 l0_0.length c0_0), .int .i64 a0_1, .string a0_2, .int .i64 a0_3, .int .u32 a0_4, .bool a0_5, .bool a0_6, .string a0_7, (.slice A0_8 l0_8.length c0_8), (.slice A0_9 l0_9.length c0_9), .bool a0_10] 28 (0, 0))) ∧ Aside0 (Below w.heap.size w wc))
  case first =>
    have H := HC3.out
    clear HC3
    by_cases c5 : (l0_0.length : Int) > 40
    · rw [if_pos c5] at H
      have c5b0 : decide (40 < (l0_0.length : Int)) = true := decide_eq_true c5
      have c5b1 : decide (40 < l0_0.length) = true := decide_eq_true (by omega)
      clear c5
      (first | rw [c5b0] | (simp only [i64_w, i32_w]; rw [c5b0]) | skip)
      have H' := Aside0.mk H
      clear H
      have hcz6_0 : w4.cell? ⟨gb147, 0, none⟩ = some (.slice A0_0 l0_0.length c0_0) := (blk_cell BK147.out 0).trans rfl
      have hcz6_1 : w4.cell? ⟨gb147, 1, none⟩ = some (.int .i64 a0_1) := (blk_cell BK147.out 1).trans rfl
      have hcz6_2 : w4.cell? ⟨gb147, 2, none⟩ = some (.string a0_2) := (blk_cell BK147.out 2).trans rfl
      have hcz6_3 : w4.cell? ⟨gb147, 3, none⟩ = some (.int .i64 a0_3) := (blk_cell BK147.out 3).trans rfl
      have hcz6_4 : w4.cell? ⟨gb147, 4, none⟩ = some (.int .u32 a0_4) := (blk_cell BK147.out 4).trans rfl
      have hcz6_5 : w4.cell? ⟨gb147, 5, none⟩ = some (.bool a0_5) := (blk_cell BK147.out 5).trans rfl
      have hcz6_6 : w4.cell? ⟨gb147, 6, none⟩ = some (.bool a0_6) := (blk_cell BK147.out 6).trans rfl
      have hcz6_7 : w4.cell? ⟨gb147, 7, none⟩ = some (.string a0_7) := (blk_cell BK147.out 7).trans rfl
      have hcz6_8 : w4.cell? ⟨gb147, 8, none⟩ = some (.slice A0_8 l0_8.length c0_8) := (blk_cell BK147.out 8).trans rfl
      have hcz6_9 : w4.cell? ⟨gb147, 9, none⟩ = some (.slice A0_9 l0_9.length c0_9) := (blk_cell BK147.out 9).trans rfl
      have hcz6_10 : w4.cell? ⟨gb147, 10, none⟩ = some (.bool a0_10) := (blk_cell BK147.out 10).trans rfl
      have hfz6_0 := blk_frozen BK147.out 0
      have hfz6_1 := blk_frozen BK147.out 1
      have hfz6_2 := blk_frozen BK147.out 2
      have hfz6_3 := blk_frozen BK147.out 3
      have hfz6_4 := blk_frozen BK147.out 4
      have hfz6_5 := blk_frozen BK147.out 5
      have hfz6_6 := blk_frozen BK147.out 6
      have hfz6_7 := blk_frozen BK147.out 7
      have hfz6_8 := blk_frozen BK147.out 8
      have hfz6_9 := blk_frozen BK147.out 9
      have hfz6_10 := blk_frozen BK147.out 10
      go_wp2
      go_meet
      case rel => exact ⟨_, (true), (by first | rfl | (simp; done) | (simp [*]; done)), H', ⟨by first | omega | exact Nat.le_refl _⟩, ⟨by (with_reducible repeat (first | refine blk_drewN ?_ _ | refine blk_drew ?_ | refine blk_alloc ?_ _)); exact BK147.out⟩, ⟨by repeat (first | (with_reducible first | exact HB.out | apply below_alloc | apply pw_below_drewN | apply below_drew1 | refine below_set ?_ GE147.out) | exact HB.out)⟩⟩
    · rw [if_neg c5] at H
      have c5b0 : decide (40 < (l0_0.length : Int)) = false := decide_eq_false c5
      have c5b1 : decide (40 < l0_0.length) = false := decide_eq_false (by omega)
      clear c5
      (first | rw [c5b0] | (simp only [i64_w, i32_w]; rw [c5b0]) | skip)
      by_cases c7 : (l1.length : Int) > 40
      · rw [if_pos c7] at H
        have c7b0 : decide (40 < (l1.length : Int)) = true := decide_eq_true c7
        have c7b1 : decide (40 < l1.length) = true := decide_eq_true (by omega)
        clear c7
        have H' := Aside0.mk H
        clear H
        have hcz8_0 : w4.cell? ⟨gb147, 0, none⟩ = some (.slice A0_0 l0_0.length c0_0) := (blk_cell BK147.out 0).trans rfl
        have hcz8_1 : w4.cell? ⟨gb147, 1, none⟩ = some (.int .i64 a0_1) := (blk_cell BK147.out 1).trans rfl
        have hcz8_2 : w4.cell? ⟨gb147, 2, none⟩ = some (.string a0_2) := (blk_cell BK147.out 2).trans rfl
        have hcz8_3 : w4.cell? ⟨gb147, 3, none⟩ = some (.int .i64 a0_3) := (blk_cell BK147.out 3).trans rfl
        have hcz8_4 : w4.cell? ⟨gb147, 4, none⟩ = some (.int .u32 a0_4) := (blk_cell BK147.out 4).trans rfl
        have hcz8_5 : w4.cell? ⟨gb147, 5, none⟩ = some (.bool a0_5) := (blk_cell BK147.out 5).trans rfl
        have hcz8_6 : w4.cell? ⟨gb147, 6, none⟩ = some (.bool a0_6) := (blk_cell BK147.out 6).trans rfl
        have hcz8_7 : w4.cell? ⟨gb147, 7, none⟩ = some (.string a0_7) := (blk_cell BK147.out 7).trans rfl
        have hcz8_8 : w4.cell? ⟨gb147, 8, none⟩ = some (.slice A0_8 l0_8.length c0_8) := (blk_cell BK147.out 8).trans rfl
        have hcz8_9 : w4.cell? ⟨gb147, 9, none⟩ = some (.slice A0_9 l0_9.length c0_9) := (blk_cell BK147.out 9).trans rfl
        have hcz8_10 : w4.cell? ⟨gb147, 10, none⟩ = some (.bool a0_10) := (blk_cell BK147.out 10).trans rfl
        have hfz8_0 := blk_frozen BK147.out 0
        have hfz8_1 := blk_frozen BK147.out 1
        have hfz8_2 := blk_frozen BK147.out 2
        have hfz8_3 := blk_frozen BK147.out 3
        have hfz8_4 := blk_frozen BK147.out 4
        have hfz8_5 := blk_frozen BK147.out 5
        have hfz8_6 := blk_frozen BK147.out 6
        have hfz8_7 := blk_frozen BK147.out 7
        have hfz8_8 := blk_frozen BK147.out 8
        have hfz8_9 := blk_frozen BK147.out 9
        have hfz8_10 := blk_frozen BK147.out 10
        go_wp2
        go_meet
        case rel => exact ⟨_, (true), (by first | rfl | (simp; done) | (simp [*]; done)), H', ⟨by first | omega | exact Nat.le_refl _⟩, ⟨by (with_reducible repeat (first | refine blk_drewN ?_ _ | refine blk_drew ?_ | refine blk_alloc ?_ _)); exact BK147.out⟩, ⟨by repeat (first | (with_reducible first | exact HB.out | apply below_alloc | apply pw_below_drewN | apply below_drew1 | refine below_set ?_ GE147.out) | exact HB.out)⟩⟩
      · rw [if_neg c7] at H
        have c7b0 : decide (40 < (l1.length : Int)) = false := decide_eq_false c7
        have c7b1 : decide (40 < l1.length) = false := decide_eq_false (by omega)
        clear c7
        by_cases c9 : (a0_7.size : Int) > 100
        · rw [if_pos c9] at H
          have c9b0 : decide (100 < (a0_7.size : Int)) = true := decide_eq_true c9
          have c9b1 : decide (100 < a0_7.size) = true := decide_eq_true (by omega)
          clear c9
          have H' := Aside0.mk H
          clear H
          have hcz10_0 : w4.cell? ⟨gb147, 0, none⟩ = some (.slice A0_0 l0_0.length c0_0) := (blk_cell BK147.out 0).trans rfl
          have hcz10_1 : w4.cell? ⟨gb147, 1, none⟩ = some (.int .i64 a0_1) := (blk_cell BK147.out 1).trans rfl
          have hcz10_2 : w4.cell? ⟨gb147, 2, none⟩ = some (.string a0_2) := (blk_cell BK147.out 2).trans rfl
          have hcz10_3 : w4.cell? ⟨gb147, 3, none⟩ = some (.int .i64 a0_3) := (blk_cell BK147.out 3).trans rfl
          have hcz10_4 : w4.cell? ⟨gb147, 4, none⟩ = some (.int .u32 a0_4) := (blk_cell BK147.out 4).trans rfl
          have hcz10_5 : w4.cell? ⟨gb147, 5, none⟩ = some (.bool a0_5) := (blk_cell BK147.out 5).trans rfl
          have hcz10_6 : w4.cell? ⟨gb147, 6, none⟩ = some (.bool a0_6) := (blk_cell BK147.out 6).trans rfl
          have hcz10_7 : w4.cell? ⟨gb147, 7, none⟩ = some (.string a0_7) := (blk_cell BK147.out 7).trans rfl
          have hcz10_8 : w4.cell? ⟨gb147, 8, none⟩ = some (.slice A0_8 l0_8.length c0_8) := (blk_cell BK147.out 8).trans rfl
          have hcz10_9 : w4.cell? ⟨gb147, 9, none⟩ = some (.slice A0_9 l0_9.length c0_9) := (blk_cell BK147.out 9).trans rfl
          have hcz10_10 : w4.cell? ⟨gb147, 10, none⟩ = some (.bool a0_10) := (blk_cell BK147.out 10).trans rfl
          have hfz10_0 := blk_frozen BK147.out 0
          have hfz10_1 := blk_frozen BK147.out 1
          have hfz10_2 := blk_frozen BK147.out 2
          have hfz10_3 := blk_frozen BK147.out 3
          have hfz10_4 := blk_frozen BK147.out 4
          have hfz10_5 := blk_frozen BK147.out 5
          have hfz10_6 := blk_frozen BK147.out 6
          have hfz10_7 := blk_frozen BK147.out 7
          have hfz10_8 := blk_frozen BK147.out 8
          have hfz10_9 := blk_frozen BK147.out 9
          have hfz10_10 := blk_frozen BK147.out 10
          go_wp2
          go_meet
          case rel => exact ⟨_, (true), (by first | rfl | (simp; done) | (simp [*]; done)), H', ⟨by first | omega | exact Nat.le_refl _⟩, ⟨by (with_reducible repeat (first | refine blk_drewN ?_ _ | refine blk_drew ?_ | refine blk_alloc ?_ _)); exact BK147.out⟩, ⟨by repeat (first | (with_reducible first | exact HB.out | apply below_alloc | apply pw_below_drewN | apply below_drew1 | refine below_set ?_ GE147.out) | exact HB.out)⟩⟩
        · rw [if_neg c9] at H
          have c9b0 : decide (100 < (a0_7.size : Int)) = false := decide_eq_false c9
          have c9b1 : decide (100 < a0_7.size) = false := decide_eq_false (by omega)
          clear c9
          have H' := Aside0.mk H
          clear H
          have hcz11_0 : w4.cell? ⟨gb147, 0, none⟩ = some (.slice A0_0 l0_0.length c0_0) := (blk_cell BK147.out 0).trans rfl
          have hcz11_1 : w4.cell? ⟨gb147, 1, none⟩ = some (.int .i64 a0_1) := (blk_cell BK147.out 1).trans rfl
          have hcz11_2 : w4.cell? ⟨gb147, 2, none⟩ = some (.string a0_2) := (blk_cell BK147.out 2).trans rfl
          have hcz11_3 : w4.cell? ⟨gb147, 3, none⟩ = some (.int .i64 a0_3) := (blk_cell BK147.out 3).trans rfl
          have hcz11_4 : w4.cell? ⟨gb147, 4, none⟩ = some (.int .u32 a0_4) := (blk_cell BK147.out 4).trans rfl
          have hcz11_5 : w4.cell? ⟨gb147, 5, none⟩ = some (.bool a0_5) := (blk_cell BK147.out 5).trans rfl
          have hcz11_6 : w4.cell? ⟨gb147, 6, none⟩ = some (.bool a0_6) := (blk_cell BK147.out 6).trans rfl
          have hcz11_7 : w4.cell? ⟨gb147, 7, none⟩ = some (.string a0_7) := (blk_cell BK147.out 7).trans rfl
          have hcz11_8 : w4.cell? ⟨gb147, 8, none⟩ = some (.slice A0_8 l0_8.length c0_8) := (blk_cell BK147.out 8).trans rfl
          have hcz11_9 : w4.cell? ⟨gb147, 9, none⟩ = some (.slice A0_9 l0_9.length c0_9) := (blk_cell BK147.out 9).trans rfl
          have hcz11_10 : w4.cell? ⟨gb147, 10, none⟩ = some (.bool a0_10) := (blk_cell BK147.out 10).trans rfl
          have hfz11_0 := blk_frozen BK147.out 0
          have hfz11_1 := blk_frozen BK147.out 1
          have hfz11_2 := blk_frozen BK147.out 2
          have hfz11_3 := blk_frozen BK147.out 3
          have hfz11_4 := blk_frozen BK147.out 4
          have hfz11_5 := blk_frozen BK147.out 5
          have hfz11_6 := blk_frozen BK147.out 6
          have hfz11_7 := blk_frozen BK147.out 7
          have hfz11_8 := blk_frozen BK147.out 8
          have hfz11_9 := blk_frozen BK147.out 9
          have hfz11_10 := blk_frozen BK147.out 10
          go_wp2
          go_meet
          case rel => exact ⟨_, (decide ((l0_8.length : Int) > 100)), (by first | rfl | (simp; done) | (simp [*]; done)), H', ⟨by first | omega | exact Nat.le_refl _⟩, ⟨by (with_reducible repeat (first | refine blk_drewN ?_ _ | refine blk_drew ?_ | refine blk_alloc ?_ _)); exact BK147.out⟩, ⟨by repeat (first | (with_reducible first | exact HB.out | apply below_alloc | apply pw_below_drewN | apply below_drew1 | refine below_set ?_ GE147.out) | exact HB.out)⟩⟩
  case rest =>
    clear HC3
    try clear c1
    try clear p2
    try clear c5
    try clear c5b0
    try clear c5b1
    try clear c7
    try clear c7b0
    try clear c7b1
    try clear c9
    try clear c9b0
    try clear c9b1
    try clear hcz10_0
    try clear hcz10_1
    try clear hcz10_10
    try clear hcz10_2
    try clear hcz10_3
    try clear hcz10_4
    try clear hcz10_5
    try clear hcz10_6
    try clear hcz10_7
    try clear hcz10_8
    try clear hcz10_9
    try clear hcz11_0
    try clear hcz11_1
    try clear hcz11_10
    try clear hcz11_2
    try clear hcz11_3
    try clear hcz11_4
    try clear hcz11_5
    try clear hcz11_6
    try clear hcz11_7
    try clear hcz11_8
    try clear hcz11_9
    try clear hcz6_0
    try clear hcz6_1
    try clear hcz6_10
    try clear hcz6_2
    try clear hcz6_3
    try clear hcz6_4
    try clear hcz6_5
    try clear hcz6_6
    try clear hcz6_7
    try clear hcz6_8
    try clear hcz6_9
    try clear hcz8_0
    try clear hcz8_1
    try clear hcz8_10
    try clear hcz8_2
    try clear hcz8_3
    try clear hcz8_4
    try clear hcz8_5
    try clear hcz8_6
    try clear hcz8_7
    try clear hcz8_8
    try clear hcz8_9
    try clear hfz10_0
    try clear hfz10_1
    try clear hfz10_10
    try clear hfz10_2
    try clear hfz10_3
    try clear hfz10_4
    try clear hfz10_5
    try clear hfz10_6
    try clear hfz10_7
    try clear hfz10_8
    try clear hfz10_9
    try clear hfz11_0
    try clear hfz11_1
    try clear hfz11_10
    try clear hfz11_2
    try clear hfz11_3
    try clear hfz11_4
    try clear hfz11_5
    try clear hfz11_6
    try clear hfz11_7
    try clear hfz11_8
    try clear hfz11_9
    try clear hfz6_0
    try clear hfz6_1
    try clear hfz6_10
    try clear hfz6_2
    try clear hfz6_3
    try clear hfz6_4
    try clear hfz6_5
    try clear hfz6_6
    try clear hfz6_7
    try clear hfz6_8
    try clear hfz6_9
    try clear hfz8_0
    try clear hfz8_1
    try clear hfz8_10
    try clear hfz8_2
    try clear hfz8_3
    try clear hfz8_4
    try clear hfz8_5
    try clear hfz8_6
    try clear hfz8_7
    try clear hfz8_8
    try clear hfz8_9
    obtain ⟨kq, x30_2, rfl, HA, HJ2, BK147, HB⟩ := hcut
    cases kq with
    | zero => exact absurd HA.out (by simp [butterylaw15_Few.j0])
    | succ kj2 =>
      have H := HA.out
      clear HA
      simp only [butterylaw15_Few.j0] at H
      by_cases c12 : x30_2 = true
      · subst c12
        have H1 : (some false) = some r := by rw [if_pos rfl] at H; exact H
        clear H
        have H := H1
        clear H1
        obtain rfl := Option.some.inj H
        go_wp2
        go_ret
        exact ⟨by first | rfl | (simp <;> rfl) | (simp [*] <;> rfl), by repeat (first | (with_reducible first | exact HB.out | apply below_alloc | apply pw_below_drewN | apply below_drew1 | refine below_set ?_ GE147.out) | exact HB.out)⟩
      · replace c12 := Bool.eq_false_iff.mpr c12
        subst c12
        have H1 : (butterylaw15_Few.l0 kj2 l1 0 l0_0 a0_1 a0_2 a0_3 a0_4 a0_5 a0_6 a0_7 l0_8 l0_9 a0_10) = some r := by rw [if_neg (show ¬ (false = true) by decide)] at H; exact H
        clear H
        have H := H1
        clear H1
        have H' := Aside0.mk H
        clear H
        go_wp2
        go_loopg [5] kj2 (fun kq v5 w' => ∃ (x5_2 : Int), v5 = .int .i64 x5_2 ∧ Aside0 (butterylaw15_Few.l0 kq l1 x5_2 l0_0 a0_1 a0_2 a0_3 a0_4 a0_5 a0_6 a0_7 l0_8 l0_9 a0_10 = some r) ∧ Aside0 (kq ≤ kj2) ∧ Aside0 (w'.heap[gb147]? = some (.cells #[(.slice A0_0 l0_0.length c0_0), .int .i64 a0_1, .string a0_2, .int .i64 a0_3, .int .u32 a0_4, .bool a0_5, .bool a0_6, .string a0_7, (.slice A0_8 l0_8.length c0_8), (.slice A0_9 l0_9.length c0_9), .bool a0_10] 28 (0, 0))) ∧ Aside0 (Below w.heap.size w w'))
        case atStart => exact ⟨(0), (by first | rfl | (simp; done) | (simp [*]; done)), H', ⟨Nat.le_refl _⟩, ⟨by (with_reducible repeat (first | refine blk_drewN ?_ _ | refine blk_drew ?_ | refine blk_alloc ?_ _)); exact BK147.out⟩, ⟨by repeat (first | (with_reducible first | exact HB.out | apply below_alloc | apply pw_below_drewN | apply below_drew1 | refine below_set ?_ GE147.out) | exact HB.out)⟩⟩
        case round =>
          clear H'
          try clear c1
          try clear p2
          try clear c5
          try clear c5b0
          try clear c5b1
          try clear c7
          try clear c7b0
          try clear c7b1
          try clear c9
          try clear c9b0
          try clear c9b1
          try clear c12
          try clear hcz10_0
          try clear hcz10_1
          try clear hcz10_10
          try clear hcz10_2
          try clear hcz10_3
          try clear hcz10_4
          try clear hcz10_5
          try clear hcz10_6
          try clear hcz10_7
          try clear hcz10_8
          try clear hcz10_9
          try clear hcz11_0
          try clear hcz11_1
          try clear hcz11_10
          try clear hcz11_2
          try clear hcz11_3
          try clear hcz11_4
          try clear hcz11_5
          try clear hcz11_6
          try clear hcz11_7
          try clear hcz11_8
          try clear hcz11_9
          try clear hcz6_0
          try clear hcz6_1
          try clear hcz6_10
          try clear hcz6_2
          try clear hcz6_3
          try clear hcz6_4
          try clear hcz6_5
          try clear hcz6_6
          try clear hcz6_7
          try clear hcz6_8
          try clear hcz6_9
          try clear hcz8_0
          try clear hcz8_1
          try clear hcz8_10
          try clear hcz8_2
          try clear hcz8_3
          try clear hcz8_4
          try clear hcz8_5
          try clear hcz8_6
          try clear hcz8_7
          try clear hcz8_8
          try clear hcz8_9
          try clear hfz10_0
          try clear hfz10_1
          try clear hfz10_10
          try clear hfz10_2
          try clear hfz10_3
          try clear hfz10_4
          try clear hfz10_5
          try clear hfz10_6
          try clear hfz10_7
          try clear hfz10_8
          try clear hfz10_9
          try clear hfz11_0
          try clear hfz11_1
          try clear hfz11_10
          try clear hfz11_2
          try clear hfz11_3
          try clear hfz11_4
          try clear hfz11_5
          try clear hfz11_6
          try clear hfz11_7
          try clear hfz11_8
          try clear hfz11_9
          try clear hfz6_0
          try clear hfz6_1
          try clear hfz6_10
          try clear hfz6_2
          try clear hfz6_3
          try clear hfz6_4
          try clear hfz6_5
          try clear hfz6_6
          try clear hfz6_7
          try clear hfz6_8
          try clear hfz6_9
          try clear hfz8_0
          try clear hfz8_1
          try clear hfz8_10
          try clear hfz8_2
          try clear hfz8_3
          try clear hfz8_4
          try clear hfz8_5
          try clear hfz8_6
          try clear hfz8_7
          try clear hfz8_8
          try clear hfz8_9
          try clear p2
          obtain ⟨x5_2, rfl, HA, HK2, BK147, HB⟩ := hrel
          cases gk with
          | zero => exact absurd HA.out (by simp [butterylaw15_Few.l0])
          | succ k2 =>
            have H := HA.out
            clear HA
            simp only [butterylaw15_Few.l0] at H
            by_cases c13 : x5_2 < (l0_8.length : Int)
            · rw [if_pos c13] at H
              have c13b0 : decide (x5_2 < (l0_8.length : Int)) = true := decide_eq_true c13
              clear c13
              by_cases c14 : 0 ≤ x5_2
              · rw [if_pos c14] at H
                have c14b0 : decide (0 ≤ x5_2) = true := decide_eq_true c14
                clear c14
                by_cases c15 : ((rdOf ByteArray.empty l0_8 x5_2).size : Int) > 300
                · rw [if_pos c15] at H
                  have c15b0 : decide (300 < ((rdOf ByteArray.empty l0_8 x5_2).size : Int)) = true := decide_eq_true c15
                  have c15b1 : decide (300 < (rdOf ByteArray.empty l0_8 x5_2).size) = true := decide_eq_true (by omega)
                  clear c15
                  obtain rfl := Option.some.inj H
                  have hcz16_0 : wr.cell? ⟨gb147, 0, none⟩ = some (.slice A0_0 l0_0.length c0_0) := (blk_cell BK147.out 0).trans rfl
                  have hcz16_1 : wr.cell? ⟨gb147, 1, none⟩ = some (.int .i64 a0_1) := (blk_cell BK147.out 1).trans rfl
                  have hcz16_2 : wr.cell? ⟨gb147, 2, none⟩ = some (.string a0_2) := (blk_cell BK147.out 2).trans rfl
                  have hcz16_3 : wr.cell? ⟨gb147, 3, none⟩ = some (.int .i64 a0_3) := (blk_cell BK147.out 3).trans rfl
                  have hcz16_4 : wr.cell? ⟨gb147, 4, none⟩ = some (.int .u32 a0_4) := (blk_cell BK147.out 4).trans rfl
                  have hcz16_5 : wr.cell? ⟨gb147, 5, none⟩ = some (.bool a0_5) := (blk_cell BK147.out 5).trans rfl
                  have hcz16_6 : wr.cell? ⟨gb147, 6, none⟩ = some (.bool a0_6) := (blk_cell BK147.out 6).trans rfl
                  have hcz16_7 : wr.cell? ⟨gb147, 7, none⟩ = some (.string a0_7) := (blk_cell BK147.out 7).trans rfl
                  have hcz16_8 : wr.cell? ⟨gb147, 8, none⟩ = some (.slice A0_8 l0_8.length c0_8) := (blk_cell BK147.out 8).trans rfl
                  have hcz16_9 : wr.cell? ⟨gb147, 9, none⟩ = some (.slice A0_9 l0_9.length c0_9) := (blk_cell BK147.out 9).trans rfl
                  have hcz16_10 : wr.cell? ⟨gb147, 10, none⟩ = some (.bool a0_10) := (blk_cell BK147.out 10).trans rfl
                  have hfz16_0 := blk_frozen BK147.out 0
                  have hfz16_1 := blk_frozen BK147.out 1
                  have hfz16_2 := blk_frozen BK147.out 2
                  have hfz16_3 := blk_frozen BK147.out 3
                  have hfz16_4 := blk_frozen BK147.out 4
                  have hfz16_5 := blk_frozen BK147.out 5
                  have hfz16_6 := blk_frozen BK147.out 6
                  have hfz16_7 := blk_frozen BK147.out 7
                  have hfz16_8 := blk_frozen BK147.out 8
                  have hfz16_9 := blk_frozen BK147.out 9
                  have hfz16_10 := blk_frozen BK147.out 10
                  have p148 : 0 ≤ (x5_2 : Int) := of_decide_eq_true (by first | (with_reducible assumption) | assumption)
                  have q148 : x5_2 < (l0_8.length : Int) := of_decide_eq_true (by first | (with_reducible assumption) | assumption)
                  obtain ⟨ad148, e148, hx148_0⟩ := Kd.at_string HR0_8.out x5_2 p148 q148
                  cases e148
                  replace hx148_0 := (HB.out.cell (World.block_lt_of_cell? w _ hx148_0)).trans hx148_0
                  replace p148 := eq_true p148
                  replace q148 := eq_true q148
                  go_wp2
                  go_ret
                  exact ⟨by first | rfl | (simp <;> rfl) | (simp [*] <;> rfl), by repeat (first | (with_reducible first | exact HB.out | apply below_alloc | apply pw_below_drewN | apply below_drew1 | refine below_set ?_ GE147.out) | exact HB.out)⟩
                · rw [if_neg c15] at H
                  have c15b0 : decide (300 < ((rdOf ByteArray.empty l0_8 x5_2).size : Int)) = false := decide_eq_false c15
                  have c15b1 : decide (300 < (rdOf ByteArray.empty l0_8 x5_2).size) = false := decide_eq_false (by omega)
                  clear c15
                  have H' := Aside0.mk H
                  clear H
                  have hcz17_0 : wr.cell? ⟨gb147, 0, none⟩ = some (.slice A0_0 l0_0.length c0_0) := (blk_cell BK147.out 0).trans rfl
                  have hcz17_1 : wr.cell? ⟨gb147, 1, none⟩ = some (.int .i64 a0_1) := (blk_cell BK147.out 1).trans rfl
                  have hcz17_2 : wr.cell? ⟨gb147, 2, none⟩ = some (.string a0_2) := (blk_cell BK147.out 2).trans rfl
                  have hcz17_3 : wr.cell? ⟨gb147, 3, none⟩ = some (.int .i64 a0_3) := (blk_cell BK147.out 3).trans rfl
                  have hcz17_4 : wr.cell? ⟨gb147, 4, none⟩ = some (.int .u32 a0_4) := (blk_cell BK147.out 4).trans rfl
                  have hcz17_5 : wr.cell? ⟨gb147, 5, none⟩ = some (.bool a0_5) := (blk_cell BK147.out 5).trans rfl
                  have hcz17_6 : wr.cell? ⟨gb147, 6, none⟩ = some (.bool a0_6) := (blk_cell BK147.out 6).trans rfl
                  have hcz17_7 : wr.cell? ⟨gb147, 7, none⟩ = some (.string a0_7) := (blk_cell BK147.out 7).trans rfl
                  have hcz17_8 : wr.cell? ⟨gb147, 8, none⟩ = some (.slice A0_8 l0_8.length c0_8) := (blk_cell BK147.out 8).trans rfl
                  have hcz17_9 : wr.cell? ⟨gb147, 9, none⟩ = some (.slice A0_9 l0_9.length c0_9) := (blk_cell BK147.out 9).trans rfl
                  have hcz17_10 : wr.cell? ⟨gb147, 10, none⟩ = some (.bool a0_10) := (blk_cell BK147.out 10).trans rfl
                  have hfz17_0 := blk_frozen BK147.out 0
                  have hfz17_1 := blk_frozen BK147.out 1
                  have hfz17_2 := blk_frozen BK147.out 2
                  have hfz17_3 := blk_frozen BK147.out 3
                  have hfz17_4 := blk_frozen BK147.out 4
                  have hfz17_5 := blk_frozen BK147.out 5
                  have hfz17_6 := blk_frozen BK147.out 6
                  have hfz17_7 := blk_frozen BK147.out 7
                  have hfz17_8 := blk_frozen BK147.out 8
                  have hfz17_9 := blk_frozen BK147.out 9
                  have hfz17_10 := blk_frozen BK147.out 10
                  have p148 : 0 ≤ (x5_2 : Int) := of_decide_eq_true (by first | (with_reducible assumption) | assumption)
                  have q148 : x5_2 < (l0_8.length : Int) := of_decide_eq_true (by first | (with_reducible assumption) | assumption)
                  obtain ⟨ad148, e148, hx148_0⟩ := Kd.at_string HR0_8.out x5_2 p148 q148
                  cases e148
                  replace hx148_0 := (HB.out.cell (World.block_lt_of_cell? w _ hx148_0)).trans hx148_0
                  replace p148 := eq_true p148
                  replace q148 := eq_true q148
                  go_wp2
                  go_roundg k2
                  case measure => have := HJ2.out; have := HK2.out; omega
                  case rel => exact ⟨(wrap64 (x5_2 + 1)), (by first | rfl | (simp; done) | (simp [*]; done)), H', ⟨by have := HJ2.out; have := HK2.out; omega⟩, ⟨by (with_reducible repeat (first | refine blk_drewN ?_ _ | refine blk_drew ?_ | refine blk_alloc ?_ _)); exact BK147.out⟩, ⟨by repeat (first | (with_reducible first | exact HB.out | apply below_alloc | apply pw_below_drewN | apply below_drew1 | refine below_set ?_ GE147.out) | exact HB.out)⟩⟩
              · rw [if_neg c14] at H
                exact absurd H (by simp)
            · rw [if_neg c13] at H
              have c13b0 : decide (x5_2 < (l0_8.length : Int)) = false := decide_eq_false c13
              clear c13
              have H' := Aside0.mk H
              clear H
              have hcz18_0 : wr.cell? ⟨gb147, 0, none⟩ = some (.slice A0_0 l0_0.length c0_0) := (blk_cell BK147.out 0).trans rfl
              have hcz18_1 : wr.cell? ⟨gb147, 1, none⟩ = some (.int .i64 a0_1) := (blk_cell BK147.out 1).trans rfl
              have hcz18_2 : wr.cell? ⟨gb147, 2, none⟩ = some (.string a0_2) := (blk_cell BK147.out 2).trans rfl
              have hcz18_3 : wr.cell? ⟨gb147, 3, none⟩ = some (.int .i64 a0_3) := (blk_cell BK147.out 3).trans rfl
              have hcz18_4 : wr.cell? ⟨gb147, 4, none⟩ = some (.int .u32 a0_4) := (blk_cell BK147.out 4).trans rfl
              have hcz18_5 : wr.cell? ⟨gb147, 5, none⟩ = some (.bool a0_5) := (blk_cell BK147.out 5).trans rfl
              have hcz18_6 : wr.cell? ⟨gb147, 6, none⟩ = some (.bool a0_6) := (blk_cell BK147.out 6).trans rfl
              have hcz18_7 : wr.cell? ⟨gb147, 7, none⟩ = some (.string a0_7) := (blk_cell BK147.out 7).trans rfl
              have hcz18_8 : wr.cell? ⟨gb147, 8, none⟩ = some (.slice A0_8 l0_8.length c0_8) := (blk_cell BK147.out 8).trans rfl
              have hcz18_9 : wr.cell? ⟨gb147, 9, none⟩ = some (.slice A0_9 l0_9.length c0_9) := (blk_cell BK147.out 9).trans rfl
              have hcz18_10 : wr.cell? ⟨gb147, 10, none⟩ = some (.bool a0_10) := (blk_cell BK147.out 10).trans rfl
              have hfz18_0 := blk_frozen BK147.out 0
              have hfz18_1 := blk_frozen BK147.out 1
              have hfz18_2 := blk_frozen BK147.out 2
              have hfz18_3 := blk_frozen BK147.out 3
              have hfz18_4 := blk_frozen BK147.out 4
              have hfz18_5 := blk_frozen BK147.out 5
              have hfz18_6 := blk_frozen BK147.out 6
              have hfz18_7 := blk_frozen BK147.out 7
              have hfz18_8 := blk_frozen BK147.out 8
              have hfz18_9 := blk_frozen BK147.out 9
              have hfz18_10 := blk_frozen BK147.out 10
              go_wp2
              go_loopg [6] k2 (fun kq v6 w' => ∃ (x6_3 : Int), v6 = .int .i64 x6_3 ∧ Aside0 (butterylaw15_Few.l1 kq l1 x6_3 l0_0 a0_1 a0_2 a0_3 a0_4 a0_5 a0_6 a0_7 l0_8 l0_9 a0_10 = some r) ∧ Aside0 (kq ≤ k2) ∧ Aside0 (w'.heap[gb147]? = some (.cells #[(.slice A0_0 l0_0.length c0_0), .int .i64 a0_1, .string a0_2, .int .i64 a0_3, .int .u32 a0_4, .bool a0_5, .bool a0_6, .string a0_7, (.slice A0_8 l0_8.length c0_8), (.slice A0_9 l0_9.length c0_9), .bool a0_10] 28 (0, 0))) ∧ Aside0 (Below w.heap.size w w'))
              case atStart => exact ⟨(0), (by first | rfl | (simp; done) | (simp [*]; done)), H', ⟨Nat.le_refl _⟩, ⟨by (with_reducible repeat (first | refine blk_drewN ?_ _ | refine blk_drew ?_ | refine blk_alloc ?_ _)); exact BK147.out⟩, ⟨by repeat (first | (with_reducible first | exact HB.out | apply below_alloc | apply pw_below_drewN | apply below_drew1 | refine below_set ?_ GE147.out) | exact HB.out)⟩⟩
              case round =>
                clear H'
                try clear c1
                try clear p1
                try clear q1
                try clear hx1
                try clear p2
                try clear c5
                try clear c5b0
                try clear c5b1
                try clear p6
                try clear c7
                try clear c7b0
                try clear c7b1
                try clear c9
                try clear c9b0
                try clear c9b1
                try clear c12
                try clear c13
                try clear c13b0
                try clear c14
                try clear c14b0
                try clear p14
                try clear q14
                try clear hx14
                try clear c15
                try clear c15b0
                try clear c15b1
                try clear hcz10_0
                try clear hcz10_1
                try clear hcz10_10
                try clear hcz10_2
                try clear hcz10_3
                try clear hcz10_4
                try clear hcz10_5
                try clear hcz10_6
                try clear hcz10_7
                try clear hcz10_8
                try clear hcz10_9
                try clear hcz11_0
                try clear hcz11_1
                try clear hcz11_10
                try clear hcz11_2
                try clear hcz11_3
                try clear hcz11_4
                try clear hcz11_5
                try clear hcz11_6
                try clear hcz11_7
                try clear hcz11_8
                try clear hcz11_9
                try clear hcz16_0
                try clear hcz16_1
                try clear hcz16_10
                try clear hcz16_2
                try clear hcz16_3
                try clear hcz16_4
                try clear hcz16_5
                try clear hcz16_6
                try clear hcz16_7
                try clear hcz16_8
                try clear hcz16_9
                try clear hcz17_0
                try clear hcz17_1
                try clear hcz17_10
                try clear hcz17_2
                try clear hcz17_3
                try clear hcz17_4
                try clear hcz17_5
                try clear hcz17_6
                try clear hcz17_7
                try clear hcz17_8
                try clear hcz17_9
                try clear hcz18_0
                try clear hcz18_1
                try clear hcz18_10
                try clear hcz18_2
                try clear hcz18_3
                try clear hcz18_4
                try clear hcz18_5
                try clear hcz18_6
                try clear hcz18_7
                try clear hcz18_8
                try clear hcz18_9
                try clear hcz6_0
                try clear hcz6_1
                try clear hcz6_10
                try clear hcz6_2
                try clear hcz6_3
                try clear hcz6_4
                try clear hcz6_5
                try clear hcz6_6
                try clear hcz6_7
                try clear hcz6_8
                try clear hcz6_9
                try clear hcz8_0
                try clear hcz8_1
                try clear hcz8_10
                try clear hcz8_2
                try clear hcz8_3
                try clear hcz8_4
                try clear hcz8_5
                try clear hcz8_6
                try clear hcz8_7
                try clear hcz8_8
                try clear hcz8_9
                try clear hfz10_0
                try clear hfz10_1
                try clear hfz10_10
                try clear hfz10_2
                try clear hfz10_3
                try clear hfz10_4
                try clear hfz10_5
                try clear hfz10_6
                try clear hfz10_7
                try clear hfz10_8
                try clear hfz10_9
                try clear hfz11_0
                try clear hfz11_1
                try clear hfz11_10
                try clear hfz11_2
                try clear hfz11_3
                try clear hfz11_4
                try clear hfz11_5
                try clear hfz11_6
                try clear hfz11_7
                try clear hfz11_8
                try clear hfz11_9
                try clear hfz16_0
                try clear hfz16_1
                try clear hfz16_10
                try clear hfz16_2
                try clear hfz16_3
                try clear hfz16_4
                try clear hfz16_5
                try clear hfz16_6
                try clear hfz16_7
                try clear hfz16_8
                try clear hfz16_9
                try clear hfz17_0
                try clear hfz17_1
                try clear hfz17_10
                try clear hfz17_2
                try clear hfz17_3
                try clear hfz17_4
                try clear hfz17_5
                try clear hfz17_6
                try clear hfz17_7
                try clear hfz17_8
                try clear hfz17_9
                try clear hfz18_0
                try clear hfz18_1
                try clear hfz18_10
                try clear hfz18_2
                try clear hfz18_3
                try clear hfz18_4
                try clear hfz18_5
                try clear hfz18_6
                try clear hfz18_7
                try clear hfz18_8
                try clear hfz18_9
                try clear hfz6_0
                try clear hfz6_1
                try clear hfz6_10
                try clear hfz6_2
                try clear hfz6_3
                try clear hfz6_4
                try clear hfz6_5
                try clear hfz6_6
                try clear hfz6_7
                try clear hfz6_8
                try clear hfz6_9
                try clear hfz8_0
                try clear hfz8_1
                try clear hfz8_10
                try clear hfz8_2
                try clear hfz8_3
                try clear hfz8_4
                try clear hfz8_5
                try clear hfz8_6
                try clear hfz8_7
                try clear hfz8_8
                try clear hfz8_9
                try clear hx148_0
                try clear p148
                try clear p2
                try clear q148
                obtain ⟨x6_3, rfl, HA, HK3, BK147, HB⟩ := hrel
                cases gk with
                | zero => exact absurd HA.out (by simp [butterylaw15_Few.l1])
                | succ k3 =>
                  have H := HA.out
                  clear HA
                  simp only [butterylaw15_Few.l1] at H
                  by_cases c19 : x6_3 < (l0_0.length : Int)
                  · rw [if_pos c19] at H
                    have c19b0 : decide (x6_3 < (l0_0.length : Int)) = true := decide_eq_true c19
                    clear c19
                    by_cases c20 : 0 ≤ x6_3
                    · rw [if_pos c20] at H
                      have c20b0 : decide (0 ≤ x6_3) = true := decide_eq_true c20
                      clear c20
                      by_cases c21 : (((rd_T38 l0_0 x6_3).f1).size : Int) > 300
                      · rw [if_pos c21] at H
                        have c21b0 : decide (300 < (((rd_T38 l0_0 x6_3).f1).size : Int)) = true := decide_eq_true c21
                        have c21b1 : decide (300 < ((rd_T38 l0_0 x6_3).f1).size) = true := decide_eq_true (by omega)
                        clear c21
                        obtain rfl := Option.some.inj H
                        have hcz22_0 : wr.cell? ⟨gb147, 0, none⟩ = some (.slice A0_0 l0_0.length c0_0) := (blk_cell BK147.out 0).trans rfl
                        have hcz22_1 : wr.cell? ⟨gb147, 1, none⟩ = some (.int .i64 a0_1) := (blk_cell BK147.out 1).trans rfl
                        have hcz22_2 : wr.cell? ⟨gb147, 2, none⟩ = some (.string a0_2) := (blk_cell BK147.out 2).trans rfl
                        have hcz22_3 : wr.cell? ⟨gb147, 3, none⟩ = some (.int .i64 a0_3) := (blk_cell BK147.out 3).trans rfl
                        have hcz22_4 : wr.cell? ⟨gb147, 4, none⟩ = some (.int .u32 a0_4) := (blk_cell BK147.out 4).trans rfl
                        have hcz22_5 : wr.cell? ⟨gb147, 5, none⟩ = some (.bool a0_5) := (blk_cell BK147.out 5).trans rfl
                        have hcz22_6 : wr.cell? ⟨gb147, 6, none⟩ = some (.bool a0_6) := (blk_cell BK147.out 6).trans rfl
                        have hcz22_7 : wr.cell? ⟨gb147, 7, none⟩ = some (.string a0_7) := (blk_cell BK147.out 7).trans rfl
                        have hcz22_8 : wr.cell? ⟨gb147, 8, none⟩ = some (.slice A0_8 l0_8.length c0_8) := (blk_cell BK147.out 8).trans rfl
                        have hcz22_9 : wr.cell? ⟨gb147, 9, none⟩ = some (.slice A0_9 l0_9.length c0_9) := (blk_cell BK147.out 9).trans rfl
                        have hcz22_10 : wr.cell? ⟨gb147, 10, none⟩ = some (.bool a0_10) := (blk_cell BK147.out 10).trans rfl
                        have hfz22_0 := blk_frozen BK147.out 0
                        have hfz22_1 := blk_frozen BK147.out 1
                        have hfz22_2 := blk_frozen BK147.out 2
                        have hfz22_3 := blk_frozen BK147.out 3
                        have hfz22_4 := blk_frozen BK147.out 4
                        have hfz22_5 := blk_frozen BK147.out 5
                        have hfz22_6 := blk_frozen BK147.out 6
                        have hfz22_7 := blk_frozen BK147.out 7
                        have hfz22_8 := blk_frozen BK147.out 8
                        have hfz22_9 := blk_frozen BK147.out 9
                        have hfz22_10 := blk_frozen BK147.out 10
                        have p149 : 0 ≤ (x6_3 : Int) := of_decide_eq_true (by first | (with_reducible assumption) | assumption)
                        have q149 : x6_3 < (l0_0.length : Int) := of_decide_eq_true (by first | (with_reducible assumption) | assumption)
                        obtain ⟨ad149, A149_2, c149_2, e149, hx149_0, hx149_1, hx149_2, hx149_3, hx149_4, hx149_5, hx149_6, hx149_7, hx149_8, hx149_9, hl149_2, hi149_2⟩ := at_T38 HR0_0.out x6_3 p149 q149
                        cases e149
                        replace hx149_0 := (HB.out.cell (World.block_lt_of_cell? w _ hx149_0)).trans hx149_0
                        replace hx149_1 := (HB.out.cell (World.block_lt_of_cell? w _ hx149_1)).trans hx149_1
                        replace hx149_2 := (HB.out.cell (World.block_lt_of_cell? w _ hx149_2)).trans hx149_2
                        replace hx149_3 := (HB.out.cell (World.block_lt_of_cell? w _ hx149_3)).trans hx149_3
                        replace hx149_4 := (HB.out.cell (World.block_lt_of_cell? w _ hx149_4)).trans hx149_4
                        replace hx149_5 := (HB.out.cell (World.block_lt_of_cell? w _ hx149_5)).trans hx149_5
                        replace hx149_6 := (HB.out.cell (World.block_lt_of_cell? w _ hx149_6)).trans hx149_6
                        replace hx149_7 := (HB.out.cell (World.block_lt_of_cell? w _ hx149_7)).trans hx149_7
                        replace hx149_8 := (HB.out.cell (World.block_lt_of_cell? w _ hx149_8)).trans hx149_8
                        replace hx149_9 := (HB.out.cell (World.block_lt_of_cell? w _ hx149_9)).trans hx149_9
                        have HR149_2 := Aside0.mk hi149_2
                        have HC149_2 := Aside0.mk hl149_2
                        clear hi149_2 hl149_2
                        replace p149 := eq_true p149
                        replace q149 := eq_true q149
                        go_wp2
                        go_ret
                        exact ⟨by first | rfl | (simp <;> rfl) | (simp [*] <;> rfl), by repeat (first | (with_reducible first | exact HB.out | apply below_alloc | apply pw_below_drewN | apply below_drew1 | refine below_set ?_ GE147.out) | exact HB.out)⟩
                      · rw [if_neg c21] at H
                        have c21b0 : decide (300 < (((rd_T38 l0_0 x6_3).f1).size : Int)) = false := decide_eq_false c21
                        have c21b1 : decide (300 < ((rd_T38 l0_0 x6_3).f1).size) = false := decide_eq_false (by omega)
                        clear c21
                        have H' := Aside0.mk H
                        clear H
                        have hcz23_0 : wr.cell? ⟨gb147, 0, none⟩ = some (.slice A0_0 l0_0.length c0_0) := (blk_cell BK147.out 0).trans rfl
                        have hcz23_1 : wr.cell? ⟨gb147, 1, none⟩ = some (.int .i64 a0_1) := (blk_cell BK147.out 1).trans rfl
                        have hcz23_2 : wr.cell? ⟨gb147, 2, none⟩ = some (.string a0_2) := (blk_cell BK147.out 2).trans rfl
                        have hcz23_3 : wr.cell? ⟨gb147, 3, none⟩ = some (.int .i64 a0_3) := (blk_cell BK147.out 3).trans rfl
                        have hcz23_4 : wr.cell? ⟨gb147, 4, none⟩ = some (.int .u32 a0_4) := (blk_cell BK147.out 4).trans rfl
                        have hcz23_5 : wr.cell? ⟨gb147, 5, none⟩ = some (.bool a0_5) := (blk_cell BK147.out 5).trans rfl
                        have hcz23_6 : wr.cell? ⟨gb147, 6, none⟩ = some (.bool a0_6) := (blk_cell BK147.out 6).trans rfl
                        have hcz23_7 : wr.cell? ⟨gb147, 7, none⟩ = some (.string a0_7) := (blk_cell BK147.out 7).trans rfl
                        have hcz23_8 : wr.cell? ⟨gb147, 8, none⟩ = some (.slice A0_8 l0_8.length c0_8) := (blk_cell BK147.out 8).trans rfl
                        have hcz23_9 : wr.cell? ⟨gb147, 9, none⟩ = some (.slice A0_9 l0_9.length c0_9) := (blk_cell BK147.out 9).trans rfl
                        have hcz23_10 : wr.cell? ⟨gb147, 10, none⟩ = some (.bool a0_10) := (blk_cell BK147.out 10).trans rfl
                        have hfz23_0 := blk_frozen BK147.out 0
                        have hfz23_1 := blk_frozen BK147.out 1
                        have hfz23_2 := blk_frozen BK147.out 2
                        have hfz23_3 := blk_frozen BK147.out 3
                        have hfz23_4 := blk_frozen BK147.out 4
                        have hfz23_5 := blk_frozen BK147.out 5
                        have hfz23_6 := blk_frozen BK147.out 6
                        have hfz23_7 := blk_frozen BK147.out 7
                        have hfz23_8 := blk_frozen BK147.out 8
                        have hfz23_9 := blk_frozen BK147.out 9
                        have hfz23_10 := blk_frozen BK147.out 10
                        have p149 : 0 ≤ (x6_3 : Int) := of_decide_eq_true (by first | (with_reducible assumption) | assumption)
                        have q149 : x6_3 < (l0_0.length : Int) := of_decide_eq_true (by first | (with_reducible assumption) | assumption)
                        obtain ⟨ad149, A149_2, c149_2, e149, hx149_0, hx149_1, hx149_2, hx149_3, hx149_4, hx149_5, hx149_6, hx149_7, hx149_8, hx149_9, hl149_2, hi149_2⟩ := at_T38 HR0_0.out x6_3 p149 q149
                        cases e149
                        replace hx149_0 := (HB.out.cell (World.block_lt_of_cell? w _ hx149_0)).trans hx149_0
                        replace hx149_1 := (HB.out.cell (World.block_lt_of_cell? w _ hx149_1)).trans hx149_1
                        replace hx149_2 := (HB.out.cell (World.block_lt_of_cell? w _ hx149_2)).trans hx149_2
                        replace hx149_3 := (HB.out.cell (World.block_lt_of_cell? w _ hx149_3)).trans hx149_3
                        replace hx149_4 := (HB.out.cell (World.block_lt_of_cell? w _ hx149_4)).trans hx149_4
                        replace hx149_5 := (HB.out.cell (World.block_lt_of_cell? w _ hx149_5)).trans hx149_5
                        replace hx149_6 := (HB.out.cell (World.block_lt_of_cell? w _ hx149_6)).trans hx149_6
                        replace hx149_7 := (HB.out.cell (World.block_lt_of_cell? w _ hx149_7)).trans hx149_7
                        replace hx149_8 := (HB.out.cell (World.block_lt_of_cell? w _ hx149_8)).trans hx149_8
                        replace hx149_9 := (HB.out.cell (World.block_lt_of_cell? w _ hx149_9)).trans hx149_9
                        have HR149_2 := Aside0.mk hi149_2
                        have HC149_2 := Aside0.mk hl149_2
                        clear hi149_2 hl149_2
                        replace p149 := eq_true p149
                        replace q149 := eq_true q149
                        go_wp2
                        go_roundg k3
                        case measure => have := HJ2.out; have := HK2.out; have := HK3.out; omega
                        case rel => exact ⟨(wrap64 (x6_3 + 1)), (by first | rfl | (simp; done) | (simp [*]; done)), H', ⟨by have := HJ2.out; have := HK2.out; have := HK3.out; omega⟩, ⟨by (with_reducible repeat (first | refine blk_drewN ?_ _ | refine blk_drew ?_ | refine blk_alloc ?_ _)); exact BK147.out⟩, ⟨by repeat (first | (with_reducible first | exact HB.out | apply below_alloc | apply pw_below_drewN | apply below_drew1 | refine below_set ?_ GE147.out) | exact HB.out)⟩⟩
                    · rw [if_neg c20] at H
                      exact absurd H (by simp)
                  · rw [if_neg c19] at H
                    have c19b0 : decide (x6_3 < (l0_0.length : Int)) = false := decide_eq_false c19
                    clear c19
                    have H' := Aside0.mk H
                    clear H
                    have hcz24_0 : wr.cell? ⟨gb147, 0, none⟩ = some (.slice A0_0 l0_0.length c0_0) := (blk_cell BK147.out 0).trans rfl
                    have hcz24_1 : wr.cell? ⟨gb147, 1, none⟩ = some (.int .i64 a0_1) := (blk_cell BK147.out 1).trans rfl
                    have hcz24_2 : wr.cell? ⟨gb147, 2, none⟩ = some (.string a0_2) := (blk_cell BK147.out 2).trans rfl
                    have hcz24_3 : wr.cell? ⟨gb147, 3, none⟩ = some (.int .i64 a0_3) := (blk_cell BK147.out 3).trans rfl
                    have hcz24_4 : wr.cell? ⟨gb147, 4, none⟩ = some (.int .u32 a0_4) := (blk_cell BK147.out 4).trans rfl
                    have hcz24_5 : wr.cell? ⟨gb147, 5, none⟩ = some (.bool a0_5) := (blk_cell BK147.out 5).trans rfl
                    have hcz24_6 : wr.cell? ⟨gb147, 6, none⟩ = some (.bool a0_6) := (blk_cell BK147.out 6).trans rfl
                    have hcz24_7 : wr.cell? ⟨gb147, 7, none⟩ = some (.string a0_7) := (blk_cell BK147.out 7).trans rfl
                    have hcz24_8 : wr.cell? ⟨gb147, 8, none⟩ = some (.slice A0_8 l0_8.length c0_8) := (blk_cell BK147.out 8).trans rfl
                    have hcz24_9 : wr.cell? ⟨gb147, 9, none⟩ = some (.slice A0_9 l0_9.length c0_9) := (blk_cell BK147.out 9).trans rfl
                    have hcz24_10 : wr.cell? ⟨gb147, 10, none⟩ = some (.bool a0_10) := (blk_cell BK147.out 10).trans rfl
                    have hfz24_0 := blk_frozen BK147.out 0
                    have hfz24_1 := blk_frozen BK147.out 1
                    have hfz24_2 := blk_frozen BK147.out 2
                    have hfz24_3 := blk_frozen BK147.out 3
                    have hfz24_4 := blk_frozen BK147.out 4
                    have hfz24_5 := blk_frozen BK147.out 5
                    have hfz24_6 := blk_frozen BK147.out 6
                    have hfz24_7 := blk_frozen BK147.out 7
                    have hfz24_8 := blk_frozen BK147.out 8
                    have hfz24_9 := blk_frozen BK147.out 9
                    have hfz24_10 := blk_frozen BK147.out 10
                    go_wp2
                    go_loopg [7] k3 (fun kq v7 w' => ∃ (x7_4 : Int), v7 = .int .i64 x7_4 ∧ Aside0 (butterylaw15_Few.l2 kq l1 x7_4 = some r) ∧ Aside0 (kq ≤ k3) ∧ Aside0 (w'.heap[gb147]? = some (.cells #[(.slice A0_0 l0_0.length c0_0), .int .i64 a0_1, .string a0_2, .int .i64 a0_3, .int .u32 a0_4, .bool a0_5, .bool a0_6, .string a0_7, (.slice A0_8 l0_8.length c0_8), (.slice A0_9 l0_9.length c0_9), .bool a0_10] 28 (0, 0))) ∧ Aside0 (Below w.heap.size w w'))
                    case atStart => exact ⟨(0), (by first | rfl | (simp; done) | (simp [*]; done)), H', ⟨Nat.le_refl _⟩, ⟨by (with_reducible repeat (first | refine blk_drewN ?_ _ | refine blk_drew ?_ | refine blk_alloc ?_ _)); exact BK147.out⟩, ⟨by repeat (first | (with_reducible first | exact HB.out | apply below_alloc | apply pw_below_drewN | apply below_drew1 | refine below_set ?_ GE147.out) | exact HB.out)⟩⟩
                    case round =>
                      clear H'
                      try clear c1
                      try clear p1
                      try clear q1
                      try clear hx1
                      try clear c2
                      try clear p2
                      try clear c5
                      try clear c5b0
                      try clear c5b1
                      try clear p6
                      try clear c7
                      try clear c7b0
                      try clear c7b1
                      try clear c9
                      try clear c9b0
                      try clear c9b1
                      try clear c12
                      try clear c13
                      try clear c13b0
                      try clear c14
                      try clear c14b0
                      try clear p14
                      try clear q14
                      try clear hx14
                      try clear c15
                      try clear c15b0
                      try clear c15b1
                      try clear c19
                      try clear c19b0
                      try clear c20
                      try clear c20b0
                      try clear c21
                      try clear c21b0
                      try clear c21b1
                      try clear hcz10_0
                      try clear hcz10_1
                      try clear hcz10_10
                      try clear hcz10_2
                      try clear hcz10_3
                      try clear hcz10_4
                      try clear hcz10_5
                      try clear hcz10_6
                      try clear hcz10_7
                      try clear hcz10_8
                      try clear hcz10_9
                      try clear hcz11_0
                      try clear hcz11_1
                      try clear hcz11_10
                      try clear hcz11_2
                      try clear hcz11_3
                      try clear hcz11_4
                      try clear hcz11_5
                      try clear hcz11_6
                      try clear hcz11_7
                      try clear hcz11_8
                      try clear hcz11_9
                      try clear hcz16_0
                      try clear hcz16_1
                      try clear hcz16_10
                      try clear hcz16_2
                      try clear hcz16_3
                      try clear hcz16_4
                      try clear hcz16_5
                      try clear hcz16_6
                      try clear hcz16_7
                      try clear hcz16_8
                      try clear hcz16_9
                      try clear hcz17_0
                      try clear hcz17_1
                      try clear hcz17_10
                      try clear hcz17_2
                      try clear hcz17_3
                      try clear hcz17_4
                      try clear hcz17_5
                      try clear hcz17_6
                      try clear hcz17_7
                      try clear hcz17_8
                      try clear hcz17_9
                      try clear hcz18_0
                      try clear hcz18_1
                      try clear hcz18_10
                      try clear hcz18_2
                      try clear hcz18_3
                      try clear hcz18_4
                      try clear hcz18_5
                      try clear hcz18_6
                      try clear hcz18_7
                      try clear hcz18_8
                      try clear hcz18_9
                      try clear hcz22_0
                      try clear hcz22_1
                      try clear hcz22_10
                      try clear hcz22_2
                      try clear hcz22_3
                      try clear hcz22_4
                      try clear hcz22_5
                      try clear hcz22_6
                      try clear hcz22_7
                      try clear hcz22_8
                      try clear hcz22_9
                      try clear hcz23_0
                      try clear hcz23_1
                      try clear hcz23_10
                      try clear hcz23_2
                      try clear hcz23_3
                      try clear hcz23_4
                      try clear hcz23_5
                      try clear hcz23_6
                      try clear hcz23_7
                      try clear hcz23_8
                      try clear hcz23_9
                      try clear hcz24_0
                      try clear hcz24_1
                      try clear hcz24_10
                      try clear hcz24_2
                      try clear hcz24_3
                      try clear hcz24_4
                      try clear hcz24_5
                      try clear hcz24_6
                      try clear hcz24_7
                      try clear hcz24_8
                      try clear hcz24_9
                      try clear hcz6_0
                      try clear hcz6_1
                      try clear hcz6_10
                      try clear hcz6_2
                      try clear hcz6_3
                      try clear hcz6_4
                      try clear hcz6_5
                      try clear hcz6_6
                      try clear hcz6_7
                      try clear hcz6_8
                      try clear hcz6_9
                      try clear hcz8_0
                      try clear hcz8_1
                      try clear hcz8_10
                      try clear hcz8_2
                      try clear hcz8_3
                      try clear hcz8_4
                      try clear hcz8_5
                      try clear hcz8_6
                      try clear hcz8_7
                      try clear hcz8_8
                      try clear hcz8_9
                      try clear hfz10_0
                      try clear hfz10_1
                      try clear hfz10_10
                      try clear hfz10_2
                      try clear hfz10_3
                      try clear hfz10_4
                      try clear hfz10_5
                      try clear hfz10_6
                      try clear hfz10_7
                      try clear hfz10_8
                      try clear hfz10_9
                      try clear hfz11_0
                      try clear hfz11_1
                      try clear hfz11_10
                      try clear hfz11_2
                      try clear hfz11_3
                      try clear hfz11_4
                      try clear hfz11_5
                      try clear hfz11_6
                      try clear hfz11_7
                      try clear hfz11_8
                      try clear hfz11_9
                      try clear hfz16_0
                      try clear hfz16_1
                      try clear hfz16_10
                      try clear hfz16_2
                      try clear hfz16_3
                      try clear hfz16_4
                      try clear hfz16_5
                      try clear hfz16_6
                      try clear hfz16_7
                      try clear hfz16_8
                      try clear hfz16_9
                      try clear hfz17_0
                      try clear hfz17_1
                      try clear hfz17_10
                      try clear hfz17_2
                      try clear hfz17_3
                      try clear hfz17_4
                      try clear hfz17_5
                      try clear hfz17_6
                      try clear hfz17_7
                      try clear hfz17_8
                      try clear hfz17_9
                      try clear hfz18_0
                      try clear hfz18_1
                      try clear hfz18_10
                      try clear hfz18_2
                      try clear hfz18_3
                      try clear hfz18_4
                      try clear hfz18_5
                      try clear hfz18_6
                      try clear hfz18_7
                      try clear hfz18_8
                      try clear hfz18_9
                      try clear hfz22_0
                      try clear hfz22_1
                      try clear hfz22_10
                      try clear hfz22_2
                      try clear hfz22_3
                      try clear hfz22_4
                      try clear hfz22_5
                      try clear hfz22_6
                      try clear hfz22_7
                      try clear hfz22_8
                      try clear hfz22_9
                      try clear hfz23_0
                      try clear hfz23_1
                      try clear hfz23_10
                      try clear hfz23_2
                      try clear hfz23_3
                      try clear hfz23_4
                      try clear hfz23_5
                      try clear hfz23_6
                      try clear hfz23_7
                      try clear hfz23_8
                      try clear hfz23_9
                      try clear hfz24_0
                      try clear hfz24_1
                      try clear hfz24_10
                      try clear hfz24_2
                      try clear hfz24_3
                      try clear hfz24_4
                      try clear hfz24_5
                      try clear hfz24_6
                      try clear hfz24_7
                      try clear hfz24_8
                      try clear hfz24_9
                      try clear hfz6_0
                      try clear hfz6_1
                      try clear hfz6_10
                      try clear hfz6_2
                      try clear hfz6_3
                      try clear hfz6_4
                      try clear hfz6_5
                      try clear hfz6_6
                      try clear hfz6_7
                      try clear hfz6_8
                      try clear hfz6_9
                      try clear hfz8_0
                      try clear hfz8_1
                      try clear hfz8_10
                      try clear hfz8_2
                      try clear hfz8_3
                      try clear hfz8_4
                      try clear hfz8_5
                      try clear hfz8_6
                      try clear hfz8_7
                      try clear hfz8_8
                      try clear hfz8_9
                      try clear hx148_0
                      try clear hx149_0
                      try clear hx149_1
                      try clear hx149_2
                      try clear hx149_3
                      try clear hx149_4
                      try clear hx149_5
                      try clear hx149_6
                      try clear hx149_7
                      try clear hx149_8
                      try clear hx149_9
                      try clear p1
                      try clear p14
                      try clear p148
                      try clear p149
                      try clear p2
                      try clear p6
                      try clear q1
                      try clear q14
                      try clear q148
                      try clear q149
                      obtain ⟨x7_4, rfl, HA, HK4, BK147, HB⟩ := hrel
                      cases gk with
                      | zero => exact absurd HA.out (by simp [butterylaw15_Few.l2])
                      | succ k4 =>
                        have H := HA.out
                        clear HA
                        simp only [butterylaw15_Few.l2] at H
                        by_cases c25 : x7_4 < (l1.length : Int)
                        · rw [if_pos c25] at H
                          have c25b0 : decide (x7_4 < (l1.length : Int)) = true := decide_eq_true c25
                          clear c25
                          by_cases c26 : 0 ≤ x7_4
                          · rw [if_pos c26] at H
                            have c26b0 : decide (0 ≤ x7_4) = true := decide_eq_true c26
                            clear c26
                            by_cases c27 : (((rd_T40 l1 x7_4).f1).length : Int) > 2000
                            · rw [if_pos c27] at H
                              have c27b0 : decide (2000 < (((rd_T40 l1 x7_4).f1).length : Int)) = true := decide_eq_true c27
                              have c27b1 : decide (2000 < ((rd_T40 l1 x7_4).f1).length) = true := decide_eq_true (by omega)
                              clear c27
                              obtain rfl := Option.some.inj H
                              have p150 : 0 ≤ (x7_4 : Int) := of_decide_eq_true (by first | (with_reducible assumption) | assumption)
                              have q150 : x7_4 < (l1.length : Int) := of_decide_eq_true (by first | (with_reducible assumption) | assumption)
                              obtain ⟨ad150, A150_1, c150_1, e150, hx150_0, hx150_1, hx150_2, hx150_3, hx150_4, hx150_5, hx150_6, hx150_7, hx150_8, hl150_1, hi150_1⟩ := at_T40 HR1.out x7_4 p150 q150
                              cases e150
                              replace hx150_0 := (HB.out.cell (World.block_lt_of_cell? w _ hx150_0)).trans hx150_0
                              replace hx150_1 := (HB.out.cell (World.block_lt_of_cell? w _ hx150_1)).trans hx150_1
                              replace hx150_2 := (HB.out.cell (World.block_lt_of_cell? w _ hx150_2)).trans hx150_2
                              replace hx150_3 := (HB.out.cell (World.block_lt_of_cell? w _ hx150_3)).trans hx150_3
                              replace hx150_4 := (HB.out.cell (World.block_lt_of_cell? w _ hx150_4)).trans hx150_4
                              replace hx150_5 := (HB.out.cell (World.block_lt_of_cell? w _ hx150_5)).trans hx150_5
                              replace hx150_6 := (HB.out.cell (World.block_lt_of_cell? w _ hx150_6)).trans hx150_6
                              replace hx150_7 := (HB.out.cell (World.block_lt_of_cell? w _ hx150_7)).trans hx150_7
                              replace hx150_8 := (HB.out.cell (World.block_lt_of_cell? w _ hx150_8)).trans hx150_8
                              have HR150_1 := Aside0.mk hi150_1
                              have HC150_1 := Aside0.mk hl150_1
                              clear hi150_1 hl150_1
                              replace p150 := eq_true p150
                              replace q150 := eq_true q150
                              go_wp2
                              go_ret
                              exact ⟨by first | rfl | (simp <;> rfl) | (simp [*] <;> rfl), by repeat (first | (with_reducible first | exact HB.out | apply below_alloc | apply pw_below_drewN | apply below_drew1 | refine below_set ?_ GE147.out) | exact HB.out)⟩
                            · rw [if_neg c27] at H
                              have c27b0 : decide (2000 < (((rd_T40 l1 x7_4).f1).length : Int)) = false := decide_eq_false c27
                              have c27b1 : decide (2000 < ((rd_T40 l1 x7_4).f1).length) = false := decide_eq_false (by omega)
                              clear c27
                              have H' := Aside0.mk H
                              clear H
                              have p150 : 0 ≤ (x7_4 : Int) := of_decide_eq_true (by first | (with_reducible assumption) | assumption)
                              have q150 : x7_4 < (l1.length : Int) := of_decide_eq_true (by first | (with_reducible assumption) | assumption)
                              obtain ⟨ad150, A150_1, c150_1, e150, hx150_0, hx150_1, hx150_2, hx150_3, hx150_4, hx150_5, hx150_6, hx150_7, hx150_8, hl150_1, hi150_1⟩ := at_T40 HR1.out x7_4 p150 q150
                              cases e150
                              replace hx150_0 := (HB.out.cell (World.block_lt_of_cell? w _ hx150_0)).trans hx150_0
                              replace hx150_1 := (HB.out.cell (World.block_lt_of_cell? w _ hx150_1)).trans hx150_1
                              replace hx150_2 := (HB.out.cell (World.block_lt_of_cell? w _ hx150_2)).trans hx150_2
                              replace hx150_3 := (HB.out.cell (World.block_lt_of_cell? w _ hx150_3)).trans hx150_3
                              replace hx150_4 := (HB.out.cell (World.block_lt_of_cell? w _ hx150_4)).trans hx150_4
                              replace hx150_5 := (HB.out.cell (World.block_lt_of_cell? w _ hx150_5)).trans hx150_5
                              replace hx150_6 := (HB.out.cell (World.block_lt_of_cell? w _ hx150_6)).trans hx150_6
                              replace hx150_7 := (HB.out.cell (World.block_lt_of_cell? w _ hx150_7)).trans hx150_7
                              replace hx150_8 := (HB.out.cell (World.block_lt_of_cell? w _ hx150_8)).trans hx150_8
                              have HR150_1 := Aside0.mk hi150_1
                              have HC150_1 := Aside0.mk hl150_1
                              clear hi150_1 hl150_1
                              replace p150 := eq_true p150
                              replace q150 := eq_true q150
                              go_wp2
                              go_roundg k4
                              case measure => have := HJ2.out; have := HK2.out; have := HK3.out; have := HK4.out; omega
                              case rel => exact ⟨(wrap64 (x7_4 + 1)), (by first | rfl | (simp; done) | (simp [*]; done)), H', ⟨by have := HJ2.out; have := HK2.out; have := HK3.out; have := HK4.out; omega⟩, ⟨by (with_reducible repeat (first | refine blk_drewN ?_ _ | refine blk_drew ?_ | refine blk_alloc ?_ _)); exact BK147.out⟩, ⟨by repeat (first | (with_reducible first | exact HB.out | apply below_alloc | apply pw_below_drewN | apply below_drew1 | refine below_set ?_ GE147.out) | exact HB.out)⟩⟩
                          · rw [if_neg c26] at H
                            exact absurd H (by simp)
                        · rw [if_neg c25] at H
                          have c25b0 : decide (x7_4 < (l1.length : Int)) = false := decide_eq_false c25
                          clear c25
                          obtain rfl := Option.some.inj H
                          go_wp2
                          go_ret
                          exact ⟨by first | rfl | (simp <;> rfl) | (simp [*] <;> rfl), by repeat (first | (with_reducible first | exact HB.out | apply below_alloc | apply pw_below_drewN | apply below_drew1 | refine below_set ?_ GE147.out) | exact HB.out)⟩

end Go.Proofs.YtkolleohenjhmaaDoor.X
