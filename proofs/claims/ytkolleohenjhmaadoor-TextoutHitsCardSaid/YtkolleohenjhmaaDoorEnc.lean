/- Functions of this seat and their contracts, printed by wip/tools/xprint.py (a program of this work, over the kit's printer). -/
import Derived.Test.YtkolleohenjhmaaDoorProg
import Derived.Below
import Derived.Deep.Draws
import Derived.Deep.AppendLies
import Derived.Maps.AppendAt
import Derived.OwnWalk
import Derived.Laws.BytesArg
import Derived.Laws.MakeOwn
import Derived.Laws.OwnMore
import Derived.Deep.OwnRows
import Derived.Tactics
import Derived.Lib.ConvBytes
import Derived.Laws.Slices
import Derived.WalkKit
import Derived.KernelRfl
import Derived.RowKit3
import Derived.Deep.LoopGhost
import Derived.Deep.QuietTactic
import Derived.BigQuiet
import Derived.WideLaws
import Derived.Deep.DeepCutAuto
import Derived.Deep.CutBlock
import Derived.Deep.RegionHeld3
import Derived.Laws.Rows
import Derived.Lib.AppendStr
import Derived.ArgAppend
import Derived.Laws.IdiomCopy
import Derived.OrdersHeld
import Derived.Laws.BitsLemmas
import Derived.RowKit
import Derived.Test.YtkolleohenjhmaaDoorWWords
import Derived.Test.YtkolleohenjhmaaDoorWLast
import Derived.Test.YtkolleohenjhmaaDoorWTab
import Derived.Test.YtkolleohenjhmaaDoorWFour
import Derived.Test.YtkolleohenjhmaaDoorWQPut
import Derived.Test.YtkolleohenjhmaaDoorWApart
import Derived.Test.YtkolleohenjhmaaDoorWArr
import Derived.Test.YtkolleohenjhmaaDoorWZeros
import Derived.Test.YtkolleohenjhmaaDoorWFoot
import Derived.Test.YtkolleohenjhmaaDoorWKept
import Derived.Test.YtkolleohenjhmaaDoorWShare
import Derived.Test.YtkolleohenjhmaaDoorWN
import Derived.Test.YtkolleohenjhmaaDoorWFootNe
import Derived.Test.YtkolleohenjhmaaDoorWAt
import Derived.Test.YtkolleohenjhmaaDoorWEqStruct
import Derived.Test.YtkolleohenjhmaaDoorWRepsOne
import Derived.Test.YtkolleohenjhmaaDoorWInv
import Derived.Test.YtkolleohenjhmaaDoorWInvWords
import Derived.Test.YtkolleohenjhmaaDoorWGuard
import Derived.Test.YtkolleohenjhmaaDoorWNEv
import Derived.Test.YtkolleohenjhmaaDoorWMore
import Derived.Test.YtkolleohenjhmaaDoorOne
namespace Go.Proofs.YtkolleohenjhmaaDoor.X
open Go.RowKit Go.Proofs.YtkolleohenjhmaaDoorW.PrintWords Go.Proofs.YtkolleohenjhmaaDoorW.PrintLast Go.Proofs.YtkolleohenjhmaaDoorW.PrintMore
attribute [local go_sem] max2_int min2_int max_two min_two max_three min_three max_four min_four
set_option linter.unusedVariables false
set_option linter.unusedSimpArgs false

/-! ### textout_Encode -/
def textout_Encode.j0 : Nat → List (S40) → Int → Bool → List (S38) → Int → ByteArray → Int → Int → Bool → Bool → ByteArray → List ByteArray → List ByteArray → Bool → Option (List Int)
  | 0, _, _, _, _, _, _, _, _, _, _, _, _, _, _ => none
  | k + 1, x1, x13, x14, x125000, x125001, x125002, x125003, x125004, x125005, x125006, x125007, x125008, x125009, x125010 => if x14 = true then ((textout_values.f x125000 x125001 x125002 x125003 x125004 x125005 x125006 x125007 x125008 x125009 x125010 x1).bind fun t126 => (some t126)) else (if x13 = 16 then (some ([] : List Int)) else (if x125005 = true then (some ([] : List Int)) else (if (x1.length : Int) = 0 then (some ([] : List Int)) else (if 0 < (x1.length : Int) then ((textout_one.f ((rd_T40 x1 0).f0) ((rd_T40 x1 0).f1) ((rd_T40 x1 0).f2) ((rd_T40 x1 0).f3) ((rd_T40 x1 0).f4) ((rd_T40 x1 0).f5) ((rd_T40 x1 0).f6) ((rd_T40 x1 0).f7) ((rd_T40 x1 0).f8)).bind fun t130 => (some t130)) else (none)))))
def textout_Encode.f (k : Nat) (l0_0 : List (S38)) (a0_1 : Int) (a0_2 : ByteArray) (a0_3 : Int) (a0_4 : Int) (a0_5 : Bool) (a0_6 : Bool) (a0_7 : ByteArray) (l0_8 : List ByteArray) (l0_9 : List ByteArray) (a0_10 : Bool) (l1 : List (S40)) : Option (List Int) := if (l0_0.length : Int) = 0 then (some ([] : List Int)) else (if 0 < (l0_0.length : Int) then (if ((rd_T38 l0_0 0).f0) = 0 then (textout_Encode.j0 k l1 ((rd_T38 l0_0 0).f0) (((rd_T38 l0_0 0).f0) == 0) l0_0 a0_1 a0_2 a0_3 a0_4 a0_5 a0_6 a0_7 l0_8 l0_9 a0_10) else (textout_Encode.j0 k l1 ((rd_T38 l0_0 0).f0) (((rd_T38 l0_0 0).f0) == 1) l0_0 a0_1 a0_2 a0_3 a0_4 a0_5 a0_6 a0_7 l0_8 l0_9 a0_10)) else (none))
theorem textout_Encode.mono_l : ∀ k, (∀ y0 y1 y2 y3 y4 y5 y6 y7 y8 y9 y10 y11 y12 y13, LeO (textout_Encode.j0 k y0 y1 y2 y3 y4 y5 y6 y7 y8 y9 y10 y11 y12 y13) (textout_Encode.j0 (k + 1) y0 y1 y2 y3 y4 y5 y6 y7 y8 y9 y10 y11 y12 y13))
  | 0 => fun _ _ _ _ _ _ _ _ _ _ _ _ _ _ r h => by simp [textout_Encode.j0] at h
  | k + 1 => by
    have ih0 := textout_Encode.mono_l k
    · intro y0 y1 y2 y3 y4 y5 y6 y7 y8 y9 y10 y11 y12 y13
      unfold textout_Encode.j0
      repeat' first
      | (with_reducible exact ih0 _ _ _ _ _ _ _ _ _ _ _ _ _ _)
      | (with_reducible exact LeO.refl _)
      | (with_reducible exact LeO.none _)
      | (with_reducible refine LeO.ite ?_ ?_)
      | (with_reducible refine LeO.bind ?_ (fun _ => ?_))
      | exact ih0 _ _ _ _ _ _ _ _ _ _ _ _ _ _
      | exact LeO.none _
      | refine LeO.ite ?_ ?_
      | refine LeO.bind ?_ (fun _ => ?_)
theorem textout_Encode.mono : ∀ a0 a1 a2 a3 a4 a5 a6 a7 a8 a9 a10 a11 k, LeO (textout_Encode.f k a0 a1 a2 a3 a4 a5 a6 a7 a8 a9 a10 a11) (textout_Encode.f (k + 1) a0 a1 a2 a3 a4 a5 a6 a7 a8 a9 a10 a11) := by
  intro a0 a1 a2 a3 a4 a5 a6 a7 a8 a9 a10 a11 k
  have ih0 := textout_Encode.mono_l k
  unfold textout_Encode.f
  repeat' first
      | (with_reducible exact ih0 _ _ _ _ _ _ _ _ _ _ _ _ _ _)
      | (with_reducible exact LeO.refl _)
      | (with_reducible exact LeO.none _)
      | (with_reducible refine LeO.ite ?_ ?_)
      | (with_reducible refine LeO.bind ?_ (fun _ => ?_))
      | exact ih0 _ _ _ _ _ _ _ _ _ _ _ _ _ _
      | exact LeO.none _
      | refine LeO.ite ?_ ?_
      | refine LeO.bind ?_ (fun _ => ?_)
set_option maxHeartbeats 8000000 in
set_option maxRecDepth 100000 in
theorem textout_Encode.calls (k : Nat) (A0_0 : Option Addr) (c0_0 : Nat) (l0_0 : List (S38)) (a0_1 : Int) (a0_2 : ByteArray) (a0_3 : Int) (a0_4 : Int) (a0_5 : Bool) (a0_6 : Bool) (a0_7 : ByteArray) (A0_8 : Option Addr) (c0_8 : Nat) (l0_8 : List ByteArray) (A0_9 : Option Addr) (c0_9 : Nat) (l0_9 : List ByteArray) (a0_10 : Bool) (A1 : Option Addr) (c1 : Nat) (l1 : List (S40)) (r : List Int) (w : World) (hr0_0 : Kd.C k38 w A0_0 l0_0.length l0_0) (hc0_0 : l0_0.length ≤ c0_0) (hr0_8 : Kd.C Kd.string w A0_8 l0_8.length l0_8) (hc0_8 : l0_8.length ≤ c0_8) (hr0_9 : Kd.C Kd.string w A0_9 l0_9.length l0_9) (hc0_9 : l0_9.length ≤ c0_9) (hr1 : Kd.C k40 w A1 l1.length l1) (hc1 : l1.length ≤ c1) (hT : Tabs w) (h : textout_Encode.f k l0_0 a0_1 a0_2 a0_3 a0_4 a0_5 a0_6 a0_7 l0_8 l0_9 a0_10 l1 = some r) :
    Calls Tryd.prog 10 #[.agg #[.slice A0_0 l0_0.length c0_0, .int .i64 a0_1, .string a0_2, .int .i64 a0_3, .int .u32 a0_4, .bool a0_5, .bool a0_6, .string a0_7, .slice A0_8 l0_8.length c0_8, .slice A0_9 l0_9.length c0_9, .bool a0_10], .slice A1 l1.length c1] w fun e w' => ∃ v0_ : Value, e = .returned (v0_) ∧ Kd.V (Kd.int .u8) 5 w' w.heap.size (fun k_ => (w.heap.size ≤ k_)) v0_ r ∧ Below w.heap.size w w' := by
  have hu28 := Tryd.underlying28
  have hu40 := Tryd.underlying40
  have HT := Aside0.mk hT
  clear hT
  have HR0_0 := Aside0.mk hr0_0
  have HC0_0 := Aside0.mk hc0_0
  clear hr0_0 hc0_0
  have HR0_8 := Aside0.mk hr0_8
  have HC0_8 := Aside0.mk hc0_8
  clear hr0_8 hc0_8
  have HR0_9 := Aside0.mk hr0_9
  have HC0_9 := Aside0.mk hc0_9
  clear hr0_9 hc0_9
  have HR1 := Aside0.mk hr1
  have HC1 := Aside0.mk hc1
  clear hr1 hc1
  have HB := Aside0.mk (Below.refl w.heap.size w)
  have H : (if (l0_0.length : Int) = 0 then (some ([] : List Int)) else (if 0 < (l0_0.length : Int) then (if ((rd_T38 l0_0 0).f0) = 0 then (textout_Encode.j0 k l1 ((rd_T38 l0_0 0).f0) (((rd_T38 l0_0 0).f0) == 0) l0_0 a0_1 a0_2 a0_3 a0_4 a0_5 a0_6 a0_7 l0_8 l0_9 a0_10) else (textout_Encode.j0 k l1 ((rd_T38 l0_0 0).f0) (((rd_T38 l0_0 0).f0) == 1) l0_0 a0_1 a0_2 a0_3 a0_4 a0_5 a0_6 a0_7 l0_8 l0_9 a0_10)) else (none))) = some r := h
  clear h
  by_cases c3 : (l0_0.length : Int) = 0
  · rw [if_pos c3] at H
    have c3b0 : ((l0_0.length : Int) == 0) = true := beq_iff_eq.mpr c3
    have c3b1 : ((l0_0.length : Int) != 0) = false := bne_eq_false_iff_eq.mpr c3
    clear c3
    obtain rfl := Option.some.inj H
    go_enter Tryd.func10, Tryd.ntmps10
    go_wp2_with (first | ((with_reducible refine gate_dst (N := 2) rfl ?_); (try (refine gate_guard (by rfl) ?_; dsimp only)); refine box_event ?hg (N := 2) ?hd (cs := #[.slice A0_0 l0_0.length c0_0, .int .i64 a0_1, .string a0_2, .int .i64 a0_3, .int .u32 a0_4, .bool a0_5, .bool a0_6, .string a0_7, .slice A0_8 l0_8.length c0_8, .slice A0_9 l0_9.length c0_9, .bool a0_10]) (t := 28) ?hr ?_; (case hd => rfl); (case hg => rfl); (case hr => first | (go_simp; done) | (go_simp; rfl)); intro gb124 hg w4 hbox hb; have n0_ := Aside0.mk (below_step (by repeat (first | (with_reducible first | exact HB.out | apply below_alloc | apply pw_below_drewN | apply below_drew1) | exact HB.out)) hb); have n1_ := Aside0.mk (hbox); have n2_ := Aside0.mk ((by rw [hg]; exact (below_size (by repeat (first | (with_reducible first | exact HB.out | apply below_alloc | apply pw_below_drewN | apply below_drew1) | exact HB.out))) : w.heap.size ≤ gb124)); have n3_ := Aside0.mk ((by rw [hg]; exact (below_size (by repeat (first | (with_reducible first | exact HB.out | apply below_alloc | apply pw_below_drewN | apply below_drew1) | exact HB.out))) : w.heap.size ≤ gb124)); clear HB; have HB := n0_; have BK124 := n1_; have GW124 := n2_; have GE124 := n3_; clear n0_ n1_ n2_ n3_; clear hb hbox hg; have hcz5_0 : w4.cell? ⟨gb124, 0, none⟩ = some (.slice A0_0 l0_0.length c0_0) := (blk_cell BK124.out 0).trans rfl; have hcz5_1 : w4.cell? ⟨gb124, 1, none⟩ = some (.int .i64 a0_1) := (blk_cell BK124.out 1).trans rfl; have hcz5_2 : w4.cell? ⟨gb124, 2, none⟩ = some (.string a0_2) := (blk_cell BK124.out 2).trans rfl; have hcz5_3 : w4.cell? ⟨gb124, 3, none⟩ = some (.int .i64 a0_3) := (blk_cell BK124.out 3).trans rfl; have hcz5_4 : w4.cell? ⟨gb124, 4, none⟩ = some (.int .u32 a0_4) := (blk_cell BK124.out 4).trans rfl; have hcz5_5 : w4.cell? ⟨gb124, 5, none⟩ = some (.bool a0_5) := (blk_cell BK124.out 5).trans rfl; have hcz5_6 : w4.cell? ⟨gb124, 6, none⟩ = some (.bool a0_6) := (blk_cell BK124.out 6).trans rfl; have hcz5_7 : w4.cell? ⟨gb124, 7, none⟩ = some (.string a0_7) := (blk_cell BK124.out 7).trans rfl; have hcz5_8 : w4.cell? ⟨gb124, 8, none⟩ = some (.slice A0_8 l0_8.length c0_8) := (blk_cell BK124.out 8).trans rfl; have hcz5_9 : w4.cell? ⟨gb124, 9, none⟩ = some (.slice A0_9 l0_9.length c0_9) := (blk_cell BK124.out 9).trans rfl; have hcz5_10 : w4.cell? ⟨gb124, 10, none⟩ = some (.bool a0_10) := (blk_cell BK124.out 10).trans rfl; have hfz5_0 := blk_frozen BK124.out 0; have hfz5_1 := blk_frozen BK124.out 1; have hfz5_2 := blk_frozen BK124.out 2; have hfz5_3 := blk_frozen BK124.out 3; have hfz5_4 := blk_frozen BK124.out 4; have hfz5_5 := blk_frozen BK124.out 5; have hfz5_6 := blk_frozen BK124.out 6; have hfz5_7 := blk_frozen BK124.out 7; have hfz5_8 := blk_frozen BK124.out 8; have hfz5_9 := blk_frozen BK124.out 9; have hfz5_10 := blk_frozen BK124.out 10))
    go_ret
    exact ⟨_, by first | rfl | (simp <;> rfl) | (simp [*] <;> rfl), Kd.V_nil _ _ _ _ _, by repeat (first | (with_reducible first | exact HB.out | apply below_alloc | apply pw_below_drewN | apply below_drew1 | refine below_set ?_ GE124.out) | exact HB.out)⟩
  · rw [if_neg c3] at H
    have c3b0 : ((l0_0.length : Int) == 0) = false := beq_eq_false_iff_ne.mpr c3
    have c3b1 : ((l0_0.length : Int) != 0) = true := bne_iff_ne.mpr c3
    have c3b2 : ¬ (l0_0 = []) := fun h_ => c3 (by rw [h_]; rfl)
    by_cases c6 : 0 < (l0_0.length : Int)
    · rw [if_pos c6] at H
      have c6b0 : decide (0 < (l0_0.length : Int)) = true := decide_eq_true c6
      have c6b1 : decide (0 < l0_0.length) = true := decide_eq_true (by omega)
      clear c6
      have HC7 := Aside0.mk H
      clear H
      go_enter Tryd.func10, Tryd.ntmps10
      go_upto_if 14 with (first | ((with_reducible refine gate_dst (N := 2) rfl ?_); (try (refine gate_guard (by rfl) ?_; dsimp only)); refine box_event ?hg (N := 2) ?hd (cs := #[.slice A0_0 l0_0.length c0_0, .int .i64 a0_1, .string a0_2, .int .i64 a0_3, .int .u32 a0_4, .bool a0_5, .bool a0_6, .string a0_7, .slice A0_8 l0_8.length c0_8, .slice A0_9 l0_9.length c0_9, .bool a0_10]) (t := 28) ?hr ?_; (case hd => rfl); (case hg => rfl); (case hr => first | (go_simp; done) | (go_simp; rfl)); intro gb124 hg w8 hbox hb; have n0_ := Aside0.mk (below_step (by repeat (first | (with_reducible first | exact HB.out | apply below_alloc | apply pw_below_drewN | apply below_drew1) | exact HB.out)) hb); have n1_ := Aside0.mk (hbox); have n2_ := Aside0.mk ((by rw [hg]; exact (below_size (by repeat (first | (with_reducible first | exact HB.out | apply below_alloc | apply pw_below_drewN | apply below_drew1) | exact HB.out))) : w.heap.size ≤ gb124)); have n3_ := Aside0.mk ((by rw [hg]; exact (below_size (by repeat (first | (with_reducible first | exact HB.out | apply below_alloc | apply pw_below_drewN | apply below_drew1) | exact HB.out))) : w.heap.size ≤ gb124)); clear HB; have HB := n0_; have BK124 := n1_; have GW124 := n2_; have GE124 := n3_; clear n0_ n1_ n2_ n3_; clear hb hbox hg; have hcz9_0 : w8.cell? ⟨gb124, 0, none⟩ = some (.slice A0_0 l0_0.length c0_0) := (blk_cell BK124.out 0).trans rfl; have hcz9_1 : w8.cell? ⟨gb124, 1, none⟩ = some (.int .i64 a0_1) := (blk_cell BK124.out 1).trans rfl; have hcz9_2 : w8.cell? ⟨gb124, 2, none⟩ = some (.string a0_2) := (blk_cell BK124.out 2).trans rfl; have hcz9_3 : w8.cell? ⟨gb124, 3, none⟩ = some (.int .i64 a0_3) := (blk_cell BK124.out 3).trans rfl; have hcz9_4 : w8.cell? ⟨gb124, 4, none⟩ = some (.int .u32 a0_4) := (blk_cell BK124.out 4).trans rfl; have hcz9_5 : w8.cell? ⟨gb124, 5, none⟩ = some (.bool a0_5) := (blk_cell BK124.out 5).trans rfl; have hcz9_6 : w8.cell? ⟨gb124, 6, none⟩ = some (.bool a0_6) := (blk_cell BK124.out 6).trans rfl; have hcz9_7 : w8.cell? ⟨gb124, 7, none⟩ = some (.string a0_7) := (blk_cell BK124.out 7).trans rfl; have hcz9_8 : w8.cell? ⟨gb124, 8, none⟩ = some (.slice A0_8 l0_8.length c0_8) := (blk_cell BK124.out 8).trans rfl; have hcz9_9 : w8.cell? ⟨gb124, 9, none⟩ = some (.slice A0_9 l0_9.length c0_9) := (blk_cell BK124.out 9).trans rfl; have hcz9_10 : w8.cell? ⟨gb124, 10, none⟩ = some (.bool a0_10) := (blk_cell BK124.out 10).trans rfl; have hfz9_0 := blk_frozen BK124.out 0; have hfz9_1 := blk_frozen BK124.out 1; have hfz9_2 := blk_frozen BK124.out 2; have hfz9_3 := blk_frozen BK124.out 3; have hfz9_4 := blk_frozen BK124.out 4; have hfz9_5 := blk_frozen BK124.out 5; have hfz9_6 := blk_frozen BK124.out 6; have hfz9_7 := blk_frozen BK124.out 7; have hfz9_8 := blk_frozen BK124.out 8; have hfz9_9 := blk_frozen BK124.out 9; have hfz9_10 := blk_frozen BK124.out 10; have p125 : 0 ≤ (0 : Int) := (by omega); have q125 : 0 < (l0_0.length : Int) := of_decide_eq_true (by first | (with_reducible assumption) | assumption); obtain ⟨ad125, A125_2, c125_2, e125, hx125_0, hx125_1, hx125_2, hx125_3, hx125_4, hx125_5, hx125_6, hx125_7, hx125_8, hx125_9, hl125_2, hi125_2⟩ := at_T38 HR0_0.out 0 p125 q125; cases e125; have qi125 : (0 < l0_0.length) = True := eq_true (by omega); (try rw [show ((0 : Int)).toNat = 0 from rfl] at hx125_0); (try rw [show 0 * 10 = 0 from rfl] at hx125_0); (try rw [Addr.add_zero'] at hx125_0); (try rw [show ((0 : Int)).toNat = 0 from rfl] at hx125_1); (try rw [show 0 * 10 = 0 from rfl] at hx125_1); (try rw [Addr.add_zero'] at hx125_1); (try rw [show ((0 : Int)).toNat = 0 from rfl] at hx125_2); (try rw [show 0 * 10 = 0 from rfl] at hx125_2); (try rw [Addr.add_zero'] at hx125_2); (try rw [show ((0 : Int)).toNat = 0 from rfl] at hx125_3); (try rw [show 0 * 10 = 0 from rfl] at hx125_3); (try rw [Addr.add_zero'] at hx125_3); (try rw [show ((0 : Int)).toNat = 0 from rfl] at hx125_4); (try rw [show 0 * 10 = 0 from rfl] at hx125_4); (try rw [Addr.add_zero'] at hx125_4); (try rw [show ((0 : Int)).toNat = 0 from rfl] at hx125_5); (try rw [show 0 * 10 = 0 from rfl] at hx125_5); (try rw [Addr.add_zero'] at hx125_5); (try rw [show ((0 : Int)).toNat = 0 from rfl] at hx125_6); (try rw [show 0 * 10 = 0 from rfl] at hx125_6); (try rw [Addr.add_zero'] at hx125_6); (try rw [show ((0 : Int)).toNat = 0 from rfl] at hx125_7); (try rw [show 0 * 10 = 0 from rfl] at hx125_7); (try rw [Addr.add_zero'] at hx125_7); (try rw [show ((0 : Int)).toNat = 0 from rfl] at hx125_8); (try rw [show 0 * 10 = 0 from rfl] at hx125_8); (try rw [Addr.add_zero'] at hx125_8); (try rw [show ((0 : Int)).toNat = 0 from rfl] at hx125_9); (try rw [show 0 * 10 = 0 from rfl] at hx125_9); (try rw [Addr.add_zero'] at hx125_9); replace hx125_0 := (HB.out.cell (World.block_lt_of_cell? w _ hx125_0)).trans hx125_0; replace hx125_1 := (HB.out.cell (World.block_lt_of_cell? w _ hx125_1)).trans hx125_1; replace hx125_2 := (HB.out.cell (World.block_lt_of_cell? w _ hx125_2)).trans hx125_2; replace hx125_3 := (HB.out.cell (World.block_lt_of_cell? w _ hx125_3)).trans hx125_3; replace hx125_4 := (HB.out.cell (World.block_lt_of_cell? w _ hx125_4)).trans hx125_4; replace hx125_5 := (HB.out.cell (World.block_lt_of_cell? w _ hx125_5)).trans hx125_5; replace hx125_6 := (HB.out.cell (World.block_lt_of_cell? w _ hx125_6)).trans hx125_6; replace hx125_7 := (HB.out.cell (World.block_lt_of_cell? w _ hx125_7)).trans hx125_7; replace hx125_8 := (HB.out.cell (World.block_lt_of_cell? w _ hx125_8)).trans hx125_8; replace hx125_9 := (HB.out.cell (World.block_lt_of_cell? w _ hx125_9)).trans hx125_9; have HR125_2 := Aside0.mk hi125_2; have HC125_2 := Aside0.mk hl125_2; clear hi125_2 hl125_2; replace p125 := eq_true p125; replace q125 := eq_true q125))
      (try simp only [Act.put, List.setIfInBounds_toArray, List.set_cons_zero, List.set_cons_succ])
      go_cut [14] (fun v14 wc => ∃ (kq : Nat) (x14_6 : Bool), v14 = .bool x14_6 ∧ Aside0 (textout_Encode.j0 kq l1 ((rd_T38 l0_0 0).f0) x14_6 l0_0 a0_1 a0_2 a0_3 a0_4 a0_5 a0_6 a0_7 l0_8 l0_9 a0_10 = some r) ∧ Aside0 (kq ≤ k) ∧ Aside0 (wc.heap[gb124]? = some (.cells #[(.slice (some ad125) l0_0.length c0_0), .int .i64 a0_1, .string a0_2, .int .i64 a0_3, .int .u32 a0_4, .bool a0_5, .bool a0_6, .string a0_7, (.slice A0_8 l0_8.length c0_8), (.slice A0_9 l0_9.length c0_9), .bool a0_10] 28 (0, 0))) ∧ Aside0 (Below w.heap.size w wc))
      case first =>
        have H := HC7.out
        clear HC7
        by_cases c10 : ((rd_T38 l0_0 0).f0) = 0
        · rw [if_pos c10] at H
          have c10b0 : (((rd_T38 l0_0 0).f0) == 0) = true := beq_iff_eq.mpr c10
          have c10b1 : (((rd_T38 l0_0 0).f0) != 0) = false := bne_eq_false_iff_eq.mpr c10
          clear c10
          (first | rw [c10b0] | (simp only [i64_w, i32_w]; rw [c10b0]) | skip)
          have H' := Aside0.mk H
          clear H
          go_wp2
          go_meet
          case rel => exact ⟨_, ((((rd_T38 l0_0 0).f0) == 0)), (by first | rfl | (simp; done) | (simp [*]; done)), H', ⟨by first | omega | exact Nat.le_refl _⟩, ⟨by (with_reducible repeat (first | refine blk_drewN ?_ _ | refine blk_drew ?_ | refine blk_alloc ?_ _)); exact BK124.out⟩, ⟨by repeat (first | (with_reducible first | exact HB.out | apply below_alloc | apply pw_below_drewN | apply below_drew1 | refine below_set ?_ GE124.out) | exact HB.out)⟩⟩
        · rw [if_neg c10] at H
          have c10b0 : (((rd_T38 l0_0 0).f0) == 0) = false := beq_eq_false_iff_ne.mpr c10
          have c10b1 : (((rd_T38 l0_0 0).f0) != 0) = true := bne_iff_ne.mpr c10
          (first | rw [c10b0] | (simp only [i64_w, i32_w]; rw [c10b0]) | skip)
          have H' := Aside0.mk H
          clear H
          go_wp2
          go_meet
          case rel => exact ⟨_, ((((rd_T38 l0_0 0).f0) == 1)), (by first | rfl | (simp; done) | (simp [*]; done)), H', ⟨by first | omega | exact Nat.le_refl _⟩, ⟨by (with_reducible repeat (first | refine blk_drewN ?_ _ | refine blk_drew ?_ | refine blk_alloc ?_ _)); exact BK124.out⟩, ⟨by repeat (first | (with_reducible first | exact HB.out | apply below_alloc | apply pw_below_drewN | apply below_drew1 | refine below_set ?_ GE124.out) | exact HB.out)⟩⟩
      case rest =>
        clear HC7
        try clear c1
        try clear p1
        try clear q1
        try clear hx1
        try clear qi1
        try clear p2
        try clear c3
        try clear c3b0
        try clear c3b1
        try clear c3b2
        try clear c6
        try clear c6b0
        try clear c6b1
        try clear c10
        try clear c10b0
        try clear c10b1
        try clear hcz5_0
        try clear hcz5_1
        try clear hcz5_10
        try clear hcz5_2
        try clear hcz5_3
        try clear hcz5_4
        try clear hcz5_5
        try clear hcz5_6
        try clear hcz5_7
        try clear hcz5_8
        try clear hcz5_9
        try clear hcz9_0
        try clear hcz9_1
        try clear hcz9_10
        try clear hcz9_2
        try clear hcz9_3
        try clear hcz9_4
        try clear hcz9_5
        try clear hcz9_6
        try clear hcz9_7
        try clear hcz9_8
        try clear hcz9_9
        try clear hfz5_0
        try clear hfz5_1
        try clear hfz5_10
        try clear hfz5_2
        try clear hfz5_3
        try clear hfz5_4
        try clear hfz5_5
        try clear hfz5_6
        try clear hfz5_7
        try clear hfz5_8
        try clear hfz5_9
        try clear hfz9_0
        try clear hfz9_1
        try clear hfz9_10
        try clear hfz9_2
        try clear hfz9_3
        try clear hfz9_4
        try clear hfz9_5
        try clear hfz9_6
        try clear hfz9_7
        try clear hfz9_8
        try clear hfz9_9
        try clear hx125_0
        try clear hx125_1
        try clear hx125_2
        try clear hx125_3
        try clear hx125_4
        try clear hx125_5
        try clear hx125_6
        try clear hx125_7
        try clear hx125_8
        try clear hx125_9
        try clear p125
        try clear q125
        obtain ⟨kq, x14_6, rfl, HA, HJ6, BK124, HB⟩ := hcut
        cases kq with
        | zero => exact absurd HA.out (by simp [textout_Encode.j0])
        | succ kj6 =>
          have H := HA.out
          clear HA
          simp only [textout_Encode.j0] at H
          by_cases c11 : x14_6 = true
          · subst c11
            have H1 : ((textout_values.f l0_0 a0_1 a0_2 a0_3 a0_4 a0_5 a0_6 a0_7 l0_8 l0_9 a0_10 l1).bind fun t126 => (some t126)) = some r := by rw [if_pos rfl] at H; exact H
            clear H
            have H := H1
            clear H1
            replace H := Option.bind_eq_some_iff.mp H
            obtain ⟨t126, A120, H⟩ := H
            replace H : (some t126) = some r := H
            have A12 := Aside0.mk A120
            clear A120
            obtain rfl := Option.some.inj H
            have hcz13_0 : wc.cell? ⟨gb124, 0, none⟩ = some (.slice (some ad125) l0_0.length c0_0) := (blk_cell BK124.out 0).trans rfl
            have hcz13_1 : wc.cell? ⟨gb124, 1, none⟩ = some (.int .i64 a0_1) := (blk_cell BK124.out 1).trans rfl
            have hcz13_2 : wc.cell? ⟨gb124, 2, none⟩ = some (.string a0_2) := (blk_cell BK124.out 2).trans rfl
            have hcz13_3 : wc.cell? ⟨gb124, 3, none⟩ = some (.int .i64 a0_3) := (blk_cell BK124.out 3).trans rfl
            have hcz13_4 : wc.cell? ⟨gb124, 4, none⟩ = some (.int .u32 a0_4) := (blk_cell BK124.out 4).trans rfl
            have hcz13_5 : wc.cell? ⟨gb124, 5, none⟩ = some (.bool a0_5) := (blk_cell BK124.out 5).trans rfl
            have hcz13_6 : wc.cell? ⟨gb124, 6, none⟩ = some (.bool a0_6) := (blk_cell BK124.out 6).trans rfl
            have hcz13_7 : wc.cell? ⟨gb124, 7, none⟩ = some (.string a0_7) := (blk_cell BK124.out 7).trans rfl
            have hcz13_8 : wc.cell? ⟨gb124, 8, none⟩ = some (.slice A0_8 l0_8.length c0_8) := (blk_cell BK124.out 8).trans rfl
            have hcz13_9 : wc.cell? ⟨gb124, 9, none⟩ = some (.slice A0_9 l0_9.length c0_9) := (blk_cell BK124.out 9).trans rfl
            have hcz13_10 : wc.cell? ⟨gb124, 10, none⟩ = some (.bool a0_10) := (blk_cell BK124.out 10).trans rfl
            have hfz13_0 := blk_frozen BK124.out 0
            have hfz13_1 := blk_frozen BK124.out 1
            have hfz13_2 := blk_frozen BK124.out 2
            have hfz13_3 := blk_frozen BK124.out 3
            have hfz13_4 := blk_frozen BK124.out 4
            have hfz13_5 := blk_frozen BK124.out 5
            have hfz13_6 := blk_frozen BK124.out 6
            have hfz13_7 := blk_frozen BK124.out 7
            have hfz13_8 := blk_frozen BK124.out 8
            have hfz13_9 := blk_frozen BK124.out 9
            have hfz13_10 := blk_frozen BK124.out 10
            go_wp2_with (first | ((with_reducible refine gate_callee (f := 15) rfl ?_); refine goesL_ (some 19) rfl rfl Tryd.func15 (by kernel_rfl) rfl #[.agg #[.slice (some ad125) l0_0.length c0_0, .int .i64 a0_1, .string a0_2, .int .i64 a0_3, .int .u32 a0_4, .bool a0_5, .bool a0_6, .string a0_7, .slice A0_8 l0_8.length c0_8, .slice A0_9 l0_9.length c0_9, .bool a0_10], .slice A1 l1.length c1] rfl (by (try simp only [List.map_toArray, List.map_cons, List.map_nil]); first | done | rfl | (simp only [List.length_drop, List.length_take]; rfl)) ?_; (with_reducible refine (textout_values.calls _ _ l0_0 a0_1 a0_2 a0_3 a0_4 a0_5 a0_6 a0_7 _ _ l0_8 _ _ l0_9 a0_10 _ _ l1 t126 _ ?side1 ?side2 ?side3 ?side4 ?side5 ?side6 ?side7 ?side8 ?side9 A12.out).mono ?_); (case side1 => repeat (first | exact (Kd.C_below HR0_0.out HB.out) | (with_reducible refine Kd.C_alloc ?_ _) | (with_reducible refine Kd.C_drewN ?_ _) | (with_reducible refine Kd.C_drew ?_))); (case side2 => exact HC0_0.out); (case side3 => repeat (first | exact (Kd.C_below HR0_8.out HB.out) | (with_reducible refine Kd.C_alloc ?_ _) | (with_reducible refine Kd.C_drewN ?_ _) | (with_reducible refine Kd.C_drew ?_))); (case side4 => exact HC0_8.out); (case side5 => repeat (first | exact (Kd.C_below HR0_9.out HB.out) | (with_reducible refine Kd.C_alloc ?_ _) | (with_reducible refine Kd.C_drewN ?_ _) | (with_reducible refine Kd.C_drew ?_))); (case side6 => exact HC0_9.out); (case side7 => repeat (first | exact (Kd.C_below HR1.out HB.out) | (with_reducible refine Kd.C_alloc ?_ _) | (with_reducible refine Kd.C_drewN ?_ _) | (with_reducible refine Kd.C_drew ?_))); (case side8 => exact HC1.out); (case side9 => exact Tabs.below HT.out (by repeat (first | (with_reducible first | exact HB.out | apply below_alloc | apply pw_below_drewN | apply below_drew1 | refine below_set ?_ GE124.out) | exact HB.out))); rintro e w14 ⟨v127, rfl, ho0, hb⟩; refine ⟨_, rfl, ?_⟩; have n0_ := Aside0.mk (Kd.V_lower (Kd.V_mono (ok' := fun k_ => (w.heap.size ≤ k_) ∧ k_ ≠ gb124) ho0 (fun k_ hk_ => ⟨(Nat.le_trans (below_size (by repeat (first | (with_reducible first | exact HB.out | apply below_alloc | apply pw_below_drewN | apply below_drew1 | refine below_set ?_ GE124.out) | exact HB.out))) hk_), (Kd.freshB (g := gb124) (o := .cells #[.slice (some ad125) l0_0.length c0_0, .int .i64 a0_1, .string a0_2, .int .i64 a0_3, .int .u32 a0_4, .bool a0_5, .bool a0_6, .string a0_7, .slice A0_8 l0_8.length c0_8, .slice A0_9 l0_9.length c0_9, .bool a0_10] 28 (0, 0)) (by (with_reducible repeat (first | refine blk_drewN ?_ _ | refine blk_drew ?_ | refine blk_alloc ?_ _)); exact BK124.out) k_ hk_)⟩)) (below_size (by repeat (first | (with_reducible first | exact HB.out | apply below_alloc | apply pw_below_drewN | apply below_drew1 | refine below_set ?_ GE124.out) | exact HB.out)))); have n1_ := Aside0.mk (blk_below (g := gb124) (o := .cells #[.slice (some ad125) l0_0.length c0_0, .int .i64 a0_1, .string a0_2, .int .i64 a0_3, .int .u32 a0_4, .bool a0_5, .bool a0_6, .string a0_7, .slice A0_8 l0_8.length c0_8, .slice A0_9 l0_9.length c0_9, .bool a0_10] 28 (0, 0)) (by (with_reducible repeat (first | refine blk_drewN ?_ _ | refine blk_drew ?_ | refine blk_alloc ?_ _)); exact BK124.out) hb); have n2_ := Aside0.mk (below_step (by repeat (first | (with_reducible first | exact HB.out | apply below_alloc | apply pw_below_drewN | apply below_drew1 | refine below_set ?_ GE124.out) | exact HB.out)) hb); clear BK124; clear HB; have HO128 := n0_; have BK124 := n1_; have HB := n2_; clear n0_ n1_ n2_; (try clear hb); (try clear hb2); (try clear hk); (try clear hi); (try clear ho0)))
            go_ret
            exact ⟨_, by first | rfl | (simp <;> rfl) | (simp [*] <;> rfl), by (with_reducible repeat (first | apply Kd.V_alloc | apply Kd.V_drewN | apply Kd.V_drew)); exact Kd.V_mono HO128.out (fun _ hk => hk.1), by repeat (first | (with_reducible first | exact HB.out | apply below_alloc | apply pw_below_drewN | apply below_drew1 | refine below_set ?_ GE124.out) | exact HB.out)⟩
          · replace c11 := Bool.eq_false_iff.mpr c11
            subst c11
            have H1 : (if ((rd_T38 l0_0 0).f0) = 16 then (some ([] : List Int)) else (if a0_5 = true then (some ([] : List Int)) else (if (l1.length : Int) = 0 then (some ([] : List Int)) else (if 0 < (l1.length : Int) then ((textout_one.f ((rd_T40 l1 0).f0) ((rd_T40 l1 0).f1) ((rd_T40 l1 0).f2) ((rd_T40 l1 0).f3) ((rd_T40 l1 0).f4) ((rd_T40 l1 0).f5) ((rd_T40 l1 0).f6) ((rd_T40 l1 0).f7) ((rd_T40 l1 0).f8)).bind fun t130 => (some t130)) else (none))))) = some r := by rw [if_neg (show ¬ (false = true) by decide)] at H; exact H
            clear H
            have H := H1
            clear H1
            by_cases c15 : ((rd_T38 l0_0 0).f0) = 16
            · rw [if_pos c15] at H
              have c15b0 : (((rd_T38 l0_0 0).f0) == 16) = true := beq_iff_eq.mpr c15
              have c15b1 : (((rd_T38 l0_0 0).f0) != 16) = false := bne_eq_false_iff_eq.mpr c15
              clear c15
              obtain rfl := Option.some.inj H
              go_wp2
              go_ret
              exact ⟨_, by first | rfl | (simp <;> rfl) | (simp [*] <;> rfl), Kd.V_nil _ _ _ _ _, by repeat (first | (with_reducible first | exact HB.out | apply below_alloc | apply pw_below_drewN | apply below_drew1 | refine below_set ?_ GE124.out) | exact HB.out)⟩
            · rw [if_neg c15] at H
              have c15b0 : (((rd_T38 l0_0 0).f0) == 16) = false := beq_eq_false_iff_ne.mpr c15
              have c15b1 : (((rd_T38 l0_0 0).f0) != 16) = true := bne_iff_ne.mpr c15
              by_cases c16 : a0_5 = true
              · subst c16
                have H1 : (some ([] : List Int)) = some r := by rw [if_pos rfl] at H; exact H
                clear H
                have H := H1
                clear H1
                obtain rfl := Option.some.inj H
                have hcz17_0 : wc.cell? ⟨gb124, 0, none⟩ = some (.slice (some ad125) l0_0.length c0_0) := (blk_cell BK124.out 0).trans rfl
                have hcz17_1 : wc.cell? ⟨gb124, 1, none⟩ = some (.int .i64 a0_1) := (blk_cell BK124.out 1).trans rfl
                have hcz17_2 : wc.cell? ⟨gb124, 2, none⟩ = some (.string a0_2) := (blk_cell BK124.out 2).trans rfl
                have hcz17_3 : wc.cell? ⟨gb124, 3, none⟩ = some (.int .i64 a0_3) := (blk_cell BK124.out 3).trans rfl
                have hcz17_4 : wc.cell? ⟨gb124, 4, none⟩ = some (.int .u32 a0_4) := (blk_cell BK124.out 4).trans rfl
                have hcz17_5 : wc.cell? ⟨gb124, 5, none⟩ = some (.bool true) := (blk_cell BK124.out 5).trans rfl
                have hcz17_6 : wc.cell? ⟨gb124, 6, none⟩ = some (.bool a0_6) := (blk_cell BK124.out 6).trans rfl
                have hcz17_7 : wc.cell? ⟨gb124, 7, none⟩ = some (.string a0_7) := (blk_cell BK124.out 7).trans rfl
                have hcz17_8 : wc.cell? ⟨gb124, 8, none⟩ = some (.slice A0_8 l0_8.length c0_8) := (blk_cell BK124.out 8).trans rfl
                have hcz17_9 : wc.cell? ⟨gb124, 9, none⟩ = some (.slice A0_9 l0_9.length c0_9) := (blk_cell BK124.out 9).trans rfl
                have hcz17_10 : wc.cell? ⟨gb124, 10, none⟩ = some (.bool a0_10) := (blk_cell BK124.out 10).trans rfl
                have hfz17_0 := blk_frozen BK124.out 0
                have hfz17_1 := blk_frozen BK124.out 1
                have hfz17_2 := blk_frozen BK124.out 2
                have hfz17_3 := blk_frozen BK124.out 3
                have hfz17_4 := blk_frozen BK124.out 4
                have hfz17_5 := blk_frozen BK124.out 5
                have hfz17_6 := blk_frozen BK124.out 6
                have hfz17_7 := blk_frozen BK124.out 7
                have hfz17_8 := blk_frozen BK124.out 8
                have hfz17_9 := blk_frozen BK124.out 9
                have hfz17_10 := blk_frozen BK124.out 10
                go_wp2
                go_ret
                exact ⟨_, by first | rfl | (simp <;> rfl) | (simp [*] <;> rfl), Kd.V_nil _ _ _ _ _, by repeat (first | (with_reducible first | exact HB.out | apply below_alloc | apply pw_below_drewN | apply below_drew1 | refine below_set ?_ GE124.out) | exact HB.out)⟩
              · replace c16 := Bool.eq_false_iff.mpr c16
                subst c16
                have H1 : (if (l1.length : Int) = 0 then (some ([] : List Int)) else (if 0 < (l1.length : Int) then ((textout_one.f ((rd_T40 l1 0).f0) ((rd_T40 l1 0).f1) ((rd_T40 l1 0).f2) ((rd_T40 l1 0).f3) ((rd_T40 l1 0).f4) ((rd_T40 l1 0).f5) ((rd_T40 l1 0).f6) ((rd_T40 l1 0).f7) ((rd_T40 l1 0).f8)).bind fun t130 => (some t130)) else (none))) = some r := by rw [if_neg (show ¬ (false = true) by decide)] at H; exact H
                clear H
                have H := H1
                clear H1
                by_cases c18 : (l1.length : Int) = 0
                · rw [if_pos c18] at H
                  have c18b0 : ((l1.length : Int) == 0) = true := beq_iff_eq.mpr c18
                  have c18b1 : ((l1.length : Int) != 0) = false := bne_eq_false_iff_eq.mpr c18
                  clear c18
                  obtain rfl := Option.some.inj H
                  have hcz19_0 : wc.cell? ⟨gb124, 0, none⟩ = some (.slice (some ad125) l0_0.length c0_0) := (blk_cell BK124.out 0).trans rfl
                  have hcz19_1 : wc.cell? ⟨gb124, 1, none⟩ = some (.int .i64 a0_1) := (blk_cell BK124.out 1).trans rfl
                  have hcz19_2 : wc.cell? ⟨gb124, 2, none⟩ = some (.string a0_2) := (blk_cell BK124.out 2).trans rfl
                  have hcz19_3 : wc.cell? ⟨gb124, 3, none⟩ = some (.int .i64 a0_3) := (blk_cell BK124.out 3).trans rfl
                  have hcz19_4 : wc.cell? ⟨gb124, 4, none⟩ = some (.int .u32 a0_4) := (blk_cell BK124.out 4).trans rfl
                  have hcz19_5 : wc.cell? ⟨gb124, 5, none⟩ = some (.bool false) := (blk_cell BK124.out 5).trans rfl
                  have hcz19_6 : wc.cell? ⟨gb124, 6, none⟩ = some (.bool a0_6) := (blk_cell BK124.out 6).trans rfl
                  have hcz19_7 : wc.cell? ⟨gb124, 7, none⟩ = some (.string a0_7) := (blk_cell BK124.out 7).trans rfl
                  have hcz19_8 : wc.cell? ⟨gb124, 8, none⟩ = some (.slice A0_8 l0_8.length c0_8) := (blk_cell BK124.out 8).trans rfl
                  have hcz19_9 : wc.cell? ⟨gb124, 9, none⟩ = some (.slice A0_9 l0_9.length c0_9) := (blk_cell BK124.out 9).trans rfl
                  have hcz19_10 : wc.cell? ⟨gb124, 10, none⟩ = some (.bool a0_10) := (blk_cell BK124.out 10).trans rfl
                  have hfz19_0 := blk_frozen BK124.out 0
                  have hfz19_1 := blk_frozen BK124.out 1
                  have hfz19_2 := blk_frozen BK124.out 2
                  have hfz19_3 := blk_frozen BK124.out 3
                  have hfz19_4 := blk_frozen BK124.out 4
                  have hfz19_5 := blk_frozen BK124.out 5
                  have hfz19_6 := blk_frozen BK124.out 6
                  have hfz19_7 := blk_frozen BK124.out 7
                  have hfz19_8 := blk_frozen BK124.out 8
                  have hfz19_9 := blk_frozen BK124.out 9
                  have hfz19_10 := blk_frozen BK124.out 10
                  go_wp2
                  go_ret
                  exact ⟨_, by first | rfl | (simp <;> rfl) | (simp [*] <;> rfl), Kd.V_nil _ _ _ _ _, by repeat (first | (with_reducible first | exact HB.out | apply below_alloc | apply pw_below_drewN | apply below_drew1 | refine below_set ?_ GE124.out) | exact HB.out)⟩
                · rw [if_neg c18] at H
                  have c18b0 : ((l1.length : Int) == 0) = false := beq_eq_false_iff_ne.mpr c18
                  have c18b1 : ((l1.length : Int) != 0) = true := bne_iff_ne.mpr c18
                  have c18b2 : ¬ (l1 = []) := fun h_ => c18 (by rw [h_]; rfl)
                  by_cases c20 : 0 < (l1.length : Int)
                  · rw [if_pos c20] at H
                    have c20b0 : decide (0 < (l1.length : Int)) = true := decide_eq_true c20
                    have c20b1 : decide (0 < l1.length) = true := decide_eq_true (by omega)
                    clear c20
                    replace H := Option.bind_eq_some_iff.mp H
                    obtain ⟨t130, A210, H⟩ := H
                    replace H : (some t130) = some r := H
                    have A21 := Aside0.mk A210
                    clear A210
                    obtain rfl := Option.some.inj H
                    have hcz22_0 : wc.cell? ⟨gb124, 0, none⟩ = some (.slice (some ad125) l0_0.length c0_0) := (blk_cell BK124.out 0).trans rfl
                    have hcz22_1 : wc.cell? ⟨gb124, 1, none⟩ = some (.int .i64 a0_1) := (blk_cell BK124.out 1).trans rfl
                    have hcz22_2 : wc.cell? ⟨gb124, 2, none⟩ = some (.string a0_2) := (blk_cell BK124.out 2).trans rfl
                    have hcz22_3 : wc.cell? ⟨gb124, 3, none⟩ = some (.int .i64 a0_3) := (blk_cell BK124.out 3).trans rfl
                    have hcz22_4 : wc.cell? ⟨gb124, 4, none⟩ = some (.int .u32 a0_4) := (blk_cell BK124.out 4).trans rfl
                    have hcz22_5 : wc.cell? ⟨gb124, 5, none⟩ = some (.bool false) := (blk_cell BK124.out 5).trans rfl
                    have hcz22_6 : wc.cell? ⟨gb124, 6, none⟩ = some (.bool a0_6) := (blk_cell BK124.out 6).trans rfl
                    have hcz22_7 : wc.cell? ⟨gb124, 7, none⟩ = some (.string a0_7) := (blk_cell BK124.out 7).trans rfl
                    have hcz22_8 : wc.cell? ⟨gb124, 8, none⟩ = some (.slice A0_8 l0_8.length c0_8) := (blk_cell BK124.out 8).trans rfl
                    have hcz22_9 : wc.cell? ⟨gb124, 9, none⟩ = some (.slice A0_9 l0_9.length c0_9) := (blk_cell BK124.out 9).trans rfl
                    have hcz22_10 : wc.cell? ⟨gb124, 10, none⟩ = some (.bool a0_10) := (blk_cell BK124.out 10).trans rfl
                    have hfz22_0 := blk_frozen BK124.out 0
                    have hfz22_1 := blk_frozen BK124.out 1
                    have hfz22_2 := blk_frozen BK124.out 2
                    have hfz22_3 := blk_frozen BK124.out 3
                    have hfz22_4 := blk_frozen BK124.out 4
                    have hfz22_5 := blk_frozen BK124.out 5
                    have hfz22_6 := blk_frozen BK124.out 6
                    have hfz22_7 := blk_frozen BK124.out 7
                    have hfz22_8 := blk_frozen BK124.out 8
                    have hfz22_9 := blk_frozen BK124.out 9
                    have hfz22_10 := blk_frozen BK124.out 10
                    have p129 : 0 ≤ (0 : Int) := (by omega)
                    have q129 : 0 < (l1.length : Int) := of_decide_eq_true (by first | (with_reducible assumption) | assumption)
                    obtain ⟨ad129, A129_1, c129_1, e129, hx129_0, hx129_1, hx129_2, hx129_3, hx129_4, hx129_5, hx129_6, hx129_7, hx129_8, hl129_1, hi129_1⟩ := at_T40 HR1.out 0 p129 q129
                    cases e129
                    have qi129 : (0 < l1.length) = True := eq_true (by omega)
                    (try rw [show ((0 : Int)).toNat = 0 from rfl] at hx129_0)
                    (try rw [show 0 * 9 = 0 from rfl] at hx129_0)
                    (try rw [Addr.add_zero'] at hx129_0)
                    (try rw [show ((0 : Int)).toNat = 0 from rfl] at hx129_1)
                    (try rw [show 0 * 9 = 0 from rfl] at hx129_1)
                    (try rw [Addr.add_zero'] at hx129_1)
                    (try rw [show ((0 : Int)).toNat = 0 from rfl] at hx129_2)
                    (try rw [show 0 * 9 = 0 from rfl] at hx129_2)
                    (try rw [Addr.add_zero'] at hx129_2)
                    (try rw [show ((0 : Int)).toNat = 0 from rfl] at hx129_3)
                    (try rw [show 0 * 9 = 0 from rfl] at hx129_3)
                    (try rw [Addr.add_zero'] at hx129_3)
                    (try rw [show ((0 : Int)).toNat = 0 from rfl] at hx129_4)
                    (try rw [show 0 * 9 = 0 from rfl] at hx129_4)
                    (try rw [Addr.add_zero'] at hx129_4)
                    (try rw [show ((0 : Int)).toNat = 0 from rfl] at hx129_5)
                    (try rw [show 0 * 9 = 0 from rfl] at hx129_5)
                    (try rw [Addr.add_zero'] at hx129_5)
                    (try rw [show ((0 : Int)).toNat = 0 from rfl] at hx129_6)
                    (try rw [show 0 * 9 = 0 from rfl] at hx129_6)
                    (try rw [Addr.add_zero'] at hx129_6)
                    (try rw [show ((0 : Int)).toNat = 0 from rfl] at hx129_7)
                    (try rw [show 0 * 9 = 0 from rfl] at hx129_7)
                    (try rw [Addr.add_zero'] at hx129_7)
                    (try rw [show ((0 : Int)).toNat = 0 from rfl] at hx129_8)
                    (try rw [show 0 * 9 = 0 from rfl] at hx129_8)
                    (try rw [Addr.add_zero'] at hx129_8)
                    replace hx129_0 := (HB.out.cell (World.block_lt_of_cell? w _ hx129_0)).trans hx129_0
                    replace hx129_1 := (HB.out.cell (World.block_lt_of_cell? w _ hx129_1)).trans hx129_1
                    replace hx129_2 := (HB.out.cell (World.block_lt_of_cell? w _ hx129_2)).trans hx129_2
                    replace hx129_3 := (HB.out.cell (World.block_lt_of_cell? w _ hx129_3)).trans hx129_3
                    replace hx129_4 := (HB.out.cell (World.block_lt_of_cell? w _ hx129_4)).trans hx129_4
                    replace hx129_5 := (HB.out.cell (World.block_lt_of_cell? w _ hx129_5)).trans hx129_5
                    replace hx129_6 := (HB.out.cell (World.block_lt_of_cell? w _ hx129_6)).trans hx129_6
                    replace hx129_7 := (HB.out.cell (World.block_lt_of_cell? w _ hx129_7)).trans hx129_7
                    replace hx129_8 := (HB.out.cell (World.block_lt_of_cell? w _ hx129_8)).trans hx129_8
                    have HR129_1 := Aside0.mk hi129_1
                    have HC129_1 := Aside0.mk hl129_1
                    clear hi129_1 hl129_1
                    replace p129 := eq_true p129
                    replace q129 := eq_true q129
                    go_wp2_with (first | ((with_reducible refine gate_callee (f := 16) rfl ?_); refine goesL_ (some 33) rfl rfl Tryd.func16 (by kernel_rfl) rfl #[.agg #[.int .i64 ((rd_T40 l1 0).f0), .slice A129_1 ((rd_T40 l1 0).f1).length c129_1, .int .u32 ((rd_T40 l1 0).f2), .int .u64 ((rd_T40 l1 0).f3), .int .i64 ((rd_T40 l1 0).f4), .int .u64 ((rd_T40 l1 0).f5), .bool ((rd_T40 l1 0).f6), .bool ((rd_T40 l1 0).f7), .bool ((rd_T40 l1 0).f8)]] rfl (by (try simp only [List.map_toArray, List.map_cons, List.map_nil]); first | done | rfl | (simp only [List.length_drop, List.length_take]; rfl)) ?_; (with_reducible refine (textout_one.calls ((rd_T40 l1 0).f0) _ _ ((rd_T40 l1 0).f1) ((rd_T40 l1 0).f2) ((rd_T40 l1 0).f3) ((rd_T40 l1 0).f4) ((rd_T40 l1 0).f5) ((rd_T40 l1 0).f6) ((rd_T40 l1 0).f7) ((rd_T40 l1 0).f8) t130 _ ?side1 ?side2 ?side3 A21.out).mono ?_); (case side1 => repeat (first | exact (Kd.C_below HR129_1.out HB.out) | (with_reducible refine Kd.C_alloc ?_ _) | (with_reducible refine Kd.C_drewN ?_ _) | (with_reducible refine Kd.C_drew ?_))); (case side2 => exact HC129_1.out); (case side3 => exact Tabs.below HT.out (by repeat (first | (with_reducible first | exact HB.out | apply below_alloc | apply pw_below_drewN | apply below_drew1 | refine below_set ?_ GE124.out) | exact HB.out))); rintro e w23 ⟨v131, rfl, ho0, hb⟩; refine ⟨_, rfl, ?_⟩; have n0_ := Aside0.mk (Kd.V_lower (Kd.V_mono (ok' := fun k_ => (w.heap.size ≤ k_) ∧ k_ ≠ gb124) ho0 (fun k_ hk_ => ⟨(Nat.le_trans (below_size (by repeat (first | (with_reducible first | exact HB.out | apply below_alloc | apply pw_below_drewN | apply below_drew1 | refine below_set ?_ GE124.out) | exact HB.out))) hk_), (Kd.freshB (g := gb124) (o := .cells #[.slice (some ad125) l0_0.length c0_0, .int .i64 a0_1, .string a0_2, .int .i64 a0_3, .int .u32 a0_4, .bool false, .bool a0_6, .string a0_7, .slice A0_8 l0_8.length c0_8, .slice A0_9 l0_9.length c0_9, .bool a0_10] 28 (0, 0)) (by (with_reducible repeat (first | refine blk_drewN ?_ _ | refine blk_drew ?_ | refine blk_alloc ?_ _)); exact BK124.out) k_ hk_)⟩)) (below_size (by repeat (first | (with_reducible first | exact HB.out | apply below_alloc | apply pw_below_drewN | apply below_drew1 | refine below_set ?_ GE124.out) | exact HB.out)))); have n1_ := Aside0.mk (blk_below (g := gb124) (o := .cells #[.slice (some ad125) l0_0.length c0_0, .int .i64 a0_1, .string a0_2, .int .i64 a0_3, .int .u32 a0_4, .bool false, .bool a0_6, .string a0_7, .slice A0_8 l0_8.length c0_8, .slice A0_9 l0_9.length c0_9, .bool a0_10] 28 (0, 0)) (by (with_reducible repeat (first | refine blk_drewN ?_ _ | refine blk_drew ?_ | refine blk_alloc ?_ _)); exact BK124.out) hb); have n2_ := Aside0.mk (below_step (by repeat (first | (with_reducible first | exact HB.out | apply below_alloc | apply pw_below_drewN | apply below_drew1 | refine below_set ?_ GE124.out) | exact HB.out)) hb); clear BK124; clear HB; have HO132 := n0_; have BK124 := n1_; have HB := n2_; clear n0_ n1_ n2_; (try clear hb); (try clear hb2); (try clear hk); (try clear hi); (try clear ho0)))
                    go_ret
                    exact ⟨_, by first | rfl | (simp <;> rfl) | (simp [*] <;> rfl), by (with_reducible repeat (first | apply Kd.V_alloc | apply Kd.V_drewN | apply Kd.V_drew)); exact Kd.V_mono HO132.out (fun _ hk => hk.1), by repeat (first | (with_reducible first | exact HB.out | apply below_alloc | apply pw_below_drewN | apply below_drew1 | refine below_set ?_ GE124.out) | exact HB.out)⟩
                  · rw [if_neg c20] at H
                    exact absurd H (by simp)
    · rw [if_neg c6] at H
      exact absurd H (by simp)

end Go.Proofs.YtkolleohenjhmaaDoor.X
