/- Functions of this seat and their contracts, printed by wip/tools/xprint.py (a program of this work, over the kit's printer). -/
import Derived.Test.YtkolleohenjhmaaDoorProg
import Derived.Below
import Derived.Deep.Draws
import Derived.Deep.AppendLies
import Derived.Maps.AppendAt
import Derived.OwnWalk
import Derived.Laws.BytesArg
import Derived.Laws.MakeOwn
import Derived.Laws.OwnMore
import Derived.Deep.OwnRows
import Derived.Tactics
import Derived.Lib.ConvBytes
import Derived.Laws.Slices
import Derived.WalkKit
import Derived.KernelRfl
import Derived.RowKit3
import Derived.Deep.LoopGhost
import Derived.Deep.QuietTactic
import Derived.BigQuiet
import Derived.WideLaws
import Derived.Deep.DeepCutAuto
import Derived.Deep.CutBlock
import Derived.Deep.RegionHeld3
import Derived.Laws.Rows
import Derived.Lib.AppendStr
import Derived.ArgAppend
import Derived.Laws.IdiomCopy
import Derived.OrdersHeld
import Derived.Laws.BitsLemmas
import Derived.RowKit
import Derived.Test.YtkolleohenjhmaaDoorWWords
import Derived.Test.YtkolleohenjhmaaDoorWLast
import Derived.Test.YtkolleohenjhmaaDoorWTab
import Derived.Test.YtkolleohenjhmaaDoorWFour
import Derived.Test.YtkolleohenjhmaaDoorWQPut
import Derived.Test.YtkolleohenjhmaaDoorWApart
import Derived.Test.YtkolleohenjhmaaDoorWArr
import Derived.Test.YtkolleohenjhmaaDoorWZeros
import Derived.Test.YtkolleohenjhmaaDoorWFoot
import Derived.Test.YtkolleohenjhmaaDoorWKept
import Derived.Test.YtkolleohenjhmaaDoorWShare
import Derived.Test.YtkolleohenjhmaaDoorWN
import Derived.Test.YtkolleohenjhmaaDoorWFootNe
import Derived.Test.YtkolleohenjhmaaDoorWAt
import Derived.Test.YtkolleohenjhmaaDoorWEqStruct
import Derived.Test.YtkolleohenjhmaaDoorWRepsOne
import Derived.Test.YtkolleohenjhmaaDoorWInv
import Derived.Test.YtkolleohenjhmaaDoorWInvWords
import Derived.Test.YtkolleohenjhmaaDoorWGuard
import Derived.Test.YtkolleohenjhmaaDoorWNEv
import Derived.Test.YtkolleohenjhmaaDoorWMore
import Derived.Test.YtkolleohenjhmaaDoorLFew
namespace Go.Proofs.YtkolleohenjhmaaDoor.X
open Go.RowKit Go.Proofs.YtkolleohenjhmaaDoorW.PrintWords Go.Proofs.YtkolleohenjhmaaDoorW.PrintLast Go.Proofs.YtkolleohenjhmaaDoorW.PrintMore
attribute [local go_sem] max2_int min2_int max_two min_two max_three min_three max_four min_four
set_option linter.unusedVariables false
set_option linter.unusedSimpArgs false

/-! ### butterylaw15_TextoutSilent -/
mutual
def butterylaw15_TextoutSilent.j0 : Nat → List (S40) → Bool → Bool → List (S38) → Int → ByteArray → Int → Int → Bool → Bool → ByteArray → List ByteArray → List ByteArray → Bool → Option (Bool)
  | 0, _, _, _, _, _, _, _, _, _, _, _, _, _, _ => none
  | k + 1, x1, x5, x35, x196000, x196001, x196002, x196003, x196004, x196005, x196006, x196007, x196008, x196009, x196010 => if x35 = true then (some x5) else ((textout_Encode.f k x196000 x196001 x196002 x196003 x196004 x196005 x196006 x196007 x196008 x196009 x196010 x1).bind fun t198 => (if 0 < (x196000.length : Int) then (if ((rd_T38 x196000 0).f0) = 0 then (butterylaw15_TextoutSilent.j1 k x1 (strOfNums t198) true x196000 x196001 x196002 x196003 x196004 x196005 x196006 x196007 x196008 x196009 x196010) else (butterylaw15_TextoutSilent.j1 k x1 (strOfNums t198) (((rd_T38 x196000 0).f0) == 1) x196000 x196001 x196002 x196003 x196004 x196005 x196006 x196007 x196008 x196009 x196010)) else (none)))
def butterylaw15_TextoutSilent.j1 : Nat → List (S40) → ByteArray → Bool → List (S38) → Int → ByteArray → Int → Int → Bool → Bool → ByteArray → List ByteArray → List ByteArray → Bool → Option (Bool)
  | 0, _, _, _, _, _, _, _, _, _, _, _, _, _, _ => none
  | k + 1, x1, x7, x8, x196000, x196001, x196002, x196003, x196004, x196005, x196006, x196007, x196008, x196009, x196010 => if x196005 = true then (if x8 = true then (if 0 < (x196000.length : Int) then (butterylaw15_TextoutSilent.j2 k x1 x7 x8 (((rd_T38 x196000 0).f0) == 16)) else (none)) else (butterylaw15_TextoutSilent.j2 k x1 x7 x8 true)) else (if 0 < (x196000.length : Int) then (butterylaw15_TextoutSilent.j2 k x1 x7 x8 (((rd_T38 x196000 0).f0) == 16)) else (none))
def butterylaw15_TextoutSilent.j2 : Nat → List (S40) → ByteArray → Bool → Bool → Option (Bool)
  | 0, _, _, _, _ => none
  | k + 1, x1, x7, x8, x69 => if x69 = true then (some (x7.toList == ([] : List UInt8))) else (if 0 < (x1.length : Int) then (if x8 = true then (if (x7.size : Int) > 2 then (if 0 ≤ (wrap64 ((x7.size : Int) - 2)) then (if (wrap64 ((x7.size : Int) - 2)) ≤ (x7.size : Int) then (some ((x7.extract ((wrap64 ((x7.size : Int) - 2)) : Int).toNat x7.size).toList == ([13, 10] : List UInt8))) else (none)) else (none)) else (some false)) else (if ((rd_T40 x1 0).f0) = 7 then (if (x7.size : Int) > 2 then (if 0 ≤ (wrap64 ((x7.size : Int) - 2)) then (if (wrap64 ((x7.size : Int) - 2)) ≤ (x7.size : Int) then (some ((x7.extract ((wrap64 ((x7.size : Int) - 2)) : Int).toNat x7.size).toList == ([13, 10] : List UInt8))) else (none)) else (none)) else (some false)) else (if ((rd_T40 x1 0).f0) ≥ 1 then (if (((rd_T40 x1 0).f0) ≤ 11) then (if (x7.size : Int) > 2 then (if 0 ≤ (wrap64 ((x7.size : Int) - 2)) then (if (wrap64 ((x7.size : Int) - 2)) ≤ (x7.size : Int) then (some ((x7.extract ((wrap64 ((x7.size : Int) - 2)) : Int).toNat x7.size).toList == ([13, 10] : List UInt8))) else (none)) else (none)) else (some false)) else (some (x7.toList == ([] : List UInt8)))) else (some (x7.toList == ([] : List UInt8)))))) else (none))
end
def butterylaw15_TextoutSilent.f (k : Nat) (l0_0 : List (S38)) (a0_1 : Int) (a0_2 : ByteArray) (a0_3 : Int) (a0_4 : Int) (a0_5 : Bool) (a0_6 : Bool) (a0_7 : ByteArray) (l0_8 : List ByteArray) (l0_9 : List ByteArray) (a0_10 : Bool) (l1 : List (S40)) : Option (Bool) := (butterylaw15_awake.f k).bind fun t196 => ((butterylaw15_Few.f k l0_0 a0_1 a0_2 a0_3 a0_4 a0_5 a0_6 a0_7 l0_8 l0_9 a0_10 l1).bind fun t197 => (if t196 = true then (if t197 = true then (if (l0_0.length : Int) = 0 then (butterylaw15_TextoutSilent.j0 k l1 t196 true l0_0 a0_1 a0_2 a0_3 a0_4 a0_5 a0_6 a0_7 l0_8 l0_9 a0_10) else (butterylaw15_TextoutSilent.j0 k l1 t196 ((l1.length : Int) != (l0_0.length : Int)) l0_0 a0_1 a0_2 a0_3 a0_4 a0_5 a0_6 a0_7 l0_8 l0_9 a0_10)) else (butterylaw15_TextoutSilent.j0 k l1 t196 true l0_0 a0_1 a0_2 a0_3 a0_4 a0_5 a0_6 a0_7 l0_8 l0_9 a0_10)) else (butterylaw15_TextoutSilent.j0 k l1 t196 true l0_0 a0_1 a0_2 a0_3 a0_4 a0_5 a0_6 a0_7 l0_8 l0_9 a0_10)))
theorem butterylaw15_TextoutSilent.mono_l : ∀ k, (∀ y0 y1 y2 y3 y4 y5 y6 y7 y8 y9 y10 y11 y12 y13, LeO (butterylaw15_TextoutSilent.j0 k y0 y1 y2 y3 y4 y5 y6 y7 y8 y9 y10 y11 y12 y13) (butterylaw15_TextoutSilent.j0 (k + 1) y0 y1 y2 y3 y4 y5 y6 y7 y8 y9 y10 y11 y12 y13)) ∧ (∀ y0 y1 y2 y3 y4 y5 y6 y7 y8 y9 y10 y11 y12 y13, LeO (butterylaw15_TextoutSilent.j1 k y0 y1 y2 y3 y4 y5 y6 y7 y8 y9 y10 y11 y12 y13) (butterylaw15_TextoutSilent.j1 (k + 1) y0 y1 y2 y3 y4 y5 y6 y7 y8 y9 y10 y11 y12 y13)) ∧ (∀ y0 y1 y2 y3, LeO (butterylaw15_TextoutSilent.j2 k y0 y1 y2 y3) (butterylaw15_TextoutSilent.j2 (k + 1) y0 y1 y2 y3))
  | 0 => ⟨fun _ _ _ _ _ _ _ _ _ _ _ _ _ _ r h => by simp [butterylaw15_TextoutSilent.j0] at h, fun _ _ _ _ _ _ _ _ _ _ _ _ _ _ r h => by simp [butterylaw15_TextoutSilent.j1] at h, fun _ _ _ _ r h => by simp [butterylaw15_TextoutSilent.j2] at h⟩
  | k + 1 => by
    obtain ⟨ih0, ih1, ih2⟩ := butterylaw15_TextoutSilent.mono_l k
    refine ⟨?_, ?_, ?_⟩
    · intro y0 y1 y2 y3 y4 y5 y6 y7 y8 y9 y10 y11 y12 y13
      unfold butterylaw15_TextoutSilent.j0
      repeat' first
      | (with_reducible exact ih0 _ _ _ _ _ _ _ _ _ _ _ _ _ _)
      | (with_reducible exact ih1 _ _ _ _ _ _ _ _ _ _ _ _ _ _)
      | (with_reducible exact ih2 _ _ _ _)
      | (with_reducible exact butterylaw15_Few.mono _ _ _ _ _ _ _ _ _ _ _ _ _)
      | (with_reducible exact butterylaw15_awake.mono _)
      | (with_reducible exact textout_Encode.mono _ _ _ _ _ _ _ _ _ _ _ _ _)
      | (with_reducible exact LeO.refl _)
      | (with_reducible exact LeO.none _)
      | (with_reducible refine LeO.ite ?_ ?_)
      | (with_reducible refine LeO.bind ?_ (fun _ => ?_))
      | exact ih0 _ _ _ _ _ _ _ _ _ _ _ _ _ _
      | exact ih1 _ _ _ _ _ _ _ _ _ _ _ _ _ _
      | exact ih2 _ _ _ _
      | exact butterylaw15_Few.mono _ _ _ _ _ _ _ _ _ _ _ _ _
      | exact butterylaw15_awake.mono _
      | exact textout_Encode.mono _ _ _ _ _ _ _ _ _ _ _ _ _
      | exact LeO.none _
      | refine LeO.ite ?_ ?_
      | refine LeO.bind ?_ (fun _ => ?_)
    · intro y0 y1 y2 y3 y4 y5 y6 y7 y8 y9 y10 y11 y12 y13
      unfold butterylaw15_TextoutSilent.j1
      repeat' first
      | (with_reducible exact ih0 _ _ _ _ _ _ _ _ _ _ _ _ _ _)
      | (with_reducible exact ih1 _ _ _ _ _ _ _ _ _ _ _ _ _ _)
      | (with_reducible exact ih2 _ _ _ _)
      | (with_reducible exact butterylaw15_Few.mono _ _ _ _ _ _ _ _ _ _ _ _ _)
      | (with_reducible exact butterylaw15_awake.mono _)
      | (with_reducible exact textout_Encode.mono _ _ _ _ _ _ _ _ _ _ _ _ _)
      | (with_reducible exact LeO.refl _)
      | (with_reducible exact LeO.none _)
      | (with_reducible refine LeO.ite ?_ ?_)
      | (with_reducible refine LeO.bind ?_ (fun _ => ?_))
      | exact ih0 _ _ _ _ _ _ _ _ _ _ _ _ _ _
      | exact ih1 _ _ _ _ _ _ _ _ _ _ _ _ _ _
      | exact ih2 _ _ _ _
      | exact butterylaw15_Few.mono _ _ _ _ _ _ _ _ _ _ _ _ _
      | exact butterylaw15_awake.mono _
      | exact textout_Encode.mono _ _ _ _ _ _ _ _ _ _ _ _ _
      | exact LeO.none _
      | refine LeO.ite ?_ ?_
      | refine LeO.bind ?_ (fun _ => ?_)
    · intro y0 y1 y2 y3
      unfold butterylaw15_TextoutSilent.j2
      repeat' first
      | (with_reducible exact ih0 _ _ _ _ _ _ _ _ _ _ _ _ _ _)
      | (with_reducible exact ih1 _ _ _ _ _ _ _ _ _ _ _ _ _ _)
      | (with_reducible exact ih2 _ _ _ _)
      | (with_reducible exact butterylaw15_Few.mono _ _ _ _ _ _ _ _ _ _ _ _ _)
      | (with_reducible exact butterylaw15_awake.mono _)
      | (with_reducible exact textout_Encode.mono _ _ _ _ _ _ _ _ _ _ _ _ _)
      | (with_reducible exact LeO.refl _)
      | (with_reducible exact LeO.none _)
      | (with_reducible refine LeO.ite ?_ ?_)
      | (with_reducible refine LeO.bind ?_ (fun _ => ?_))
      | exact ih0 _ _ _ _ _ _ _ _ _ _ _ _ _ _
      | exact ih1 _ _ _ _ _ _ _ _ _ _ _ _ _ _
      | exact ih2 _ _ _ _
      | exact butterylaw15_Few.mono _ _ _ _ _ _ _ _ _ _ _ _ _
      | exact butterylaw15_awake.mono _
      | exact textout_Encode.mono _ _ _ _ _ _ _ _ _ _ _ _ _
      | exact LeO.none _
      | refine LeO.ite ?_ ?_
      | refine LeO.bind ?_ (fun _ => ?_)
theorem butterylaw15_TextoutSilent.mono : ∀ a0 a1 a2 a3 a4 a5 a6 a7 a8 a9 a10 a11 k, LeO (butterylaw15_TextoutSilent.f k a0 a1 a2 a3 a4 a5 a6 a7 a8 a9 a10 a11) (butterylaw15_TextoutSilent.f (k + 1) a0 a1 a2 a3 a4 a5 a6 a7 a8 a9 a10 a11) := by
  intro a0 a1 a2 a3 a4 a5 a6 a7 a8 a9 a10 a11 k
  obtain ⟨ih0, ih1, ih2⟩ := butterylaw15_TextoutSilent.mono_l k
  unfold butterylaw15_TextoutSilent.f
  repeat' first
      | (with_reducible exact ih0 _ _ _ _ _ _ _ _ _ _ _ _ _ _)
      | (with_reducible exact ih1 _ _ _ _ _ _ _ _ _ _ _ _ _ _)
      | (with_reducible exact ih2 _ _ _ _)
      | (with_reducible exact butterylaw15_Few.mono _ _ _ _ _ _ _ _ _ _ _ _ _)
      | (with_reducible exact butterylaw15_awake.mono _)
      | (with_reducible exact textout_Encode.mono _ _ _ _ _ _ _ _ _ _ _ _ _)
      | (with_reducible exact LeO.refl _)
      | (with_reducible exact LeO.none _)
      | (with_reducible refine LeO.ite ?_ ?_)
      | (with_reducible refine LeO.bind ?_ (fun _ => ?_))
      | exact ih0 _ _ _ _ _ _ _ _ _ _ _ _ _ _
      | exact ih1 _ _ _ _ _ _ _ _ _ _ _ _ _ _
      | exact ih2 _ _ _ _
      | exact butterylaw15_Few.mono _ _ _ _ _ _ _ _ _ _ _ _ _
      | exact butterylaw15_awake.mono _
      | exact textout_Encode.mono _ _ _ _ _ _ _ _ _ _ _ _ _
      | exact LeO.none _
      | refine LeO.ite ?_ ?_
      | refine LeO.bind ?_ (fun _ => ?_)
set_option maxHeartbeats 8000000 in
set_option maxRecDepth 100000 in
theorem butterylaw15_TextoutSilent.calls (k : Nat) (A0_0 : Option Addr) (c0_0 : Nat) (l0_0 : List (S38)) (a0_1 : Int) (a0_2 : ByteArray) (a0_3 : Int) (a0_4 : Int) (a0_5 : Bool) (a0_6 : Bool) (a0_7 : ByteArray) (A0_8 : Option Addr) (c0_8 : Nat) (l0_8 : List ByteArray) (A0_9 : Option Addr) (c0_9 : Nat) (l0_9 : List ByteArray) (a0_10 : Bool) (A1 : Option Addr) (c1 : Nat) (l1 : List (S40)) (r : Bool) (w : World) (hr0_0 : Kd.C k38 w A0_0 l0_0.length l0_0) (hc0_0 : l0_0.length ≤ c0_0) (hr0_8 : Kd.C Kd.string w A0_8 l0_8.length l0_8) (hc0_8 : l0_8.length ≤ c0_8) (hr0_9 : Kd.C Kd.string w A0_9 l0_9.length l0_9) (hc0_9 : l0_9.length ≤ c0_9) (hr1 : Kd.C k40 w A1 l1.length l1) (hc1 : l1.length ≤ c1) (hT : Tabs w) (h : butterylaw15_TextoutSilent.f k l0_0 a0_1 a0_2 a0_3 a0_4 a0_5 a0_6 a0_7 l0_8 l0_9 a0_10 l1 = some r) :
    Calls Tryd.prog 4 #[.agg #[.slice A0_0 l0_0.length c0_0, .int .i64 a0_1, .string a0_2, .int .i64 a0_3, .int .u32 a0_4, .bool a0_5, .bool a0_6, .string a0_7, .slice A0_8 l0_8.length c0_8, .slice A0_9 l0_9.length c0_9, .bool a0_10], .slice A1 l1.length c1] w fun e w' => e = .returned (.bool r) ∧ Below w.heap.size w w' := by
  have hu28 := Tryd.underlying28
  have HT := Aside0.mk hT
  clear hT
  have HR0_0 := Aside0.mk hr0_0
  have HC0_0 := Aside0.mk hc0_0
  clear hr0_0 hc0_0
  have HR0_8 := Aside0.mk hr0_8
  have HC0_8 := Aside0.mk hc0_8
  clear hr0_8 hc0_8
  have HR0_9 := Aside0.mk hr0_9
  have HC0_9 := Aside0.mk hc0_9
  clear hr0_9 hc0_9
  have HR1 := Aside0.mk hr1
  have HC1 := Aside0.mk hc1
  clear hr1 hc1
  have HB := Aside0.mk (Below.refl w.heap.size w)
  have H : ((butterylaw15_awake.f k).bind fun t196 => ((butterylaw15_Few.f k l0_0 a0_1 a0_2 a0_3 a0_4 a0_5 a0_6 a0_7 l0_8 l0_9 a0_10 l1).bind fun t197 => (if t196 = true then (if t197 = true then (if (l0_0.length : Int) = 0 then (butterylaw15_TextoutSilent.j0 k l1 t196 true l0_0 a0_1 a0_2 a0_3 a0_4 a0_5 a0_6 a0_7 l0_8 l0_9 a0_10) else (butterylaw15_TextoutSilent.j0 k l1 t196 ((l1.length : Int) != (l0_0.length : Int)) l0_0 a0_1 a0_2 a0_3 a0_4 a0_5 a0_6 a0_7 l0_8 l0_9 a0_10)) else (butterylaw15_TextoutSilent.j0 k l1 t196 true l0_0 a0_1 a0_2 a0_3 a0_4 a0_5 a0_6 a0_7 l0_8 l0_9 a0_10)) else (butterylaw15_TextoutSilent.j0 k l1 t196 true l0_0 a0_1 a0_2 a0_3 a0_4 a0_5 a0_6 a0_7 l0_8 l0_9 a0_10)))) = some r := h
  clear h
  replace H := Option.bind_eq_some_iff.mp H
  obtain ⟨t196, A30, H⟩ := H
  replace H : ((butterylaw15_Few.f k l0_0 a0_1 a0_2 a0_3 a0_4 a0_5 a0_6 a0_7 l0_8 l0_9 a0_10 l1).bind fun t197 => (if t196 = true then (if t197 = true then (if (l0_0.length : Int) = 0 then (butterylaw15_TextoutSilent.j0 k l1 t196 true l0_0 a0_1 a0_2 a0_3 a0_4 a0_5 a0_6 a0_7 l0_8 l0_9 a0_10) else (butterylaw15_TextoutSilent.j0 k l1 t196 ((l1.length : Int) != (l0_0.length : Int)) l0_0 a0_1 a0_2 a0_3 a0_4 a0_5 a0_6 a0_7 l0_8 l0_9 a0_10)) else (butterylaw15_TextoutSilent.j0 k l1 t196 true l0_0 a0_1 a0_2 a0_3 a0_4 a0_5 a0_6 a0_7 l0_8 l0_9 a0_10)) else (butterylaw15_TextoutSilent.j0 k l1 t196 true l0_0 a0_1 a0_2 a0_3 a0_4 a0_5 a0_6 a0_7 l0_8 l0_9 a0_10))) = some r := H
  have A3 := Aside0.mk A30
  clear A30
  replace H := Option.bind_eq_some_iff.mp H
  obtain ⟨t197, A40, H⟩ := H
  replace H : (if t196 = true then (if t197 = true then (if (l0_0.length : Int) = 0 then (butterylaw15_TextoutSilent.j0 k l1 t196 true l0_0 a0_1 a0_2 a0_3 a0_4 a0_5 a0_6 a0_7 l0_8 l0_9 a0_10) else (butterylaw15_TextoutSilent.j0 k l1 t196 ((l1.length : Int) != (l0_0.length : Int)) l0_0 a0_1 a0_2 a0_3 a0_4 a0_5 a0_6 a0_7 l0_8 l0_9 a0_10)) else (butterylaw15_TextoutSilent.j0 k l1 t196 true l0_0 a0_1 a0_2 a0_3 a0_4 a0_5 a0_6 a0_7 l0_8 l0_9 a0_10)) else (butterylaw15_TextoutSilent.j0 k l1 t196 true l0_0 a0_1 a0_2 a0_3 a0_4 a0_5 a0_6 a0_7 l0_8 l0_9 a0_10)) = some r := H
  have A4 := Aside0.mk A40
  clear A40
  have HC5 := Aside0.mk H
  clear H
  go_enter Tryd.func4, Tryd.ntmps4
  go_upto_region 3 with (first | ((with_reducible refine gate_dst (N := 2) rfl ?_); (try (refine gate_guard (by rfl) ?_; dsimp only)); refine box_event ?hg (N := 2) ?hd (cs := #[.slice A0_0 l0_0.length c0_0, .int .i64 a0_1, .string a0_2, .int .i64 a0_3, .int .u32 a0_4, .bool a0_5, .bool a0_6, .string a0_7, .slice A0_8 l0_8.length c0_8, .slice A0_9 l0_9.length c0_9, .bool a0_10]) (t := 28) ?hr ?_; (case hd => rfl); (case hg => rfl); (case hr => first | (go_simp; done) | (go_simp; rfl)); intro gb195 hg w6 hbox hb; have n0_ := Aside0.mk (below_step (by repeat (first | (with_reducible first | exact HB.out | apply below_alloc | apply pw_below_drewN | apply below_drew1) | exact HB.out)) hb); have n1_ := Aside0.mk (hbox); have n2_ := Aside0.mk ((by rw [hg]; exact (below_size (by repeat (first | (with_reducible first | exact HB.out | apply below_alloc | apply pw_below_drewN | apply below_drew1) | exact HB.out))) : w.heap.size ≤ gb195)); have n3_ := Aside0.mk ((by rw [hg]; exact (below_size (by repeat (first | (with_reducible first | exact HB.out | apply below_alloc | apply pw_below_drewN | apply below_drew1) | exact HB.out))) : w.heap.size ≤ gb195)); clear HB; have HB := n0_; have BK195 := n1_; have GW195 := n2_; have GE195 := n3_; clear n0_ n1_ n2_ n3_; clear hb hbox hg) | ((with_reducible refine gate_callee (f := 8) rfl ?_); refine goesL_ (some 12) rfl rfl Tryd.func8 (by kernel_rfl) rfl #[] rfl (by (try simp only [List.map_toArray, List.map_cons, List.map_nil]); first | done | rfl | (simp only [List.length_drop, List.length_take]; rfl)) ?_; (with_reducible refine (butterylaw15_awake.calls k  t196 _ ?side1 A3.out).mono ?_); (case side1 => exact Tabs.below HT.out (by repeat (first | (with_reducible first | exact HB.out | apply below_alloc | apply pw_below_drewN | apply below_drew1 | refine below_set ?_ GE195.out) | exact HB.out))); rintro e w7 ⟨rfl, hb⟩; refine ⟨_, rfl, ?_⟩; have n0_ := Aside0.mk (blk_below (g := gb195) (o := .cells #[.slice A0_0 l0_0.length c0_0, .int .i64 a0_1, .string a0_2, .int .i64 a0_3, .int .u32 a0_4, .bool a0_5, .bool a0_6, .string a0_7, .slice A0_8 l0_8.length c0_8, .slice A0_9 l0_9.length c0_9, .bool a0_10] 28 (0, 0)) (by (with_reducible repeat (first | refine blk_drewN ?_ _ | refine blk_drew ?_ | refine blk_alloc ?_ _)); exact BK195.out) hb); have n1_ := Aside0.mk (below_step (by repeat (first | (with_reducible first | exact HB.out | apply below_alloc | apply pw_below_drewN | apply below_drew1 | refine below_set ?_ GE195.out) | exact HB.out)) hb); clear BK195; clear HB; have BK195 := n0_; have HB := n1_; clear n0_ n1_; (try clear hb); (try clear hb2); (try clear hk); (try clear hi); have hcz8_0 : w7.cell? ⟨gb195, 0, none⟩ = some (.slice A0_0 l0_0.length c0_0) := (blk_cell BK195.out 0).trans rfl; have hcz8_1 : w7.cell? ⟨gb195, 1, none⟩ = some (.int .i64 a0_1) := (blk_cell BK195.out 1).trans rfl; have hcz8_2 : w7.cell? ⟨gb195, 2, none⟩ = some (.string a0_2) := (blk_cell BK195.out 2).trans rfl; have hcz8_3 : w7.cell? ⟨gb195, 3, none⟩ = some (.int .i64 a0_3) := (blk_cell BK195.out 3).trans rfl; have hcz8_4 : w7.cell? ⟨gb195, 4, none⟩ = some (.int .u32 a0_4) := (blk_cell BK195.out 4).trans rfl; have hcz8_5 : w7.cell? ⟨gb195, 5, none⟩ = some (.bool a0_5) := (blk_cell BK195.out 5).trans rfl; have hcz8_6 : w7.cell? ⟨gb195, 6, none⟩ = some (.bool a0_6) := (blk_cell BK195.out 6).trans rfl; have hcz8_7 : w7.cell? ⟨gb195, 7, none⟩ = some (.string a0_7) := (blk_cell BK195.out 7).trans rfl; have hcz8_8 : w7.cell? ⟨gb195, 8, none⟩ = some (.slice A0_8 l0_8.length c0_8) := (blk_cell BK195.out 8).trans rfl; have hcz8_9 : w7.cell? ⟨gb195, 9, none⟩ = some (.slice A0_9 l0_9.length c0_9) := (blk_cell BK195.out 9).trans rfl; have hcz8_10 : w7.cell? ⟨gb195, 10, none⟩ = some (.bool a0_10) := (blk_cell BK195.out 10).trans rfl; have hfz8_0 := blk_frozen BK195.out 0; have hfz8_1 := blk_frozen BK195.out 1; have hfz8_2 := blk_frozen BK195.out 2; have hfz8_3 := blk_frozen BK195.out 3; have hfz8_4 := blk_frozen BK195.out 4; have hfz8_5 := blk_frozen BK195.out 5; have hfz8_6 := blk_frozen BK195.out 6; have hfz8_7 := blk_frozen BK195.out 7; have hfz8_8 := blk_frozen BK195.out 8; have hfz8_9 := blk_frozen BK195.out 9; have hfz8_10 := blk_frozen BK195.out 10) | ((with_reducible refine gate_callee (f := 9) rfl ?_); refine goesL_ (some 15) rfl rfl Tryd.func9 (by kernel_rfl) rfl #[.agg #[.slice A0_0 l0_0.length c0_0, .int .i64 a0_1, .string a0_2, .int .i64 a0_3, .int .u32 a0_4, .bool a0_5, .bool a0_6, .string a0_7, .slice A0_8 l0_8.length c0_8, .slice A0_9 l0_9.length c0_9, .bool a0_10], .slice A1 l1.length c1] rfl (by (try simp only [List.map_toArray, List.map_cons, List.map_nil]); first | done | rfl | (simp only [List.length_drop, List.length_take]; rfl)) ?_; (with_reducible refine (butterylaw15_Few.calls k _ _ l0_0 a0_1 a0_2 a0_3 a0_4 a0_5 a0_6 a0_7 _ _ l0_8 _ _ l0_9 a0_10 _ _ l1 t197 _ ?side1 ?side2 ?side3 ?side4 ?side5 ?side6 ?side7 ?side8 A4.out).mono ?_); (case side1 => repeat (first | exact (Kd.C_below HR0_0.out HB.out) | (with_reducible refine Kd.C_alloc ?_ _) | (with_reducible refine Kd.C_drewN ?_ _) | (with_reducible refine Kd.C_drew ?_))); (case side2 => exact HC0_0.out); (case side3 => repeat (first | exact (Kd.C_below HR0_8.out HB.out) | (with_reducible refine Kd.C_alloc ?_ _) | (with_reducible refine Kd.C_drewN ?_ _) | (with_reducible refine Kd.C_drew ?_))); (case side4 => exact HC0_8.out); (case side5 => repeat (first | exact (Kd.C_below HR0_9.out HB.out) | (with_reducible refine Kd.C_alloc ?_ _) | (with_reducible refine Kd.C_drewN ?_ _) | (with_reducible refine Kd.C_drew ?_))); (case side6 => exact HC0_9.out); (case side7 => repeat (first | exact (Kd.C_below HR1.out HB.out) | (with_reducible refine Kd.C_alloc ?_ _) | (with_reducible refine Kd.C_drewN ?_ _) | (with_reducible refine Kd.C_drew ?_))); (case side8 => exact HC1.out); rintro e w9 ⟨rfl, hb⟩; refine ⟨_, rfl, ?_⟩; have n0_ := Aside0.mk (blk_below (g := gb195) (o := .cells #[.slice A0_0 l0_0.length c0_0, .int .i64 a0_1, .string a0_2, .int .i64 a0_3, .int .u32 a0_4, .bool a0_5, .bool a0_6, .string a0_7, .slice A0_8 l0_8.length c0_8, .slice A0_9 l0_9.length c0_9, .bool a0_10] 28 (0, 0)) (by (with_reducible repeat (first | refine blk_drewN ?_ _ | refine blk_drew ?_ | refine blk_alloc ?_ _)); exact BK195.out) hb); have n1_ := Aside0.mk (below_step (by repeat (first | (with_reducible first | exact HB.out | apply below_alloc | apply pw_below_drewN | apply below_drew1 | refine below_set ?_ GE195.out) | exact HB.out)) hb); clear BK195; clear HB; have BK195 := n0_; have HB := n1_; clear n0_ n1_; (try clear hb); (try clear hb2); (try clear hk); (try clear hi)))
  (try simp only [Act.put, List.setIfInBounds_toArray, List.set_cons_zero, List.set_cons_succ])
  go_cut [35] (fun v35 wc => ∃ (kq : Nat) (x35_4 : Bool), v35 = .bool x35_4 ∧ Aside0 (butterylaw15_TextoutSilent.j0 kq l1 t196 x35_4 l0_0 a0_1 a0_2 a0_3 a0_4 a0_5 a0_6 a0_7 l0_8 l0_9 a0_10 = some r) ∧ Aside0 (kq ≤ k) ∧ Aside0 (wc.heap[gb195]? = some (.cells #[(.slice A0_0 l0_0.length c0_0), .int .i64 a0_1, .string a0_2, .int .i64 a0_3, .int .u32 a0_4, .bool a0_5, .bool a0_6, .string a0_7, (.slice A0_8 l0_8.length c0_8), (.slice A0_9 l0_9.length c0_9), .bool a0_10] 28 (0, 0))) ∧ Aside0 (Below w.heap.size w wc))
  case first =>
    have H := HC5.out
    clear HC5
    by_cases c10 : t196 = true
    · subst c10
      have H1 : (if t197 = true then (if (l0_0.length : Int) = 0 then (butterylaw15_TextoutSilent.j0 k l1 true true l0_0 a0_1 a0_2 a0_3 a0_4 a0_5 a0_6 a0_7 l0_8 l0_9 a0_10) else (butterylaw15_TextoutSilent.j0 k l1 true ((l1.length : Int) != (l0_0.length : Int)) l0_0 a0_1 a0_2 a0_3 a0_4 a0_5 a0_6 a0_7 l0_8 l0_9 a0_10)) else (butterylaw15_TextoutSilent.j0 k l1 true true l0_0 a0_1 a0_2 a0_3 a0_4 a0_5 a0_6 a0_7 l0_8 l0_9 a0_10)) = some r := by rw [if_pos rfl] at H; exact H
      clear H
      have H := H1
      clear H1
      by_cases c11 : t197 = true
      · subst c11
        have H1 : (if (l0_0.length : Int) = 0 then (butterylaw15_TextoutSilent.j0 k l1 true true l0_0 a0_1 a0_2 a0_3 a0_4 a0_5 a0_6 a0_7 l0_8 l0_9 a0_10) else (butterylaw15_TextoutSilent.j0 k l1 true ((l1.length : Int) != (l0_0.length : Int)) l0_0 a0_1 a0_2 a0_3 a0_4 a0_5 a0_6 a0_7 l0_8 l0_9 a0_10)) = some r := by rw [if_pos rfl] at H; exact H
        clear H
        have H := H1
        clear H1
        by_cases c12 : (l0_0.length : Int) = 0
        · rw [if_pos c12] at H
          have c12b0 : ((l0_0.length : Int) == 0) = true := beq_iff_eq.mpr c12
          have c12b1 : ((l0_0.length : Int) != 0) = false := bne_eq_false_iff_eq.mpr c12
          clear c12
          (first | rw [c12b0] | (simp only [i64_w, i32_w]; rw [c12b0]) | skip)
          have H' := Aside0.mk H
          clear H
          have hcz13_0 : w9.cell? ⟨gb195, 0, none⟩ = some (.slice A0_0 l0_0.length c0_0) := (blk_cell BK195.out 0).trans rfl
          have hcz13_1 : w9.cell? ⟨gb195, 1, none⟩ = some (.int .i64 a0_1) := (blk_cell BK195.out 1).trans rfl
          have hcz13_2 : w9.cell? ⟨gb195, 2, none⟩ = some (.string a0_2) := (blk_cell BK195.out 2).trans rfl
          have hcz13_3 : w9.cell? ⟨gb195, 3, none⟩ = some (.int .i64 a0_3) := (blk_cell BK195.out 3).trans rfl
          have hcz13_4 : w9.cell? ⟨gb195, 4, none⟩ = some (.int .u32 a0_4) := (blk_cell BK195.out 4).trans rfl
          have hcz13_5 : w9.cell? ⟨gb195, 5, none⟩ = some (.bool a0_5) := (blk_cell BK195.out 5).trans rfl
          have hcz13_6 : w9.cell? ⟨gb195, 6, none⟩ = some (.bool a0_6) := (blk_cell BK195.out 6).trans rfl
          have hcz13_7 : w9.cell? ⟨gb195, 7, none⟩ = some (.string a0_7) := (blk_cell BK195.out 7).trans rfl
          have hcz13_8 : w9.cell? ⟨gb195, 8, none⟩ = some (.slice A0_8 l0_8.length c0_8) := (blk_cell BK195.out 8).trans rfl
          have hcz13_9 : w9.cell? ⟨gb195, 9, none⟩ = some (.slice A0_9 l0_9.length c0_9) := (blk_cell BK195.out 9).trans rfl
          have hcz13_10 : w9.cell? ⟨gb195, 10, none⟩ = some (.bool a0_10) := (blk_cell BK195.out 10).trans rfl
          have hfz13_0 := blk_frozen BK195.out 0
          have hfz13_1 := blk_frozen BK195.out 1
          have hfz13_2 := blk_frozen BK195.out 2
          have hfz13_3 := blk_frozen BK195.out 3
          have hfz13_4 := blk_frozen BK195.out 4
          have hfz13_5 := blk_frozen BK195.out 5
          have hfz13_6 := blk_frozen BK195.out 6
          have hfz13_7 := blk_frozen BK195.out 7
          have hfz13_8 := blk_frozen BK195.out 8
          have hfz13_9 := blk_frozen BK195.out 9
          have hfz13_10 := blk_frozen BK195.out 10
          go_wp2
          go_meet
          case rel => exact ⟨_, (true), (by first | rfl | (simp; done) | (simp [*]; done)), H', ⟨by first | omega | exact Nat.le_refl _⟩, ⟨by (with_reducible repeat (first | refine blk_drewN ?_ _ | refine blk_drew ?_ | refine blk_alloc ?_ _)); exact BK195.out⟩, ⟨by repeat (first | (with_reducible first | exact HB.out | apply below_alloc | apply pw_below_drewN | apply below_drew1 | refine below_set ?_ GE195.out) | exact HB.out)⟩⟩
        · rw [if_neg c12] at H
          have c12b0 : ((l0_0.length : Int) == 0) = false := beq_eq_false_iff_ne.mpr c12
          have c12b1 : ((l0_0.length : Int) != 0) = true := bne_iff_ne.mpr c12
          have c12b2 : ¬ (l0_0 = []) := fun h_ => c12 (by rw [h_]; rfl)
          (first | rw [c12b0] | (simp only [i64_w, i32_w]; rw [c12b0]) | skip)
          have H' := Aside0.mk H
          clear H
          have hcz14_0 : w9.cell? ⟨gb195, 0, none⟩ = some (.slice A0_0 l0_0.length c0_0) := (blk_cell BK195.out 0).trans rfl
          have hcz14_1 : w9.cell? ⟨gb195, 1, none⟩ = some (.int .i64 a0_1) := (blk_cell BK195.out 1).trans rfl
          have hcz14_2 : w9.cell? ⟨gb195, 2, none⟩ = some (.string a0_2) := (blk_cell BK195.out 2).trans rfl
          have hcz14_3 : w9.cell? ⟨gb195, 3, none⟩ = some (.int .i64 a0_3) := (blk_cell BK195.out 3).trans rfl
          have hcz14_4 : w9.cell? ⟨gb195, 4, none⟩ = some (.int .u32 a0_4) := (blk_cell BK195.out 4).trans rfl
          have hcz14_5 : w9.cell? ⟨gb195, 5, none⟩ = some (.bool a0_5) := (blk_cell BK195.out 5).trans rfl
          have hcz14_6 : w9.cell? ⟨gb195, 6, none⟩ = some (.bool a0_6) := (blk_cell BK195.out 6).trans rfl
          have hcz14_7 : w9.cell? ⟨gb195, 7, none⟩ = some (.string a0_7) := (blk_cell BK195.out 7).trans rfl
          have hcz14_8 : w9.cell? ⟨gb195, 8, none⟩ = some (.slice A0_8 l0_8.length c0_8) := (blk_cell BK195.out 8).trans rfl
          have hcz14_9 : w9.cell? ⟨gb195, 9, none⟩ = some (.slice A0_9 l0_9.length c0_9) := (blk_cell BK195.out 9).trans rfl
          have hcz14_10 : w9.cell? ⟨gb195, 10, none⟩ = some (.bool a0_10) := (blk_cell BK195.out 10).trans rfl
          have hfz14_0 := blk_frozen BK195.out 0
          have hfz14_1 := blk_frozen BK195.out 1
          have hfz14_2 := blk_frozen BK195.out 2
          have hfz14_3 := blk_frozen BK195.out 3
          have hfz14_4 := blk_frozen BK195.out 4
          have hfz14_5 := blk_frozen BK195.out 5
          have hfz14_6 := blk_frozen BK195.out 6
          have hfz14_7 := blk_frozen BK195.out 7
          have hfz14_8 := blk_frozen BK195.out 8
          have hfz14_9 := blk_frozen BK195.out 9
          have hfz14_10 := blk_frozen BK195.out 10
          go_wp2
          go_meet
          case rel => exact ⟨_, (((l1.length : Int) != (l0_0.length : Int))), (by first | rfl | (simp; done) | (simp [*]; done)), H', ⟨by first | omega | exact Nat.le_refl _⟩, ⟨by (with_reducible repeat (first | refine blk_drewN ?_ _ | refine blk_drew ?_ | refine blk_alloc ?_ _)); exact BK195.out⟩, ⟨by repeat (first | (with_reducible first | exact HB.out | apply below_alloc | apply pw_below_drewN | apply below_drew1 | refine below_set ?_ GE195.out) | exact HB.out)⟩⟩
      · replace c11 := Bool.eq_false_iff.mpr c11
        subst c11
        have H1 : (butterylaw15_TextoutSilent.j0 k l1 true true l0_0 a0_1 a0_2 a0_3 a0_4 a0_5 a0_6 a0_7 l0_8 l0_9 a0_10) = some r := by rw [if_neg (show ¬ (false = true) by decide)] at H; exact H
        clear H
        have H := H1
        clear H1
        have H' := Aside0.mk H
        clear H
        go_wp2
        go_meet
        case rel => exact ⟨_, (true), (by first | rfl | (simp; done) | (simp [*]; done)), H', ⟨by first | omega | exact Nat.le_refl _⟩, ⟨by (with_reducible repeat (first | refine blk_drewN ?_ _ | refine blk_drew ?_ | refine blk_alloc ?_ _)); exact BK195.out⟩, ⟨by repeat (first | (with_reducible first | exact HB.out | apply below_alloc | apply pw_below_drewN | apply below_drew1 | refine below_set ?_ GE195.out) | exact HB.out)⟩⟩
    · replace c10 := Bool.eq_false_iff.mpr c10
      subst c10
      have H1 : (butterylaw15_TextoutSilent.j0 k l1 false true l0_0 a0_1 a0_2 a0_3 a0_4 a0_5 a0_6 a0_7 l0_8 l0_9 a0_10) = some r := by rw [if_neg (show ¬ (false = true) by decide)] at H; exact H
      clear H
      have H := H1
      clear H1
      have H' := Aside0.mk H
      clear H
      go_wp2
      go_meet
      case rel => exact ⟨_, (true), (by first | rfl | (simp; done) | (simp [*]; done)), H', ⟨by first | omega | exact Nat.le_refl _⟩, ⟨by (with_reducible repeat (first | refine blk_drewN ?_ _ | refine blk_drew ?_ | refine blk_alloc ?_ _)); exact BK195.out⟩, ⟨by repeat (first | (with_reducible first | exact HB.out | apply below_alloc | apply pw_below_drewN | apply below_drew1 | refine below_set ?_ GE195.out) | exact HB.out)⟩⟩
  case rest =>
    clear HC5
    try clear c1
    try clear p2
    try clear c4
    try clear c8
    try clear c9
    try clear c10
    try clear c11
    try clear c12
    try clear c12b0
    try clear c12b1
    try clear c12b2
    try clear hcz13_0
    try clear hcz13_1
    try clear hcz13_10
    try clear hcz13_2
    try clear hcz13_3
    try clear hcz13_4
    try clear hcz13_5
    try clear hcz13_6
    try clear hcz13_7
    try clear hcz13_8
    try clear hcz13_9
    try clear hcz14_0
    try clear hcz14_1
    try clear hcz14_10
    try clear hcz14_2
    try clear hcz14_3
    try clear hcz14_4
    try clear hcz14_5
    try clear hcz14_6
    try clear hcz14_7
    try clear hcz14_8
    try clear hcz14_9
    try clear hcz8_0
    try clear hcz8_1
    try clear hcz8_10
    try clear hcz8_2
    try clear hcz8_3
    try clear hcz8_4
    try clear hcz8_5
    try clear hcz8_6
    try clear hcz8_7
    try clear hcz8_8
    try clear hcz8_9
    try clear hfz13_0
    try clear hfz13_1
    try clear hfz13_10
    try clear hfz13_2
    try clear hfz13_3
    try clear hfz13_4
    try clear hfz13_5
    try clear hfz13_6
    try clear hfz13_7
    try clear hfz13_8
    try clear hfz13_9
    try clear hfz14_0
    try clear hfz14_1
    try clear hfz14_10
    try clear hfz14_2
    try clear hfz14_3
    try clear hfz14_4
    try clear hfz14_5
    try clear hfz14_6
    try clear hfz14_7
    try clear hfz14_8
    try clear hfz14_9
    try clear hfz8_0
    try clear hfz8_1
    try clear hfz8_10
    try clear hfz8_2
    try clear hfz8_3
    try clear hfz8_4
    try clear hfz8_5
    try clear hfz8_6
    try clear hfz8_7
    try clear hfz8_8
    try clear hfz8_9
    obtain ⟨kq, x35_4, rfl, HA, HJ4, BK195, HB⟩ := hcut
    cases kq with
    | zero => exact absurd HA.out (by simp [butterylaw15_TextoutSilent.j0])
    | succ kj4 =>
      have H := HA.out
      clear HA
      simp only [butterylaw15_TextoutSilent.j0] at H
      by_cases c15 : x35_4 = true
      · subst c15
        have H1 : (some t196) = some r := by rw [if_pos rfl] at H; exact H
        clear H
        have H := H1
        clear H1
        obtain rfl := Option.some.inj H
        go_wp2
        go_ret
        exact ⟨by first | rfl | (simp <;> rfl) | (simp [*] <;> rfl), by repeat (first | (with_reducible first | exact HB.out | apply below_alloc | apply pw_below_drewN | apply below_drew1 | refine below_set ?_ GE195.out) | exact HB.out)⟩
      · replace c15 := Bool.eq_false_iff.mpr c15
        subst c15
        have H1 : ((textout_Encode.f kj4 l0_0 a0_1 a0_2 a0_3 a0_4 a0_5 a0_6 a0_7 l0_8 l0_9 a0_10 l1).bind fun t198 => (if 0 < (l0_0.length : Int) then (if ((rd_T38 l0_0 0).f0) = 0 then (butterylaw15_TextoutSilent.j1 kj4 l1 (strOfNums t198) true l0_0 a0_1 a0_2 a0_3 a0_4 a0_5 a0_6 a0_7 l0_8 l0_9 a0_10) else (butterylaw15_TextoutSilent.j1 kj4 l1 (strOfNums t198) (((rd_T38 l0_0 0).f0) == 1) l0_0 a0_1 a0_2 a0_3 a0_4 a0_5 a0_6 a0_7 l0_8 l0_9 a0_10)) else (none))) = some r := by rw [if_neg (show ¬ (false = true) by decide)] at H; exact H
        clear H
        have H := H1
        clear H1
        replace H := Option.bind_eq_some_iff.mp H
        obtain ⟨t198, A160, H⟩ := H
        replace H : (if 0 < (l0_0.length : Int) then (if ((rd_T38 l0_0 0).f0) = 0 then (butterylaw15_TextoutSilent.j1 kj4 l1 (strOfNums t198) true l0_0 a0_1 a0_2 a0_3 a0_4 a0_5 a0_6 a0_7 l0_8 l0_9 a0_10) else (butterylaw15_TextoutSilent.j1 kj4 l1 (strOfNums t198) (((rd_T38 l0_0 0).f0) == 1) l0_0 a0_1 a0_2 a0_3 a0_4 a0_5 a0_6 a0_7 l0_8 l0_9 a0_10)) else (none)) = some r := H
        have A16 := Aside0.mk A160
        clear A160
        have HC17 := Aside0.mk H
        clear H
        have hcz18_0 : wc.cell? ⟨gb195, 0, none⟩ = some (.slice A0_0 l0_0.length c0_0) := (blk_cell BK195.out 0).trans rfl
        have hcz18_1 : wc.cell? ⟨gb195, 1, none⟩ = some (.int .i64 a0_1) := (blk_cell BK195.out 1).trans rfl
        have hcz18_2 : wc.cell? ⟨gb195, 2, none⟩ = some (.string a0_2) := (blk_cell BK195.out 2).trans rfl
        have hcz18_3 : wc.cell? ⟨gb195, 3, none⟩ = some (.int .i64 a0_3) := (blk_cell BK195.out 3).trans rfl
        have hcz18_4 : wc.cell? ⟨gb195, 4, none⟩ = some (.int .u32 a0_4) := (blk_cell BK195.out 4).trans rfl
        have hcz18_5 : wc.cell? ⟨gb195, 5, none⟩ = some (.bool a0_5) := (blk_cell BK195.out 5).trans rfl
        have hcz18_6 : wc.cell? ⟨gb195, 6, none⟩ = some (.bool a0_6) := (blk_cell BK195.out 6).trans rfl
        have hcz18_7 : wc.cell? ⟨gb195, 7, none⟩ = some (.string a0_7) := (blk_cell BK195.out 7).trans rfl
        have hcz18_8 : wc.cell? ⟨gb195, 8, none⟩ = some (.slice A0_8 l0_8.length c0_8) := (blk_cell BK195.out 8).trans rfl
        have hcz18_9 : wc.cell? ⟨gb195, 9, none⟩ = some (.slice A0_9 l0_9.length c0_9) := (blk_cell BK195.out 9).trans rfl
        have hcz18_10 : wc.cell? ⟨gb195, 10, none⟩ = some (.bool a0_10) := (blk_cell BK195.out 10).trans rfl
        have hfz18_0 := blk_frozen BK195.out 0
        have hfz18_1 := blk_frozen BK195.out 1
        have hfz18_2 := blk_frozen BK195.out 2
        have hfz18_3 := blk_frozen BK195.out 3
        have hfz18_4 := blk_frozen BK195.out 4
        have hfz18_5 := blk_frozen BK195.out 5
        have hfz18_6 := blk_frozen BK195.out 6
        have hfz18_7 := blk_frozen BK195.out 7
        have hfz18_8 := blk_frozen BK195.out 8
        have hfz18_9 := blk_frozen BK195.out 9
        have hfz18_10 := blk_frozen BK195.out 10
        go_upto_region 6 with (first | ((with_reducible refine gate_callee (f := 10) rfl ?_); refine goesL_ (some 39) rfl rfl Tryd.func10 (by kernel_rfl) rfl #[.agg #[.slice A0_0 l0_0.length c0_0, .int .i64 a0_1, .string a0_2, .int .i64 a0_3, .int .u32 a0_4, .bool a0_5, .bool a0_6, .string a0_7, .slice A0_8 l0_8.length c0_8, .slice A0_9 l0_9.length c0_9, .bool a0_10], .slice A1 l1.length c1] rfl (by (try simp only [List.map_toArray, List.map_cons, List.map_nil]); first | done | rfl | (simp only [List.length_drop, List.length_take]; rfl)) ?_; (with_reducible refine (textout_Encode.calls kj4 _ _ l0_0 a0_1 a0_2 a0_3 a0_4 a0_5 a0_6 a0_7 _ _ l0_8 _ _ l0_9 a0_10 _ _ l1 t198 _ ?side1 ?side2 ?side3 ?side4 ?side5 ?side6 ?side7 ?side8 ?side9 A16.out).mono ?_); (case side1 => repeat (first | exact (Kd.C_below HR0_0.out HB.out) | (with_reducible refine Kd.C_alloc ?_ _) | (with_reducible refine Kd.C_drewN ?_ _) | (with_reducible refine Kd.C_drew ?_))); (case side2 => exact HC0_0.out); (case side3 => repeat (first | exact (Kd.C_below HR0_8.out HB.out) | (with_reducible refine Kd.C_alloc ?_ _) | (with_reducible refine Kd.C_drewN ?_ _) | (with_reducible refine Kd.C_drew ?_))); (case side4 => exact HC0_8.out); (case side5 => repeat (first | exact (Kd.C_below HR0_9.out HB.out) | (with_reducible refine Kd.C_alloc ?_ _) | (with_reducible refine Kd.C_drewN ?_ _) | (with_reducible refine Kd.C_drew ?_))); (case side6 => exact HC0_9.out); (case side7 => repeat (first | exact (Kd.C_below HR1.out HB.out) | (with_reducible refine Kd.C_alloc ?_ _) | (with_reducible refine Kd.C_drewN ?_ _) | (with_reducible refine Kd.C_drew ?_))); (case side8 => exact HC1.out); (case side9 => exact Tabs.below HT.out (by repeat (first | (with_reducible first | exact HB.out | apply below_alloc | apply pw_below_drewN | apply below_drew1 | refine below_set ?_ GE195.out) | exact HB.out))); rintro e w19 ⟨v199, rfl, ho0, hb⟩; refine ⟨_, rfl, ?_⟩; have n0_ := Aside0.mk (Kd.V_lower (Kd.V_mono (ok' := fun k_ => k_ ≠ gb195) ho0 (fun k_ hk_ => (Kd.freshB (g := gb195) (o := .cells #[.slice A0_0 l0_0.length c0_0, .int .i64 a0_1, .string a0_2, .int .i64 a0_3, .int .u32 a0_4, .bool a0_5, .bool a0_6, .string a0_7, .slice A0_8 l0_8.length c0_8, .slice A0_9 l0_9.length c0_9, .bool a0_10] 28 (0, 0)) (by (with_reducible repeat (first | refine blk_drewN ?_ _ | refine blk_drew ?_ | refine blk_alloc ?_ _)); exact BK195.out) k_ hk_))) (below_size (by repeat (first | (with_reducible first | exact HB.out | apply below_alloc | apply pw_below_drewN | apply below_drew1 | refine below_set ?_ GE195.out) | exact HB.out)))); have n1_ := Aside0.mk (blk_below (g := gb195) (o := .cells #[.slice A0_0 l0_0.length c0_0, .int .i64 a0_1, .string a0_2, .int .i64 a0_3, .int .u32 a0_4, .bool a0_5, .bool a0_6, .string a0_7, .slice A0_8 l0_8.length c0_8, .slice A0_9 l0_9.length c0_9, .bool a0_10] 28 (0, 0)) (by (with_reducible repeat (first | refine blk_drewN ?_ _ | refine blk_drew ?_ | refine blk_alloc ?_ _)); exact BK195.out) hb); have n2_ := Aside0.mk (below_step (by repeat (first | (with_reducible first | exact HB.out | apply below_alloc | apply pw_below_drewN | apply below_drew1 | refine below_set ?_ GE195.out) | exact HB.out)) hb); clear BK195; clear HB; have HO200 := n0_; have BK195 := n1_; have HB := n2_; clear n0_ n1_ n2_; (try clear hb); (try clear hb2); (try clear hk); (try clear hi); (try clear ho0); have hcv20 := V_string (P := Tryd.prog) Tryd.underlying32 Tryd.underlying5 Tryd.underlying9 HO200.out))
        (try simp only [Act.put, List.setIfInBounds_toArray, List.set_cons_zero, List.set_cons_succ])
        go_cut [8] (fun v8 wc => ∃ (kq : Nat) (x8_16 : Bool), v8 = .bool x8_16 ∧ Aside0 (butterylaw15_TextoutSilent.j1 kq l1 (strOfNums t198) x8_16 l0_0 a0_1 a0_2 a0_3 a0_4 a0_5 a0_6 a0_7 l0_8 l0_9 a0_10 = some r) ∧ Aside0 (kq ≤ kj4) ∧ Aside0 (wc.heap[gb195]? = some (.cells #[(.slice A0_0 l0_0.length c0_0), .int .i64 a0_1, .string a0_2, .int .i64 a0_3, .int .u32 a0_4, .bool a0_5, .bool a0_6, .string a0_7, (.slice A0_8 l0_8.length c0_8), (.slice A0_9 l0_9.length c0_9), .bool a0_10] 28 (0, 0))) ∧ Aside0 (Below w.heap.size w wc))
        case first =>
          have H := HC17.out
          clear HC17
          by_cases c21 : 0 < (l0_0.length : Int)
          · rw [if_pos c21] at H
            have c21b0 : decide (0 < (l0_0.length : Int)) = true := decide_eq_true c21
            have c21b1 : decide (0 < l0_0.length) = true := decide_eq_true (by omega)
            clear c21
            (first | rw [c21b0] | (simp only [i64_w, i32_w]; rw [c21b0]) | skip)
            by_cases c22 : ((rd_T38 l0_0 0).f0) = 0
            · rw [if_pos c22] at H
              have c22b0 : (((rd_T38 l0_0 0).f0) == 0) = true := beq_iff_eq.mpr c22
              have c22b1 : (((rd_T38 l0_0 0).f0) != 0) = false := bne_eq_false_iff_eq.mpr c22
              clear c22
              have H' := Aside0.mk H
              clear H
              have hcz23_0 : w19.cell? ⟨gb195, 0, none⟩ = some (.slice A0_0 l0_0.length c0_0) := (blk_cell BK195.out 0).trans rfl
              have hcz23_1 : w19.cell? ⟨gb195, 1, none⟩ = some (.int .i64 a0_1) := (blk_cell BK195.out 1).trans rfl
              have hcz23_2 : w19.cell? ⟨gb195, 2, none⟩ = some (.string a0_2) := (blk_cell BK195.out 2).trans rfl
              have hcz23_3 : w19.cell? ⟨gb195, 3, none⟩ = some (.int .i64 a0_3) := (blk_cell BK195.out 3).trans rfl
              have hcz23_4 : w19.cell? ⟨gb195, 4, none⟩ = some (.int .u32 a0_4) := (blk_cell BK195.out 4).trans rfl
              have hcz23_5 : w19.cell? ⟨gb195, 5, none⟩ = some (.bool a0_5) := (blk_cell BK195.out 5).trans rfl
              have hcz23_6 : w19.cell? ⟨gb195, 6, none⟩ = some (.bool a0_6) := (blk_cell BK195.out 6).trans rfl
              have hcz23_7 : w19.cell? ⟨gb195, 7, none⟩ = some (.string a0_7) := (blk_cell BK195.out 7).trans rfl
              have hcz23_8 : w19.cell? ⟨gb195, 8, none⟩ = some (.slice A0_8 l0_8.length c0_8) := (blk_cell BK195.out 8).trans rfl
              have hcz23_9 : w19.cell? ⟨gb195, 9, none⟩ = some (.slice A0_9 l0_9.length c0_9) := (blk_cell BK195.out 9).trans rfl
              have hcz23_10 : w19.cell? ⟨gb195, 10, none⟩ = some (.bool a0_10) := (blk_cell BK195.out 10).trans rfl
              have hfz23_0 := blk_frozen BK195.out 0
              have hfz23_1 := blk_frozen BK195.out 1
              have hfz23_2 := blk_frozen BK195.out 2
              have hfz23_3 := blk_frozen BK195.out 3
              have hfz23_4 := blk_frozen BK195.out 4
              have hfz23_5 := blk_frozen BK195.out 5
              have hfz23_6 := blk_frozen BK195.out 6
              have hfz23_7 := blk_frozen BK195.out 7
              have hfz23_8 := blk_frozen BK195.out 8
              have hfz23_9 := blk_frozen BK195.out 9
              have hfz23_10 := blk_frozen BK195.out 10
              have p201 : 0 ≤ (0 : Int) := (by omega)
              have q201 : 0 < (l0_0.length : Int) := of_decide_eq_true (by first | (with_reducible assumption) | assumption)
              obtain ⟨ad201, A201_2, c201_2, e201, hx201_0, hx201_1, hx201_2, hx201_3, hx201_4, hx201_5, hx201_6, hx201_7, hx201_8, hx201_9, hl201_2, hi201_2⟩ := at_T38 HR0_0.out 0 p201 q201
              cases e201
              have qi201 : (0 < l0_0.length) = True := eq_true (by omega)
              (try rw [show ((0 : Int)).toNat = 0 from rfl] at hx201_0)
              (try rw [show 0 * 10 = 0 from rfl] at hx201_0)
              (try rw [Addr.add_zero'] at hx201_0)
              (try rw [show ((0 : Int)).toNat = 0 from rfl] at hx201_1)
              (try rw [show 0 * 10 = 0 from rfl] at hx201_1)
              (try rw [Addr.add_zero'] at hx201_1)
              (try rw [show ((0 : Int)).toNat = 0 from rfl] at hx201_2)
              (try rw [show 0 * 10 = 0 from rfl] at hx201_2)
              (try rw [Addr.add_zero'] at hx201_2)
              (try rw [show ((0 : Int)).toNat = 0 from rfl] at hx201_3)
              (try rw [show 0 * 10 = 0 from rfl] at hx201_3)
              (try rw [Addr.add_zero'] at hx201_3)
              (try rw [show ((0 : Int)).toNat = 0 from rfl] at hx201_4)
              (try rw [show 0 * 10 = 0 from rfl] at hx201_4)
              (try rw [Addr.add_zero'] at hx201_4)
              (try rw [show ((0 : Int)).toNat = 0 from rfl] at hx201_5)
              (try rw [show 0 * 10 = 0 from rfl] at hx201_5)
              (try rw [Addr.add_zero'] at hx201_5)
              (try rw [show ((0 : Int)).toNat = 0 from rfl] at hx201_6)
              (try rw [show 0 * 10 = 0 from rfl] at hx201_6)
              (try rw [Addr.add_zero'] at hx201_6)
              (try rw [show ((0 : Int)).toNat = 0 from rfl] at hx201_7)
              (try rw [show 0 * 10 = 0 from rfl] at hx201_7)
              (try rw [Addr.add_zero'] at hx201_7)
              (try rw [show ((0 : Int)).toNat = 0 from rfl] at hx201_8)
              (try rw [show 0 * 10 = 0 from rfl] at hx201_8)
              (try rw [Addr.add_zero'] at hx201_8)
              (try rw [show ((0 : Int)).toNat = 0 from rfl] at hx201_9)
              (try rw [show 0 * 10 = 0 from rfl] at hx201_9)
              (try rw [Addr.add_zero'] at hx201_9)
              replace hx201_0 := (HB.out.cell (World.block_lt_of_cell? w _ hx201_0)).trans hx201_0
              replace hx201_1 := (HB.out.cell (World.block_lt_of_cell? w _ hx201_1)).trans hx201_1
              replace hx201_2 := (HB.out.cell (World.block_lt_of_cell? w _ hx201_2)).trans hx201_2
              replace hx201_3 := (HB.out.cell (World.block_lt_of_cell? w _ hx201_3)).trans hx201_3
              replace hx201_4 := (HB.out.cell (World.block_lt_of_cell? w _ hx201_4)).trans hx201_4
              replace hx201_5 := (HB.out.cell (World.block_lt_of_cell? w _ hx201_5)).trans hx201_5
              replace hx201_6 := (HB.out.cell (World.block_lt_of_cell? w _ hx201_6)).trans hx201_6
              replace hx201_7 := (HB.out.cell (World.block_lt_of_cell? w _ hx201_7)).trans hx201_7
              replace hx201_8 := (HB.out.cell (World.block_lt_of_cell? w _ hx201_8)).trans hx201_8
              replace hx201_9 := (HB.out.cell (World.block_lt_of_cell? w _ hx201_9)).trans hx201_9
              have HR201_2 := Aside0.mk hi201_2
              have HC201_2 := Aside0.mk hl201_2
              clear hi201_2 hl201_2
              replace p201 := eq_true p201
              replace q201 := eq_true q201
              go_wp2
              go_meet
              case rel => exact ⟨_, (true), (by first | rfl | (simp; done) | (simp [*]; done)), H', ⟨by have := HJ4.out; first | omega | exact Nat.le_refl _⟩, ⟨by (with_reducible repeat (first | refine blk_drewN ?_ _ | refine blk_drew ?_ | refine blk_alloc ?_ _)); exact BK195.out⟩, ⟨by repeat (first | (with_reducible first | exact HB.out | apply below_alloc | apply pw_below_drewN | apply below_drew1 | refine below_set ?_ GE195.out) | exact HB.out)⟩⟩
            · rw [if_neg c22] at H
              have c22b0 : (((rd_T38 l0_0 0).f0) == 0) = false := beq_eq_false_iff_ne.mpr c22
              have c22b1 : (((rd_T38 l0_0 0).f0) != 0) = true := bne_iff_ne.mpr c22
              have H' := Aside0.mk H
              clear H
              have hcz24_0 : w19.cell? ⟨gb195, 0, none⟩ = some (.slice A0_0 l0_0.length c0_0) := (blk_cell BK195.out 0).trans rfl
              have hcz24_1 : w19.cell? ⟨gb195, 1, none⟩ = some (.int .i64 a0_1) := (blk_cell BK195.out 1).trans rfl
              have hcz24_2 : w19.cell? ⟨gb195, 2, none⟩ = some (.string a0_2) := (blk_cell BK195.out 2).trans rfl
              have hcz24_3 : w19.cell? ⟨gb195, 3, none⟩ = some (.int .i64 a0_3) := (blk_cell BK195.out 3).trans rfl
              have hcz24_4 : w19.cell? ⟨gb195, 4, none⟩ = some (.int .u32 a0_4) := (blk_cell BK195.out 4).trans rfl
              have hcz24_5 : w19.cell? ⟨gb195, 5, none⟩ = some (.bool a0_5) := (blk_cell BK195.out 5).trans rfl
              have hcz24_6 : w19.cell? ⟨gb195, 6, none⟩ = some (.bool a0_6) := (blk_cell BK195.out 6).trans rfl
              have hcz24_7 : w19.cell? ⟨gb195, 7, none⟩ = some (.string a0_7) := (blk_cell BK195.out 7).trans rfl
              have hcz24_8 : w19.cell? ⟨gb195, 8, none⟩ = some (.slice A0_8 l0_8.length c0_8) := (blk_cell BK195.out 8).trans rfl
              have hcz24_9 : w19.cell? ⟨gb195, 9, none⟩ = some (.slice A0_9 l0_9.length c0_9) := (blk_cell BK195.out 9).trans rfl
              have hcz24_10 : w19.cell? ⟨gb195, 10, none⟩ = some (.bool a0_10) := (blk_cell BK195.out 10).trans rfl
              have hfz24_0 := blk_frozen BK195.out 0
              have hfz24_1 := blk_frozen BK195.out 1
              have hfz24_2 := blk_frozen BK195.out 2
              have hfz24_3 := blk_frozen BK195.out 3
              have hfz24_4 := blk_frozen BK195.out 4
              have hfz24_5 := blk_frozen BK195.out 5
              have hfz24_6 := blk_frozen BK195.out 6
              have hfz24_7 := blk_frozen BK195.out 7
              have hfz24_8 := blk_frozen BK195.out 8
              have hfz24_9 := blk_frozen BK195.out 9
              have hfz24_10 := blk_frozen BK195.out 10
              have p201 : 0 ≤ (0 : Int) := (by omega)
              have q201 : 0 < (l0_0.length : Int) := of_decide_eq_true (by first | (with_reducible assumption) | assumption)
              obtain ⟨ad201, A201_2, c201_2, e201, hx201_0, hx201_1, hx201_2, hx201_3, hx201_4, hx201_5, hx201_6, hx201_7, hx201_8, hx201_9, hl201_2, hi201_2⟩ := at_T38 HR0_0.out 0 p201 q201
              cases e201
              have qi201 : (0 < l0_0.length) = True := eq_true (by omega)
              (try rw [show ((0 : Int)).toNat = 0 from rfl] at hx201_0)
              (try rw [show 0 * 10 = 0 from rfl] at hx201_0)
              (try rw [Addr.add_zero'] at hx201_0)
              (try rw [show ((0 : Int)).toNat = 0 from rfl] at hx201_1)
              (try rw [show 0 * 10 = 0 from rfl] at hx201_1)
              (try rw [Addr.add_zero'] at hx201_1)
              (try rw [show ((0 : Int)).toNat = 0 from rfl] at hx201_2)
              (try rw [show 0 * 10 = 0 from rfl] at hx201_2)
              (try rw [Addr.add_zero'] at hx201_2)
              (try rw [show ((0 : Int)).toNat = 0 from rfl] at hx201_3)
              (try rw [show 0 * 10 = 0 from rfl] at hx201_3)
              (try rw [Addr.add_zero'] at hx201_3)
              (try rw [show ((0 : Int)).toNat = 0 from rfl] at hx201_4)
              (try rw [show 0 * 10 = 0 from rfl] at hx201_4)
              (try rw [Addr.add_zero'] at hx201_4)
              (try rw [show ((0 : Int)).toNat = 0 from rfl] at hx201_5)
              (try rw [show 0 * 10 = 0 from rfl] at hx201_5)
              (try rw [Addr.add_zero'] at hx201_5)
              (try rw [show ((0 : Int)).toNat = 0 from rfl] at hx201_6)
              (try rw [show 0 * 10 = 0 from rfl] at hx201_6)
              (try rw [Addr.add_zero'] at hx201_6)
              (try rw [show ((0 : Int)).toNat = 0 from rfl] at hx201_7)
              (try rw [show 0 * 10 = 0 from rfl] at hx201_7)
              (try rw [Addr.add_zero'] at hx201_7)
              (try rw [show ((0 : Int)).toNat = 0 from rfl] at hx201_8)
              (try rw [show 0 * 10 = 0 from rfl] at hx201_8)
              (try rw [Addr.add_zero'] at hx201_8)
              (try rw [show ((0 : Int)).toNat = 0 from rfl] at hx201_9)
              (try rw [show 0 * 10 = 0 from rfl] at hx201_9)
              (try rw [Addr.add_zero'] at hx201_9)
              replace hx201_0 := (HB.out.cell (World.block_lt_of_cell? w _ hx201_0)).trans hx201_0
              replace hx201_1 := (HB.out.cell (World.block_lt_of_cell? w _ hx201_1)).trans hx201_1
              replace hx201_2 := (HB.out.cell (World.block_lt_of_cell? w _ hx201_2)).trans hx201_2
              replace hx201_3 := (HB.out.cell (World.block_lt_of_cell? w _ hx201_3)).trans hx201_3
              replace hx201_4 := (HB.out.cell (World.block_lt_of_cell? w _ hx201_4)).trans hx201_4
              replace hx201_5 := (HB.out.cell (World.block_lt_of_cell? w _ hx201_5)).trans hx201_5
              replace hx201_6 := (HB.out.cell (World.block_lt_of_cell? w _ hx201_6)).trans hx201_6
              replace hx201_7 := (HB.out.cell (World.block_lt_of_cell? w _ hx201_7)).trans hx201_7
              replace hx201_8 := (HB.out.cell (World.block_lt_of_cell? w _ hx201_8)).trans hx201_8
              replace hx201_9 := (HB.out.cell (World.block_lt_of_cell? w _ hx201_9)).trans hx201_9
              have HR201_2 := Aside0.mk hi201_2
              have HC201_2 := Aside0.mk hl201_2
              clear hi201_2 hl201_2
              replace p201 := eq_true p201
              replace q201 := eq_true q201
              have p202 : 0 ≤ (0 : Int) := (by omega)
              have q202 : 0 < (l0_0.length : Int) := of_decide_eq_true (by first | (with_reducible assumption) | assumption)
              obtain ⟨ad202, A202_2, c202_2, e202, hx202_0, hx202_1, hx202_2, hx202_3, hx202_4, hx202_5, hx202_6, hx202_7, hx202_8, hx202_9, hl202_2, hi202_2⟩ := at_T38 HR0_0.out 0 p202 q202
              obtain rfl : ad201 = ad202 := (by injection e202)
              have qi202 : (0 < l0_0.length) = True := eq_true (by omega)
              (try rw [show ((0 : Int)).toNat = 0 from rfl] at hx202_0)
              (try rw [show 0 * 10 = 0 from rfl] at hx202_0)
              (try rw [Addr.add_zero'] at hx202_0)
              (try rw [show ((0 : Int)).toNat = 0 from rfl] at hx202_1)
              (try rw [show 0 * 10 = 0 from rfl] at hx202_1)
              (try rw [Addr.add_zero'] at hx202_1)
              (try rw [show ((0 : Int)).toNat = 0 from rfl] at hx202_2)
              (try rw [show 0 * 10 = 0 from rfl] at hx202_2)
              (try rw [Addr.add_zero'] at hx202_2)
              (try rw [show ((0 : Int)).toNat = 0 from rfl] at hx202_3)
              (try rw [show 0 * 10 = 0 from rfl] at hx202_3)
              (try rw [Addr.add_zero'] at hx202_3)
              (try rw [show ((0 : Int)).toNat = 0 from rfl] at hx202_4)
              (try rw [show 0 * 10 = 0 from rfl] at hx202_4)
              (try rw [Addr.add_zero'] at hx202_4)
              (try rw [show ((0 : Int)).toNat = 0 from rfl] at hx202_5)
              (try rw [show 0 * 10 = 0 from rfl] at hx202_5)
              (try rw [Addr.add_zero'] at hx202_5)
              (try rw [show ((0 : Int)).toNat = 0 from rfl] at hx202_6)
              (try rw [show 0 * 10 = 0 from rfl] at hx202_6)
              (try rw [Addr.add_zero'] at hx202_6)
              (try rw [show ((0 : Int)).toNat = 0 from rfl] at hx202_7)
              (try rw [show 0 * 10 = 0 from rfl] at hx202_7)
              (try rw [Addr.add_zero'] at hx202_7)
              (try rw [show ((0 : Int)).toNat = 0 from rfl] at hx202_8)
              (try rw [show 0 * 10 = 0 from rfl] at hx202_8)
              (try rw [Addr.add_zero'] at hx202_8)
              (try rw [show ((0 : Int)).toNat = 0 from rfl] at hx202_9)
              (try rw [show 0 * 10 = 0 from rfl] at hx202_9)
              (try rw [Addr.add_zero'] at hx202_9)
              replace hx202_0 := (HB.out.cell (World.block_lt_of_cell? w _ hx202_0)).trans hx202_0
              replace hx202_1 := (HB.out.cell (World.block_lt_of_cell? w _ hx202_1)).trans hx202_1
              replace hx202_2 := (HB.out.cell (World.block_lt_of_cell? w _ hx202_2)).trans hx202_2
              replace hx202_3 := (HB.out.cell (World.block_lt_of_cell? w _ hx202_3)).trans hx202_3
              replace hx202_4 := (HB.out.cell (World.block_lt_of_cell? w _ hx202_4)).trans hx202_4
              replace hx202_5 := (HB.out.cell (World.block_lt_of_cell? w _ hx202_5)).trans hx202_5
              replace hx202_6 := (HB.out.cell (World.block_lt_of_cell? w _ hx202_6)).trans hx202_6
              replace hx202_7 := (HB.out.cell (World.block_lt_of_cell? w _ hx202_7)).trans hx202_7
              replace hx202_8 := (HB.out.cell (World.block_lt_of_cell? w _ hx202_8)).trans hx202_8
              replace hx202_9 := (HB.out.cell (World.block_lt_of_cell? w _ hx202_9)).trans hx202_9
              have HR202_2 := Aside0.mk hi202_2
              have HC202_2 := Aside0.mk hl202_2
              clear hi202_2 hl202_2
              replace p202 := eq_true p202
              replace q202 := eq_true q202
              have ea_ := Option.some.inj (hx201_2.symm.trans hx202_2)
              injection ea_ with ea_ en_ ec_
              subst ea_
              subst ec_
              clear en_
              go_wp2
              go_meet
              case rel => exact ⟨_, ((((rd_T38 l0_0 0).f0) == 1)), (by first | rfl | (simp; done) | (simp [*]; done)), H', ⟨by have := HJ4.out; first | omega | exact Nat.le_refl _⟩, ⟨by (with_reducible repeat (first | refine blk_drewN ?_ _ | refine blk_drew ?_ | refine blk_alloc ?_ _)); exact BK195.out⟩, ⟨by repeat (first | (with_reducible first | exact HB.out | apply below_alloc | apply pw_below_drewN | apply below_drew1 | refine below_set ?_ GE195.out) | exact HB.out)⟩⟩
          · rw [if_neg c21] at H
            exact absurd H (by simp)
        case rest =>
          clear HC17
          try clear c1
          try clear c2
          try clear p2
          try clear q2
          try clear hx2
          try clear hcv2
          try clear qi2
          try clear c4
          try clear c8
          try clear c9
          try clear c10
          try clear c11
          try clear c12
          try clear c12b0
          try clear c12b1
          try clear c12b2
          try clear c15
          try clear c20
          try clear p20
          try clear q20
          try clear hx20
          try clear hcv20
          try clear qi20
          try clear c21
          try clear c21b0
          try clear c21b1
          try clear c22
          try clear c22b0
          try clear c22b1
          try clear hcz13_0
          try clear hcz13_1
          try clear hcz13_10
          try clear hcz13_2
          try clear hcz13_3
          try clear hcz13_4
          try clear hcz13_5
          try clear hcz13_6
          try clear hcz13_7
          try clear hcz13_8
          try clear hcz13_9
          try clear hcz14_0
          try clear hcz14_1
          try clear hcz14_10
          try clear hcz14_2
          try clear hcz14_3
          try clear hcz14_4
          try clear hcz14_5
          try clear hcz14_6
          try clear hcz14_7
          try clear hcz14_8
          try clear hcz14_9
          try clear hcz18_0
          try clear hcz18_1
          try clear hcz18_10
          try clear hcz18_2
          try clear hcz18_3
          try clear hcz18_4
          try clear hcz18_5
          try clear hcz18_6
          try clear hcz18_7
          try clear hcz18_8
          try clear hcz18_9
          try clear hcz23_0
          try clear hcz23_1
          try clear hcz23_10
          try clear hcz23_2
          try clear hcz23_3
          try clear hcz23_4
          try clear hcz23_5
          try clear hcz23_6
          try clear hcz23_7
          try clear hcz23_8
          try clear hcz23_9
          try clear hcz24_0
          try clear hcz24_1
          try clear hcz24_10
          try clear hcz24_2
          try clear hcz24_3
          try clear hcz24_4
          try clear hcz24_5
          try clear hcz24_6
          try clear hcz24_7
          try clear hcz24_8
          try clear hcz24_9
          try clear hcz8_0
          try clear hcz8_1
          try clear hcz8_10
          try clear hcz8_2
          try clear hcz8_3
          try clear hcz8_4
          try clear hcz8_5
          try clear hcz8_6
          try clear hcz8_7
          try clear hcz8_8
          try clear hcz8_9
          try clear hfz13_0
          try clear hfz13_1
          try clear hfz13_10
          try clear hfz13_2
          try clear hfz13_3
          try clear hfz13_4
          try clear hfz13_5
          try clear hfz13_6
          try clear hfz13_7
          try clear hfz13_8
          try clear hfz13_9
          try clear hfz14_0
          try clear hfz14_1
          try clear hfz14_10
          try clear hfz14_2
          try clear hfz14_3
          try clear hfz14_4
          try clear hfz14_5
          try clear hfz14_6
          try clear hfz14_7
          try clear hfz14_8
          try clear hfz14_9
          try clear hfz18_0
          try clear hfz18_1
          try clear hfz18_10
          try clear hfz18_2
          try clear hfz18_3
          try clear hfz18_4
          try clear hfz18_5
          try clear hfz18_6
          try clear hfz18_7
          try clear hfz18_8
          try clear hfz18_9
          try clear hfz23_0
          try clear hfz23_1
          try clear hfz23_10
          try clear hfz23_2
          try clear hfz23_3
          try clear hfz23_4
          try clear hfz23_5
          try clear hfz23_6
          try clear hfz23_7
          try clear hfz23_8
          try clear hfz23_9
          try clear hfz24_0
          try clear hfz24_1
          try clear hfz24_10
          try clear hfz24_2
          try clear hfz24_3
          try clear hfz24_4
          try clear hfz24_5
          try clear hfz24_6
          try clear hfz24_7
          try clear hfz24_8
          try clear hfz24_9
          try clear hfz8_0
          try clear hfz8_1
          try clear hfz8_10
          try clear hfz8_2
          try clear hfz8_3
          try clear hfz8_4
          try clear hfz8_5
          try clear hfz8_6
          try clear hfz8_7
          try clear hfz8_8
          try clear hfz8_9
          try clear hx201_0
          try clear hx201_1
          try clear hx201_2
          try clear hx201_3
          try clear hx201_4
          try clear hx201_5
          try clear hx201_6
          try clear hx201_7
          try clear hx201_8
          try clear hx201_9
          try clear hx202_0
          try clear hx202_1
          try clear hx202_2
          try clear hx202_3
          try clear hx202_4
          try clear hx202_5
          try clear hx202_6
          try clear hx202_7
          try clear hx202_8
          try clear hx202_9
          try clear p2
          try clear p201
          try clear p202
          try clear q201
          try clear q202
          obtain ⟨kq, x8_16, rfl, HA, HJ16, BK195, HB⟩ := hcut
          cases kq with
          | zero => exact absurd HA.out (by simp [butterylaw15_TextoutSilent.j1])
          | succ kj16 =>
            have H := HA.out
            clear HA
            simp only [butterylaw15_TextoutSilent.j1] at H
            have HC25 := Aside0.mk H
            clear H
            go_upto_region 7 with (fail)
            go_cut [69] (fun v69 wc => ∃ (kq : Nat) (x69_24 : Bool), v69 = .bool x69_24 ∧ Aside0 (butterylaw15_TextoutSilent.j2 kq l1 (strOfNums t198) x8_16 x69_24 = some r) ∧ Aside0 (kq ≤ kj16) ∧ Aside0 (wc.heap[gb195]? = some (.cells #[(.slice A0_0 l0_0.length c0_0), .int .i64 a0_1, .string a0_2, .int .i64 a0_3, .int .u32 a0_4, .bool a0_5, .bool a0_6, .string a0_7, (.slice A0_8 l0_8.length c0_8), (.slice A0_9 l0_9.length c0_9), .bool a0_10] 28 (0, 0))) ∧ Aside0 (Below w.heap.size w wc))
            case first =>
              have H := HC25.out
              clear HC25
              by_cases c26 : a0_5 = true
              · subst c26
                have H1 : (if x8_16 = true then (if 0 < (l0_0.length : Int) then (butterylaw15_TextoutSilent.j2 kj16 l1 (strOfNums t198) x8_16 (((rd_T38 l0_0 0).f0) == 16)) else (none)) else (butterylaw15_TextoutSilent.j2 kj16 l1 (strOfNums t198) x8_16 true)) = some r := by rw [if_pos rfl] at H; exact H
                clear H
                have H := H1
                clear H1
                by_cases c27 : x8_16 = true
                · subst c27
                  have H1 : (if 0 < (l0_0.length : Int) then (butterylaw15_TextoutSilent.j2 kj16 l1 (strOfNums t198) true (((rd_T38 l0_0 0).f0) == 16)) else (none)) = some r := by rw [if_pos rfl] at H; exact H
                  clear H
                  have H := H1
                  clear H1
                  by_cases c28 : 0 < (l0_0.length : Int)
                  · rw [if_pos c28] at H
                    have c28b0 : decide (0 < (l0_0.length : Int)) = true := decide_eq_true c28
                    have c28b1 : decide (0 < l0_0.length) = true := decide_eq_true (by omega)
                    clear c28
                    (first | rw [c28b0] | (simp only [i64_w, i32_w]; rw [c28b0]) | skip)
                    have H' := Aside0.mk H
                    clear H
                    have hcz29_0 : wc.cell? ⟨gb195, 0, none⟩ = some (.slice A0_0 l0_0.length c0_0) := (blk_cell BK195.out 0).trans rfl
                    have hcz29_1 : wc.cell? ⟨gb195, 1, none⟩ = some (.int .i64 a0_1) := (blk_cell BK195.out 1).trans rfl
                    have hcz29_2 : wc.cell? ⟨gb195, 2, none⟩ = some (.string a0_2) := (blk_cell BK195.out 2).trans rfl
                    have hcz29_3 : wc.cell? ⟨gb195, 3, none⟩ = some (.int .i64 a0_3) := (blk_cell BK195.out 3).trans rfl
                    have hcz29_4 : wc.cell? ⟨gb195, 4, none⟩ = some (.int .u32 a0_4) := (blk_cell BK195.out 4).trans rfl
                    have hcz29_5 : wc.cell? ⟨gb195, 5, none⟩ = some (.bool true) := (blk_cell BK195.out 5).trans rfl
                    have hcz29_6 : wc.cell? ⟨gb195, 6, none⟩ = some (.bool a0_6) := (blk_cell BK195.out 6).trans rfl
                    have hcz29_7 : wc.cell? ⟨gb195, 7, none⟩ = some (.string a0_7) := (blk_cell BK195.out 7).trans rfl
                    have hcz29_8 : wc.cell? ⟨gb195, 8, none⟩ = some (.slice A0_8 l0_8.length c0_8) := (blk_cell BK195.out 8).trans rfl
                    have hcz29_9 : wc.cell? ⟨gb195, 9, none⟩ = some (.slice A0_9 l0_9.length c0_9) := (blk_cell BK195.out 9).trans rfl
                    have hcz29_10 : wc.cell? ⟨gb195, 10, none⟩ = some (.bool a0_10) := (blk_cell BK195.out 10).trans rfl
                    have hfz29_0 := blk_frozen BK195.out 0
                    have hfz29_1 := blk_frozen BK195.out 1
                    have hfz29_2 := blk_frozen BK195.out 2
                    have hfz29_3 := blk_frozen BK195.out 3
                    have hfz29_4 := blk_frozen BK195.out 4
                    have hfz29_5 := blk_frozen BK195.out 5
                    have hfz29_6 := blk_frozen BK195.out 6
                    have hfz29_7 := blk_frozen BK195.out 7
                    have hfz29_8 := blk_frozen BK195.out 8
                    have hfz29_9 := blk_frozen BK195.out 9
                    have hfz29_10 := blk_frozen BK195.out 10
                    have p203 : 0 ≤ (0 : Int) := (by omega)
                    have q203 : 0 < (l0_0.length : Int) := of_decide_eq_true (by first | (with_reducible assumption) | assumption)
                    obtain ⟨ad203, A203_2, c203_2, e203, hx203_0, hx203_1, hx203_2, hx203_3, hx203_4, hx203_5, hx203_6, hx203_7, hx203_8, hx203_9, hl203_2, hi203_2⟩ := at_T38 HR0_0.out 0 p203 q203
                    cases e203
                    have qi203 : (0 < l0_0.length) = True := eq_true (by omega)
                    (try rw [show ((0 : Int)).toNat = 0 from rfl] at hx203_0)
                    (try rw [show 0 * 10 = 0 from rfl] at hx203_0)
                    (try rw [Addr.add_zero'] at hx203_0)
                    (try rw [show ((0 : Int)).toNat = 0 from rfl] at hx203_1)
                    (try rw [show 0 * 10 = 0 from rfl] at hx203_1)
                    (try rw [Addr.add_zero'] at hx203_1)
                    (try rw [show ((0 : Int)).toNat = 0 from rfl] at hx203_2)
                    (try rw [show 0 * 10 = 0 from rfl] at hx203_2)
                    (try rw [Addr.add_zero'] at hx203_2)
                    (try rw [show ((0 : Int)).toNat = 0 from rfl] at hx203_3)
                    (try rw [show 0 * 10 = 0 from rfl] at hx203_3)
                    (try rw [Addr.add_zero'] at hx203_3)
                    (try rw [show ((0 : Int)).toNat = 0 from rfl] at hx203_4)
                    (try rw [show 0 * 10 = 0 from rfl] at hx203_4)
                    (try rw [Addr.add_zero'] at hx203_4)
                    (try rw [show ((0 : Int)).toNat = 0 from rfl] at hx203_5)
                    (try rw [show 0 * 10 = 0 from rfl] at hx203_5)
                    (try rw [Addr.add_zero'] at hx203_5)
                    (try rw [show ((0 : Int)).toNat = 0 from rfl] at hx203_6)
                    (try rw [show 0 * 10 = 0 from rfl] at hx203_6)
                    (try rw [Addr.add_zero'] at hx203_6)
                    (try rw [show ((0 : Int)).toNat = 0 from rfl] at hx203_7)
                    (try rw [show 0 * 10 = 0 from rfl] at hx203_7)
                    (try rw [Addr.add_zero'] at hx203_7)
                    (try rw [show ((0 : Int)).toNat = 0 from rfl] at hx203_8)
                    (try rw [show 0 * 10 = 0 from rfl] at hx203_8)
                    (try rw [Addr.add_zero'] at hx203_8)
                    (try rw [show ((0 : Int)).toNat = 0 from rfl] at hx203_9)
                    (try rw [show 0 * 10 = 0 from rfl] at hx203_9)
                    (try rw [Addr.add_zero'] at hx203_9)
                    replace hx203_0 := (HB.out.cell (World.block_lt_of_cell? w _ hx203_0)).trans hx203_0
                    replace hx203_1 := (HB.out.cell (World.block_lt_of_cell? w _ hx203_1)).trans hx203_1
                    replace hx203_2 := (HB.out.cell (World.block_lt_of_cell? w _ hx203_2)).trans hx203_2
                    replace hx203_3 := (HB.out.cell (World.block_lt_of_cell? w _ hx203_3)).trans hx203_3
                    replace hx203_4 := (HB.out.cell (World.block_lt_of_cell? w _ hx203_4)).trans hx203_4
                    replace hx203_5 := (HB.out.cell (World.block_lt_of_cell? w _ hx203_5)).trans hx203_5
                    replace hx203_6 := (HB.out.cell (World.block_lt_of_cell? w _ hx203_6)).trans hx203_6
                    replace hx203_7 := (HB.out.cell (World.block_lt_of_cell? w _ hx203_7)).trans hx203_7
                    replace hx203_8 := (HB.out.cell (World.block_lt_of_cell? w _ hx203_8)).trans hx203_8
                    replace hx203_9 := (HB.out.cell (World.block_lt_of_cell? w _ hx203_9)).trans hx203_9
                    have HR203_2 := Aside0.mk hi203_2
                    have HC203_2 := Aside0.mk hl203_2
                    clear hi203_2 hl203_2
                    replace p203 := eq_true p203
                    replace q203 := eq_true q203
                    go_wp2
                    go_meet
                    case rel => exact ⟨_, ((((rd_T38 l0_0 0).f0) == 16)), (by first | rfl | (simp; done) | (simp [*]; done)), H', ⟨by have := HJ4.out; have := HJ16.out; first | omega | exact Nat.le_refl _⟩, ⟨by (with_reducible repeat (first | refine blk_drewN ?_ _ | refine blk_drew ?_ | refine blk_alloc ?_ _)); exact BK195.out⟩, ⟨by repeat (first | (with_reducible first | exact HB.out | apply below_alloc | apply pw_below_drewN | apply below_drew1 | refine below_set ?_ GE195.out) | exact HB.out)⟩⟩
                  · rw [if_neg c28] at H
                    exact absurd H (by simp)
                · replace c27 := Bool.eq_false_iff.mpr c27
                  subst c27
                  have H1 : (butterylaw15_TextoutSilent.j2 kj16 l1 (strOfNums t198) false true) = some r := by rw [if_neg (show ¬ (false = true) by decide)] at H; exact H
                  clear H
                  have H := H1
                  clear H1
                  have H' := Aside0.mk H
                  clear H
                  have hcz30_0 : wc.cell? ⟨gb195, 0, none⟩ = some (.slice A0_0 l0_0.length c0_0) := (blk_cell BK195.out 0).trans rfl
                  have hcz30_1 : wc.cell? ⟨gb195, 1, none⟩ = some (.int .i64 a0_1) := (blk_cell BK195.out 1).trans rfl
                  have hcz30_2 : wc.cell? ⟨gb195, 2, none⟩ = some (.string a0_2) := (blk_cell BK195.out 2).trans rfl
                  have hcz30_3 : wc.cell? ⟨gb195, 3, none⟩ = some (.int .i64 a0_3) := (blk_cell BK195.out 3).trans rfl
                  have hcz30_4 : wc.cell? ⟨gb195, 4, none⟩ = some (.int .u32 a0_4) := (blk_cell BK195.out 4).trans rfl
                  have hcz30_5 : wc.cell? ⟨gb195, 5, none⟩ = some (.bool true) := (blk_cell BK195.out 5).trans rfl
                  have hcz30_6 : wc.cell? ⟨gb195, 6, none⟩ = some (.bool a0_6) := (blk_cell BK195.out 6).trans rfl
                  have hcz30_7 : wc.cell? ⟨gb195, 7, none⟩ = some (.string a0_7) := (blk_cell BK195.out 7).trans rfl
                  have hcz30_8 : wc.cell? ⟨gb195, 8, none⟩ = some (.slice A0_8 l0_8.length c0_8) := (blk_cell BK195.out 8).trans rfl
                  have hcz30_9 : wc.cell? ⟨gb195, 9, none⟩ = some (.slice A0_9 l0_9.length c0_9) := (blk_cell BK195.out 9).trans rfl
                  have hcz30_10 : wc.cell? ⟨gb195, 10, none⟩ = some (.bool a0_10) := (blk_cell BK195.out 10).trans rfl
                  have hfz30_0 := blk_frozen BK195.out 0
                  have hfz30_1 := blk_frozen BK195.out 1
                  have hfz30_2 := blk_frozen BK195.out 2
                  have hfz30_3 := blk_frozen BK195.out 3
                  have hfz30_4 := blk_frozen BK195.out 4
                  have hfz30_5 := blk_frozen BK195.out 5
                  have hfz30_6 := blk_frozen BK195.out 6
                  have hfz30_7 := blk_frozen BK195.out 7
                  have hfz30_8 := blk_frozen BK195.out 8
                  have hfz30_9 := blk_frozen BK195.out 9
                  have hfz30_10 := blk_frozen BK195.out 10
                  go_wp2
                  go_meet
                  case rel => exact ⟨_, (true), (by first | rfl | (simp; done) | (simp [*]; done)), H', ⟨by have := HJ4.out; have := HJ16.out; first | omega | exact Nat.le_refl _⟩, ⟨by (with_reducible repeat (first | refine blk_drewN ?_ _ | refine blk_drew ?_ | refine blk_alloc ?_ _)); exact BK195.out⟩, ⟨by repeat (first | (with_reducible first | exact HB.out | apply below_alloc | apply pw_below_drewN | apply below_drew1 | refine below_set ?_ GE195.out) | exact HB.out)⟩⟩
              · replace c26 := Bool.eq_false_iff.mpr c26
                subst c26
                have H1 : (if 0 < (l0_0.length : Int) then (butterylaw15_TextoutSilent.j2 kj16 l1 (strOfNums t198) x8_16 (((rd_T38 l0_0 0).f0) == 16)) else (none)) = some r := by rw [if_neg (show ¬ (false = true) by decide)] at H; exact H
                clear H
                have H := H1
                clear H1
                by_cases c31 : 0 < (l0_0.length : Int)
                · rw [if_pos c31] at H
                  have c31b0 : decide (0 < (l0_0.length : Int)) = true := decide_eq_true c31
                  have c31b1 : decide (0 < l0_0.length) = true := decide_eq_true (by omega)
                  clear c31
                  have H' := Aside0.mk H
                  clear H
                  have hcz32_0 : wc.cell? ⟨gb195, 0, none⟩ = some (.slice A0_0 l0_0.length c0_0) := (blk_cell BK195.out 0).trans rfl
                  have hcz32_1 : wc.cell? ⟨gb195, 1, none⟩ = some (.int .i64 a0_1) := (blk_cell BK195.out 1).trans rfl
                  have hcz32_2 : wc.cell? ⟨gb195, 2, none⟩ = some (.string a0_2) := (blk_cell BK195.out 2).trans rfl
                  have hcz32_3 : wc.cell? ⟨gb195, 3, none⟩ = some (.int .i64 a0_3) := (blk_cell BK195.out 3).trans rfl
                  have hcz32_4 : wc.cell? ⟨gb195, 4, none⟩ = some (.int .u32 a0_4) := (blk_cell BK195.out 4).trans rfl
                  have hcz32_5 : wc.cell? ⟨gb195, 5, none⟩ = some (.bool false) := (blk_cell BK195.out 5).trans rfl
                  have hcz32_6 : wc.cell? ⟨gb195, 6, none⟩ = some (.bool a0_6) := (blk_cell BK195.out 6).trans rfl
                  have hcz32_7 : wc.cell? ⟨gb195, 7, none⟩ = some (.string a0_7) := (blk_cell BK195.out 7).trans rfl
                  have hcz32_8 : wc.cell? ⟨gb195, 8, none⟩ = some (.slice A0_8 l0_8.length c0_8) := (blk_cell BK195.out 8).trans rfl
                  have hcz32_9 : wc.cell? ⟨gb195, 9, none⟩ = some (.slice A0_9 l0_9.length c0_9) := (blk_cell BK195.out 9).trans rfl
                  have hcz32_10 : wc.cell? ⟨gb195, 10, none⟩ = some (.bool a0_10) := (blk_cell BK195.out 10).trans rfl
                  have hfz32_0 := blk_frozen BK195.out 0
                  have hfz32_1 := blk_frozen BK195.out 1
                  have hfz32_2 := blk_frozen BK195.out 2
                  have hfz32_3 := blk_frozen BK195.out 3
                  have hfz32_4 := blk_frozen BK195.out 4
                  have hfz32_5 := blk_frozen BK195.out 5
                  have hfz32_6 := blk_frozen BK195.out 6
                  have hfz32_7 := blk_frozen BK195.out 7
                  have hfz32_8 := blk_frozen BK195.out 8
                  have hfz32_9 := blk_frozen BK195.out 9
                  have hfz32_10 := blk_frozen BK195.out 10
                  have p204 : 0 ≤ (0 : Int) := (by omega)
                  have q204 : 0 < (l0_0.length : Int) := of_decide_eq_true (by first | (with_reducible assumption) | assumption)
                  obtain ⟨ad204, A204_2, c204_2, e204, hx204_0, hx204_1, hx204_2, hx204_3, hx204_4, hx204_5, hx204_6, hx204_7, hx204_8, hx204_9, hl204_2, hi204_2⟩ := at_T38 HR0_0.out 0 p204 q204
                  cases e204
                  have qi204 : (0 < l0_0.length) = True := eq_true (by omega)
                  (try rw [show ((0 : Int)).toNat = 0 from rfl] at hx204_0)
                  (try rw [show 0 * 10 = 0 from rfl] at hx204_0)
                  (try rw [Addr.add_zero'] at hx204_0)
                  (try rw [show ((0 : Int)).toNat = 0 from rfl] at hx204_1)
                  (try rw [show 0 * 10 = 0 from rfl] at hx204_1)
                  (try rw [Addr.add_zero'] at hx204_1)
                  (try rw [show ((0 : Int)).toNat = 0 from rfl] at hx204_2)
                  (try rw [show 0 * 10 = 0 from rfl] at hx204_2)
                  (try rw [Addr.add_zero'] at hx204_2)
                  (try rw [show ((0 : Int)).toNat = 0 from rfl] at hx204_3)
                  (try rw [show 0 * 10 = 0 from rfl] at hx204_3)
                  (try rw [Addr.add_zero'] at hx204_3)
                  (try rw [show ((0 : Int)).toNat = 0 from rfl] at hx204_4)
                  (try rw [show 0 * 10 = 0 from rfl] at hx204_4)
                  (try rw [Addr.add_zero'] at hx204_4)
                  (try rw [show ((0 : Int)).toNat = 0 from rfl] at hx204_5)
                  (try rw [show 0 * 10 = 0 from rfl] at hx204_5)
                  (try rw [Addr.add_zero'] at hx204_5)
                  (try rw [show ((0 : Int)).toNat = 0 from rfl] at hx204_6)
                  (try rw [show 0 * 10 = 0 from rfl] at hx204_6)
                  (try rw [Addr.add_zero'] at hx204_6)
                  (try rw [show ((0 : Int)).toNat = 0 from rfl] at hx204_7)
                  (try rw [show 0 * 10 = 0 from rfl] at hx204_7)
                  (try rw [Addr.add_zero'] at hx204_7)
                  (try rw [show ((0 : Int)).toNat = 0 from rfl] at hx204_8)
                  (try rw [show 0 * 10 = 0 from rfl] at hx204_8)
                  (try rw [Addr.add_zero'] at hx204_8)
                  (try rw [show ((0 : Int)).toNat = 0 from rfl] at hx204_9)
                  (try rw [show 0 * 10 = 0 from rfl] at hx204_9)
                  (try rw [Addr.add_zero'] at hx204_9)
                  replace hx204_0 := (HB.out.cell (World.block_lt_of_cell? w _ hx204_0)).trans hx204_0
                  replace hx204_1 := (HB.out.cell (World.block_lt_of_cell? w _ hx204_1)).trans hx204_1
                  replace hx204_2 := (HB.out.cell (World.block_lt_of_cell? w _ hx204_2)).trans hx204_2
                  replace hx204_3 := (HB.out.cell (World.block_lt_of_cell? w _ hx204_3)).trans hx204_3
                  replace hx204_4 := (HB.out.cell (World.block_lt_of_cell? w _ hx204_4)).trans hx204_4
                  replace hx204_5 := (HB.out.cell (World.block_lt_of_cell? w _ hx204_5)).trans hx204_5
                  replace hx204_6 := (HB.out.cell (World.block_lt_of_cell? w _ hx204_6)).trans hx204_6
                  replace hx204_7 := (HB.out.cell (World.block_lt_of_cell? w _ hx204_7)).trans hx204_7
                  replace hx204_8 := (HB.out.cell (World.block_lt_of_cell? w _ hx204_8)).trans hx204_8
                  replace hx204_9 := (HB.out.cell (World.block_lt_of_cell? w _ hx204_9)).trans hx204_9
                  have HR204_2 := Aside0.mk hi204_2
                  have HC204_2 := Aside0.mk hl204_2
                  clear hi204_2 hl204_2
                  replace p204 := eq_true p204
                  replace q204 := eq_true q204
                  go_wp2
                  go_meet
                  case rel => exact ⟨_, ((((rd_T38 l0_0 0).f0) == 16)), (by first | rfl | (simp; done) | (simp [*]; done)), H', ⟨by have := HJ4.out; have := HJ16.out; first | omega | exact Nat.le_refl _⟩, ⟨by (with_reducible repeat (first | refine blk_drewN ?_ _ | refine blk_drew ?_ | refine blk_alloc ?_ _)); exact BK195.out⟩, ⟨by repeat (first | (with_reducible first | exact HB.out | apply below_alloc | apply pw_below_drewN | apply below_drew1 | refine below_set ?_ GE195.out) | exact HB.out)⟩⟩
                · rw [if_neg c31] at H
                  exact absurd H (by simp)
            case rest =>
              clear HC25
              try clear c1
              try clear c2
              try clear p2
              try clear q2
              try clear hx2
              try clear hcv2
              try clear qi2
              try clear c3
              try clear c4
              try clear c8
              try clear c9
              try clear c10
              try clear c11
              try clear c12
              try clear c12b0
              try clear c12b1
              try clear c12b2
              try clear c15
              try clear c20
              try clear p20
              try clear q20
              try clear hx20
              try clear hcv20
              try clear qi20
              try clear c21
              try clear c21b0
              try clear c21b1
              try clear c22
              try clear c22b0
              try clear c22b1
              try clear c26
              try clear c27
              try clear c28
              try clear c28b0
              try clear c28b1
              try clear c31
              try clear c31b0
              try clear c31b1
              try clear hcz13_0
              try clear hcz13_1
              try clear hcz13_10
              try clear hcz13_2
              try clear hcz13_3
              try clear hcz13_4
              try clear hcz13_5
              try clear hcz13_6
              try clear hcz13_7
              try clear hcz13_8
              try clear hcz13_9
              try clear hcz14_0
              try clear hcz14_1
              try clear hcz14_10
              try clear hcz14_2
              try clear hcz14_3
              try clear hcz14_4
              try clear hcz14_5
              try clear hcz14_6
              try clear hcz14_7
              try clear hcz14_8
              try clear hcz14_9
              try clear hcz18_0
              try clear hcz18_1
              try clear hcz18_10
              try clear hcz18_2
              try clear hcz18_3
              try clear hcz18_4
              try clear hcz18_5
              try clear hcz18_6
              try clear hcz18_7
              try clear hcz18_8
              try clear hcz18_9
              try clear hcz23_0
              try clear hcz23_1
              try clear hcz23_10
              try clear hcz23_2
              try clear hcz23_3
              try clear hcz23_4
              try clear hcz23_5
              try clear hcz23_6
              try clear hcz23_7
              try clear hcz23_8
              try clear hcz23_9
              try clear hcz24_0
              try clear hcz24_1
              try clear hcz24_10
              try clear hcz24_2
              try clear hcz24_3
              try clear hcz24_4
              try clear hcz24_5
              try clear hcz24_6
              try clear hcz24_7
              try clear hcz24_8
              try clear hcz24_9
              try clear hcz29_0
              try clear hcz29_1
              try clear hcz29_10
              try clear hcz29_2
              try clear hcz29_3
              try clear hcz29_4
              try clear hcz29_5
              try clear hcz29_6
              try clear hcz29_7
              try clear hcz29_8
              try clear hcz29_9
              try clear hcz30_0
              try clear hcz30_1
              try clear hcz30_10
              try clear hcz30_2
              try clear hcz30_3
              try clear hcz30_4
              try clear hcz30_5
              try clear hcz30_6
              try clear hcz30_7
              try clear hcz30_8
              try clear hcz30_9
              try clear hcz32_0
              try clear hcz32_1
              try clear hcz32_10
              try clear hcz32_2
              try clear hcz32_3
              try clear hcz32_4
              try clear hcz32_5
              try clear hcz32_6
              try clear hcz32_7
              try clear hcz32_8
              try clear hcz32_9
              try clear hcz8_0
              try clear hcz8_1
              try clear hcz8_10
              try clear hcz8_2
              try clear hcz8_3
              try clear hcz8_4
              try clear hcz8_5
              try clear hcz8_6
              try clear hcz8_7
              try clear hcz8_8
              try clear hcz8_9
              try clear hfz13_0
              try clear hfz13_1
              try clear hfz13_10
              try clear hfz13_2
              try clear hfz13_3
              try clear hfz13_4
              try clear hfz13_5
              try clear hfz13_6
              try clear hfz13_7
              try clear hfz13_8
              try clear hfz13_9
              try clear hfz14_0
              try clear hfz14_1
              try clear hfz14_10
              try clear hfz14_2
              try clear hfz14_3
              try clear hfz14_4
              try clear hfz14_5
              try clear hfz14_6
              try clear hfz14_7
              try clear hfz14_8
              try clear hfz14_9
              try clear hfz18_0
              try clear hfz18_1
              try clear hfz18_10
              try clear hfz18_2
              try clear hfz18_3
              try clear hfz18_4
              try clear hfz18_5
              try clear hfz18_6
              try clear hfz18_7
              try clear hfz18_8
              try clear hfz18_9
              try clear hfz23_0
              try clear hfz23_1
              try clear hfz23_10
              try clear hfz23_2
              try clear hfz23_3
              try clear hfz23_4
              try clear hfz23_5
              try clear hfz23_6
              try clear hfz23_7
              try clear hfz23_8
              try clear hfz23_9
              try clear hfz24_0
              try clear hfz24_1
              try clear hfz24_10
              try clear hfz24_2
              try clear hfz24_3
              try clear hfz24_4
              try clear hfz24_5
              try clear hfz24_6
              try clear hfz24_7
              try clear hfz24_8
              try clear hfz24_9
              try clear hfz29_0
              try clear hfz29_1
              try clear hfz29_10
              try clear hfz29_2
              try clear hfz29_3
              try clear hfz29_4
              try clear hfz29_5
              try clear hfz29_6
              try clear hfz29_7
              try clear hfz29_8
              try clear hfz29_9
              try clear hfz30_0
              try clear hfz30_1
              try clear hfz30_10
              try clear hfz30_2
              try clear hfz30_3
              try clear hfz30_4
              try clear hfz30_5
              try clear hfz30_6
              try clear hfz30_7
              try clear hfz30_8
              try clear hfz30_9
              try clear hfz32_0
              try clear hfz32_1
              try clear hfz32_10
              try clear hfz32_2
              try clear hfz32_3
              try clear hfz32_4
              try clear hfz32_5
              try clear hfz32_6
              try clear hfz32_7
              try clear hfz32_8
              try clear hfz32_9
              try clear hfz8_0
              try clear hfz8_1
              try clear hfz8_10
              try clear hfz8_2
              try clear hfz8_3
              try clear hfz8_4
              try clear hfz8_5
              try clear hfz8_6
              try clear hfz8_7
              try clear hfz8_8
              try clear hfz8_9
              try clear hx201_0
              try clear hx201_1
              try clear hx201_2
              try clear hx201_3
              try clear hx201_4
              try clear hx201_5
              try clear hx201_6
              try clear hx201_7
              try clear hx201_8
              try clear hx201_9
              try clear hx202_0
              try clear hx202_1
              try clear hx202_2
              try clear hx202_3
              try clear hx202_4
              try clear hx202_5
              try clear hx202_6
              try clear hx202_7
              try clear hx202_8
              try clear hx202_9
              try clear hx203_0
              try clear hx203_1
              try clear hx203_2
              try clear hx203_3
              try clear hx203_4
              try clear hx203_5
              try clear hx203_6
              try clear hx203_7
              try clear hx203_8
              try clear hx203_9
              try clear hx204_0
              try clear hx204_1
              try clear hx204_2
              try clear hx204_3
              try clear hx204_4
              try clear hx204_5
              try clear hx204_6
              try clear hx204_7
              try clear hx204_8
              try clear hx204_9
              try clear p2
              try clear p20
              try clear p201
              try clear p202
              try clear p203
              try clear p204
              try clear q2
              try clear q20
              try clear q201
              try clear q202
              try clear q203
              try clear q204
              obtain ⟨kq, x69_24, rfl, HA, HJ24, BK195, HB⟩ := hcut
              cases kq with
              | zero => exact absurd HA.out (by simp [butterylaw15_TextoutSilent.j2])
              | succ kj24 =>
                have H := HA.out
                clear HA
                simp only [butterylaw15_TextoutSilent.j2] at H
                by_cases c33 : x69_24 = true
                · subst c33
                  have H1 : (some ((strOfNums t198).toList == ([] : List UInt8))) = some r := by rw [if_pos rfl] at H; exact H
                  clear H
                  have H := H1
                  clear H1
                  obtain rfl := Option.some.inj H
                  go_wp2
                  go_ret
                  exact ⟨by first | rfl | (simp <;> rfl) | (simp [*] <;> rfl), by repeat (first | (with_reducible first | exact HB.out | apply below_alloc | apply pw_below_drewN | apply below_drew1 | refine below_set ?_ GE195.out) | exact HB.out)⟩
                · replace c33 := Bool.eq_false_iff.mpr c33
                  subst c33
                  have H1 : (if 0 < (l1.length : Int) then (if x8_16 = true then (if ((strOfNums t198).size : Int) > 2 then (if 0 ≤ (wrap64 (((strOfNums t198).size : Int) - 2)) then (if (wrap64 (((strOfNums t198).size : Int) - 2)) ≤ ((strOfNums t198).size : Int) then (some (((strOfNums t198).extract ((wrap64 (((strOfNums t198).size : Int) - 2)) : Int).toNat (strOfNums t198).size).toList == ([13, 10] : List UInt8))) else (none)) else (none)) else (some false)) else (if ((rd_T40 l1 0).f0) = 7 then (if ((strOfNums t198).size : Int) > 2 then (if 0 ≤ (wrap64 (((strOfNums t198).size : Int) - 2)) then (if (wrap64 (((strOfNums t198).size : Int) - 2)) ≤ ((strOfNums t198).size : Int) then (some (((strOfNums t198).extract ((wrap64 (((strOfNums t198).size : Int) - 2)) : Int).toNat (strOfNums t198).size).toList == ([13, 10] : List UInt8))) else (none)) else (none)) else (some false)) else (if ((rd_T40 l1 0).f0) ≥ 1 then (if (((rd_T40 l1 0).f0) ≤ 11) then (if ((strOfNums t198).size : Int) > 2 then (if 0 ≤ (wrap64 (((strOfNums t198).size : Int) - 2)) then (if (wrap64 (((strOfNums t198).size : Int) - 2)) ≤ ((strOfNums t198).size : Int) then (some (((strOfNums t198).extract ((wrap64 (((strOfNums t198).size : Int) - 2)) : Int).toNat (strOfNums t198).size).toList == ([13, 10] : List UInt8))) else (none)) else (none)) else (some false)) else (some ((strOfNums t198).toList == ([] : List UInt8)))) else (some ((strOfNums t198).toList == ([] : List UInt8)))))) else (none)) = some r := by rw [if_neg (show ¬ (false = true) by decide)] at H; exact H
                  clear H
                  have H := H1
                  clear H1
                  by_cases c34 : 0 < (l1.length : Int)
                  · rw [if_pos c34] at H
                    have c34b0 : decide (0 < (l1.length : Int)) = true := decide_eq_true c34
                    have c34b1 : decide (0 < l1.length) = true := decide_eq_true (by omega)
                    clear c34
                    by_cases c35 : x8_16 = true
                    · subst c35
                      have H1 : (if ((strOfNums t198).size : Int) > 2 then (if 0 ≤ (wrap64 (((strOfNums t198).size : Int) - 2)) then (if (wrap64 (((strOfNums t198).size : Int) - 2)) ≤ ((strOfNums t198).size : Int) then (some (((strOfNums t198).extract ((wrap64 (((strOfNums t198).size : Int) - 2)) : Int).toNat (strOfNums t198).size).toList == ([13, 10] : List UInt8))) else (none)) else (none)) else (some false)) = some r := by rw [if_pos rfl] at H; exact H
                      clear H
                      have H := H1
                      clear H1
                      by_cases c36 : ((strOfNums t198).size : Int) > 2
                      · rw [if_pos c36] at H
                        have c36b0 : decide (2 < ((strOfNums t198).size : Int)) = true := decide_eq_true c36
                        have c36b1 : decide (2 < (strOfNums t198).size) = true := decide_eq_true (by omega)
                        clear c36
                        obtain ⟨ji37, hji37⟩ : ∃ j_ : Int, (wrap64 (((strOfNums t198).size : Int) - 2)) = j_ := ⟨_, rfl⟩
                        replace H : (if 0 ≤ (ji37) then (if (ji37) ≤ ((strOfNums t198).size : Int) then (some (((strOfNums t198).extract ((ji37) : Int).toNat (strOfNums t198).size).toList == ([13, 10] : List UInt8))) else (none)) else (none)) = some r := by first | (rw [hji37] at H; exact H) | (simp only [hji37] at H ⊢; exact H)
                        have hji37w : (IntKind.i64.wrap (((strOfNums t198).size : Int) - 2)) = ji37 := (i64_w _).trans hji37
                        by_cases c38 : 0 ≤ (ji37)
                        · rw [if_pos c38] at H
                          have c38b0 := eq_true c38
                          have c38b1 : decide (0 ≤ (ji37)) = true := decide_eq_true c38
                          clear c38
                          by_cases c39 : (ji37) ≤ ((strOfNums t198).size : Int)
                          · rw [if_pos c39] at H
                            have c39b0 := eq_true c39
                            have c39b1 : decide ((ji37) ≤ ((strOfNums t198).size : Int)) = true := decide_eq_true c39
                            clear c39
                            obtain rfl := Option.some.inj H
                            have p205 : 0 ≤ (0 : Int) := (by omega)
                            have q205 : 0 < (l1.length : Int) := of_decide_eq_true (by first | (with_reducible assumption) | assumption)
                            obtain ⟨ad205, A205_1, c205_1, e205, hx205_0, hx205_1, hx205_2, hx205_3, hx205_4, hx205_5, hx205_6, hx205_7, hx205_8, hl205_1, hi205_1⟩ := at_T40 HR1.out 0 p205 q205
                            cases e205
                            have qi205 : (0 < l1.length) = True := eq_true (by omega)
                            (try rw [show ((0 : Int)).toNat = 0 from rfl] at hx205_0)
                            (try rw [show 0 * 9 = 0 from rfl] at hx205_0)
                            (try rw [Addr.add_zero'] at hx205_0)
                            (try rw [show ((0 : Int)).toNat = 0 from rfl] at hx205_1)
                            (try rw [show 0 * 9 = 0 from rfl] at hx205_1)
                            (try rw [Addr.add_zero'] at hx205_1)
                            (try rw [show ((0 : Int)).toNat = 0 from rfl] at hx205_2)
                            (try rw [show 0 * 9 = 0 from rfl] at hx205_2)
                            (try rw [Addr.add_zero'] at hx205_2)
                            (try rw [show ((0 : Int)).toNat = 0 from rfl] at hx205_3)
                            (try rw [show 0 * 9 = 0 from rfl] at hx205_3)
                            (try rw [Addr.add_zero'] at hx205_3)
                            (try rw [show ((0 : Int)).toNat = 0 from rfl] at hx205_4)
                            (try rw [show 0 * 9 = 0 from rfl] at hx205_4)
                            (try rw [Addr.add_zero'] at hx205_4)
                            (try rw [show ((0 : Int)).toNat = 0 from rfl] at hx205_5)
                            (try rw [show 0 * 9 = 0 from rfl] at hx205_5)
                            (try rw [Addr.add_zero'] at hx205_5)
                            (try rw [show ((0 : Int)).toNat = 0 from rfl] at hx205_6)
                            (try rw [show 0 * 9 = 0 from rfl] at hx205_6)
                            (try rw [Addr.add_zero'] at hx205_6)
                            (try rw [show ((0 : Int)).toNat = 0 from rfl] at hx205_7)
                            (try rw [show 0 * 9 = 0 from rfl] at hx205_7)
                            (try rw [Addr.add_zero'] at hx205_7)
                            (try rw [show ((0 : Int)).toNat = 0 from rfl] at hx205_8)
                            (try rw [show 0 * 9 = 0 from rfl] at hx205_8)
                            (try rw [Addr.add_zero'] at hx205_8)
                            replace hx205_0 := (HB.out.cell (World.block_lt_of_cell? w _ hx205_0)).trans hx205_0
                            replace hx205_1 := (HB.out.cell (World.block_lt_of_cell? w _ hx205_1)).trans hx205_1
                            replace hx205_2 := (HB.out.cell (World.block_lt_of_cell? w _ hx205_2)).trans hx205_2
                            replace hx205_3 := (HB.out.cell (World.block_lt_of_cell? w _ hx205_3)).trans hx205_3
                            replace hx205_4 := (HB.out.cell (World.block_lt_of_cell? w _ hx205_4)).trans hx205_4
                            replace hx205_5 := (HB.out.cell (World.block_lt_of_cell? w _ hx205_5)).trans hx205_5
                            replace hx205_6 := (HB.out.cell (World.block_lt_of_cell? w _ hx205_6)).trans hx205_6
                            replace hx205_7 := (HB.out.cell (World.block_lt_of_cell? w _ hx205_7)).trans hx205_7
                            replace hx205_8 := (HB.out.cell (World.block_lt_of_cell? w _ hx205_8)).trans hx205_8
                            have HR205_1 := Aside0.mk hi205_1
                            have HC205_1 := Aside0.mk hl205_1
                            clear hi205_1 hl205_1
                            replace p205 := eq_true p205
                            replace q205 := eq_true q205
                            go_wp2
                            go_ret
                            exact ⟨by first | rfl | (simp <;> rfl) | (simp only [← hji37]; first | rfl | (simp <;> rfl)) | (simp [*] <;> rfl), by repeat (first | (with_reducible first | exact HB.out | apply below_alloc | apply pw_below_drewN | apply below_drew1 | refine below_set ?_ GE195.out) | exact HB.out)⟩
                          · rw [if_neg c39] at H
                            exact absurd H (by simp)
                        · rw [if_neg c38] at H
                          exact absurd H (by simp)
                      · rw [if_neg c36] at H
                        have c36b0 : decide (2 < ((strOfNums t198).size : Int)) = false := decide_eq_false c36
                        have c36b1 : decide (2 < (strOfNums t198).size) = false := decide_eq_false (by omega)
                        clear c36
                        obtain rfl := Option.some.inj H
                        have p205 : 0 ≤ (0 : Int) := (by omega)
                        have q205 : 0 < (l1.length : Int) := of_decide_eq_true (by first | (with_reducible assumption) | assumption)
                        obtain ⟨ad205, A205_1, c205_1, e205, hx205_0, hx205_1, hx205_2, hx205_3, hx205_4, hx205_5, hx205_6, hx205_7, hx205_8, hl205_1, hi205_1⟩ := at_T40 HR1.out 0 p205 q205
                        cases e205
                        have qi205 : (0 < l1.length) = True := eq_true (by omega)
                        (try rw [show ((0 : Int)).toNat = 0 from rfl] at hx205_0)
                        (try rw [show 0 * 9 = 0 from rfl] at hx205_0)
                        (try rw [Addr.add_zero'] at hx205_0)
                        (try rw [show ((0 : Int)).toNat = 0 from rfl] at hx205_1)
                        (try rw [show 0 * 9 = 0 from rfl] at hx205_1)
                        (try rw [Addr.add_zero'] at hx205_1)
                        (try rw [show ((0 : Int)).toNat = 0 from rfl] at hx205_2)
                        (try rw [show 0 * 9 = 0 from rfl] at hx205_2)
                        (try rw [Addr.add_zero'] at hx205_2)
                        (try rw [show ((0 : Int)).toNat = 0 from rfl] at hx205_3)
                        (try rw [show 0 * 9 = 0 from rfl] at hx205_3)
                        (try rw [Addr.add_zero'] at hx205_3)
                        (try rw [show ((0 : Int)).toNat = 0 from rfl] at hx205_4)
                        (try rw [show 0 * 9 = 0 from rfl] at hx205_4)
                        (try rw [Addr.add_zero'] at hx205_4)
                        (try rw [show ((0 : Int)).toNat = 0 from rfl] at hx205_5)
                        (try rw [show 0 * 9 = 0 from rfl] at hx205_5)
                        (try rw [Addr.add_zero'] at hx205_5)
                        (try rw [show ((0 : Int)).toNat = 0 from rfl] at hx205_6)
                        (try rw [show 0 * 9 = 0 from rfl] at hx205_6)
                        (try rw [Addr.add_zero'] at hx205_6)
                        (try rw [show ((0 : Int)).toNat = 0 from rfl] at hx205_7)
                        (try rw [show 0 * 9 = 0 from rfl] at hx205_7)
                        (try rw [Addr.add_zero'] at hx205_7)
                        (try rw [show ((0 : Int)).toNat = 0 from rfl] at hx205_8)
                        (try rw [show 0 * 9 = 0 from rfl] at hx205_8)
                        (try rw [Addr.add_zero'] at hx205_8)
                        replace hx205_0 := (HB.out.cell (World.block_lt_of_cell? w _ hx205_0)).trans hx205_0
                        replace hx205_1 := (HB.out.cell (World.block_lt_of_cell? w _ hx205_1)).trans hx205_1
                        replace hx205_2 := (HB.out.cell (World.block_lt_of_cell? w _ hx205_2)).trans hx205_2
                        replace hx205_3 := (HB.out.cell (World.block_lt_of_cell? w _ hx205_3)).trans hx205_3
                        replace hx205_4 := (HB.out.cell (World.block_lt_of_cell? w _ hx205_4)).trans hx205_4
                        replace hx205_5 := (HB.out.cell (World.block_lt_of_cell? w _ hx205_5)).trans hx205_5
                        replace hx205_6 := (HB.out.cell (World.block_lt_of_cell? w _ hx205_6)).trans hx205_6
                        replace hx205_7 := (HB.out.cell (World.block_lt_of_cell? w _ hx205_7)).trans hx205_7
                        replace hx205_8 := (HB.out.cell (World.block_lt_of_cell? w _ hx205_8)).trans hx205_8
                        have HR205_1 := Aside0.mk hi205_1
                        have HC205_1 := Aside0.mk hl205_1
                        clear hi205_1 hl205_1
                        replace p205 := eq_true p205
                        replace q205 := eq_true q205
                        go_wp2
                        go_ret
                        exact ⟨by first | rfl | (simp <;> rfl) | (simp [*] <;> rfl), by repeat (first | (with_reducible first | exact HB.out | apply below_alloc | apply pw_below_drewN | apply below_drew1 | refine below_set ?_ GE195.out) | exact HB.out)⟩
                    · replace c35 := Bool.eq_false_iff.mpr c35
                      subst c35
                      have H1 : (if ((rd_T40 l1 0).f0) = 7 then (if ((strOfNums t198).size : Int) > 2 then (if 0 ≤ (wrap64 (((strOfNums t198).size : Int) - 2)) then (if (wrap64 (((strOfNums t198).size : Int) - 2)) ≤ ((strOfNums t198).size : Int) then (some (((strOfNums t198).extract ((wrap64 (((strOfNums t198).size : Int) - 2)) : Int).toNat (strOfNums t198).size).toList == ([13, 10] : List UInt8))) else (none)) else (none)) else (some false)) else (if ((rd_T40 l1 0).f0) ≥ 1 then (if (((rd_T40 l1 0).f0) ≤ 11) then (if ((strOfNums t198).size : Int) > 2 then (if 0 ≤ (wrap64 (((strOfNums t198).size : Int) - 2)) then (if (wrap64 (((strOfNums t198).size : Int) - 2)) ≤ ((strOfNums t198).size : Int) then (some (((strOfNums t198).extract ((wrap64 (((strOfNums t198).size : Int) - 2)) : Int).toNat (strOfNums t198).size).toList == ([13, 10] : List UInt8))) else (none)) else (none)) else (some false)) else (some ((strOfNums t198).toList == ([] : List UInt8)))) else (some ((strOfNums t198).toList == ([] : List UInt8))))) = some r := by rw [if_neg (show ¬ (false = true) by decide)] at H; exact H
                      clear H
                      have H := H1
                      clear H1
                      by_cases c40 : ((rd_T40 l1 0).f0) = 7
                      · rw [if_pos c40] at H
                        have c40b0 : (((rd_T40 l1 0).f0) == 7) = true := beq_iff_eq.mpr c40
                        have c40b1 : (((rd_T40 l1 0).f0) != 7) = false := bne_eq_false_iff_eq.mpr c40
                        clear c40
                        by_cases c41 : ((strOfNums t198).size : Int) > 2
                        · rw [if_pos c41] at H
                          have c41b0 : decide (2 < ((strOfNums t198).size : Int)) = true := decide_eq_true c41
                          have c41b1 : decide (2 < (strOfNums t198).size) = true := decide_eq_true (by omega)
                          clear c41
                          obtain ⟨ji42, hji42⟩ : ∃ j_ : Int, (wrap64 (((strOfNums t198).size : Int) - 2)) = j_ := ⟨_, rfl⟩
                          replace H : (if 0 ≤ (ji42) then (if (ji42) ≤ ((strOfNums t198).size : Int) then (some (((strOfNums t198).extract ((ji42) : Int).toNat (strOfNums t198).size).toList == ([13, 10] : List UInt8))) else (none)) else (none)) = some r := by first | (rw [hji42] at H; exact H) | (simp only [hji42] at H ⊢; exact H)
                          have hji42w : (IntKind.i64.wrap (((strOfNums t198).size : Int) - 2)) = ji42 := (i64_w _).trans hji42
                          by_cases c43 : 0 ≤ (ji42)
                          · rw [if_pos c43] at H
                            have c43b0 := eq_true c43
                            have c43b1 : decide (0 ≤ (ji42)) = true := decide_eq_true c43
                            clear c43
                            by_cases c44 : (ji42) ≤ ((strOfNums t198).size : Int)
                            · rw [if_pos c44] at H
                              have c44b0 := eq_true c44
                              have c44b1 : decide ((ji42) ≤ ((strOfNums t198).size : Int)) = true := decide_eq_true c44
                              clear c44
                              obtain rfl := Option.some.inj H
                              have p205 : 0 ≤ (0 : Int) := (by omega)
                              have q205 : 0 < (l1.length : Int) := of_decide_eq_true (by first | (with_reducible assumption) | assumption)
                              obtain ⟨ad205, A205_1, c205_1, e205, hx205_0, hx205_1, hx205_2, hx205_3, hx205_4, hx205_5, hx205_6, hx205_7, hx205_8, hl205_1, hi205_1⟩ := at_T40 HR1.out 0 p205 q205
                              cases e205
                              have qi205 : (0 < l1.length) = True := eq_true (by omega)
                              (try rw [show ((0 : Int)).toNat = 0 from rfl] at hx205_0)
                              (try rw [show 0 * 9 = 0 from rfl] at hx205_0)
                              (try rw [Addr.add_zero'] at hx205_0)
                              (try rw [show ((0 : Int)).toNat = 0 from rfl] at hx205_1)
                              (try rw [show 0 * 9 = 0 from rfl] at hx205_1)
                              (try rw [Addr.add_zero'] at hx205_1)
                              (try rw [show ((0 : Int)).toNat = 0 from rfl] at hx205_2)
                              (try rw [show 0 * 9 = 0 from rfl] at hx205_2)
                              (try rw [Addr.add_zero'] at hx205_2)
                              (try rw [show ((0 : Int)).toNat = 0 from rfl] at hx205_3)
                              (try rw [show 0 * 9 = 0 from rfl] at hx205_3)
                              (try rw [Addr.add_zero'] at hx205_3)
                              (try rw [show ((0 : Int)).toNat = 0 from rfl] at hx205_4)
                              (try rw [show 0 * 9 = 0 from rfl] at hx205_4)
                              (try rw [Addr.add_zero'] at hx205_4)
                              (try rw [show ((0 : Int)).toNat = 0 from rfl] at hx205_5)
                              (try rw [show 0 * 9 = 0 from rfl] at hx205_5)
                              (try rw [Addr.add_zero'] at hx205_5)
                              (try rw [show ((0 : Int)).toNat = 0 from rfl] at hx205_6)
                              (try rw [show 0 * 9 = 0 from rfl] at hx205_6)
                              (try rw [Addr.add_zero'] at hx205_6)
                              (try rw [show ((0 : Int)).toNat = 0 from rfl] at hx205_7)
                              (try rw [show 0 * 9 = 0 from rfl] at hx205_7)
                              (try rw [Addr.add_zero'] at hx205_7)
                              (try rw [show ((0 : Int)).toNat = 0 from rfl] at hx205_8)
                              (try rw [show 0 * 9 = 0 from rfl] at hx205_8)
                              (try rw [Addr.add_zero'] at hx205_8)
                              replace hx205_0 := (HB.out.cell (World.block_lt_of_cell? w _ hx205_0)).trans hx205_0
                              replace hx205_1 := (HB.out.cell (World.block_lt_of_cell? w _ hx205_1)).trans hx205_1
                              replace hx205_2 := (HB.out.cell (World.block_lt_of_cell? w _ hx205_2)).trans hx205_2
                              replace hx205_3 := (HB.out.cell (World.block_lt_of_cell? w _ hx205_3)).trans hx205_3
                              replace hx205_4 := (HB.out.cell (World.block_lt_of_cell? w _ hx205_4)).trans hx205_4
                              replace hx205_5 := (HB.out.cell (World.block_lt_of_cell? w _ hx205_5)).trans hx205_5
                              replace hx205_6 := (HB.out.cell (World.block_lt_of_cell? w _ hx205_6)).trans hx205_6
                              replace hx205_7 := (HB.out.cell (World.block_lt_of_cell? w _ hx205_7)).trans hx205_7
                              replace hx205_8 := (HB.out.cell (World.block_lt_of_cell? w _ hx205_8)).trans hx205_8
                              have HR205_1 := Aside0.mk hi205_1
                              have HC205_1 := Aside0.mk hl205_1
                              clear hi205_1 hl205_1
                              replace p205 := eq_true p205
                              replace q205 := eq_true q205
                              go_wp2
                              go_ret
                              exact ⟨by first | rfl | (simp <;> rfl) | (simp only [← hji42]; first | rfl | (simp <;> rfl)) | (simp [*] <;> rfl), by repeat (first | (with_reducible first | exact HB.out | apply below_alloc | apply pw_below_drewN | apply below_drew1 | refine below_set ?_ GE195.out) | exact HB.out)⟩
                            · rw [if_neg c44] at H
                              exact absurd H (by simp)
                          · rw [if_neg c43] at H
                            exact absurd H (by simp)
                        · rw [if_neg c41] at H
                          have c41b0 : decide (2 < ((strOfNums t198).size : Int)) = false := decide_eq_false c41
                          have c41b1 : decide (2 < (strOfNums t198).size) = false := decide_eq_false (by omega)
                          clear c41
                          obtain rfl := Option.some.inj H
                          have p205 : 0 ≤ (0 : Int) := (by omega)
                          have q205 : 0 < (l1.length : Int) := of_decide_eq_true (by first | (with_reducible assumption) | assumption)
                          obtain ⟨ad205, A205_1, c205_1, e205, hx205_0, hx205_1, hx205_2, hx205_3, hx205_4, hx205_5, hx205_6, hx205_7, hx205_8, hl205_1, hi205_1⟩ := at_T40 HR1.out 0 p205 q205
                          cases e205
                          have qi205 : (0 < l1.length) = True := eq_true (by omega)
                          (try rw [show ((0 : Int)).toNat = 0 from rfl] at hx205_0)
                          (try rw [show 0 * 9 = 0 from rfl] at hx205_0)
                          (try rw [Addr.add_zero'] at hx205_0)
                          (try rw [show ((0 : Int)).toNat = 0 from rfl] at hx205_1)
                          (try rw [show 0 * 9 = 0 from rfl] at hx205_1)
                          (try rw [Addr.add_zero'] at hx205_1)
                          (try rw [show ((0 : Int)).toNat = 0 from rfl] at hx205_2)
                          (try rw [show 0 * 9 = 0 from rfl] at hx205_2)
                          (try rw [Addr.add_zero'] at hx205_2)
                          (try rw [show ((0 : Int)).toNat = 0 from rfl] at hx205_3)
                          (try rw [show 0 * 9 = 0 from rfl] at hx205_3)
                          (try rw [Addr.add_zero'] at hx205_3)
                          (try rw [show ((0 : Int)).toNat = 0 from rfl] at hx205_4)
                          (try rw [show 0 * 9 = 0 from rfl] at hx205_4)
                          (try rw [Addr.add_zero'] at hx205_4)
                          (try rw [show ((0 : Int)).toNat = 0 from rfl] at hx205_5)
                          (try rw [show 0 * 9 = 0 from rfl] at hx205_5)
                          (try rw [Addr.add_zero'] at hx205_5)
                          (try rw [show ((0 : Int)).toNat = 0 from rfl] at hx205_6)
                          (try rw [show 0 * 9 = 0 from rfl] at hx205_6)
                          (try rw [Addr.add_zero'] at hx205_6)
                          (try rw [show ((0 : Int)).toNat = 0 from rfl] at hx205_7)
                          (try rw [show 0 * 9 = 0 from rfl] at hx205_7)
                          (try rw [Addr.add_zero'] at hx205_7)
                          (try rw [show ((0 : Int)).toNat = 0 from rfl] at hx205_8)
                          (try rw [show 0 * 9 = 0 from rfl] at hx205_8)
                          (try rw [Addr.add_zero'] at hx205_8)
                          replace hx205_0 := (HB.out.cell (World.block_lt_of_cell? w _ hx205_0)).trans hx205_0
                          replace hx205_1 := (HB.out.cell (World.block_lt_of_cell? w _ hx205_1)).trans hx205_1
                          replace hx205_2 := (HB.out.cell (World.block_lt_of_cell? w _ hx205_2)).trans hx205_2
                          replace hx205_3 := (HB.out.cell (World.block_lt_of_cell? w _ hx205_3)).trans hx205_3
                          replace hx205_4 := (HB.out.cell (World.block_lt_of_cell? w _ hx205_4)).trans hx205_4
                          replace hx205_5 := (HB.out.cell (World.block_lt_of_cell? w _ hx205_5)).trans hx205_5
                          replace hx205_6 := (HB.out.cell (World.block_lt_of_cell? w _ hx205_6)).trans hx205_6
                          replace hx205_7 := (HB.out.cell (World.block_lt_of_cell? w _ hx205_7)).trans hx205_7
                          replace hx205_8 := (HB.out.cell (World.block_lt_of_cell? w _ hx205_8)).trans hx205_8
                          have HR205_1 := Aside0.mk hi205_1
                          have HC205_1 := Aside0.mk hl205_1
                          clear hi205_1 hl205_1
                          replace p205 := eq_true p205
                          replace q205 := eq_true q205
                          go_wp2
                          go_ret
                          exact ⟨by first | rfl | (simp <;> rfl) | (simp [*] <;> rfl), by repeat (first | (with_reducible first | exact HB.out | apply below_alloc | apply pw_below_drewN | apply below_drew1 | refine below_set ?_ GE195.out) | exact HB.out)⟩
                      · rw [if_neg c40] at H
                        have c40b0 : (((rd_T40 l1 0).f0) == 7) = false := beq_eq_false_iff_ne.mpr c40
                        have c40b1 : (((rd_T40 l1 0).f0) != 7) = true := bne_iff_ne.mpr c40
                        by_cases c45 : ((rd_T40 l1 0).f0) ≥ 1
                        · rw [if_pos c45] at H
                          have c45b0 : decide (1 ≤ ((rd_T40 l1 0).f0)) = true := decide_eq_true c45
                          clear c45
                          by_cases c46 : (((rd_T40 l1 0).f0) ≤ 11)
                          · rw [if_pos c46] at H
                            have c46b0 : decide (((rd_T40 l1 0).f0) ≤ 11) = true := decide_eq_true c46
                            clear c46
                            by_cases c47 : ((strOfNums t198).size : Int) > 2
                            · rw [if_pos c47] at H
                              have c47b0 : decide (2 < ((strOfNums t198).size : Int)) = true := decide_eq_true c47
                              have c47b1 : decide (2 < (strOfNums t198).size) = true := decide_eq_true (by omega)
                              clear c47
                              obtain ⟨ji48, hji48⟩ : ∃ j_ : Int, (wrap64 (((strOfNums t198).size : Int) - 2)) = j_ := ⟨_, rfl⟩
                              replace H : (if 0 ≤ (ji48) then (if (ji48) ≤ ((strOfNums t198).size : Int) then (some (((strOfNums t198).extract ((ji48) : Int).toNat (strOfNums t198).size).toList == ([13, 10] : List UInt8))) else (none)) else (none)) = some r := by first | (rw [hji48] at H; exact H) | (simp only [hji48] at H ⊢; exact H)
                              have hji48w : (IntKind.i64.wrap (((strOfNums t198).size : Int) - 2)) = ji48 := (i64_w _).trans hji48
                              by_cases c49 : 0 ≤ (ji48)
                              · rw [if_pos c49] at H
                                have c49b0 := eq_true c49
                                have c49b1 : decide (0 ≤ (ji48)) = true := decide_eq_true c49
                                clear c49
                                by_cases c50 : (ji48) ≤ ((strOfNums t198).size : Int)
                                · rw [if_pos c50] at H
                                  have c50b0 := eq_true c50
                                  have c50b1 : decide ((ji48) ≤ ((strOfNums t198).size : Int)) = true := decide_eq_true c50
                                  clear c50
                                  obtain rfl := Option.some.inj H
                                  have p205 : 0 ≤ (0 : Int) := (by omega)
                                  have q205 : 0 < (l1.length : Int) := of_decide_eq_true (by first | (with_reducible assumption) | assumption)
                                  obtain ⟨ad205, A205_1, c205_1, e205, hx205_0, hx205_1, hx205_2, hx205_3, hx205_4, hx205_5, hx205_6, hx205_7, hx205_8, hl205_1, hi205_1⟩ := at_T40 HR1.out 0 p205 q205
                                  cases e205
                                  have qi205 : (0 < l1.length) = True := eq_true (by omega)
                                  (try rw [show ((0 : Int)).toNat = 0 from rfl] at hx205_0)
                                  (try rw [show 0 * 9 = 0 from rfl] at hx205_0)
                                  (try rw [Addr.add_zero'] at hx205_0)
                                  (try rw [show ((0 : Int)).toNat = 0 from rfl] at hx205_1)
                                  (try rw [show 0 * 9 = 0 from rfl] at hx205_1)
                                  (try rw [Addr.add_zero'] at hx205_1)
                                  (try rw [show ((0 : Int)).toNat = 0 from rfl] at hx205_2)
                                  (try rw [show 0 * 9 = 0 from rfl] at hx205_2)
                                  (try rw [Addr.add_zero'] at hx205_2)
                                  (try rw [show ((0 : Int)).toNat = 0 from rfl] at hx205_3)
                                  (try rw [show 0 * 9 = 0 from rfl] at hx205_3)
                                  (try rw [Addr.add_zero'] at hx205_3)
                                  (try rw [show ((0 : Int)).toNat = 0 from rfl] at hx205_4)
                                  (try rw [show 0 * 9 = 0 from rfl] at hx205_4)
                                  (try rw [Addr.add_zero'] at hx205_4)
                                  (try rw [show ((0 : Int)).toNat = 0 from rfl] at hx205_5)
                                  (try rw [show 0 * 9 = 0 from rfl] at hx205_5)
                                  (try rw [Addr.add_zero'] at hx205_5)
                                  (try rw [show ((0 : Int)).toNat = 0 from rfl] at hx205_6)
                                  (try rw [show 0 * 9 = 0 from rfl] at hx205_6)
                                  (try rw [Addr.add_zero'] at hx205_6)
                                  (try rw [show ((0 : Int)).toNat = 0 from rfl] at hx205_7)
                                  (try rw [show 0 * 9 = 0 from rfl] at hx205_7)
                                  (try rw [Addr.add_zero'] at hx205_7)
                                  (try rw [show ((0 : Int)).toNat = 0 from rfl] at hx205_8)
                                  (try rw [show 0 * 9 = 0 from rfl] at hx205_8)
                                  (try rw [Addr.add_zero'] at hx205_8)
                                  replace hx205_0 := (HB.out.cell (World.block_lt_of_cell? w _ hx205_0)).trans hx205_0
                                  replace hx205_1 := (HB.out.cell (World.block_lt_of_cell? w _ hx205_1)).trans hx205_1
                                  replace hx205_2 := (HB.out.cell (World.block_lt_of_cell? w _ hx205_2)).trans hx205_2
                                  replace hx205_3 := (HB.out.cell (World.block_lt_of_cell? w _ hx205_3)).trans hx205_3
                                  replace hx205_4 := (HB.out.cell (World.block_lt_of_cell? w _ hx205_4)).trans hx205_4
                                  replace hx205_5 := (HB.out.cell (World.block_lt_of_cell? w _ hx205_5)).trans hx205_5
                                  replace hx205_6 := (HB.out.cell (World.block_lt_of_cell? w _ hx205_6)).trans hx205_6
                                  replace hx205_7 := (HB.out.cell (World.block_lt_of_cell? w _ hx205_7)).trans hx205_7
                                  replace hx205_8 := (HB.out.cell (World.block_lt_of_cell? w _ hx205_8)).trans hx205_8
                                  have HR205_1 := Aside0.mk hi205_1
                                  have HC205_1 := Aside0.mk hl205_1
                                  clear hi205_1 hl205_1
                                  replace p205 := eq_true p205
                                  replace q205 := eq_true q205
                                  go_wp2
                                  go_ret
                                  exact ⟨by first | rfl | (simp <;> rfl) | (simp only [← hji48]; first | rfl | (simp <;> rfl)) | (simp [*] <;> rfl), by repeat (first | (with_reducible first | exact HB.out | apply below_alloc | apply pw_below_drewN | apply below_drew1 | refine below_set ?_ GE195.out) | exact HB.out)⟩
                                · rw [if_neg c50] at H
                                  exact absurd H (by simp)
                              · rw [if_neg c49] at H
                                exact absurd H (by simp)
                            · rw [if_neg c47] at H
                              have c47b0 : decide (2 < ((strOfNums t198).size : Int)) = false := decide_eq_false c47
                              have c47b1 : decide (2 < (strOfNums t198).size) = false := decide_eq_false (by omega)
                              clear c47
                              obtain rfl := Option.some.inj H
                              have p205 : 0 ≤ (0 : Int) := (by omega)
                              have q205 : 0 < (l1.length : Int) := of_decide_eq_true (by first | (with_reducible assumption) | assumption)
                              obtain ⟨ad205, A205_1, c205_1, e205, hx205_0, hx205_1, hx205_2, hx205_3, hx205_4, hx205_5, hx205_6, hx205_7, hx205_8, hl205_1, hi205_1⟩ := at_T40 HR1.out 0 p205 q205
                              cases e205
                              have qi205 : (0 < l1.length) = True := eq_true (by omega)
                              (try rw [show ((0 : Int)).toNat = 0 from rfl] at hx205_0)
                              (try rw [show 0 * 9 = 0 from rfl] at hx205_0)
                              (try rw [Addr.add_zero'] at hx205_0)
                              (try rw [show ((0 : Int)).toNat = 0 from rfl] at hx205_1)
                              (try rw [show 0 * 9 = 0 from rfl] at hx205_1)
                              (try rw [Addr.add_zero'] at hx205_1)
                              (try rw [show ((0 : Int)).toNat = 0 from rfl] at hx205_2)
                              (try rw [show 0 * 9 = 0 from rfl] at hx205_2)
                              (try rw [Addr.add_zero'] at hx205_2)
                              (try rw [show ((0 : Int)).toNat = 0 from rfl] at hx205_3)
                              (try rw [show 0 * 9 = 0 from rfl] at hx205_3)
                              (try rw [Addr.add_zero'] at hx205_3)
                              (try rw [show ((0 : Int)).toNat = 0 from rfl] at hx205_4)
                              (try rw [show 0 * 9 = 0 from rfl] at hx205_4)
                              (try rw [Addr.add_zero'] at hx205_4)
                              (try rw [show ((0 : Int)).toNat = 0 from rfl] at hx205_5)
                              (try rw [show 0 * 9 = 0 from rfl] at hx205_5)
                              (try rw [Addr.add_zero'] at hx205_5)
                              (try rw [show ((0 : Int)).toNat = 0 from rfl] at hx205_6)
                              (try rw [show 0 * 9 = 0 from rfl] at hx205_6)
                              (try rw [Addr.add_zero'] at hx205_6)
                              (try rw [show ((0 : Int)).toNat = 0 from rfl] at hx205_7)
                              (try rw [show 0 * 9 = 0 from rfl] at hx205_7)
                              (try rw [Addr.add_zero'] at hx205_7)
                              (try rw [show ((0 : Int)).toNat = 0 from rfl] at hx205_8)
                              (try rw [show 0 * 9 = 0 from rfl] at hx205_8)
                              (try rw [Addr.add_zero'] at hx205_8)
                              replace hx205_0 := (HB.out.cell (World.block_lt_of_cell? w _ hx205_0)).trans hx205_0
                              replace hx205_1 := (HB.out.cell (World.block_lt_of_cell? w _ hx205_1)).trans hx205_1
                              replace hx205_2 := (HB.out.cell (World.block_lt_of_cell? w _ hx205_2)).trans hx205_2
                              replace hx205_3 := (HB.out.cell (World.block_lt_of_cell? w _ hx205_3)).trans hx205_3
                              replace hx205_4 := (HB.out.cell (World.block_lt_of_cell? w _ hx205_4)).trans hx205_4
                              replace hx205_5 := (HB.out.cell (World.block_lt_of_cell? w _ hx205_5)).trans hx205_5
                              replace hx205_6 := (HB.out.cell (World.block_lt_of_cell? w _ hx205_6)).trans hx205_6
                              replace hx205_7 := (HB.out.cell (World.block_lt_of_cell? w _ hx205_7)).trans hx205_7
                              replace hx205_8 := (HB.out.cell (World.block_lt_of_cell? w _ hx205_8)).trans hx205_8
                              have HR205_1 := Aside0.mk hi205_1
                              have HC205_1 := Aside0.mk hl205_1
                              clear hi205_1 hl205_1
                              replace p205 := eq_true p205
                              replace q205 := eq_true q205
                              go_wp2
                              go_ret
                              exact ⟨by first | rfl | (simp <;> rfl) | (simp [*] <;> rfl), by repeat (first | (with_reducible first | exact HB.out | apply below_alloc | apply pw_below_drewN | apply below_drew1 | refine below_set ?_ GE195.out) | exact HB.out)⟩
                          · rw [if_neg c46] at H
                            have c46b0 : decide (((rd_T40 l1 0).f0) ≤ 11) = false := decide_eq_false c46
                            clear c46
                            obtain rfl := Option.some.inj H
                            have p205 : 0 ≤ (0 : Int) := (by omega)
                            have q205 : 0 < (l1.length : Int) := of_decide_eq_true (by first | (with_reducible assumption) | assumption)
                            obtain ⟨ad205, A205_1, c205_1, e205, hx205_0, hx205_1, hx205_2, hx205_3, hx205_4, hx205_5, hx205_6, hx205_7, hx205_8, hl205_1, hi205_1⟩ := at_T40 HR1.out 0 p205 q205
                            cases e205
                            have qi205 : (0 < l1.length) = True := eq_true (by omega)
                            (try rw [show ((0 : Int)).toNat = 0 from rfl] at hx205_0)
                            (try rw [show 0 * 9 = 0 from rfl] at hx205_0)
                            (try rw [Addr.add_zero'] at hx205_0)
                            (try rw [show ((0 : Int)).toNat = 0 from rfl] at hx205_1)
                            (try rw [show 0 * 9 = 0 from rfl] at hx205_1)
                            (try rw [Addr.add_zero'] at hx205_1)
                            (try rw [show ((0 : Int)).toNat = 0 from rfl] at hx205_2)
                            (try rw [show 0 * 9 = 0 from rfl] at hx205_2)
                            (try rw [Addr.add_zero'] at hx205_2)
                            (try rw [show ((0 : Int)).toNat = 0 from rfl] at hx205_3)
                            (try rw [show 0 * 9 = 0 from rfl] at hx205_3)
                            (try rw [Addr.add_zero'] at hx205_3)
                            (try rw [show ((0 : Int)).toNat = 0 from rfl] at hx205_4)
                            (try rw [show 0 * 9 = 0 from rfl] at hx205_4)
                            (try rw [Addr.add_zero'] at hx205_4)
                            (try rw [show ((0 : Int)).toNat = 0 from rfl] at hx205_5)
                            (try rw [show 0 * 9 = 0 from rfl] at hx205_5)
                            (try rw [Addr.add_zero'] at hx205_5)
                            (try rw [show ((0 : Int)).toNat = 0 from rfl] at hx205_6)
                            (try rw [show 0 * 9 = 0 from rfl] at hx205_6)
                            (try rw [Addr.add_zero'] at hx205_6)
                            (try rw [show ((0 : Int)).toNat = 0 from rfl] at hx205_7)
                            (try rw [show 0 * 9 = 0 from rfl] at hx205_7)
                            (try rw [Addr.add_zero'] at hx205_7)
                            (try rw [show ((0 : Int)).toNat = 0 from rfl] at hx205_8)
                            (try rw [show 0 * 9 = 0 from rfl] at hx205_8)
                            (try rw [Addr.add_zero'] at hx205_8)
                            replace hx205_0 := (HB.out.cell (World.block_lt_of_cell? w _ hx205_0)).trans hx205_0
                            replace hx205_1 := (HB.out.cell (World.block_lt_of_cell? w _ hx205_1)).trans hx205_1
                            replace hx205_2 := (HB.out.cell (World.block_lt_of_cell? w _ hx205_2)).trans hx205_2
                            replace hx205_3 := (HB.out.cell (World.block_lt_of_cell? w _ hx205_3)).trans hx205_3
                            replace hx205_4 := (HB.out.cell (World.block_lt_of_cell? w _ hx205_4)).trans hx205_4
                            replace hx205_5 := (HB.out.cell (World.block_lt_of_cell? w _ hx205_5)).trans hx205_5
                            replace hx205_6 := (HB.out.cell (World.block_lt_of_cell? w _ hx205_6)).trans hx205_6
                            replace hx205_7 := (HB.out.cell (World.block_lt_of_cell? w _ hx205_7)).trans hx205_7
                            replace hx205_8 := (HB.out.cell (World.block_lt_of_cell? w _ hx205_8)).trans hx205_8
                            have HR205_1 := Aside0.mk hi205_1
                            have HC205_1 := Aside0.mk hl205_1
                            clear hi205_1 hl205_1
                            replace p205 := eq_true p205
                            replace q205 := eq_true q205
                            go_wp2
                            go_ret
                            exact ⟨by first | rfl | (simp <;> rfl) | (simp [*] <;> rfl), by repeat (first | (with_reducible first | exact HB.out | apply below_alloc | apply pw_below_drewN | apply below_drew1 | refine below_set ?_ GE195.out) | exact HB.out)⟩
                        · rw [if_neg c45] at H
                          have c45b0 : decide (1 ≤ ((rd_T40 l1 0).f0)) = false := decide_eq_false c45
                          clear c45
                          obtain rfl := Option.some.inj H
                          have p205 : 0 ≤ (0 : Int) := (by omega)
                          have q205 : 0 < (l1.length : Int) := of_decide_eq_true (by first | (with_reducible assumption) | assumption)
                          obtain ⟨ad205, A205_1, c205_1, e205, hx205_0, hx205_1, hx205_2, hx205_3, hx205_4, hx205_5, hx205_6, hx205_7, hx205_8, hl205_1, hi205_1⟩ := at_T40 HR1.out 0 p205 q205
                          cases e205
                          have qi205 : (0 < l1.length) = True := eq_true (by omega)
                          (try rw [show ((0 : Int)).toNat = 0 from rfl] at hx205_0)
                          (try rw [show 0 * 9 = 0 from rfl] at hx205_0)
                          (try rw [Addr.add_zero'] at hx205_0)
                          (try rw [show ((0 : Int)).toNat = 0 from rfl] at hx205_1)
                          (try rw [show 0 * 9 = 0 from rfl] at hx205_1)
                          (try rw [Addr.add_zero'] at hx205_1)
                          (try rw [show ((0 : Int)).toNat = 0 from rfl] at hx205_2)
                          (try rw [show 0 * 9 = 0 from rfl] at hx205_2)
                          (try rw [Addr.add_zero'] at hx205_2)
                          (try rw [show ((0 : Int)).toNat = 0 from rfl] at hx205_3)
                          (try rw [show 0 * 9 = 0 from rfl] at hx205_3)
                          (try rw [Addr.add_zero'] at hx205_3)
                          (try rw [show ((0 : Int)).toNat = 0 from rfl] at hx205_4)
                          (try rw [show 0 * 9 = 0 from rfl] at hx205_4)
                          (try rw [Addr.add_zero'] at hx205_4)
                          (try rw [show ((0 : Int)).toNat = 0 from rfl] at hx205_5)
                          (try rw [show 0 * 9 = 0 from rfl] at hx205_5)
                          (try rw [Addr.add_zero'] at hx205_5)
                          (try rw [show ((0 : Int)).toNat = 0 from rfl] at hx205_6)
                          (try rw [show 0 * 9 = 0 from rfl] at hx205_6)
                          (try rw [Addr.add_zero'] at hx205_6)
                          (try rw [show ((0 : Int)).toNat = 0 from rfl] at hx205_7)
                          (try rw [show 0 * 9 = 0 from rfl] at hx205_7)
                          (try rw [Addr.add_zero'] at hx205_7)
                          (try rw [show ((0 : Int)).toNat = 0 from rfl] at hx205_8)
                          (try rw [show 0 * 9 = 0 from rfl] at hx205_8)
                          (try rw [Addr.add_zero'] at hx205_8)
                          replace hx205_0 := (HB.out.cell (World.block_lt_of_cell? w _ hx205_0)).trans hx205_0
                          replace hx205_1 := (HB.out.cell (World.block_lt_of_cell? w _ hx205_1)).trans hx205_1
                          replace hx205_2 := (HB.out.cell (World.block_lt_of_cell? w _ hx205_2)).trans hx205_2
                          replace hx205_3 := (HB.out.cell (World.block_lt_of_cell? w _ hx205_3)).trans hx205_3
                          replace hx205_4 := (HB.out.cell (World.block_lt_of_cell? w _ hx205_4)).trans hx205_4
                          replace hx205_5 := (HB.out.cell (World.block_lt_of_cell? w _ hx205_5)).trans hx205_5
                          replace hx205_6 := (HB.out.cell (World.block_lt_of_cell? w _ hx205_6)).trans hx205_6
                          replace hx205_7 := (HB.out.cell (World.block_lt_of_cell? w _ hx205_7)).trans hx205_7
                          replace hx205_8 := (HB.out.cell (World.block_lt_of_cell? w _ hx205_8)).trans hx205_8
                          have HR205_1 := Aside0.mk hi205_1
                          have HC205_1 := Aside0.mk hl205_1
                          clear hi205_1 hl205_1
                          replace p205 := eq_true p205
                          replace q205 := eq_true q205
                          go_wp2
                          go_ret
                          exact ⟨by first | rfl | (simp <;> rfl) | (simp [*] <;> rfl), by repeat (first | (with_reducible first | exact HB.out | apply below_alloc | apply pw_below_drewN | apply below_drew1 | refine below_set ?_ GE195.out) | exact HB.out)⟩
                  · rw [if_neg c34] at H
                    exact absurd H (by simp)

end Go.Proofs.YtkolleohenjhmaaDoor.X
