/- Functions of this seat and their contracts, printed by wip/tools/xprint.py (a program of this work, over the kit's printer). -/
import Derived.Test.YtkolleohenjhmaaDoorProg
import Derived.Below
import Derived.Deep.Draws
import Derived.Deep.AppendLies
import Derived.Maps.AppendAt
import Derived.OwnWalk
import Derived.Laws.BytesArg
import Derived.Laws.MakeOwn
import Derived.Laws.OwnMore
import Derived.Deep.OwnRows
import Derived.Tactics
import Derived.Lib.ConvBytes
import Derived.Laws.Slices
import Derived.WalkKit
import Derived.KernelRfl
import Derived.RowKit3
import Derived.Deep.LoopGhost
import Derived.Deep.QuietTactic
import Derived.BigQuiet
import Derived.WideLaws
import Derived.Deep.DeepCutAuto
import Derived.Deep.CutBlock
import Derived.Deep.RegionHeld3
import Derived.Laws.Rows
import Derived.Lib.AppendStr
import Derived.ArgAppend
import Derived.Laws.IdiomCopy
import Derived.OrdersHeld
import Derived.Laws.BitsLemmas
import Derived.RowKit
import Derived.Test.YtkolleohenjhmaaDoorWWords
import Derived.Test.YtkolleohenjhmaaDoorWLast
import Derived.Test.YtkolleohenjhmaaDoorWTab
import Derived.Test.YtkolleohenjhmaaDoorWFour
import Derived.Test.YtkolleohenjhmaaDoorWQPut
import Derived.Test.YtkolleohenjhmaaDoorWApart
import Derived.Test.YtkolleohenjhmaaDoorWArr
import Derived.Test.YtkolleohenjhmaaDoorWZeros
import Derived.Test.YtkolleohenjhmaaDoorWFoot
import Derived.Test.YtkolleohenjhmaaDoorWKept
import Derived.Test.YtkolleohenjhmaaDoorWShare
import Derived.Test.YtkolleohenjhmaaDoorWN
import Derived.Test.YtkolleohenjhmaaDoorWFootNe
import Derived.Test.YtkolleohenjhmaaDoorWAt
import Derived.Test.YtkolleohenjhmaaDoorWEqStruct
import Derived.Test.YtkolleohenjhmaaDoorWRepsOne
import Derived.Test.YtkolleohenjhmaaDoorWInv
import Derived.Test.YtkolleohenjhmaaDoorWInvWords
import Derived.Test.YtkolleohenjhmaaDoorWGuard
import Derived.Test.YtkolleohenjhmaaDoorWNEv
import Derived.Test.YtkolleohenjhmaaDoorWMore
import Derived.Test.YtkolleohenjhmaaDoorRShow
import Derived.Test.YtkolleohenjhmaaDoorRefW
namespace Go.Proofs.YtkolleohenjhmaaDoor.X
open Go.RowKit Go.Proofs.YtkolleohenjhmaaDoorW.PrintWords Go.Proofs.YtkolleohenjhmaaDoorW.PrintLast Go.Proofs.YtkolleohenjhmaaDoorW.PrintMore
attribute [local go_sem] max2_int min2_int max_two min_two max_three min_three max_four min_four
set_option linter.unusedVariables false
set_option linter.unusedSimpArgs false

/-! ### butteryref15_value -/
def butteryref15_value.f (k : Nat) (a0 : ByteArray) (a1_0 : Int) (l1_1 : List Int) (a1_2 : Int) (a1_3 : Int) (a1_4 : Int) (a1_5 : Int) (a1_6 : Bool) (a1_7 : Bool) (a1_8 : Bool) (a2 : Bool) : Option (ByteArray) := if 6 + a0.size ≤ 9223372036854775807 then (if ((⟨#[86, 65, 76, 85, 69, 32]⟩ : ByteArray) ++ a0).size + 1 ≤ 9223372036854775807 then ((butteryref01_Show.f k (IntKind.u64.wrap (a1_2))).bind fun t159 => (if (((⟨#[86, 65, 76, 85, 69, 32]⟩ : ByteArray) ++ a0) ++ (⟨#[32]⟩ : ByteArray)).size + t159.size ≤ 9223372036854775807 then (if ((((⟨#[86, 65, 76, 85, 69, 32]⟩ : ByteArray) ++ a0) ++ (⟨#[32]⟩ : ByteArray)) ++ t159).size + 1 ≤ 9223372036854775807 then ((butteryref01_Show.f k (IntKind.u64.wrap ((l1_1.length : Int)))).bind fun t160 => (if (((((⟨#[86, 65, 76, 85, 69, 32]⟩ : ByteArray) ++ a0) ++ (⟨#[32]⟩ : ByteArray)) ++ t159) ++ (⟨#[32]⟩ : ByteArray)).size + t160.size ≤ 9223372036854775807 then (if a2 = true then (if ((((((⟨#[86, 65, 76, 85, 69, 32]⟩ : ByteArray) ++ a0) ++ (⟨#[32]⟩ : ByteArray)) ++ t159) ++ (⟨#[32]⟩ : ByteArray)) ++ t160).size + 1 ≤ 9223372036854775807 then ((butteryref01_Show.f k a1_3).bind fun t161 => (if (((((((⟨#[86, 65, 76, 85, 69, 32]⟩ : ByteArray) ++ a0) ++ (⟨#[32]⟩ : ByteArray)) ++ t159) ++ (⟨#[32]⟩ : ByteArray)) ++ t160) ++ (⟨#[32]⟩ : ByteArray)).size + t161.size ≤ 9223372036854775807 then (if ((((((((⟨#[86, 65, 76, 85, 69, 32]⟩ : ByteArray) ++ a0) ++ (⟨#[32]⟩ : ByteArray)) ++ t159) ++ (⟨#[32]⟩ : ByteArray)) ++ t160) ++ (⟨#[32]⟩ : ByteArray)) ++ t161).size + 2 ≤ 9223372036854775807 then (if (((((((((⟨#[86, 65, 76, 85, 69, 32]⟩ : ByteArray) ++ a0) ++ (⟨#[32]⟩ : ByteArray)) ++ t159) ++ (⟨#[32]⟩ : ByteArray)) ++ t160) ++ (⟨#[32]⟩ : ByteArray)) ++ t161) ++ (⟨#[13, 10]⟩ : ByteArray)).size + (strOfNums l1_1).size ≤ 9223372036854775807 then (if ((((((((((⟨#[86, 65, 76, 85, 69, 32]⟩ : ByteArray) ++ a0) ++ (⟨#[32]⟩ : ByteArray)) ++ t159) ++ (⟨#[32]⟩ : ByteArray)) ++ t160) ++ (⟨#[32]⟩ : ByteArray)) ++ t161) ++ (⟨#[13, 10]⟩ : ByteArray)) ++ (strOfNums l1_1)).size + 2 ≤ 9223372036854775807 then (some (((((((((((⟨#[86, 65, 76, 85, 69, 32]⟩ : ByteArray) ++ a0) ++ (⟨#[32]⟩ : ByteArray)) ++ t159) ++ (⟨#[32]⟩ : ByteArray)) ++ t160) ++ (⟨#[32]⟩ : ByteArray)) ++ t161) ++ (⟨#[13, 10]⟩ : ByteArray)) ++ (strOfNums l1_1)) ++ (⟨#[13, 10]⟩ : ByteArray))) else (none)) else (none)) else (none)) else (none))) else (none)) else (if ((((((⟨#[86, 65, 76, 85, 69, 32]⟩ : ByteArray) ++ a0) ++ (⟨#[32]⟩ : ByteArray)) ++ t159) ++ (⟨#[32]⟩ : ByteArray)) ++ t160).size + 2 ≤ 9223372036854775807 then (if (((((((⟨#[86, 65, 76, 85, 69, 32]⟩ : ByteArray) ++ a0) ++ (⟨#[32]⟩ : ByteArray)) ++ t159) ++ (⟨#[32]⟩ : ByteArray)) ++ t160) ++ (⟨#[13, 10]⟩ : ByteArray)).size + (strOfNums l1_1).size ≤ 9223372036854775807 then (if ((((((((⟨#[86, 65, 76, 85, 69, 32]⟩ : ByteArray) ++ a0) ++ (⟨#[32]⟩ : ByteArray)) ++ t159) ++ (⟨#[32]⟩ : ByteArray)) ++ t160) ++ (⟨#[13, 10]⟩ : ByteArray)) ++ (strOfNums l1_1)).size + 2 ≤ 9223372036854775807 then (some (((((((((⟨#[86, 65, 76, 85, 69, 32]⟩ : ByteArray) ++ a0) ++ (⟨#[32]⟩ : ByteArray)) ++ t159) ++ (⟨#[32]⟩ : ByteArray)) ++ t160) ++ (⟨#[13, 10]⟩ : ByteArray)) ++ (strOfNums l1_1)) ++ (⟨#[13, 10]⟩ : ByteArray))) else (none)) else (none)) else (none))) else (none))) else (none)) else (none))) else (none)) else (none)
theorem butteryref15_value.mono : ∀ a0 a1 a2 a3 a4 a5 a6 a7 a8 a9 a10 k, LeO (butteryref15_value.f k a0 a1 a2 a3 a4 a5 a6 a7 a8 a9 a10) (butteryref15_value.f (k + 1) a0 a1 a2 a3 a4 a5 a6 a7 a8 a9 a10) := by
  intro a0 a1 a2 a3 a4 a5 a6 a7 a8 a9 a10 k
  unfold butteryref15_value.f
  repeat' first
      | (with_reducible exact butteryref01_Show.mono _ _)
      | (with_reducible exact LeO.refl _)
      | (with_reducible exact LeO.none _)
      | (with_reducible refine LeO.ite ?_ ?_)
      | (with_reducible refine LeO.bind ?_ (fun _ => ?_))
      | exact butteryref01_Show.mono _ _
      | exact LeO.none _
      | refine LeO.ite ?_ ?_
      | refine LeO.bind ?_ (fun _ => ?_)
def butteryref15_value.T1 : Bool × List (List Nat × List Nat) := (true, [([], []), ([0], [0]), ([1], [1]), ([], []), ([3], [3]), ([4], [4]), ([5], [5]), ([2, 6], [2, 6]), ([7], [7]), ([], []), ([9], [9]), ([10], [10]), ([11], [11]), ([12, 6], [12]), ([8, 13], [8, 13]), ([14, 13, 0, 1, 2, 3, 4, 5, 6, 7, 8, 9, 10, 11, 12, 13, 14], [14])])
def butteryref15_value.B1 : List Nat := [0, 1, 3, 0, 8, 24, 56, 127, 255, 0, 512, 1536, 3584, 7800, 16383, 32767]
theorem butteryref15_value.tab1 : rtab .any (opsOf Tryd.f17 1) = butteryref15_value.T1 := by kernel_rfl
theorem butteryref15_value.bits1 : waitsOk butteryref15_value.T1.2 butteryref15_value.B1 = true := by kernel_rfl
set_option maxHeartbeats 8000000 in
set_option maxRecDepth 100000 in
theorem butteryref15_value.calls (k : Nat) (a0 : ByteArray) (a1_0 : Int) (A1_1 : Option Addr) (c1_1 : Nat) (l1_1 : List Int) (a1_2 : Int) (a1_3 : Int) (a1_4 : Int) (a1_5 : Int) (a1_6 : Bool) (a1_7 : Bool) (a1_8 : Bool) (a2 : Bool) (r : ByteArray) (w : World) (hr1_1 : Kd.C (Kd.int .u8) w A1_1 l1_1.length l1_1) (hc1_1 : l1_1.length ≤ c1_1) (h : butteryref15_value.f k a0 a1_0 l1_1 a1_2 a1_3 a1_4 a1_5 a1_6 a1_7 a1_8 a2 = some r) :
    Calls Tryd.prog 17 #[.string a0, .agg #[.int .i64 a1_0, .slice A1_1 l1_1.length c1_1, .int .u32 a1_2, .int .u64 a1_3, .int .i64 a1_4, .int .u64 a1_5, .bool a1_6, .bool a1_7, .bool a1_8], .bool a2] w fun e w' => e = .returned (.string r) ∧ Below w.heap.size w w' := by
  have hu40 := Tryd.underlying40
  have HR1_1 := Aside0.mk hr1_1
  have HC1_1 := Aside0.mk hc1_1
  clear hr1_1 hc1_1
  have HB := Aside0.mk (Below.refl w.heap.size w)
  have H : (if 6 + a0.size ≤ 9223372036854775807 then (if ((⟨#[86, 65, 76, 85, 69, 32]⟩ : ByteArray) ++ a0).size + 1 ≤ 9223372036854775807 then ((butteryref01_Show.f k (IntKind.u64.wrap (a1_2))).bind fun t159 => (if (((⟨#[86, 65, 76, 85, 69, 32]⟩ : ByteArray) ++ a0) ++ (⟨#[32]⟩ : ByteArray)).size + t159.size ≤ 9223372036854775807 then (if ((((⟨#[86, 65, 76, 85, 69, 32]⟩ : ByteArray) ++ a0) ++ (⟨#[32]⟩ : ByteArray)) ++ t159).size + 1 ≤ 9223372036854775807 then ((butteryref01_Show.f k (IntKind.u64.wrap ((l1_1.length : Int)))).bind fun t160 => (if (((((⟨#[86, 65, 76, 85, 69, 32]⟩ : ByteArray) ++ a0) ++ (⟨#[32]⟩ : ByteArray)) ++ t159) ++ (⟨#[32]⟩ : ByteArray)).size + t160.size ≤ 9223372036854775807 then (if a2 = true then (if ((((((⟨#[86, 65, 76, 85, 69, 32]⟩ : ByteArray) ++ a0) ++ (⟨#[32]⟩ : ByteArray)) ++ t159) ++ (⟨#[32]⟩ : ByteArray)) ++ t160).size + 1 ≤ 9223372036854775807 then ((butteryref01_Show.f k a1_3).bind fun t161 => (if (((((((⟨#[86, 65, 76, 85, 69, 32]⟩ : ByteArray) ++ a0) ++ (⟨#[32]⟩ : ByteArray)) ++ t159) ++ (⟨#[32]⟩ : ByteArray)) ++ t160) ++ (⟨#[32]⟩ : ByteArray)).size + t161.size ≤ 9223372036854775807 then (if ((((((((⟨#[86, 65, 76, 85, 69, 32]⟩ : ByteArray) ++ a0) ++ (⟨#[32]⟩ : ByteArray)) ++ t159) ++ (⟨#[32]⟩ : ByteArray)) ++ t160) ++ (⟨#[32]⟩ : ByteArray)) ++ t161).size + 2 ≤ 9223372036854775807 then (if (((((((((⟨#[86, 65, 76, 85, 69, 32]⟩ : ByteArray) ++ a0) ++ (⟨#[32]⟩ : ByteArray)) ++ t159) ++ (⟨#[32]⟩ : ByteArray)) ++ t160) ++ (⟨#[32]⟩ : ByteArray)) ++ t161) ++ (⟨#[13, 10]⟩ : ByteArray)).size + (strOfNums l1_1).size ≤ 9223372036854775807 then (if ((((((((((⟨#[86, 65, 76, 85, 69, 32]⟩ : ByteArray) ++ a0) ++ (⟨#[32]⟩ : ByteArray)) ++ t159) ++ (⟨#[32]⟩ : ByteArray)) ++ t160) ++ (⟨#[32]⟩ : ByteArray)) ++ t161) ++ (⟨#[13, 10]⟩ : ByteArray)) ++ (strOfNums l1_1)).size + 2 ≤ 9223372036854775807 then (some (((((((((((⟨#[86, 65, 76, 85, 69, 32]⟩ : ByteArray) ++ a0) ++ (⟨#[32]⟩ : ByteArray)) ++ t159) ++ (⟨#[32]⟩ : ByteArray)) ++ t160) ++ (⟨#[32]⟩ : ByteArray)) ++ t161) ++ (⟨#[13, 10]⟩ : ByteArray)) ++ (strOfNums l1_1)) ++ (⟨#[13, 10]⟩ : ByteArray))) else (none)) else (none)) else (none)) else (none))) else (none)) else (if ((((((⟨#[86, 65, 76, 85, 69, 32]⟩ : ByteArray) ++ a0) ++ (⟨#[32]⟩ : ByteArray)) ++ t159) ++ (⟨#[32]⟩ : ByteArray)) ++ t160).size + 2 ≤ 9223372036854775807 then (if (((((((⟨#[86, 65, 76, 85, 69, 32]⟩ : ByteArray) ++ a0) ++ (⟨#[32]⟩ : ByteArray)) ++ t159) ++ (⟨#[32]⟩ : ByteArray)) ++ t160) ++ (⟨#[13, 10]⟩ : ByteArray)).size + (strOfNums l1_1).size ≤ 9223372036854775807 then (if ((((((((⟨#[86, 65, 76, 85, 69, 32]⟩ : ByteArray) ++ a0) ++ (⟨#[32]⟩ : ByteArray)) ++ t159) ++ (⟨#[32]⟩ : ByteArray)) ++ t160) ++ (⟨#[13, 10]⟩ : ByteArray)) ++ (strOfNums l1_1)).size + 2 ≤ 9223372036854775807 then (some (((((((((⟨#[86, 65, 76, 85, 69, 32]⟩ : ByteArray) ++ a0) ++ (⟨#[32]⟩ : ByteArray)) ++ t159) ++ (⟨#[32]⟩ : ByteArray)) ++ t160) ++ (⟨#[13, 10]⟩ : ByteArray)) ++ (strOfNums l1_1)) ++ (⟨#[13, 10]⟩ : ByteArray))) else (none)) else (none)) else (none))) else (none))) else (none)) else (none))) else (none)) else (none)) = some r := h
  clear h
  by_cases c4 : 6 + a0.size ≤ 9223372036854775807
  · rw [if_pos c4] at H
    have c4b0 := eq_true c4
    have c4b1 : decide (6 + a0.size ≤ 9223372036854775807) = true := decide_eq_true c4
    try have c4b2 : (9223372036854775807 < 6 + a0.size) = False := eq_false (Nat.not_lt.2 c4)
    by_cases c5 : ((⟨#[86, 65, 76, 85, 69, 32]⟩ : ByteArray) ++ a0).size + 1 ≤ 9223372036854775807
    · rw [if_pos c5] at H
      have c5b0 := eq_true c5
      have c5b1 : decide (((⟨#[86, 65, 76, 85, 69, 32]⟩ : ByteArray) ++ a0).size + 1 ≤ 9223372036854775807) = true := decide_eq_true c5
      try have c5b2 : (9223372036854775807 < ((⟨#[86, 65, 76, 85, 69, 32]⟩ : ByteArray) ++ a0).size + 1) = False := eq_false (Nat.not_lt.2 c5)
      try have c5b3 : (9223372036854775807 < 6 + a0.size + 1) = False := by (have h_ := c5b2; simp only [ByteArray.size_append, (show (⟨#[86, 65, 76, 85, 69, 32]⟩ : ByteArray).size = 6 from rfl)] at h_; exact h_)
      replace H := Option.bind_eq_some_iff.mp H
      obtain ⟨t159, A60, H⟩ := H
      replace H : (if (((⟨#[86, 65, 76, 85, 69, 32]⟩ : ByteArray) ++ a0) ++ (⟨#[32]⟩ : ByteArray)).size + t159.size ≤ 9223372036854775807 then (if ((((⟨#[86, 65, 76, 85, 69, 32]⟩ : ByteArray) ++ a0) ++ (⟨#[32]⟩ : ByteArray)) ++ t159).size + 1 ≤ 9223372036854775807 then ((butteryref01_Show.f k (IntKind.u64.wrap ((l1_1.length : Int)))).bind fun t160 => (if (((((⟨#[86, 65, 76, 85, 69, 32]⟩ : ByteArray) ++ a0) ++ (⟨#[32]⟩ : ByteArray)) ++ t159) ++ (⟨#[32]⟩ : ByteArray)).size + t160.size ≤ 9223372036854775807 then (if a2 = true then (if ((((((⟨#[86, 65, 76, 85, 69, 32]⟩ : ByteArray) ++ a0) ++ (⟨#[32]⟩ : ByteArray)) ++ t159) ++ (⟨#[32]⟩ : ByteArray)) ++ t160).size + 1 ≤ 9223372036854775807 then ((butteryref01_Show.f k a1_3).bind fun t161 => (if (((((((⟨#[86, 65, 76, 85, 69, 32]⟩ : ByteArray) ++ a0) ++ (⟨#[32]⟩ : ByteArray)) ++ t159) ++ (⟨#[32]⟩ : ByteArray)) ++ t160) ++ (⟨#[32]⟩ : ByteArray)).size + t161.size ≤ 9223372036854775807 then (if ((((((((⟨#[86, 65, 76, 85, 69, 32]⟩ : ByteArray) ++ a0) ++ (⟨#[32]⟩ : ByteArray)) ++ t159) ++ (⟨#[32]⟩ : ByteArray)) ++ t160) ++ (⟨#[32]⟩ : ByteArray)) ++ t161).size + 2 ≤ 9223372036854775807 then (if (((((((((⟨#[86, 65, 76, 85, 69, 32]⟩ : ByteArray) ++ a0) ++ (⟨#[32]⟩ : ByteArray)) ++ t159) ++ (⟨#[32]⟩ : ByteArray)) ++ t160) ++ (⟨#[32]⟩ : ByteArray)) ++ t161) ++ (⟨#[13, 10]⟩ : ByteArray)).size + (strOfNums l1_1).size ≤ 9223372036854775807 then (if ((((((((((⟨#[86, 65, 76, 85, 69, 32]⟩ : ByteArray) ++ a0) ++ (⟨#[32]⟩ : ByteArray)) ++ t159) ++ (⟨#[32]⟩ : ByteArray)) ++ t160) ++ (⟨#[32]⟩ : ByteArray)) ++ t161) ++ (⟨#[13, 10]⟩ : ByteArray)) ++ (strOfNums l1_1)).size + 2 ≤ 9223372036854775807 then (some (((((((((((⟨#[86, 65, 76, 85, 69, 32]⟩ : ByteArray) ++ a0) ++ (⟨#[32]⟩ : ByteArray)) ++ t159) ++ (⟨#[32]⟩ : ByteArray)) ++ t160) ++ (⟨#[32]⟩ : ByteArray)) ++ t161) ++ (⟨#[13, 10]⟩ : ByteArray)) ++ (strOfNums l1_1)) ++ (⟨#[13, 10]⟩ : ByteArray))) else (none)) else (none)) else (none)) else (none))) else (none)) else (if ((((((⟨#[86, 65, 76, 85, 69, 32]⟩ : ByteArray) ++ a0) ++ (⟨#[32]⟩ : ByteArray)) ++ t159) ++ (⟨#[32]⟩ : ByteArray)) ++ t160).size + 2 ≤ 9223372036854775807 then (if (((((((⟨#[86, 65, 76, 85, 69, 32]⟩ : ByteArray) ++ a0) ++ (⟨#[32]⟩ : ByteArray)) ++ t159) ++ (⟨#[32]⟩ : ByteArray)) ++ t160) ++ (⟨#[13, 10]⟩ : ByteArray)).size + (strOfNums l1_1).size ≤ 9223372036854775807 then (if ((((((((⟨#[86, 65, 76, 85, 69, 32]⟩ : ByteArray) ++ a0) ++ (⟨#[32]⟩ : ByteArray)) ++ t159) ++ (⟨#[32]⟩ : ByteArray)) ++ t160) ++ (⟨#[13, 10]⟩ : ByteArray)) ++ (strOfNums l1_1)).size + 2 ≤ 9223372036854775807 then (some (((((((((⟨#[86, 65, 76, 85, 69, 32]⟩ : ByteArray) ++ a0) ++ (⟨#[32]⟩ : ByteArray)) ++ t159) ++ (⟨#[32]⟩ : ByteArray)) ++ t160) ++ (⟨#[13, 10]⟩ : ByteArray)) ++ (strOfNums l1_1)) ++ (⟨#[13, 10]⟩ : ByteArray))) else (none)) else (none)) else (none))) else (none))) else (none)) else (none)) = some r := H
      have A6 := Aside0.mk A60
      clear A60
      by_cases c7 : (((⟨#[86, 65, 76, 85, 69, 32]⟩ : ByteArray) ++ a0) ++ (⟨#[32]⟩ : ByteArray)).size + t159.size ≤ 9223372036854775807
      · rw [if_pos c7] at H
        have c7b0 := eq_true c7
        have c7b1 : decide ((((⟨#[86, 65, 76, 85, 69, 32]⟩ : ByteArray) ++ a0) ++ (⟨#[32]⟩ : ByteArray)).size + t159.size ≤ 9223372036854775807) = true := decide_eq_true c7
        try have c7b2 : (9223372036854775807 < (((⟨#[86, 65, 76, 85, 69, 32]⟩ : ByteArray) ++ a0) ++ (⟨#[32]⟩ : ByteArray)).size + t159.size) = False := eq_false (Nat.not_lt.2 c7)
        try have c7b3 : (9223372036854775807 < 6 + a0.size + 1 + t159.size) = False := by (have h_ := c7b2; simp only [ByteArray.size_append, (show (⟨#[32]⟩ : ByteArray).size = 1 from rfl), (show (⟨#[86, 65, 76, 85, 69, 32]⟩ : ByteArray).size = 6 from rfl)] at h_; exact h_)
        by_cases c8 : ((((⟨#[86, 65, 76, 85, 69, 32]⟩ : ByteArray) ++ a0) ++ (⟨#[32]⟩ : ByteArray)) ++ t159).size + 1 ≤ 9223372036854775807
        · rw [if_pos c8] at H
          have c8b0 := eq_true c8
          have c8b1 : decide (((((⟨#[86, 65, 76, 85, 69, 32]⟩ : ByteArray) ++ a0) ++ (⟨#[32]⟩ : ByteArray)) ++ t159).size + 1 ≤ 9223372036854775807) = true := decide_eq_true c8
          try have c8b2 : (9223372036854775807 < ((((⟨#[86, 65, 76, 85, 69, 32]⟩ : ByteArray) ++ a0) ++ (⟨#[32]⟩ : ByteArray)) ++ t159).size + 1) = False := eq_false (Nat.not_lt.2 c8)
          try have c8b3 : (9223372036854775807 < 6 + a0.size + 1 + t159.size + 1) = False := by (have h_ := c8b2; simp only [ByteArray.size_append, (show (⟨#[32]⟩ : ByteArray).size = 1 from rfl), (show (⟨#[86, 65, 76, 85, 69, 32]⟩ : ByteArray).size = 6 from rfl)] at h_; exact h_)
          replace H := Option.bind_eq_some_iff.mp H
          obtain ⟨t160, A90, H⟩ := H
          replace H : (if (((((⟨#[86, 65, 76, 85, 69, 32]⟩ : ByteArray) ++ a0) ++ (⟨#[32]⟩ : ByteArray)) ++ t159) ++ (⟨#[32]⟩ : ByteArray)).size + t160.size ≤ 9223372036854775807 then (if a2 = true then (if ((((((⟨#[86, 65, 76, 85, 69, 32]⟩ : ByteArray) ++ a0) ++ (⟨#[32]⟩ : ByteArray)) ++ t159) ++ (⟨#[32]⟩ : ByteArray)) ++ t160).size + 1 ≤ 9223372036854775807 then ((butteryref01_Show.f k a1_3).bind fun t161 => (if (((((((⟨#[86, 65, 76, 85, 69, 32]⟩ : ByteArray) ++ a0) ++ (⟨#[32]⟩ : ByteArray)) ++ t159) ++ (⟨#[32]⟩ : ByteArray)) ++ t160) ++ (⟨#[32]⟩ : ByteArray)).size + t161.size ≤ 9223372036854775807 then (if ((((((((⟨#[86, 65, 76, 85, 69, 32]⟩ : ByteArray) ++ a0) ++ (⟨#[32]⟩ : ByteArray)) ++ t159) ++ (⟨#[32]⟩ : ByteArray)) ++ t160) ++ (⟨#[32]⟩ : ByteArray)) ++ t161).size + 2 ≤ 9223372036854775807 then (if (((((((((⟨#[86, 65, 76, 85, 69, 32]⟩ : ByteArray) ++ a0) ++ (⟨#[32]⟩ : ByteArray)) ++ t159) ++ (⟨#[32]⟩ : ByteArray)) ++ t160) ++ (⟨#[32]⟩ : ByteArray)) ++ t161) ++ (⟨#[13, 10]⟩ : ByteArray)).size + (strOfNums l1_1).size ≤ 9223372036854775807 then (if ((((((((((⟨#[86, 65, 76, 85, 69, 32]⟩ : ByteArray) ++ a0) ++ (⟨#[32]⟩ : ByteArray)) ++ t159) ++ (⟨#[32]⟩ : ByteArray)) ++ t160) ++ (⟨#[32]⟩ : ByteArray)) ++ t161) ++ (⟨#[13, 10]⟩ : ByteArray)) ++ (strOfNums l1_1)).size + 2 ≤ 9223372036854775807 then (some (((((((((((⟨#[86, 65, 76, 85, 69, 32]⟩ : ByteArray) ++ a0) ++ (⟨#[32]⟩ : ByteArray)) ++ t159) ++ (⟨#[32]⟩ : ByteArray)) ++ t160) ++ (⟨#[32]⟩ : ByteArray)) ++ t161) ++ (⟨#[13, 10]⟩ : ByteArray)) ++ (strOfNums l1_1)) ++ (⟨#[13, 10]⟩ : ByteArray))) else (none)) else (none)) else (none)) else (none))) else (none)) else (if ((((((⟨#[86, 65, 76, 85, 69, 32]⟩ : ByteArray) ++ a0) ++ (⟨#[32]⟩ : ByteArray)) ++ t159) ++ (⟨#[32]⟩ : ByteArray)) ++ t160).size + 2 ≤ 9223372036854775807 then (if (((((((⟨#[86, 65, 76, 85, 69, 32]⟩ : ByteArray) ++ a0) ++ (⟨#[32]⟩ : ByteArray)) ++ t159) ++ (⟨#[32]⟩ : ByteArray)) ++ t160) ++ (⟨#[13, 10]⟩ : ByteArray)).size + (strOfNums l1_1).size ≤ 9223372036854775807 then (if ((((((((⟨#[86, 65, 76, 85, 69, 32]⟩ : ByteArray) ++ a0) ++ (⟨#[32]⟩ : ByteArray)) ++ t159) ++ (⟨#[32]⟩ : ByteArray)) ++ t160) ++ (⟨#[13, 10]⟩ : ByteArray)) ++ (strOfNums l1_1)).size + 2 ≤ 9223372036854775807 then (some (((((((((⟨#[86, 65, 76, 85, 69, 32]⟩ : ByteArray) ++ a0) ++ (⟨#[32]⟩ : ByteArray)) ++ t159) ++ (⟨#[32]⟩ : ByteArray)) ++ t160) ++ (⟨#[13, 10]⟩ : ByteArray)) ++ (strOfNums l1_1)) ++ (⟨#[13, 10]⟩ : ByteArray))) else (none)) else (none)) else (none))) else (none)) = some r := H
          have A9 := Aside0.mk A90
          clear A90
          by_cases c10 : (((((⟨#[86, 65, 76, 85, 69, 32]⟩ : ByteArray) ++ a0) ++ (⟨#[32]⟩ : ByteArray)) ++ t159) ++ (⟨#[32]⟩ : ByteArray)).size + t160.size ≤ 9223372036854775807
          · rw [if_pos c10] at H
            have c10b0 := eq_true c10
            have c10b1 : decide ((((((⟨#[86, 65, 76, 85, 69, 32]⟩ : ByteArray) ++ a0) ++ (⟨#[32]⟩ : ByteArray)) ++ t159) ++ (⟨#[32]⟩ : ByteArray)).size + t160.size ≤ 9223372036854775807) = true := decide_eq_true c10
            try have c10b2 : (9223372036854775807 < (((((⟨#[86, 65, 76, 85, 69, 32]⟩ : ByteArray) ++ a0) ++ (⟨#[32]⟩ : ByteArray)) ++ t159) ++ (⟨#[32]⟩ : ByteArray)).size + t160.size) = False := eq_false (Nat.not_lt.2 c10)
            try have c10b3 : (9223372036854775807 < 6 + a0.size + 1 + t159.size + 1 + t160.size) = False := by (have h_ := c10b2; simp only [ByteArray.size_append, (show (⟨#[32]⟩ : ByteArray).size = 1 from rfl), (show (⟨#[86, 65, 76, 85, 69, 32]⟩ : ByteArray).size = 6 from rfl)] at h_; exact h_)
            by_cases c11 : a2 = true
            · subst c11
              have H1 : (if ((((((⟨#[86, 65, 76, 85, 69, 32]⟩ : ByteArray) ++ a0) ++ (⟨#[32]⟩ : ByteArray)) ++ t159) ++ (⟨#[32]⟩ : ByteArray)) ++ t160).size + 1 ≤ 9223372036854775807 then ((butteryref01_Show.f k a1_3).bind fun t161 => (if (((((((⟨#[86, 65, 76, 85, 69, 32]⟩ : ByteArray) ++ a0) ++ (⟨#[32]⟩ : ByteArray)) ++ t159) ++ (⟨#[32]⟩ : ByteArray)) ++ t160) ++ (⟨#[32]⟩ : ByteArray)).size + t161.size ≤ 9223372036854775807 then (if ((((((((⟨#[86, 65, 76, 85, 69, 32]⟩ : ByteArray) ++ a0) ++ (⟨#[32]⟩ : ByteArray)) ++ t159) ++ (⟨#[32]⟩ : ByteArray)) ++ t160) ++ (⟨#[32]⟩ : ByteArray)) ++ t161).size + 2 ≤ 9223372036854775807 then (if (((((((((⟨#[86, 65, 76, 85, 69, 32]⟩ : ByteArray) ++ a0) ++ (⟨#[32]⟩ : ByteArray)) ++ t159) ++ (⟨#[32]⟩ : ByteArray)) ++ t160) ++ (⟨#[32]⟩ : ByteArray)) ++ t161) ++ (⟨#[13, 10]⟩ : ByteArray)).size + (strOfNums l1_1).size ≤ 9223372036854775807 then (if ((((((((((⟨#[86, 65, 76, 85, 69, 32]⟩ : ByteArray) ++ a0) ++ (⟨#[32]⟩ : ByteArray)) ++ t159) ++ (⟨#[32]⟩ : ByteArray)) ++ t160) ++ (⟨#[32]⟩ : ByteArray)) ++ t161) ++ (⟨#[13, 10]⟩ : ByteArray)) ++ (strOfNums l1_1)).size + 2 ≤ 9223372036854775807 then (some (((((((((((⟨#[86, 65, 76, 85, 69, 32]⟩ : ByteArray) ++ a0) ++ (⟨#[32]⟩ : ByteArray)) ++ t159) ++ (⟨#[32]⟩ : ByteArray)) ++ t160) ++ (⟨#[32]⟩ : ByteArray)) ++ t161) ++ (⟨#[13, 10]⟩ : ByteArray)) ++ (strOfNums l1_1)) ++ (⟨#[13, 10]⟩ : ByteArray))) else (none)) else (none)) else (none)) else (none))) else (none)) = some r := by rw [if_pos rfl] at H; exact H
              clear H
              have H := H1
              clear H1
              by_cases c12 : ((((((⟨#[86, 65, 76, 85, 69, 32]⟩ : ByteArray) ++ a0) ++ (⟨#[32]⟩ : ByteArray)) ++ t159) ++ (⟨#[32]⟩ : ByteArray)) ++ t160).size + 1 ≤ 9223372036854775807
              · rw [if_pos c12] at H
                have c12b0 := eq_true c12
                have c12b1 : decide (((((((⟨#[86, 65, 76, 85, 69, 32]⟩ : ByteArray) ++ a0) ++ (⟨#[32]⟩ : ByteArray)) ++ t159) ++ (⟨#[32]⟩ : ByteArray)) ++ t160).size + 1 ≤ 9223372036854775807) = true := decide_eq_true c12
                try have c12b2 : (9223372036854775807 < ((((((⟨#[86, 65, 76, 85, 69, 32]⟩ : ByteArray) ++ a0) ++ (⟨#[32]⟩ : ByteArray)) ++ t159) ++ (⟨#[32]⟩ : ByteArray)) ++ t160).size + 1) = False := eq_false (Nat.not_lt.2 c12)
                try have c12b3 : (9223372036854775807 < 6 + a0.size + 1 + t159.size + 1 + t160.size + 1) = False := by (have h_ := c12b2; simp only [ByteArray.size_append, (show (⟨#[32]⟩ : ByteArray).size = 1 from rfl), (show (⟨#[86, 65, 76, 85, 69, 32]⟩ : ByteArray).size = 6 from rfl)] at h_; exact h_)
                replace H := Option.bind_eq_some_iff.mp H
                obtain ⟨t161, A130, H⟩ := H
                replace H : (if (((((((⟨#[86, 65, 76, 85, 69, 32]⟩ : ByteArray) ++ a0) ++ (⟨#[32]⟩ : ByteArray)) ++ t159) ++ (⟨#[32]⟩ : ByteArray)) ++ t160) ++ (⟨#[32]⟩ : ByteArray)).size + t161.size ≤ 9223372036854775807 then (if ((((((((⟨#[86, 65, 76, 85, 69, 32]⟩ : ByteArray) ++ a0) ++ (⟨#[32]⟩ : ByteArray)) ++ t159) ++ (⟨#[32]⟩ : ByteArray)) ++ t160) ++ (⟨#[32]⟩ : ByteArray)) ++ t161).size + 2 ≤ 9223372036854775807 then (if (((((((((⟨#[86, 65, 76, 85, 69, 32]⟩ : ByteArray) ++ a0) ++ (⟨#[32]⟩ : ByteArray)) ++ t159) ++ (⟨#[32]⟩ : ByteArray)) ++ t160) ++ (⟨#[32]⟩ : ByteArray)) ++ t161) ++ (⟨#[13, 10]⟩ : ByteArray)).size + (strOfNums l1_1).size ≤ 9223372036854775807 then (if ((((((((((⟨#[86, 65, 76, 85, 69, 32]⟩ : ByteArray) ++ a0) ++ (⟨#[32]⟩ : ByteArray)) ++ t159) ++ (⟨#[32]⟩ : ByteArray)) ++ t160) ++ (⟨#[32]⟩ : ByteArray)) ++ t161) ++ (⟨#[13, 10]⟩ : ByteArray)) ++ (strOfNums l1_1)).size + 2 ≤ 9223372036854775807 then (some (((((((((((⟨#[86, 65, 76, 85, 69, 32]⟩ : ByteArray) ++ a0) ++ (⟨#[32]⟩ : ByteArray)) ++ t159) ++ (⟨#[32]⟩ : ByteArray)) ++ t160) ++ (⟨#[32]⟩ : ByteArray)) ++ t161) ++ (⟨#[13, 10]⟩ : ByteArray)) ++ (strOfNums l1_1)) ++ (⟨#[13, 10]⟩ : ByteArray))) else (none)) else (none)) else (none)) else (none)) = some r := H
                have A13 := Aside0.mk A130
                clear A130
                by_cases c14 : (((((((⟨#[86, 65, 76, 85, 69, 32]⟩ : ByteArray) ++ a0) ++ (⟨#[32]⟩ : ByteArray)) ++ t159) ++ (⟨#[32]⟩ : ByteArray)) ++ t160) ++ (⟨#[32]⟩ : ByteArray)).size + t161.size ≤ 9223372036854775807
                · rw [if_pos c14] at H
                  have c14b0 := eq_true c14
                  have c14b1 : decide ((((((((⟨#[86, 65, 76, 85, 69, 32]⟩ : ByteArray) ++ a0) ++ (⟨#[32]⟩ : ByteArray)) ++ t159) ++ (⟨#[32]⟩ : ByteArray)) ++ t160) ++ (⟨#[32]⟩ : ByteArray)).size + t161.size ≤ 9223372036854775807) = true := decide_eq_true c14
                  try have c14b2 : (9223372036854775807 < (((((((⟨#[86, 65, 76, 85, 69, 32]⟩ : ByteArray) ++ a0) ++ (⟨#[32]⟩ : ByteArray)) ++ t159) ++ (⟨#[32]⟩ : ByteArray)) ++ t160) ++ (⟨#[32]⟩ : ByteArray)).size + t161.size) = False := eq_false (Nat.not_lt.2 c14)
                  try have c14b3 : (9223372036854775807 < 6 + a0.size + 1 + t159.size + 1 + t160.size + 1 + t161.size) = False := by (have h_ := c14b2; simp only [ByteArray.size_append, (show (⟨#[32]⟩ : ByteArray).size = 1 from rfl), (show (⟨#[86, 65, 76, 85, 69, 32]⟩ : ByteArray).size = 6 from rfl)] at h_; exact h_)
                  by_cases c15 : ((((((((⟨#[86, 65, 76, 85, 69, 32]⟩ : ByteArray) ++ a0) ++ (⟨#[32]⟩ : ByteArray)) ++ t159) ++ (⟨#[32]⟩ : ByteArray)) ++ t160) ++ (⟨#[32]⟩ : ByteArray)) ++ t161).size + 2 ≤ 9223372036854775807
                  · rw [if_pos c15] at H
                    have c15b0 := eq_true c15
                    have c15b1 : decide (((((((((⟨#[86, 65, 76, 85, 69, 32]⟩ : ByteArray) ++ a0) ++ (⟨#[32]⟩ : ByteArray)) ++ t159) ++ (⟨#[32]⟩ : ByteArray)) ++ t160) ++ (⟨#[32]⟩ : ByteArray)) ++ t161).size + 2 ≤ 9223372036854775807) = true := decide_eq_true c15
                    try have c15b2 : (9223372036854775807 < ((((((((⟨#[86, 65, 76, 85, 69, 32]⟩ : ByteArray) ++ a0) ++ (⟨#[32]⟩ : ByteArray)) ++ t159) ++ (⟨#[32]⟩ : ByteArray)) ++ t160) ++ (⟨#[32]⟩ : ByteArray)) ++ t161).size + 2) = False := eq_false (Nat.not_lt.2 c15)
                    try have c15b3 : (9223372036854775807 < 6 + a0.size + 1 + t159.size + 1 + t160.size + 1 + t161.size + 2) = False := by (have h_ := c15b2; simp only [ByteArray.size_append, (show (⟨#[32]⟩ : ByteArray).size = 1 from rfl), (show (⟨#[86, 65, 76, 85, 69, 32]⟩ : ByteArray).size = 6 from rfl)] at h_; exact h_)
                    by_cases c16 : (((((((((⟨#[86, 65, 76, 85, 69, 32]⟩ : ByteArray) ++ a0) ++ (⟨#[32]⟩ : ByteArray)) ++ t159) ++ (⟨#[32]⟩ : ByteArray)) ++ t160) ++ (⟨#[32]⟩ : ByteArray)) ++ t161) ++ (⟨#[13, 10]⟩ : ByteArray)).size + (strOfNums l1_1).size ≤ 9223372036854775807
                    · rw [if_pos c16] at H
                      have c16b0 := eq_true c16
                      have c16b1 : decide ((((((((((⟨#[86, 65, 76, 85, 69, 32]⟩ : ByteArray) ++ a0) ++ (⟨#[32]⟩ : ByteArray)) ++ t159) ++ (⟨#[32]⟩ : ByteArray)) ++ t160) ++ (⟨#[32]⟩ : ByteArray)) ++ t161) ++ (⟨#[13, 10]⟩ : ByteArray)).size + (strOfNums l1_1).size ≤ 9223372036854775807) = true := decide_eq_true c16
                      try have c16b2 : (9223372036854775807 < (((((((((⟨#[86, 65, 76, 85, 69, 32]⟩ : ByteArray) ++ a0) ++ (⟨#[32]⟩ : ByteArray)) ++ t159) ++ (⟨#[32]⟩ : ByteArray)) ++ t160) ++ (⟨#[32]⟩ : ByteArray)) ++ t161) ++ (⟨#[13, 10]⟩ : ByteArray)).size + (strOfNums l1_1).size) = False := eq_false (Nat.not_lt.2 c16)
                      try have c16b3 : (9223372036854775807 < 6 + a0.size + 1 + t159.size + 1 + t160.size + 1 + t161.size + 2 + (strOfNums l1_1).size) = False := by (have h_ := c16b2; simp only [ByteArray.size_append, (show (⟨#[13, 10]⟩ : ByteArray).size = 2 from rfl), (show (⟨#[32]⟩ : ByteArray).size = 1 from rfl), (show (⟨#[86, 65, 76, 85, 69, 32]⟩ : ByteArray).size = 6 from rfl)] at h_; exact h_)
                      by_cases c17 : ((((((((((⟨#[86, 65, 76, 85, 69, 32]⟩ : ByteArray) ++ a0) ++ (⟨#[32]⟩ : ByteArray)) ++ t159) ++ (⟨#[32]⟩ : ByteArray)) ++ t160) ++ (⟨#[32]⟩ : ByteArray)) ++ t161) ++ (⟨#[13, 10]⟩ : ByteArray)) ++ (strOfNums l1_1)).size + 2 ≤ 9223372036854775807
                      · rw [if_pos c17] at H
                        have c17b0 := eq_true c17
                        have c17b1 : decide (((((((((((⟨#[86, 65, 76, 85, 69, 32]⟩ : ByteArray) ++ a0) ++ (⟨#[32]⟩ : ByteArray)) ++ t159) ++ (⟨#[32]⟩ : ByteArray)) ++ t160) ++ (⟨#[32]⟩ : ByteArray)) ++ t161) ++ (⟨#[13, 10]⟩ : ByteArray)) ++ (strOfNums l1_1)).size + 2 ≤ 9223372036854775807) = true := decide_eq_true c17
                        try have c17b2 : (9223372036854775807 < ((((((((((⟨#[86, 65, 76, 85, 69, 32]⟩ : ByteArray) ++ a0) ++ (⟨#[32]⟩ : ByteArray)) ++ t159) ++ (⟨#[32]⟩ : ByteArray)) ++ t160) ++ (⟨#[32]⟩ : ByteArray)) ++ t161) ++ (⟨#[13, 10]⟩ : ByteArray)) ++ (strOfNums l1_1)).size + 2) = False := eq_false (Nat.not_lt.2 c17)
                        try have c17b3 : (9223372036854775807 < 6 + a0.size + 1 + t159.size + 1 + t160.size + 1 + t161.size + 2 + (strOfNums l1_1).size + 2) = False := by (have h_ := c17b2; simp only [ByteArray.size_append, (show (⟨#[13, 10]⟩ : ByteArray).size = 2 from rfl), (show (⟨#[32]⟩ : ByteArray).size = 1 from rfl), (show (⟨#[86, 65, 76, 85, 69, 32]⟩ : ByteArray).size = 6 from rfl)] at h_; exact h_)
                        obtain rfl := Option.some.inj H
                        go_enter Tryd.func17, Tryd.ntmps17
                        try go_wp2_with (first | ((with_reducible refine gate_dst (N := 4) rfl ?_); refine box_event ?hg (N := 4) ?hd (cs := #[.int .i64 a1_0, .slice A1_1 l1_1.length c1_1, .int .u32 a1_2, .int .u64 a1_3, .int .i64 a1_4, .int .u64 a1_5, .bool a1_6, .bool a1_7, .bool a1_8]) (t := 40) ?hr ?_; (case hd => rfl); (case hg => rfl); (case hr => first | (go_simp; done) | (go_simp; rfl)); intro gb158 hg w18 hbox hb; have n0_ := Aside0.mk (below_step (by repeat (first | (with_reducible first | exact HB.out | apply below_alloc | apply pw_below_drewN | apply below_drew1) | exact HB.out)) hb); have n1_ := Aside0.mk (hbox); have n2_ := Aside0.mk ((by rw [hg]; exact (below_size (by repeat (first | (with_reducible first | exact HB.out | apply below_alloc | apply pw_below_drewN | apply below_drew1) | exact HB.out))) : w.heap.size ≤ gb158)); have n3_ := Aside0.mk ((by rw [hg]; exact (below_size (by repeat (first | (with_reducible first | exact HB.out | apply below_alloc | apply pw_below_drewN | apply below_drew1) | exact HB.out))) : w.heap.size ≤ gb158)); clear HB; have HB := n0_; have BK158 := n1_; have GW158 := n2_; have GE158 := n3_; clear n0_ n1_ n2_ n3_; clear hb hbox hg))
                        have n0_ := Aside0.mk (blk_drew BK158.out)
                        have n1_ := Aside0.mk (below_drew1 HB.out)
                        clear BK158
                        clear HB
                        have BK158 := n0_
                        have HB := n1_
                        clear n0_ n1_
                        refine start_ (n := 16) (S := fun w' => w'.cell? ⟨gb158, 0, none⟩ = some (.int .i64 a1_0) ∧ w'.cell? ⟨gb158, 1, none⟩ = some (.slice A1_1 l1_1.length c1_1) ∧ w'.cell? ⟨gb158, 2, none⟩ = some (.int .u32 a1_2) ∧ w'.cell? ⟨gb158, 3, none⟩ = some (.int .u64 a1_3) ∧ w'.cell? ⟨gb158, 4, none⟩ = some (.int .i64 a1_4) ∧ w'.cell? ⟨gb158, 5, none⟩ = some (.int .u64 a1_5) ∧ w'.cell? ⟨gb158, 6, none⟩ = some (.bool a1_6) ∧ w'.cell? ⟨gb158, 7, none⟩ = some (.bool a1_7) ∧ w'.cell? ⟨gb158, 8, none⟩ = some (.bool a1_8)) (ds := []) #[false, false, false, false, false, false, false, false, false, false, false, false, false, false, false, false] (by kernel_rfl) rfl rfl ⟨(blk_cell BK158.out 0).trans rfl, (blk_cell BK158.out 1).trans rfl, (blk_cell BK158.out 2).trans rfl, (blk_cell BK158.out 3).trans rfl, (blk_cell BK158.out 4).trans rfl, (blk_cell BK158.out 5).trans rfl, (blk_cell BK158.out 6).trans rfl, (blk_cell BK158.out 7).trans rfl, (blk_cell BK158.out 8).trans rfl⟩ (fun hHeld => ?_); refine with_tabW butteryref15_value.tab1 butteryref15_value.bits1 (fun HT_ HW_ => ?_)
                        generalize w18.drew = w19 at BK158 HB hHeld ⊢
                        refine pure_ (i := 0) (N := some 8) (v := ?_) (a' := ?_) #[true, false, false, false, false, false, false, false, false, false, false, false, false, false, false, false] rfl rfl (any_of HT_.out (by kernel_rfl)) (fun _ _ _ h => h) (Or.inl ⟨by rfl, ?_⟩) ?_ ?_
                        rotate_left
                        · intro w'
                          go_simp
                          with_reducible rfl
                        rotate_left
                        · simp only [Act.put, List.setIfInBounds_toArray, List.set_cons_zero, List.set_cons_succ, i64_w, i32_w]
                          rfl
                        refine pure_ (i := 1) (N := some 9) (v := ?_) (a' := ?_) #[true, true, false, false, false, false, false, false, false, false, false, false, false, false, false, false] rfl rfl (any_of HT_.out (by kernel_rfl)) (fun _ _ _ h => h) (Or.inl ⟨by rfl, ?_⟩) ?_ ?_
                        rotate_left
                        · intro w'
                          go_simp
                          with_reducible rfl
                        rotate_left
                        · simp only [Act.put, List.setIfInBounds_toArray, List.set_cons_zero, List.set_cons_succ, i64_w, i32_w]
                          rfl
                        refine pure_ (i := 2) (N := some 10) (v := ?_) (a' := ?_) #[true, true, true, false, false, false, false, false, false, false, false, false, false, false, false, false] rfl rfl (any_of HT_.out (by kernel_rfl)) (fun _ _ _ h => h) (Or.inl ⟨by rfl, ?_⟩) ?_ ?_
                        rotate_left
                        · intro w'
                          go_simp
                          with_reducible rfl
                        rotate_left
                        · simp only [Act.put, List.setIfInBounds_toArray, List.set_cons_zero, List.set_cons_succ, i64_w, i32_w]
                          rfl
                        refine pure_ (i := 3) (N := some 11) (v := ?_) (a' := ?_) #[true, true, true, true, false, false, false, false, false, false, false, false, false, false, false, false] rfl rfl (any_of HT_.out (by kernel_rfl)) (fun _ _ _ h => h) (Or.inl ⟨by rfl, ?_⟩) ?_ ?_
                        rotate_left
                        · intro w'
                          go_simp
                          with_reducible rfl
                        rotate_left
                        · simp only [Act.put, List.setIfInBounds_toArray, List.set_cons_zero, List.set_cons_succ, i64_w, i32_w]
                          rfl
                        refine pure_ (i := 9) (N := some 17) (v := ?_) (a' := ?_) #[true, true, true, true, false, false, false, false, false, true, false, false, false, false, false, false] rfl rfl (any_of HT_.out (by kernel_rfl)) (fun _ _ _ h => h) (Or.inl ⟨by rfl, ?_⟩) ?_ ?_
                        rotate_left
                        · intro w'
                          go_simp
                          with_reducible rfl
                        rotate_left
                        · simp only [Act.put, List.setIfInBounds_toArray, List.set_cons_zero, List.set_cons_succ, i64_w, i32_w]
                          rfl
                        refine take_ (i := 4) (N := some 12) (v := ?_) (a' := ?_) #[true, true, true, true, true, false, false, false, false, true, false, false, false, false, false, false] rfl rfl (take_ofW HT_.out HW_.out (by kernel_rfl)) (fun _ _ _ h => h) (Or.inl ⟨by rfl, ?_⟩) hHeld ?_ ?_
                        rotate_left
                        · rintro w' ⟨s0, s1, s2, s3, s4, s5, s6, s7, s8⟩
                          go_simp
                          with_reducible rfl
                        rotate_left
                        · simp only [Act.put, List.setIfInBounds_toArray, List.set_cons_zero, List.set_cons_succ, i64_w, i32_w]
                          rfl
                        refine pure_ (i := 5) (N := some 13) (v := ?_) (a' := ?_) #[true, true, true, true, true, true, false, false, false, true, false, false, false, false, false, false] rfl rfl (any_of HT_.out (by kernel_rfl)) (fun _ _ _ h => h) (Or.inl ⟨by rfl, ?_⟩) ?_ ?_
                        rotate_left
                        · intro w'
                          go_simp
                          with_reducible rfl
                        rotate_left
                        · simp only [Act.put, List.setIfInBounds_toArray, List.set_cons_zero, List.set_cons_succ, i64_w, i32_w]
                          rfl
                        refine take_ (i := 10) (N := some 18) (v := ?_) (a' := ?_) #[true, true, true, true, true, true, false, false, false, true, true, false, false, false, false, false] rfl rfl (take_ofW HT_.out HW_.out (by kernel_rfl)) (fun _ _ _ h => h) (Or.inl ⟨by rfl, ?_⟩) hHeld ?_ ?_
                        rotate_left
                        · rintro w' ⟨s0, s1, s2, s3, s4, s5, s6, s7, s8⟩
                          go_simp
                          with_reducible rfl
                        rotate_left
                        · simp only [Act.put, List.setIfInBounds_toArray, List.set_cons_zero, List.set_cons_succ, i64_w, i32_w]
                          rfl
                        refine pure_ (i := 11) (N := some 19) (v := ?_) (a' := ?_) #[true, true, true, true, true, true, false, false, false, true, true, true, false, false, false, false] rfl rfl (any_of HT_.out (by kernel_rfl)) (fun _ _ _ h => h) (Or.inl ⟨by rfl, ?_⟩) ?_ ?_
                        rotate_left
                        · intro w'
                          go_simp
                          with_reducible rfl
                        rotate_left
                        · simp only [Act.put, List.setIfInBounds_toArray, List.set_cons_zero, List.set_cons_succ, i64_w, i32_w]
                          rfl
                        refine pure_ (i := 12) (N := some 20) (v := ?_) (a' := ?_) #[true, true, true, true, true, true, false, false, false, true, true, true, true, false, false, false] rfl rfl (any_of HT_.out (by kernel_rfl)) (fun _ _ _ h => h) (Or.inl ⟨by rfl, ?_⟩) ?_ ?_
                        rotate_left
                        · intro w'
                          go_simp
                          with_reducible rfl
                        rotate_left
                        · simp only [Act.put, List.setIfInBounds_toArray, List.set_cons_zero, List.set_cons_succ, i64_w, i32_w]
                          rfl
                        refine one_ (i := 6) (N := some 14) #[true, true, true, true, true, true, true, false, false, true, true, true, true, false, false, false] rfl rfl (one_of HT_.out (by kernel_rfl)) (by decide) (fun K hK => ?_)
                        refine goes_ Tryd.func14 (by kernel_rfl) rfl #[.int .u64 (IntKind.u64.wrap (a1_2))] (by rfl) rfl rfl (by (try simp only [List.map_toArray, List.map_cons, List.map_nil]); first | done | rfl | (simp only [List.length_drop, List.length_take]; rfl)) ?_
                        with_reducible refine (butteryref01_Show.calls k (IntKind.u64.wrap (a1_2)) t159 _ A6.out).mono ?_
                        rintro e w20 ⟨rfl, hb⟩
                        refine ⟨_, rfl, ?_⟩
                        have n0_ := Aside0.mk (blk_below (g := gb158) (o := .cells #[.int .i64 a1_0, .slice A1_1 l1_1.length c1_1, .int .u32 a1_2, .int .u64 a1_3, .int .i64 a1_4, .int .u64 a1_5, .bool a1_6, .bool a1_7, .bool a1_8] 40 (0, 0)) (by (with_reducible repeat (first | refine blk_drewN ?_ _ | refine blk_drew ?_ | refine blk_alloc ?_ _)); exact BK158.out) hb)
                        have n1_ := Aside0.mk (below_step (by repeat (first | (with_reducible first | exact HB.out | apply below_alloc | apply pw_below_drewN | apply below_drew1 | refine below_set ?_ GE158.out) | exact HB.out)) hb)
                        clear BK158
                        clear HB
                        have BK158 := n0_
                        have HB := n1_
                        clear n0_ n1_
                        (try clear hb)
                        (try clear hb2)
                        (try clear hk)
                        (try clear hi)
                        refine hK.out _ _ ⟨(blk_cell BK158.out 0).trans rfl, (blk_cell BK158.out 1).trans rfl, (blk_cell BK158.out 2).trans rfl, (blk_cell BK158.out 3).trans rfl, (blk_cell BK158.out 4).trans rfl, (blk_cell BK158.out 5).trans rfl, (blk_cell BK158.out 6).trans rfl, (blk_cell BK158.out 7).trans rfl, (blk_cell BK158.out 8).trans rfl⟩ (fun hHeld => ?_)
                        clear hK K
                        refine norm_ (a' := ?_) ?_ ?_
                        rotate_left
                        · show Act.put _ (some 14) _ = _
                          simp only [Act.put, List.setIfInBounds_toArray, List.set_cons_zero, List.set_cons_succ, i64_w, i32_w]
                          rfl
                        refine pure_ (i := 7) (N := some 15) (v := ?_) (a' := ?_) #[true, true, true, true, true, true, true, true, false, true, true, true, true, false, false, false] rfl rfl (any_of HT_.out (by kernel_rfl)) (fun _ _ _ h => h) (Or.inl ⟨by rfl, ?_⟩) ?_ ?_
                        rotate_left
                        · intro w'
                          go_simp
                          with_reducible rfl
                        rotate_left
                        · simp only [Act.put, List.setIfInBounds_toArray, List.set_cons_zero, List.set_cons_succ, i64_w, i32_w]
                          rfl
                        refine pure_ (i := 8) (N := some 16) (v := ?_) (a' := ?_) #[true, true, true, true, true, true, true, true, true, true, true, true, true, false, false, false] rfl rfl (any_of HT_.out (by kernel_rfl)) (fun _ _ _ h => h) (Or.inl ⟨by rfl, ?_⟩) ?_ ?_
                        rotate_left
                        · intro w'
                          go_simp
                          with_reducible rfl
                        rotate_left
                        · simp only [Act.put, List.setIfInBounds_toArray, List.set_cons_zero, List.set_cons_succ, i64_w, i32_w]
                          rfl
                        refine one_ (i := 13) (N := some 21) #[true, true, true, true, true, true, true, true, true, true, true, true, true, true, false, false] rfl rfl (one_of HT_.out (by kernel_rfl)) (by decide) (fun K hK => ?_)
                        refine goes_ Tryd.func14 (by kernel_rfl) rfl #[.int .u64 (IntKind.u64.wrap ((l1_1.length : Int)))] (by rfl) rfl rfl (by (try simp only [List.map_toArray, List.map_cons, List.map_nil]); first | done | rfl | (simp only [List.length_drop, List.length_take]; rfl)) ?_
                        with_reducible refine (butteryref01_Show.calls k (IntKind.u64.wrap ((l1_1.length : Int))) t160 _ A9.out).mono ?_
                        rintro e w21 ⟨rfl, hb⟩
                        refine ⟨_, rfl, ?_⟩
                        have n0_ := Aside0.mk (blk_below (g := gb158) (o := .cells #[.int .i64 a1_0, .slice A1_1 l1_1.length c1_1, .int .u32 a1_2, .int .u64 a1_3, .int .i64 a1_4, .int .u64 a1_5, .bool a1_6, .bool a1_7, .bool a1_8] 40 (0, 0)) (by (with_reducible repeat (first | refine blk_drewN ?_ _ | refine blk_drew ?_ | refine blk_alloc ?_ _)); exact BK158.out) hb)
                        have n1_ := Aside0.mk (below_step (by repeat (first | (with_reducible first | exact HB.out | apply below_alloc | apply pw_below_drewN | apply below_drew1 | refine below_set ?_ GE158.out) | exact HB.out)) hb)
                        clear BK158
                        clear HB
                        have BK158 := n0_
                        have HB := n1_
                        clear n0_ n1_
                        (try clear hb)
                        (try clear hb2)
                        (try clear hk)
                        (try clear hi)
                        refine hK.out _ _ ⟨(blk_cell BK158.out 0).trans rfl, (blk_cell BK158.out 1).trans rfl, (blk_cell BK158.out 2).trans rfl, (blk_cell BK158.out 3).trans rfl, (blk_cell BK158.out 4).trans rfl, (blk_cell BK158.out 5).trans rfl, (blk_cell BK158.out 6).trans rfl, (blk_cell BK158.out 7).trans rfl, (blk_cell BK158.out 8).trans rfl⟩ (fun hHeld => ?_)
                        clear hK K
                        refine norm_ (a' := ?_) ?_ ?_
                        rotate_left
                        · show Act.put _ (some 21) _ = _
                          simp only [Act.put, List.setIfInBounds_toArray, List.set_cons_zero, List.set_cons_succ, i64_w, i32_w]
                          rfl
                        refine pure_ (i := 14) (N := some 22) (v := ?_) (a' := ?_) #[true, true, true, true, true, true, true, true, true, true, true, true, true, true, true, false] rfl rfl (any_of HT_.out (by kernel_rfl)) (fun _ _ _ h => h) (Or.inl ⟨by rfl, ?_⟩) ?_ ?_
                        rotate_left
                        · intro w'
                          go_simp
                          with_reducible rfl
                        rotate_left
                        · simp only [Act.put, List.setIfInBounds_toArray, List.set_cons_zero, List.set_cons_succ, i64_w, i32_w]
                          rfl
                        refine pure_ (i := 15) (N := some 7) (v := ?_) (a' := ?_) #[true, true, true, true, true, true, true, true, true, true, true, true, true, true, true, true] rfl rfl (any_of HT_.out (by kernel_rfl)) (fun _ _ _ h => h) (Or.inl ⟨by rfl, ?_⟩) ?_ ?_
                        rotate_left
                        · intro w'
                          go_simp
                          with_reducible rfl
                        rotate_left
                        · simp only [Act.put, List.setIfInBounds_toArray, List.set_cons_zero, List.set_cons_succ, i64_w, i32_w]
                          rfl
                        refine done_ (done_of HT_.out (by kernel_rfl)) ?_
                        have hcz22_0 : w21.cell? ⟨gb158, 0, none⟩ = some (.int .i64 a1_0) := (blk_cell BK158.out 0).trans rfl
                        have hcz22_1 : w21.cell? ⟨gb158, 1, none⟩ = some (.slice A1_1 l1_1.length c1_1) := (blk_cell BK158.out 1).trans rfl
                        have hcz22_2 : w21.cell? ⟨gb158, 2, none⟩ = some (.int .u32 a1_2) := (blk_cell BK158.out 2).trans rfl
                        have hcz22_3 : w21.cell? ⟨gb158, 3, none⟩ = some (.int .u64 a1_3) := (blk_cell BK158.out 3).trans rfl
                        have hcz22_4 : w21.cell? ⟨gb158, 4, none⟩ = some (.int .i64 a1_4) := (blk_cell BK158.out 4).trans rfl
                        have hcz22_5 : w21.cell? ⟨gb158, 5, none⟩ = some (.int .u64 a1_5) := (blk_cell BK158.out 5).trans rfl
                        have hcz22_6 : w21.cell? ⟨gb158, 6, none⟩ = some (.bool a1_6) := (blk_cell BK158.out 6).trans rfl
                        have hcz22_7 : w21.cell? ⟨gb158, 7, none⟩ = some (.bool a1_7) := (blk_cell BK158.out 7).trans rfl
                        have hcz22_8 : w21.cell? ⟨gb158, 8, none⟩ = some (.bool a1_8) := (blk_cell BK158.out 8).trans rfl
                        have hfz22_0 := blk_frozen BK158.out 0
                        have hfz22_1 := blk_frozen BK158.out 1
                        have hfz22_2 := blk_frozen BK158.out 2
                        have hfz22_3 := blk_frozen BK158.out 3
                        have hfz22_4 := blk_frozen BK158.out 4
                        have hfz22_5 := blk_frozen BK158.out 5
                        have hfz22_6 := blk_frozen BK158.out 6
                        have hfz22_7 := blk_frozen BK158.out 7
                        have hfz22_8 := blk_frozen BK158.out 8
                        try go_wp2_with (first | ((with_reducible refine gate_callee (f := 14) rfl ?_); refine goesL_ (some 28) rfl rfl Tryd.func14 (by kernel_rfl) rfl #[.int .u64 a1_3] rfl (by (try simp only [List.map_toArray, List.map_cons, List.map_nil]); first | done | rfl | (simp only [List.length_drop, List.length_take]; rfl)) ?_; (with_reducible refine (butteryref01_Show.calls k a1_3 t161 _ A13.out).mono ?_); rintro e w23 ⟨rfl, hb⟩; refine ⟨_, rfl, ?_⟩; have n0_ := Aside0.mk (blk_below (g := gb158) (o := .cells #[.int .i64 a1_0, .slice A1_1 l1_1.length c1_1, .int .u32 a1_2, .int .u64 a1_3, .int .i64 a1_4, .int .u64 a1_5, .bool a1_6, .bool a1_7, .bool a1_8] 40 (0, 0)) (by (with_reducible repeat (first | refine blk_drewN ?_ _ | refine blk_drew ?_ | refine blk_alloc ?_ _)); exact BK158.out) hb); have n1_ := Aside0.mk (below_step (by repeat (first | (with_reducible first | exact HB.out | apply below_alloc | apply pw_below_drewN | apply below_drew1 | refine below_set ?_ GE158.out) | exact HB.out)) hb); clear BK158; clear HB; have BK158 := n0_; have HB := n1_; clear n0_ n1_; (try clear hb); (try clear hb2); (try clear hk); (try clear hi); have hcz24_0 : w23.cell? ⟨gb158, 0, none⟩ = some (.int .i64 a1_0) := (blk_cell BK158.out 0).trans rfl; have hcz24_1 : w23.cell? ⟨gb158, 1, none⟩ = some (.slice A1_1 l1_1.length c1_1) := (blk_cell BK158.out 1).trans rfl; have hcz24_2 : w23.cell? ⟨gb158, 2, none⟩ = some (.int .u32 a1_2) := (blk_cell BK158.out 2).trans rfl; have hcz24_3 : w23.cell? ⟨gb158, 3, none⟩ = some (.int .u64 a1_3) := (blk_cell BK158.out 3).trans rfl; have hcz24_4 : w23.cell? ⟨gb158, 4, none⟩ = some (.int .i64 a1_4) := (blk_cell BK158.out 4).trans rfl; have hcz24_5 : w23.cell? ⟨gb158, 5, none⟩ = some (.int .u64 a1_5) := (blk_cell BK158.out 5).trans rfl; have hcz24_6 : w23.cell? ⟨gb158, 6, none⟩ = some (.bool a1_6) := (blk_cell BK158.out 6).trans rfl; have hcz24_7 : w23.cell? ⟨gb158, 7, none⟩ = some (.bool a1_7) := (blk_cell BK158.out 7).trans rfl; have hcz24_8 : w23.cell? ⟨gb158, 8, none⟩ = some (.bool a1_8) := (blk_cell BK158.out 8).trans rfl; have hfz24_0 := blk_frozen BK158.out 0; have hfz24_1 := blk_frozen BK158.out 1; have hfz24_2 := blk_frozen BK158.out 2; have hfz24_3 := blk_frozen BK158.out 3; have hfz24_4 := blk_frozen BK158.out 4; have hfz24_5 := blk_frozen BK158.out 5; have hfz24_6 := blk_frozen BK158.out 6; have hfz24_7 := blk_frozen BK158.out 7; have hfz24_8 := blk_frozen BK158.out 8; have hcv25 := Kd.C_string (P := Tryd.prog) (A := A1_1) (c := c1_1) Tryd.underlying32 Tryd.underlying5 Tryd.underlying9 (Kd.C_below HR1_1.out HB.out)))
                        go_ret
                        exact ⟨by first | rfl | (simp <;> rfl) | (simp [*] <;> rfl), by repeat (first | (with_reducible first | exact HB.out | apply below_alloc | apply pw_below_drewN | apply below_drew1 | refine below_set ?_ GE158.out) | exact HB.out)⟩
                      · rw [if_neg c17] at H
                        exact absurd H (by simp)
                    · rw [if_neg c16] at H
                      exact absurd H (by simp)
                  · rw [if_neg c15] at H
                    exact absurd H (by simp)
                · rw [if_neg c14] at H
                  exact absurd H (by simp)
              · rw [if_neg c12] at H
                exact absurd H (by simp)
            · replace c11 := Bool.eq_false_iff.mpr c11
              subst c11
              have H1 : (if ((((((⟨#[86, 65, 76, 85, 69, 32]⟩ : ByteArray) ++ a0) ++ (⟨#[32]⟩ : ByteArray)) ++ t159) ++ (⟨#[32]⟩ : ByteArray)) ++ t160).size + 2 ≤ 9223372036854775807 then (if (((((((⟨#[86, 65, 76, 85, 69, 32]⟩ : ByteArray) ++ a0) ++ (⟨#[32]⟩ : ByteArray)) ++ t159) ++ (⟨#[32]⟩ : ByteArray)) ++ t160) ++ (⟨#[13, 10]⟩ : ByteArray)).size + (strOfNums l1_1).size ≤ 9223372036854775807 then (if ((((((((⟨#[86, 65, 76, 85, 69, 32]⟩ : ByteArray) ++ a0) ++ (⟨#[32]⟩ : ByteArray)) ++ t159) ++ (⟨#[32]⟩ : ByteArray)) ++ t160) ++ (⟨#[13, 10]⟩ : ByteArray)) ++ (strOfNums l1_1)).size + 2 ≤ 9223372036854775807 then (some (((((((((⟨#[86, 65, 76, 85, 69, 32]⟩ : ByteArray) ++ a0) ++ (⟨#[32]⟩ : ByteArray)) ++ t159) ++ (⟨#[32]⟩ : ByteArray)) ++ t160) ++ (⟨#[13, 10]⟩ : ByteArray)) ++ (strOfNums l1_1)) ++ (⟨#[13, 10]⟩ : ByteArray))) else (none)) else (none)) else (none)) = some r := by rw [if_neg (show ¬ (false = true) by decide)] at H; exact H
              clear H
              have H := H1
              clear H1
              by_cases c26 : ((((((⟨#[86, 65, 76, 85, 69, 32]⟩ : ByteArray) ++ a0) ++ (⟨#[32]⟩ : ByteArray)) ++ t159) ++ (⟨#[32]⟩ : ByteArray)) ++ t160).size + 2 ≤ 9223372036854775807
              · rw [if_pos c26] at H
                have c26b0 := eq_true c26
                have c26b1 : decide (((((((⟨#[86, 65, 76, 85, 69, 32]⟩ : ByteArray) ++ a0) ++ (⟨#[32]⟩ : ByteArray)) ++ t159) ++ (⟨#[32]⟩ : ByteArray)) ++ t160).size + 2 ≤ 9223372036854775807) = true := decide_eq_true c26
                try have c26b2 : (9223372036854775807 < ((((((⟨#[86, 65, 76, 85, 69, 32]⟩ : ByteArray) ++ a0) ++ (⟨#[32]⟩ : ByteArray)) ++ t159) ++ (⟨#[32]⟩ : ByteArray)) ++ t160).size + 2) = False := eq_false (Nat.not_lt.2 c26)
                try have c26b3 : (9223372036854775807 < 6 + a0.size + 1 + t159.size + 1 + t160.size + 2) = False := by (have h_ := c26b2; simp only [ByteArray.size_append, (show (⟨#[32]⟩ : ByteArray).size = 1 from rfl), (show (⟨#[86, 65, 76, 85, 69, 32]⟩ : ByteArray).size = 6 from rfl)] at h_; exact h_)
                by_cases c27 : (((((((⟨#[86, 65, 76, 85, 69, 32]⟩ : ByteArray) ++ a0) ++ (⟨#[32]⟩ : ByteArray)) ++ t159) ++ (⟨#[32]⟩ : ByteArray)) ++ t160) ++ (⟨#[13, 10]⟩ : ByteArray)).size + (strOfNums l1_1).size ≤ 9223372036854775807
                · rw [if_pos c27] at H
                  have c27b0 := eq_true c27
                  have c27b1 : decide ((((((((⟨#[86, 65, 76, 85, 69, 32]⟩ : ByteArray) ++ a0) ++ (⟨#[32]⟩ : ByteArray)) ++ t159) ++ (⟨#[32]⟩ : ByteArray)) ++ t160) ++ (⟨#[13, 10]⟩ : ByteArray)).size + (strOfNums l1_1).size ≤ 9223372036854775807) = true := decide_eq_true c27
                  try have c27b2 : (9223372036854775807 < (((((((⟨#[86, 65, 76, 85, 69, 32]⟩ : ByteArray) ++ a0) ++ (⟨#[32]⟩ : ByteArray)) ++ t159) ++ (⟨#[32]⟩ : ByteArray)) ++ t160) ++ (⟨#[13, 10]⟩ : ByteArray)).size + (strOfNums l1_1).size) = False := eq_false (Nat.not_lt.2 c27)
                  try have c27b3 : (9223372036854775807 < 6 + a0.size + 1 + t159.size + 1 + t160.size + 2 + (strOfNums l1_1).size) = False := by (have h_ := c27b2; simp only [ByteArray.size_append, (show (⟨#[13, 10]⟩ : ByteArray).size = 2 from rfl), (show (⟨#[32]⟩ : ByteArray).size = 1 from rfl), (show (⟨#[86, 65, 76, 85, 69, 32]⟩ : ByteArray).size = 6 from rfl)] at h_; exact h_)
                  by_cases c28 : ((((((((⟨#[86, 65, 76, 85, 69, 32]⟩ : ByteArray) ++ a0) ++ (⟨#[32]⟩ : ByteArray)) ++ t159) ++ (⟨#[32]⟩ : ByteArray)) ++ t160) ++ (⟨#[13, 10]⟩ : ByteArray)) ++ (strOfNums l1_1)).size + 2 ≤ 9223372036854775807
                  · rw [if_pos c28] at H
                    have c28b0 := eq_true c28
                    have c28b1 : decide (((((((((⟨#[86, 65, 76, 85, 69, 32]⟩ : ByteArray) ++ a0) ++ (⟨#[32]⟩ : ByteArray)) ++ t159) ++ (⟨#[32]⟩ : ByteArray)) ++ t160) ++ (⟨#[13, 10]⟩ : ByteArray)) ++ (strOfNums l1_1)).size + 2 ≤ 9223372036854775807) = true := decide_eq_true c28
                    try have c28b2 : (9223372036854775807 < ((((((((⟨#[86, 65, 76, 85, 69, 32]⟩ : ByteArray) ++ a0) ++ (⟨#[32]⟩ : ByteArray)) ++ t159) ++ (⟨#[32]⟩ : ByteArray)) ++ t160) ++ (⟨#[13, 10]⟩ : ByteArray)) ++ (strOfNums l1_1)).size + 2) = False := eq_false (Nat.not_lt.2 c28)
                    try have c28b3 : (9223372036854775807 < 6 + a0.size + 1 + t159.size + 1 + t160.size + 2 + (strOfNums l1_1).size + 2) = False := by (have h_ := c28b2; simp only [ByteArray.size_append, (show (⟨#[13, 10]⟩ : ByteArray).size = 2 from rfl), (show (⟨#[32]⟩ : ByteArray).size = 1 from rfl), (show (⟨#[86, 65, 76, 85, 69, 32]⟩ : ByteArray).size = 6 from rfl)] at h_; exact h_)
                    obtain rfl := Option.some.inj H
                    go_enter Tryd.func17, Tryd.ntmps17
                    try go_wp2_with (first | ((with_reducible refine gate_dst (N := 4) rfl ?_); refine box_event ?hg (N := 4) ?hd (cs := #[.int .i64 a1_0, .slice A1_1 l1_1.length c1_1, .int .u32 a1_2, .int .u64 a1_3, .int .i64 a1_4, .int .u64 a1_5, .bool a1_6, .bool a1_7, .bool a1_8]) (t := 40) ?hr ?_; (case hd => rfl); (case hg => rfl); (case hr => first | (go_simp; done) | (go_simp; rfl)); intro gb158 hg w29 hbox hb; have n0_ := Aside0.mk (below_step (by repeat (first | (with_reducible first | exact HB.out | apply below_alloc | apply pw_below_drewN | apply below_drew1) | exact HB.out)) hb); have n1_ := Aside0.mk (hbox); have n2_ := Aside0.mk ((by rw [hg]; exact (below_size (by repeat (first | (with_reducible first | exact HB.out | apply below_alloc | apply pw_below_drewN | apply below_drew1) | exact HB.out))) : w.heap.size ≤ gb158)); have n3_ := Aside0.mk ((by rw [hg]; exact (below_size (by repeat (first | (with_reducible first | exact HB.out | apply below_alloc | apply pw_below_drewN | apply below_drew1) | exact HB.out))) : w.heap.size ≤ gb158)); clear HB; have HB := n0_; have BK158 := n1_; have GW158 := n2_; have GE158 := n3_; clear n0_ n1_ n2_ n3_; clear hb hbox hg))
                    have n0_ := Aside0.mk (blk_drew BK158.out)
                    have n1_ := Aside0.mk (below_drew1 HB.out)
                    clear BK158
                    clear HB
                    have BK158 := n0_
                    have HB := n1_
                    clear n0_ n1_
                    refine start_ (n := 16) (S := fun w' => w'.cell? ⟨gb158, 0, none⟩ = some (.int .i64 a1_0) ∧ w'.cell? ⟨gb158, 1, none⟩ = some (.slice A1_1 l1_1.length c1_1) ∧ w'.cell? ⟨gb158, 2, none⟩ = some (.int .u32 a1_2) ∧ w'.cell? ⟨gb158, 3, none⟩ = some (.int .u64 a1_3) ∧ w'.cell? ⟨gb158, 4, none⟩ = some (.int .i64 a1_4) ∧ w'.cell? ⟨gb158, 5, none⟩ = some (.int .u64 a1_5) ∧ w'.cell? ⟨gb158, 6, none⟩ = some (.bool a1_6) ∧ w'.cell? ⟨gb158, 7, none⟩ = some (.bool a1_7) ∧ w'.cell? ⟨gb158, 8, none⟩ = some (.bool a1_8)) (ds := []) #[false, false, false, false, false, false, false, false, false, false, false, false, false, false, false, false] (by kernel_rfl) rfl rfl ⟨(blk_cell BK158.out 0).trans rfl, (blk_cell BK158.out 1).trans rfl, (blk_cell BK158.out 2).trans rfl, (blk_cell BK158.out 3).trans rfl, (blk_cell BK158.out 4).trans rfl, (blk_cell BK158.out 5).trans rfl, (blk_cell BK158.out 6).trans rfl, (blk_cell BK158.out 7).trans rfl, (blk_cell BK158.out 8).trans rfl⟩ (fun hHeld => ?_); refine with_tabW butteryref15_value.tab1 butteryref15_value.bits1 (fun HT_ HW_ => ?_)
                    generalize w29.drew = w30 at BK158 HB hHeld ⊢
                    refine pure_ (i := 0) (N := some 8) (v := ?_) (a' := ?_) #[true, false, false, false, false, false, false, false, false, false, false, false, false, false, false, false] rfl rfl (any_of HT_.out (by kernel_rfl)) (fun _ _ _ h => h) (Or.inl ⟨by rfl, ?_⟩) ?_ ?_
                    rotate_left
                    · intro w'
                      go_simp
                      with_reducible rfl
                    rotate_left
                    · simp only [Act.put, List.setIfInBounds_toArray, List.set_cons_zero, List.set_cons_succ, i64_w, i32_w]
                      rfl
                    refine pure_ (i := 1) (N := some 9) (v := ?_) (a' := ?_) #[true, true, false, false, false, false, false, false, false, false, false, false, false, false, false, false] rfl rfl (any_of HT_.out (by kernel_rfl)) (fun _ _ _ h => h) (Or.inl ⟨by rfl, ?_⟩) ?_ ?_
                    rotate_left
                    · intro w'
                      go_simp
                      with_reducible rfl
                    rotate_left
                    · simp only [Act.put, List.setIfInBounds_toArray, List.set_cons_zero, List.set_cons_succ, i64_w, i32_w]
                      rfl
                    refine pure_ (i := 2) (N := some 10) (v := ?_) (a' := ?_) #[true, true, true, false, false, false, false, false, false, false, false, false, false, false, false, false] rfl rfl (any_of HT_.out (by kernel_rfl)) (fun _ _ _ h => h) (Or.inl ⟨by rfl, ?_⟩) ?_ ?_
                    rotate_left
                    · intro w'
                      go_simp
                      with_reducible rfl
                    rotate_left
                    · simp only [Act.put, List.setIfInBounds_toArray, List.set_cons_zero, List.set_cons_succ, i64_w, i32_w]
                      rfl
                    refine pure_ (i := 3) (N := some 11) (v := ?_) (a' := ?_) #[true, true, true, true, false, false, false, false, false, false, false, false, false, false, false, false] rfl rfl (any_of HT_.out (by kernel_rfl)) (fun _ _ _ h => h) (Or.inl ⟨by rfl, ?_⟩) ?_ ?_
                    rotate_left
                    · intro w'
                      go_simp
                      with_reducible rfl
                    rotate_left
                    · simp only [Act.put, List.setIfInBounds_toArray, List.set_cons_zero, List.set_cons_succ, i64_w, i32_w]
                      rfl
                    refine pure_ (i := 9) (N := some 17) (v := ?_) (a' := ?_) #[true, true, true, true, false, false, false, false, false, true, false, false, false, false, false, false] rfl rfl (any_of HT_.out (by kernel_rfl)) (fun _ _ _ h => h) (Or.inl ⟨by rfl, ?_⟩) ?_ ?_
                    rotate_left
                    · intro w'
                      go_simp
                      with_reducible rfl
                    rotate_left
                    · simp only [Act.put, List.setIfInBounds_toArray, List.set_cons_zero, List.set_cons_succ, i64_w, i32_w]
                      rfl
                    refine take_ (i := 4) (N := some 12) (v := ?_) (a' := ?_) #[true, true, true, true, true, false, false, false, false, true, false, false, false, false, false, false] rfl rfl (take_ofW HT_.out HW_.out (by kernel_rfl)) (fun _ _ _ h => h) (Or.inl ⟨by rfl, ?_⟩) hHeld ?_ ?_
                    rotate_left
                    · rintro w' ⟨s0, s1, s2, s3, s4, s5, s6, s7, s8⟩
                      go_simp
                      with_reducible rfl
                    rotate_left
                    · simp only [Act.put, List.setIfInBounds_toArray, List.set_cons_zero, List.set_cons_succ, i64_w, i32_w]
                      rfl
                    refine pure_ (i := 5) (N := some 13) (v := ?_) (a' := ?_) #[true, true, true, true, true, true, false, false, false, true, false, false, false, false, false, false] rfl rfl (any_of HT_.out (by kernel_rfl)) (fun _ _ _ h => h) (Or.inl ⟨by rfl, ?_⟩) ?_ ?_
                    rotate_left
                    · intro w'
                      go_simp
                      with_reducible rfl
                    rotate_left
                    · simp only [Act.put, List.setIfInBounds_toArray, List.set_cons_zero, List.set_cons_succ, i64_w, i32_w]
                      rfl
                    refine take_ (i := 10) (N := some 18) (v := ?_) (a' := ?_) #[true, true, true, true, true, true, false, false, false, true, true, false, false, false, false, false] rfl rfl (take_ofW HT_.out HW_.out (by kernel_rfl)) (fun _ _ _ h => h) (Or.inl ⟨by rfl, ?_⟩) hHeld ?_ ?_
                    rotate_left
                    · rintro w' ⟨s0, s1, s2, s3, s4, s5, s6, s7, s8⟩
                      go_simp
                      with_reducible rfl
                    rotate_left
                    · simp only [Act.put, List.setIfInBounds_toArray, List.set_cons_zero, List.set_cons_succ, i64_w, i32_w]
                      rfl
                    refine pure_ (i := 11) (N := some 19) (v := ?_) (a' := ?_) #[true, true, true, true, true, true, false, false, false, true, true, true, false, false, false, false] rfl rfl (any_of HT_.out (by kernel_rfl)) (fun _ _ _ h => h) (Or.inl ⟨by rfl, ?_⟩) ?_ ?_
                    rotate_left
                    · intro w'
                      go_simp
                      with_reducible rfl
                    rotate_left
                    · simp only [Act.put, List.setIfInBounds_toArray, List.set_cons_zero, List.set_cons_succ, i64_w, i32_w]
                      rfl
                    refine pure_ (i := 12) (N := some 20) (v := ?_) (a' := ?_) #[true, true, true, true, true, true, false, false, false, true, true, true, true, false, false, false] rfl rfl (any_of HT_.out (by kernel_rfl)) (fun _ _ _ h => h) (Or.inl ⟨by rfl, ?_⟩) ?_ ?_
                    rotate_left
                    · intro w'
                      go_simp
                      with_reducible rfl
                    rotate_left
                    · simp only [Act.put, List.setIfInBounds_toArray, List.set_cons_zero, List.set_cons_succ, i64_w, i32_w]
                      rfl
                    refine one_ (i := 6) (N := some 14) #[true, true, true, true, true, true, true, false, false, true, true, true, true, false, false, false] rfl rfl (one_of HT_.out (by kernel_rfl)) (by decide) (fun K hK => ?_)
                    refine goes_ Tryd.func14 (by kernel_rfl) rfl #[.int .u64 (IntKind.u64.wrap (a1_2))] (by rfl) rfl rfl (by (try simp only [List.map_toArray, List.map_cons, List.map_nil]); first | done | rfl | (simp only [List.length_drop, List.length_take]; rfl)) ?_
                    with_reducible refine (butteryref01_Show.calls k (IntKind.u64.wrap (a1_2)) t159 _ A6.out).mono ?_
                    rintro e w31 ⟨rfl, hb⟩
                    refine ⟨_, rfl, ?_⟩
                    have n0_ := Aside0.mk (blk_below (g := gb158) (o := .cells #[.int .i64 a1_0, .slice A1_1 l1_1.length c1_1, .int .u32 a1_2, .int .u64 a1_3, .int .i64 a1_4, .int .u64 a1_5, .bool a1_6, .bool a1_7, .bool a1_8] 40 (0, 0)) (by (with_reducible repeat (first | refine blk_drewN ?_ _ | refine blk_drew ?_ | refine blk_alloc ?_ _)); exact BK158.out) hb)
                    have n1_ := Aside0.mk (below_step (by repeat (first | (with_reducible first | exact HB.out | apply below_alloc | apply pw_below_drewN | apply below_drew1 | refine below_set ?_ GE158.out) | exact HB.out)) hb)
                    clear BK158
                    clear HB
                    have BK158 := n0_
                    have HB := n1_
                    clear n0_ n1_
                    (try clear hb)
                    (try clear hb2)
                    (try clear hk)
                    (try clear hi)
                    refine hK.out _ _ ⟨(blk_cell BK158.out 0).trans rfl, (blk_cell BK158.out 1).trans rfl, (blk_cell BK158.out 2).trans rfl, (blk_cell BK158.out 3).trans rfl, (blk_cell BK158.out 4).trans rfl, (blk_cell BK158.out 5).trans rfl, (blk_cell BK158.out 6).trans rfl, (blk_cell BK158.out 7).trans rfl, (blk_cell BK158.out 8).trans rfl⟩ (fun hHeld => ?_)
                    clear hK K
                    refine norm_ (a' := ?_) ?_ ?_
                    rotate_left
                    · show Act.put _ (some 14) _ = _
                      simp only [Act.put, List.setIfInBounds_toArray, List.set_cons_zero, List.set_cons_succ, i64_w, i32_w]
                      rfl
                    refine pure_ (i := 7) (N := some 15) (v := ?_) (a' := ?_) #[true, true, true, true, true, true, true, true, false, true, true, true, true, false, false, false] rfl rfl (any_of HT_.out (by kernel_rfl)) (fun _ _ _ h => h) (Or.inl ⟨by rfl, ?_⟩) ?_ ?_
                    rotate_left
                    · intro w'
                      go_simp
                      with_reducible rfl
                    rotate_left
                    · simp only [Act.put, List.setIfInBounds_toArray, List.set_cons_zero, List.set_cons_succ, i64_w, i32_w]
                      rfl
                    refine pure_ (i := 8) (N := some 16) (v := ?_) (a' := ?_) #[true, true, true, true, true, true, true, true, true, true, true, true, true, false, false, false] rfl rfl (any_of HT_.out (by kernel_rfl)) (fun _ _ _ h => h) (Or.inl ⟨by rfl, ?_⟩) ?_ ?_
                    rotate_left
                    · intro w'
                      go_simp
                      with_reducible rfl
                    rotate_left
                    · simp only [Act.put, List.setIfInBounds_toArray, List.set_cons_zero, List.set_cons_succ, i64_w, i32_w]
                      rfl
                    refine one_ (i := 13) (N := some 21) #[true, true, true, true, true, true, true, true, true, true, true, true, true, true, false, false] rfl rfl (one_of HT_.out (by kernel_rfl)) (by decide) (fun K hK => ?_)
                    refine goes_ Tryd.func14 (by kernel_rfl) rfl #[.int .u64 (IntKind.u64.wrap ((l1_1.length : Int)))] (by rfl) rfl rfl (by (try simp only [List.map_toArray, List.map_cons, List.map_nil]); first | done | rfl | (simp only [List.length_drop, List.length_take]; rfl)) ?_
                    with_reducible refine (butteryref01_Show.calls k (IntKind.u64.wrap ((l1_1.length : Int))) t160 _ A9.out).mono ?_
                    rintro e w32 ⟨rfl, hb⟩
                    refine ⟨_, rfl, ?_⟩
                    have n0_ := Aside0.mk (blk_below (g := gb158) (o := .cells #[.int .i64 a1_0, .slice A1_1 l1_1.length c1_1, .int .u32 a1_2, .int .u64 a1_3, .int .i64 a1_4, .int .u64 a1_5, .bool a1_6, .bool a1_7, .bool a1_8] 40 (0, 0)) (by (with_reducible repeat (first | refine blk_drewN ?_ _ | refine blk_drew ?_ | refine blk_alloc ?_ _)); exact BK158.out) hb)
                    have n1_ := Aside0.mk (below_step (by repeat (first | (with_reducible first | exact HB.out | apply below_alloc | apply pw_below_drewN | apply below_drew1 | refine below_set ?_ GE158.out) | exact HB.out)) hb)
                    clear BK158
                    clear HB
                    have BK158 := n0_
                    have HB := n1_
                    clear n0_ n1_
                    (try clear hb)
                    (try clear hb2)
                    (try clear hk)
                    (try clear hi)
                    refine hK.out _ _ ⟨(blk_cell BK158.out 0).trans rfl, (blk_cell BK158.out 1).trans rfl, (blk_cell BK158.out 2).trans rfl, (blk_cell BK158.out 3).trans rfl, (blk_cell BK158.out 4).trans rfl, (blk_cell BK158.out 5).trans rfl, (blk_cell BK158.out 6).trans rfl, (blk_cell BK158.out 7).trans rfl, (blk_cell BK158.out 8).trans rfl⟩ (fun hHeld => ?_)
                    clear hK K
                    refine norm_ (a' := ?_) ?_ ?_
                    rotate_left
                    · show Act.put _ (some 21) _ = _
                      simp only [Act.put, List.setIfInBounds_toArray, List.set_cons_zero, List.set_cons_succ, i64_w, i32_w]
                      rfl
                    refine pure_ (i := 14) (N := some 22) (v := ?_) (a' := ?_) #[true, true, true, true, true, true, true, true, true, true, true, true, true, true, true, false] rfl rfl (any_of HT_.out (by kernel_rfl)) (fun _ _ _ h => h) (Or.inl ⟨by rfl, ?_⟩) ?_ ?_
                    rotate_left
                    · intro w'
                      go_simp
                      with_reducible rfl
                    rotate_left
                    · simp only [Act.put, List.setIfInBounds_toArray, List.set_cons_zero, List.set_cons_succ, i64_w, i32_w]
                      rfl
                    refine pure_ (i := 15) (N := some 7) (v := ?_) (a' := ?_) #[true, true, true, true, true, true, true, true, true, true, true, true, true, true, true, true] rfl rfl (any_of HT_.out (by kernel_rfl)) (fun _ _ _ h => h) (Or.inl ⟨by rfl, ?_⟩) ?_ ?_
                    rotate_left
                    · intro w'
                      go_simp
                      with_reducible rfl
                    rotate_left
                    · simp only [Act.put, List.setIfInBounds_toArray, List.set_cons_zero, List.set_cons_succ, i64_w, i32_w]
                      rfl
                    refine done_ (done_of HT_.out (by kernel_rfl)) ?_
                    have hcz33_0 : w32.cell? ⟨gb158, 0, none⟩ = some (.int .i64 a1_0) := (blk_cell BK158.out 0).trans rfl
                    have hcz33_1 : w32.cell? ⟨gb158, 1, none⟩ = some (.slice A1_1 l1_1.length c1_1) := (blk_cell BK158.out 1).trans rfl
                    have hcz33_2 : w32.cell? ⟨gb158, 2, none⟩ = some (.int .u32 a1_2) := (blk_cell BK158.out 2).trans rfl
                    have hcz33_3 : w32.cell? ⟨gb158, 3, none⟩ = some (.int .u64 a1_3) := (blk_cell BK158.out 3).trans rfl
                    have hcz33_4 : w32.cell? ⟨gb158, 4, none⟩ = some (.int .i64 a1_4) := (blk_cell BK158.out 4).trans rfl
                    have hcz33_5 : w32.cell? ⟨gb158, 5, none⟩ = some (.int .u64 a1_5) := (blk_cell BK158.out 5).trans rfl
                    have hcz33_6 : w32.cell? ⟨gb158, 6, none⟩ = some (.bool a1_6) := (blk_cell BK158.out 6).trans rfl
                    have hcz33_7 : w32.cell? ⟨gb158, 7, none⟩ = some (.bool a1_7) := (blk_cell BK158.out 7).trans rfl
                    have hcz33_8 : w32.cell? ⟨gb158, 8, none⟩ = some (.bool a1_8) := (blk_cell BK158.out 8).trans rfl
                    have hfz33_0 := blk_frozen BK158.out 0
                    have hfz33_1 := blk_frozen BK158.out 1
                    have hfz33_2 := blk_frozen BK158.out 2
                    have hfz33_3 := blk_frozen BK158.out 3
                    have hfz33_4 := blk_frozen BK158.out 4
                    have hfz33_5 := blk_frozen BK158.out 5
                    have hfz33_6 := blk_frozen BK158.out 6
                    have hfz33_7 := blk_frozen BK158.out 7
                    have hfz33_8 := blk_frozen BK158.out 8
                    have hcv34 := Kd.C_string (P := Tryd.prog) (A := A1_1) (c := c1_1) Tryd.underlying32 Tryd.underlying5 Tryd.underlying9 (Kd.C_below HR1_1.out HB.out)
                    try go_wp2
                    go_ret
                    exact ⟨by first | rfl | (simp <;> rfl) | (simp [*] <;> rfl), by repeat (first | (with_reducible first | exact HB.out | apply below_alloc | apply pw_below_drewN | apply below_drew1 | refine below_set ?_ GE158.out) | exact HB.out)⟩
                  · rw [if_neg c28] at H
                    exact absurd H (by simp)
                · rw [if_neg c27] at H
                  exact absurd H (by simp)
              · rw [if_neg c26] at H
                exact absurd H (by simp)
          · rw [if_neg c10] at H
            exact absurd H (by simp)
        · rw [if_neg c8] at H
          exact absurd H (by simp)
      · rw [if_neg c7] at H
        exact absurd H (by simp)
    · rw [if_neg c5] at H
      exact absurd H (by simp)
  · rw [if_neg c4] at H
    exact absurd H (by simp)

end Go.Proofs.YtkolleohenjhmaaDoor.X
