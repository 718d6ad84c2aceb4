/- Texts of this work, merged in build order: FnMt, Awe, Awd, Aw, RegL, PlainH. -/
import Derived.Test.YtamndkiagenfnaaGreatDoorZ4
import Derived.Test.YtamndkiagenfnaaGreatDoorProg
import Derived.Below
import Derived.Deep.Draws
import Derived.Deep.AppendLies
import Derived.Maps.AppendAt
import Derived.OwnWalk
import Derived.Laws.BytesArg
import Derived.Laws.MakeOwn
import Derived.Laws.OwnMore
import Derived.Deep.OwnRows
import Derived.Tactics
import Derived.Lib.ConvBytes
import Derived.Laws.Slices
import Derived.WalkKit
import Derived.KernelRfl
import Derived.RowKit3
import Derived.Deep.LoopGhost
import Derived.Deep.QuietTactic
import Derived.BigQuiet
import Derived.WideLaws
import Derived.Deep.DeepCutAuto
import Derived.Deep.CutBlock
import Derived.Deep.RegionHeld3
import Derived.Laws.Rows
import Derived.Lib.AppendStr
import Derived.ArgAppend
import Derived.Laws.IdiomCopy
import Derived.OrdersHeld
import Derived.Laws.BitsLemmas
import Derived.RowKit
import Derived.Lib.SliceRun
namespace Go.Proofs.YtamndkiagenfnaaGreatDoor.X
open Go.RowKit Go.Proofs.YtamndkiagenfnaaGreatDoorW.PrintWords Go.Proofs.YtamndkiagenfnaaGreatDoorW.PrintLast Go.Proofs.YtamndkiagenfnaaGreatDoorW.PrintMore
attribute [local go_sem] max2_int min2_int max_two min_two max_three min_three max_four min_four
set_option linter.unusedVariables false
set_option linter.unusedSimpArgs false

/-! ### script_meta -/
def script_meta.f (a0_0 : ByteArray) (a0_1 : Int) (a0_2 : ByteArray) (a0_3 : ByteArray) (a1_0 : Int) (a1_1 : ByteArray) (l1_2 : List Int) (a1_3 : Int) (a1_4 : Int) (a1_5 : Int) (a1_6 : Int) (a1_7 : Int) (a1_8 : Bool) (a1_9 : Bool) : Option (ByteArray) := (num_Show.f (IntKind.u64.wrap ((l1_2.length : Int)))).bind fun t184 => ((script_whole.f a1_0).bind fun t185 => (if t185 = true then ((num_Show.f (IntKind.u64.wrap (a1_3))).bind fun t186 => (if 1 + t186.size ≤ 9223372036854775807 then ((num_Show.f (IntKind.u64.wrap (a1_4))).bind fun t187 => (if 1 + t187.size ≤ 9223372036854775807 then ((script_line.f (([a0_2, a1_1, t184, (⟨#[70]⟩ : ByteArray) ++ t186, (⟨#[84]⟩ : ByteArray) ++ t187, a0_3] : List ByteArray))).bind fun t191 => (some t191)) else (none))) else (none))) else ((script_stores.f a1_0).bind fun t192 => (if t192 = true then ((script_line.f (([a0_2, a1_1, t184, a0_3] : List ByteArray))).bind fun t196 => (some t196)) else ((script_reckons.f a1_0).bind fun t197 => (if t197 = true then ((num_Show.f a1_6).bind fun t198 => (if 1 + t198.size ≤ 9223372036854775807 then ((script_line.f (([a0_2, a1_1, (⟨#[68]⟩ : ByteArray) ++ t198, (⟨#[118]⟩ : ByteArray), a0_3] : List ByteArray))).bind fun t202 => (some t202)) else (none))) else (if a1_0 = 0 then ((script_line.f (([a0_2, a1_1, (⟨#[99]⟩ : ByteArray), (⟨#[102]⟩ : ByteArray), (⟨#[118]⟩ : ByteArray)] : List ByteArray))).bind fun t206 => (some t206)) else ((script_line.f (([a0_2, a1_1] : List ByteArray))).bind fun t210 => (some t210)))))))))
def script_meta.T3 : Bool × List (List Nat × List Nat) := (true, [([], []), ([0], [0]), ([], []), ([2], [2]), ([], []), ([], []), ([5], [5]), ([6], [6]), ([7], [7]), ([8], [8]), ([], []), ([10], [10]), ([11], [11]), ([12, 8], [12]), ([13], [13]), ([], []), ([15], [15]), ([1, 3, 4, 9, 14, 16], [1, 3, 4, 9, 14, 16]), ([17, 13], [17]), ([18, 18, 0, 1, 2, 3, 4, 5, 6, 7, 8, 9, 10, 11, 12, 13, 14, 15, 16, 17, 18], [18])])
def script_meta.B3 : List Nat := [0, 1, 0, 4, 0, 0, 32, 96, 224, 480, 0, 1024, 3072, 7648, 15840, 0, 32768, 131071, 262143, 524287]
theorem script_meta.tab3 : rtab .any (opsOf Tryz.f25 3) = script_meta.T3 := by kernel_rfl
theorem script_meta.bits3 : waitsOk script_meta.T3.2 script_meta.B3 = true := by kernel_rfl
def script_meta.T7 : Bool × List (List Nat × List Nat) := (true, [([], []), ([0], [0]), ([], []), ([2], [2]), ([], []), ([4], [4]), ([5], [5]), ([6], [6]), ([], []), ([8], [8]), ([1, 3, 7, 9], [1, 3, 7, 9]), ([10, 6], [10]), ([11, 11, 0, 1, 2, 3, 4, 5, 6, 7, 8, 9, 10, 11], [11])])
def script_meta.B7 : List Nat := [0, 1, 0, 4, 0, 16, 48, 112, 0, 256, 1023, 2047, 4095]
theorem script_meta.tab7 : rtab .any (opsOf Tryz.f25 7) = script_meta.T7 := by kernel_rfl
theorem script_meta.bits7 : waitsOk script_meta.T7.2 script_meta.B7 = true := by kernel_rfl
set_option maxHeartbeats 8000000 in
set_option maxRecDepth 100000 in
theorem script_meta.calls (a0_0 : ByteArray) (a0_1 : Int) (a0_2 : ByteArray) (a0_3 : ByteArray) (a1_0 : Int) (a1_1 : ByteArray) (A1_2 : Option Addr) (c1_2 : Nat) (l1_2 : List Int) (a1_3 : Int) (a1_4 : Int) (a1_5 : Int) (a1_6 : Int) (a1_7 : Int) (a1_8 : Bool) (a1_9 : Bool) (r : ByteArray) (w : World) (hr1_2 : Kd.C (Kd.int .u8) w A1_2 l1_2.length l1_2) (hc1_2 : l1_2.length ≤ c1_2) (hT : Tabs w) (h : script_meta.f a0_0 a0_1 a0_2 a0_3 a1_0 a1_1 l1_2 a1_3 a1_4 a1_5 a1_6 a1_7 a1_8 a1_9 = some r) :
    Calls Tryz.prog 25 #[.agg #[.string a0_0, .int .u8 a0_1, .string a0_2, .string a0_3], .agg #[.int .i64 a1_0, .string a1_1, .slice A1_2 l1_2.length c1_2, .int .u32 a1_3, .int .i64 a1_4, .int .u64 a1_5, .int .u64 a1_6, .int .u64 a1_7, .bool a1_8, .bool a1_9]] w fun e w' => e = .returned (.string r) ∧ Below w.heap.size w w' := by
  have hu41 := Tryz.underlying41
  have hu26 := Tryz.underlying26
  have HT := Aside0.mk hT
  clear hT
  have HR1_2 := Aside0.mk hr1_2
  have HC1_2 := Aside0.mk hc1_2
  clear hr1_2 hc1_2
  have HB := Aside0.mk (Below.refl w.heap.size w)
  have H : ((num_Show.f (IntKind.u64.wrap ((l1_2.length : Int)))).bind fun t184 => ((script_whole.f a1_0).bind fun t185 => (if t185 = true then ((num_Show.f (IntKind.u64.wrap (a1_3))).bind fun t186 => (if 1 + t186.size ≤ 9223372036854775807 then ((num_Show.f (IntKind.u64.wrap (a1_4))).bind fun t187 => (if 1 + t187.size ≤ 9223372036854775807 then ((script_line.f (([a0_2, a1_1, t184, (⟨#[70]⟩ : ByteArray) ++ t186, (⟨#[84]⟩ : ByteArray) ++ t187, a0_3] : List ByteArray))).bind fun t191 => (some t191)) else (none))) else (none))) else ((script_stores.f a1_0).bind fun t192 => (if t192 = true then ((script_line.f (([a0_2, a1_1, t184, a0_3] : List ByteArray))).bind fun t196 => (some t196)) else ((script_reckons.f a1_0).bind fun t197 => (if t197 = true then ((num_Show.f a1_6).bind fun t198 => (if 1 + t198.size ≤ 9223372036854775807 then ((script_line.f (([a0_2, a1_1, (⟨#[68]⟩ : ByteArray) ++ t198, (⟨#[118]⟩ : ByteArray), a0_3] : List ByteArray))).bind fun t202 => (some t202)) else (none))) else (if a1_0 = 0 then ((script_line.f (([a0_2, a1_1, (⟨#[99]⟩ : ByteArray), (⟨#[102]⟩ : ByteArray), (⟨#[118]⟩ : ByteArray)] : List ByteArray))).bind fun t206 => (some t206)) else ((script_line.f (([a0_2, a1_1] : List ByteArray))).bind fun t210 => (some t210)))))))))) = some r := h
  clear h
  replace H := Option.bind_eq_some_iff.mp H
  obtain ⟨t184, A30, H⟩ := H
  replace H : ((script_whole.f a1_0).bind fun t185 => (if t185 = true then ((num_Show.f (IntKind.u64.wrap (a1_3))).bind fun t186 => (if 1 + t186.size ≤ 9223372036854775807 then ((num_Show.f (IntKind.u64.wrap (a1_4))).bind fun t187 => (if 1 + t187.size ≤ 9223372036854775807 then ((script_line.f (([a0_2, a1_1, t184, (⟨#[70]⟩ : ByteArray) ++ t186, (⟨#[84]⟩ : ByteArray) ++ t187, a0_3] : List ByteArray))).bind fun t191 => (some t191)) else (none))) else (none))) else ((script_stores.f a1_0).bind fun t192 => (if t192 = true then ((script_line.f (([a0_2, a1_1, t184, a0_3] : List ByteArray))).bind fun t196 => (some t196)) else ((script_reckons.f a1_0).bind fun t197 => (if t197 = true then ((num_Show.f a1_6).bind fun t198 => (if 1 + t198.size ≤ 9223372036854775807 then ((script_line.f (([a0_2, a1_1, (⟨#[68]⟩ : ByteArray) ++ t198, (⟨#[118]⟩ : ByteArray), a0_3] : List ByteArray))).bind fun t202 => (some t202)) else (none))) else (if a1_0 = 0 then ((script_line.f (([a0_2, a1_1, (⟨#[99]⟩ : ByteArray), (⟨#[102]⟩ : ByteArray), (⟨#[118]⟩ : ByteArray)] : List ByteArray))).bind fun t206 => (some t206)) else ((script_line.f (([a0_2, a1_1] : List ByteArray))).bind fun t210 => (some t210))))))))) = some r := H
  have A3 := Aside0.mk A30
  clear A30
  replace H := Option.bind_eq_some_iff.mp H
  obtain ⟨t185, A40, H⟩ := H
  replace H : (if t185 = true then ((num_Show.f (IntKind.u64.wrap (a1_3))).bind fun t186 => (if 1 + t186.size ≤ 9223372036854775807 then ((num_Show.f (IntKind.u64.wrap (a1_4))).bind fun t187 => (if 1 + t187.size ≤ 9223372036854775807 then ((script_line.f (([a0_2, a1_1, t184, (⟨#[70]⟩ : ByteArray) ++ t186, (⟨#[84]⟩ : ByteArray) ++ t187, a0_3] : List ByteArray))).bind fun t191 => (some t191)) else (none))) else (none))) else ((script_stores.f a1_0).bind fun t192 => (if t192 = true then ((script_line.f (([a0_2, a1_1, t184, a0_3] : List ByteArray))).bind fun t196 => (some t196)) else ((script_reckons.f a1_0).bind fun t197 => (if t197 = true then ((num_Show.f a1_6).bind fun t198 => (if 1 + t198.size ≤ 9223372036854775807 then ((script_line.f (([a0_2, a1_1, (⟨#[68]⟩ : ByteArray) ++ t198, (⟨#[118]⟩ : ByteArray), a0_3] : List ByteArray))).bind fun t202 => (some t202)) else (none))) else (if a1_0 = 0 then ((script_line.f (([a0_2, a1_1, (⟨#[99]⟩ : ByteArray), (⟨#[102]⟩ : ByteArray), (⟨#[118]⟩ : ByteArray)] : List ByteArray))).bind fun t206 => (some t206)) else ((script_line.f (([a0_2, a1_1] : List ByteArray))).bind fun t210 => (some t210)))))))) = some r := H
  have A4 := Aside0.mk A40
  clear A40
  by_cases c5 : t185 = true
  · subst c5
    have H1 : ((num_Show.f (IntKind.u64.wrap (a1_3))).bind fun t186 => (if 1 + t186.size ≤ 9223372036854775807 then ((num_Show.f (IntKind.u64.wrap (a1_4))).bind fun t187 => (if 1 + t187.size ≤ 9223372036854775807 then ((script_line.f (([a0_2, a1_1, t184, (⟨#[70]⟩ : ByteArray) ++ t186, (⟨#[84]⟩ : ByteArray) ++ t187, a0_3] : List ByteArray))).bind fun t191 => (some t191)) else (none))) else (none))) = some r := by rw [if_pos rfl] at H; exact H
    clear H
    have H := H1
    clear H1
    replace H := Option.bind_eq_some_iff.mp H
    obtain ⟨t186, A60, H⟩ := H
    replace H : (if 1 + t186.size ≤ 9223372036854775807 then ((num_Show.f (IntKind.u64.wrap (a1_4))).bind fun t187 => (if 1 + t187.size ≤ 9223372036854775807 then ((script_line.f (([a0_2, a1_1, t184, (⟨#[70]⟩ : ByteArray) ++ t186, (⟨#[84]⟩ : ByteArray) ++ t187, a0_3] : List ByteArray))).bind fun t191 => (some t191)) else (none))) else (none)) = some r := H
    have A6 := Aside0.mk A60
    clear A60
    by_cases c7 : 1 + t186.size ≤ 9223372036854775807
    · rw [if_pos c7] at H
      have c7b0 := eq_true c7
      have c7b1 : decide (1 + t186.size ≤ 9223372036854775807) = true := decide_eq_true c7
      try have c7b2 : (9223372036854775807 < 1 + t186.size) = False := eq_false (Nat.not_lt.2 c7)
      replace H := Option.bind_eq_some_iff.mp H
      obtain ⟨t187, A80, H⟩ := H
      replace H : (if 1 + t187.size ≤ 9223372036854775807 then ((script_line.f (([a0_2, a1_1, t184, (⟨#[70]⟩ : ByteArray) ++ t186, (⟨#[84]⟩ : ByteArray) ++ t187, a0_3] : List ByteArray))).bind fun t191 => (some t191)) else (none)) = some r := H
      have A8 := Aside0.mk A80
      clear A80
      by_cases c9 : 1 + t187.size ≤ 9223372036854775807
      · rw [if_pos c9] at H
        have c9b0 := eq_true c9
        have c9b1 : decide (1 + t187.size ≤ 9223372036854775807) = true := decide_eq_true c9
        try have c9b2 : (9223372036854775807 < 1 + t187.size) = False := eq_false (Nat.not_lt.2 c9)
        obtain ⟨y188, hy188⟩ : ∃ y_ : List ByteArray, y_ = (([a0_2, a1_1, t184, (⟨#[70]⟩ : ByteArray) ++ t186, (⟨#[84]⟩ : ByteArray) ++ t187, a0_3] : List ByteArray)) := ⟨_, rfl⟩
        replace H : ((script_line.f y188).bind fun t191 => (some t191)) = some r := by first | (rw [hy188]; with_reducible exact H) | (have H2_ := (Option.bind_some _ _).symm.trans H; rw [hy188]; with_reducible exact H2_) | (have H2_ := (Option.bind_some _ _).symm.trans H; with_reducible exact H2_) | with_reducible exact H | (rw [hy188]; exact H) | exact H
        have Ny188 := Aside0.mk hy188
        clear hy188
        replace H := Option.bind_eq_some_iff.mp H
        obtain ⟨t191, A100, H⟩ := H
        replace H : (some t191) = some r := H
        have A10 := Aside0.mk A100
        clear A100
        obtain rfl := Option.some.inj H
        go_enter Tryz.func25, Tryz.ntmps25
        try go_wp2_with (first | ((with_reducible refine gate_dst (N := 2) rfl ?_); refine box_event ?hg (N := 2) ?hd (cs := #[.string a0_0, .int .u8 a0_1, .string a0_2, .string a0_3]) (t := 41) ?hr ?_; (case hd => rfl); (case hg => rfl); (case hr => first | (go_simp; done) | (go_simp; rfl)); intro gb182 hg w11 hbox hb; have n0_ := Aside0.mk (below_step (by repeat (first | (with_reducible first | exact HB.out | apply below_alloc | apply pw_below_drewN | apply below_drew1) | exact HB.out)) hb); have n1_ := Aside0.mk (hbox); have n2_ := Aside0.mk ((by rw [hg]; exact (below_size (by repeat (first | (with_reducible first | exact HB.out | apply below_alloc | apply pw_below_drewN | apply below_drew1) | exact HB.out))) : w.heap.size ≤ gb182)); have n3_ := Aside0.mk ((by rw [hg]; exact (below_size (by repeat (first | (with_reducible first | exact HB.out | apply below_alloc | apply pw_below_drewN | apply below_drew1) | exact HB.out))) : w.heap.size ≤ gb182)); clear HB; have HB := n0_; have BK182 := n1_; have GW182 := n2_; have GE182 := n3_; clear n0_ n1_ n2_ n3_; clear hb hbox hg) | ((with_reducible refine gate_dst (N := 3) rfl ?_); refine box_event ?hg (N := 3) ?hd (cs := #[.int .i64 a1_0, .string a1_1, .slice A1_2 l1_2.length c1_2, .int .u32 a1_3, .int .i64 a1_4, .int .u64 a1_5, .int .u64 a1_6, .int .u64 a1_7, .bool a1_8, .bool a1_9]) (t := 26) ?hr ?_; (case hd => rfl); (case hg => rfl); (case hr => first | (go_simp; done) | (go_simp; rfl)); intro gb183 hg w12 hbox hb; have n0_ := Aside0.mk (blk_below (g := gb182) (o := .cells #[.string a0_0, .int .u8 a0_1, .string a0_2, .string a0_3] 41 (0, 0)) (by (with_reducible repeat (first | refine blk_drewN ?_ _ | refine blk_drew ?_ | refine blk_alloc ?_ _)); exact BK182.out) hb); have n1_ := Aside0.mk (below_step (by repeat (first | (with_reducible first | exact HB.out | apply below_alloc | apply pw_below_drewN | apply below_drew1 | refine below_set ?_ GE182.out) | exact HB.out)) hb); have n2_ := Aside0.mk (hbox); have n3_ := Aside0.mk ((by rw [hg]; exact (below_size (by repeat (first | (with_reducible first | exact HB.out | apply below_alloc | apply pw_below_drewN | apply below_drew1 | refine below_set ?_ GE182.out) | exact HB.out))) : w.heap.size ≤ gb183)); have n4_ := Aside0.mk ((by rw [hg]; exact (below_size (by repeat (first | (with_reducible first | exact HB.out | apply below_alloc | apply pw_below_drewN | apply below_drew1 | refine below_set ?_ GE182.out) | exact HB.out))) : w.heap.size ≤ gb183)); have n5_ := Aside0.mk ((by rw [hg]; exact Nat.ne_of_lt (blk_lt (g := gb182) (o := .cells #[.string a0_0, .int .u8 a0_1, .string a0_2, .string a0_3] 41 (0, 0)) (by (with_reducible repeat (first | refine blk_drewN ?_ _ | refine blk_drew ?_ | refine blk_alloc ?_ _)); exact BK182.out)) : gb182 ≠ gb183)); have n6_ := Aside0.mk ((by rw [hg]; exact Nat.ne_of_gt (blk_lt (g := gb182) (o := .cells #[.string a0_0, .int .u8 a0_1, .string a0_2, .string a0_3] 41 (0, 0)) (by (with_reducible repeat (first | refine blk_drewN ?_ _ | refine blk_drew ?_ | refine blk_alloc ?_ _)); exact BK182.out)) : gb183 ≠ gb182)); clear BK182; clear HB; have BK182 := n0_; have HB := n1_; have BK183 := n2_; have GW183 := n3_; have GE183 := n4_; have NB182_183 := n5_; have NB183_182 := n6_; clear n0_ n1_ n2_ n3_ n4_ n5_ n6_; clear hb hbox hg; have hnb13 := NB183_182.out; have hnc13 := NB182_183.out; have hcz14_0 : w12.cell? ⟨gb183, 0, none⟩ = some (.int .i64 a1_0) := (blk_cell BK183.out 0).trans rfl; have hcz14_1 : w12.cell? ⟨gb183, 1, none⟩ = some (.string a1_1) := (blk_cell BK183.out 1).trans rfl; have hcz14_2 : w12.cell? ⟨gb183, 2, none⟩ = some (.slice A1_2 l1_2.length c1_2) := (blk_cell BK183.out 2).trans rfl; have hcz14_3 : w12.cell? ⟨gb183, 3, none⟩ = some (.int .u32 a1_3) := (blk_cell BK183.out 3).trans rfl; have hcz14_4 : w12.cell? ⟨gb183, 4, none⟩ = some (.int .i64 a1_4) := (blk_cell BK183.out 4).trans rfl; have hcz14_5 : w12.cell? ⟨gb183, 5, none⟩ = some (.int .u64 a1_5) := (blk_cell BK183.out 5).trans rfl; have hcz14_6 : w12.cell? ⟨gb183, 6, none⟩ = some (.int .u64 a1_6) := (blk_cell BK183.out 6).trans rfl; have hcz14_7 : w12.cell? ⟨gb183, 7, none⟩ = some (.int .u64 a1_7) := (blk_cell BK183.out 7).trans rfl; have hcz14_8 : w12.cell? ⟨gb183, 8, none⟩ = some (.bool a1_8) := (blk_cell BK183.out 8).trans rfl; have hcz14_9 : w12.cell? ⟨gb183, 9, none⟩ = some (.bool a1_9) := (blk_cell BK183.out 9).trans rfl; have hfz14_0 := blk_frozen BK183.out 0; have hfz14_1 := blk_frozen BK183.out 1; have hfz14_2 := blk_frozen BK183.out 2; have hfz14_3 := blk_frozen BK183.out 3; have hfz14_4 := blk_frozen BK183.out 4; have hfz14_5 := blk_frozen BK183.out 5; have hfz14_6 := blk_frozen BK183.out 6; have hfz14_7 := blk_frozen BK183.out 7; have hfz14_8 := blk_frozen BK183.out 8; have hfz14_9 := blk_frozen BK183.out 9) | ((with_reducible refine gate_callee (f := 43) rfl ?_); refine goesL_ (some 10) rfl rfl Tryz.func43 (by kernel_rfl) rfl #[.int .u64 (IntKind.u64.wrap ((l1_2.length : Int)))] rfl (by (try simp only [List.map_toArray, List.map_cons, List.map_nil]); first | done | rfl | (simp only [List.length_drop, List.length_take]; rfl)) ?_; (with_reducible refine (num_Show.calls (IntKind.u64.wrap ((l1_2.length : Int))) t184 _ ?side1 A3.out).mono ?_); (case side1 => exact Tabs.below HT.out (by repeat (first | (with_reducible first | exact HB.out | apply below_alloc | apply pw_below_drewN | apply below_drew1 | refine below_set ?_ GE182.out | refine below_set ?_ GE183.out) | exact HB.out))); rintro e w15 ⟨rfl, hb⟩; refine ⟨_, rfl, ?_⟩; have n0_ := Aside0.mk (blk_below (g := gb182) (o := .cells #[.string a0_0, .int .u8 a0_1, .string a0_2, .string a0_3] 41 (0, 0)) (by (with_reducible repeat (first | refine blk_drewN ?_ _ | refine blk_drew ?_ | refine blk_alloc ?_ _)); exact BK182.out) hb); have n1_ := Aside0.mk (blk_below (g := gb183) (o := .cells #[.int .i64 a1_0, .string a1_1, .slice A1_2 l1_2.length c1_2, .int .u32 a1_3, .int .i64 a1_4, .int .u64 a1_5, .int .u64 a1_6, .int .u64 a1_7, .bool a1_8, .bool a1_9] 26 (0, 0)) (by (with_reducible repeat (first | refine blk_drewN ?_ _ | refine blk_drew ?_ | refine blk_alloc ?_ _)); exact BK183.out) hb); have n2_ := Aside0.mk (below_step (by repeat (first | (with_reducible first | exact HB.out | apply below_alloc | apply pw_below_drewN | apply below_drew1 | refine below_set ?_ GE182.out | refine below_set ?_ GE183.out) | exact HB.out)) hb); clear BK182; clear BK183; clear HB; have BK182 := n0_; have BK183 := n1_; have HB := n2_; clear n0_ n1_ n2_; (try clear hb); (try clear hb2); (try clear hk); (try clear hi); have hcz16_0 : w15.cell? ⟨gb183, 0, none⟩ = some (.int .i64 a1_0) := (blk_cell BK183.out 0).trans rfl; have hcz16_1 : w15.cell? ⟨gb183, 1, none⟩ = some (.string a1_1) := (blk_cell BK183.out 1).trans rfl; have hcz16_2 : w15.cell? ⟨gb183, 2, none⟩ = some (.slice A1_2 l1_2.length c1_2) := (blk_cell BK183.out 2).trans rfl; have hcz16_3 : w15.cell? ⟨gb183, 3, none⟩ = some (.int .u32 a1_3) := (blk_cell BK183.out 3).trans rfl; have hcz16_4 : w15.cell? ⟨gb183, 4, none⟩ = some (.int .i64 a1_4) := (blk_cell BK183.out 4).trans rfl; have hcz16_5 : w15.cell? ⟨gb183, 5, none⟩ = some (.int .u64 a1_5) := (blk_cell BK183.out 5).trans rfl; have hcz16_6 : w15.cell? ⟨gb183, 6, none⟩ = some (.int .u64 a1_6) := (blk_cell BK183.out 6).trans rfl; have hcz16_7 : w15.cell? ⟨gb183, 7, none⟩ = some (.int .u64 a1_7) := (blk_cell BK183.out 7).trans rfl; have hcz16_8 : w15.cell? ⟨gb183, 8, none⟩ = some (.bool a1_8) := (blk_cell BK183.out 8).trans rfl; have hcz16_9 : w15.cell? ⟨gb183, 9, none⟩ = some (.bool a1_9) := (blk_cell BK183.out 9).trans rfl; have hfz16_0 := blk_frozen BK183.out 0; have hfz16_1 := blk_frozen BK183.out 1; have hfz16_2 := blk_frozen BK183.out 2; have hfz16_3 := blk_frozen BK183.out 3; have hfz16_4 := blk_frozen BK183.out 4; have hfz16_5 := blk_frozen BK183.out 5; have hfz16_6 := blk_frozen BK183.out 6; have hfz16_7 := blk_frozen BK183.out 7; have hfz16_8 := blk_frozen BK183.out 8; have hfz16_9 := blk_frozen BK183.out 9) | ((with_reducible refine gate_callee (f := 44) rfl ?_); refine goesL_ (some 14) rfl rfl Tryz.func44 (by kernel_rfl) rfl #[.int .i64 a1_0] rfl (by (try simp only [List.map_toArray, List.map_cons, List.map_nil]); first | done | rfl | (simp only [List.length_drop, List.length_take]; rfl)) ?_; (with_reducible refine (script_whole.calls a1_0 true _ A4.out).mono ?_); rintro e w' ⟨rfl, ⟨nd, rfl⟩⟩; refine ⟨_, rfl, ?_⟩))
        (try (rw [drewN_self w15]; generalize hq_ : World.drewN w15 _ = w15; have n0_ : Aside0 (w15.heap[gb182]? = some (.cells #[.string a0_0, .int .u8 a0_1, .string a0_2, .string a0_3] 41 (0, 0))) := ⟨by rw [← hq_]; exact (by (with_reducible repeat (first | refine blk_drewN ?_ _ | refine blk_drew ?_ | refine blk_alloc ?_ _)); exact BK182.out)⟩; have n1_ : Aside0 (w15.heap[gb183]? = some (.cells #[.int .i64 a1_0, .string a1_1, .slice A1_2 l1_2.length c1_2, .int .u32 a1_3, .int .i64 a1_4, .int .u64 a1_5, .int .u64 a1_6, .int .u64 a1_7, .bool a1_8, .bool a1_9] 26 (0, 0))) := ⟨by rw [← hq_]; exact (by (with_reducible repeat (first | refine blk_drewN ?_ _ | refine blk_drew ?_ | refine blk_alloc ?_ _)); exact BK183.out)⟩; have n2_ : Aside0 (Below w.heap.size w w15) := ⟨by rw [← hq_]; exact (by repeat (first | (with_reducible first | exact HB.out | apply below_alloc | apply pw_below_drewN | apply below_drew1 | refine below_set ?_ GE182.out | refine below_set ?_ GE183.out) | exact HB.out))⟩; clear BK182 BK183 HB hq_; have BK182 := n0_; have BK183 := n1_; have HB := n2_; clear n0_ n1_ n2_))
        have n0_ := Aside0.mk (blk_drew BK182.out)
        have n1_ := Aside0.mk (blk_drew BK183.out)
        have n2_ := Aside0.mk (below_drew1 HB.out)
        clear BK182
        clear BK183
        clear HB
        have BK182 := n0_
        have BK183 := n1_
        have HB := n2_
        clear n0_ n1_ n2_
        refine start_ (n := 20) (S := fun w' => w'.cell? ⟨gb182, 0, none⟩ = some (.string a0_0) ∧ w'.cell? ⟨gb182, 1, none⟩ = some (.int .u8 a0_1) ∧ w'.cell? ⟨gb182, 2, none⟩ = some (.string a0_2) ∧ w'.cell? ⟨gb182, 3, none⟩ = some (.string a0_3) ∧ w'.cell? ⟨gb183, 0, none⟩ = some (.int .i64 a1_0) ∧ w'.cell? ⟨gb183, 1, none⟩ = some (.string a1_1) ∧ w'.cell? ⟨gb183, 2, none⟩ = some (.slice A1_2 l1_2.length c1_2) ∧ w'.cell? ⟨gb183, 3, none⟩ = some (.int .u32 a1_3) ∧ w'.cell? ⟨gb183, 4, none⟩ = some (.int .i64 a1_4) ∧ w'.cell? ⟨gb183, 5, none⟩ = some (.int .u64 a1_5) ∧ w'.cell? ⟨gb183, 6, none⟩ = some (.int .u64 a1_6) ∧ w'.cell? ⟨gb183, 7, none⟩ = some (.int .u64 a1_7) ∧ w'.cell? ⟨gb183, 8, none⟩ = some (.bool a1_8) ∧ w'.cell? ⟨gb183, 9, none⟩ = some (.bool a1_9)) (ds := []) #[false, false, false, false, false, false, false, false, false, false, false, false, false, false, false, false, false, false, false, false] (by kernel_rfl) rfl rfl ⟨(blk_cell BK182.out 0).trans rfl, (blk_cell BK182.out 1).trans rfl, (blk_cell BK182.out 2).trans rfl, (blk_cell BK182.out 3).trans rfl, (blk_cell BK183.out 0).trans rfl, (blk_cell BK183.out 1).trans rfl, (blk_cell BK183.out 2).trans rfl, (blk_cell BK183.out 3).trans rfl, (blk_cell BK183.out 4).trans rfl, (blk_cell BK183.out 5).trans rfl, (blk_cell BK183.out 6).trans rfl, (blk_cell BK183.out 7).trans rfl, (blk_cell BK183.out 8).trans rfl, (blk_cell BK183.out 9).trans rfl⟩ (fun hHeld => ?_); refine with_tabW script_meta.tab3 script_meta.bits3 (fun HT_ HW_ => ?_)
        generalize w15.drew = w17 at BK182 BK183 HB hHeld ⊢
        refine pure_ (i := 0) (N := some 15) (v := ?_) (a' := ?_) #[true, false, false, false, false, false, false, false, false, false, false, false, false, false, false, false, false, false, false, false] rfl rfl (any_of HT_.out (by kernel_rfl)) (fun _ _ _ h => h) (Or.inl ⟨by rfl, ?_⟩) ?_ ?_
        rotate_left
        · intro w'
          go_simp
          with_reducible rfl
        rotate_left
        · simp only [Act.put, List.setIfInBounds_toArray, List.set_cons_zero, List.set_cons_succ, i64_w, i32_w]
          rfl
        refine pure_ (i := 2) (N := some 17) (v := ?_) (a' := ?_) #[true, false, true, false, false, false, false, false, false, false, false, false, false, false, false, false, false, false, false, false] rfl rfl (any_of HT_.out (by kernel_rfl)) (fun _ _ _ h => h) (Or.inl ⟨by rfl, ?_⟩) ?_ ?_
        rotate_left
        · intro w'
          go_simp
          with_reducible rfl
        rotate_left
        · simp only [Act.put, List.setIfInBounds_toArray, List.set_cons_zero, List.set_cons_succ, i64_w, i32_w]
          rfl
        refine pure_ (i := 4) (N := some 19) (v := ?_) (a' := ?_) #[true, false, true, false, true, false, false, false, false, false, false, false, false, false, false, false, false, false, false, false] rfl rfl (any_of HT_.out (by kernel_rfl)) (fun _ _ _ h => h) (Or.inl ⟨by rfl, ?_⟩) ?_ ?_
        rotate_left
        · intro w'
          go_simp
          with_reducible rfl
        rotate_left
        · simp only [Act.put, List.setIfInBounds_toArray, List.set_cons_zero, List.set_cons_succ, i64_w, i32_w]
          rfl
        refine pure_ (i := 5) (N := some 20) (v := ?_) (a' := ?_) #[true, false, true, false, true, true, false, false, false, false, false, false, false, false, false, false, false, false, false, false] rfl rfl (any_of HT_.out (by kernel_rfl)) (fun _ _ _ h => h) (Or.inl ⟨by rfl, ?_⟩) ?_ ?_
        rotate_left
        · intro w'
          go_simp
          with_reducible rfl
        rotate_left
        · simp only [Act.put, List.setIfInBounds_toArray, List.set_cons_zero, List.set_cons_succ, i64_w, i32_w]
          rfl
        refine pure_ (i := 10) (N := some 25) (v := ?_) (a' := ?_) #[true, false, true, false, true, true, false, false, false, false, true, false, false, false, false, false, false, false, false, false] rfl rfl (any_of HT_.out (by kernel_rfl)) (fun _ _ _ h => h) (Or.inl ⟨by rfl, ?_⟩) ?_ ?_
        rotate_left
        · intro w'
          go_simp
          with_reducible rfl
        rotate_left
        · simp only [Act.put, List.setIfInBounds_toArray, List.set_cons_zero, List.set_cons_succ, i64_w, i32_w]
          rfl
        refine pure_ (i := 15) (N := some 30) (v := ?_) (a' := ?_) #[true, false, true, false, true, true, false, false, false, false, true, false, false, false, false, true, false, false, false, false] rfl rfl (any_of HT_.out (by kernel_rfl)) (fun _ _ _ h => h) (Or.inl ⟨by rfl, ?_⟩) ?_ ?_
        rotate_left
        · intro w'
          go_simp
          with_reducible rfl
        rotate_left
        · simp only [Act.put, List.setIfInBounds_toArray, List.set_cons_zero, List.set_cons_succ, i64_w, i32_w]
          rfl
        refine take_ (i := 1) (N := some 16) (v := ?_) (a' := ?_) #[true, true, true, false, true, true, false, false, false, false, true, false, false, false, false, true, false, false, false, false] rfl rfl (take_ofW HT_.out HW_.out (by kernel_rfl)) (fun _ _ _ h => h) (Or.inl ⟨by rfl, ?_⟩) hHeld ?_ ?_
        rotate_left
        · rintro w' ⟨s0, s1, s2, s3, s4, s5, s6, s7, s8, s9, s10, s11, s12, s13⟩
          go_simp
          with_reducible rfl
        rotate_left
        · simp only [Act.put, List.setIfInBounds_toArray, List.set_cons_zero, List.set_cons_succ, i64_w, i32_w]
          rfl
        refine take_ (i := 3) (N := some 18) (v := ?_) (a' := ?_) #[true, true, true, true, true, true, false, false, false, false, true, false, false, false, false, true, false, false, false, false] rfl rfl (take_ofW HT_.out HW_.out (by kernel_rfl)) (fun _ _ _ h => h) (Or.inl ⟨by rfl, ?_⟩) hHeld ?_ ?_
        rotate_left
        · rintro w' ⟨s0, s1, s2, s3, s4, s5, s6, s7, s8, s9, s10, s11, s12, s13⟩
          go_simp
          with_reducible rfl
        rotate_left
        · simp only [Act.put, List.setIfInBounds_toArray, List.set_cons_zero, List.set_cons_succ, i64_w, i32_w]
          rfl
        refine take_ (i := 6) (N := some 21) (v := ?_) (a' := ?_) #[true, true, true, true, true, true, true, false, false, false, true, false, false, false, false, true, false, false, false, false] rfl rfl (take_ofW HT_.out HW_.out (by kernel_rfl)) (fun _ _ _ h => h) (Or.inl ⟨by rfl, ?_⟩) hHeld ?_ ?_
        rotate_left
        · rintro w' ⟨s0, s1, s2, s3, s4, s5, s6, s7, s8, s9, s10, s11, s12, s13⟩
          go_simp
          with_reducible rfl
        rotate_left
        · simp only [Act.put, List.setIfInBounds_toArray, List.set_cons_zero, List.set_cons_succ, i64_w, i32_w]
          rfl
        refine pure_ (i := 7) (N := some 22) (v := ?_) (a' := ?_) #[true, true, true, true, true, true, true, true, false, false, true, false, false, false, false, true, false, false, false, false] rfl rfl (any_of HT_.out (by kernel_rfl)) (fun _ _ _ h => h) (Or.inl ⟨by rfl, ?_⟩) ?_ ?_
        rotate_left
        · intro w'
          go_simp
          with_reducible rfl
        rotate_left
        · simp only [Act.put, List.setIfInBounds_toArray, List.set_cons_zero, List.set_cons_succ, i64_w, i32_w]
          rfl
        refine take_ (i := 11) (N := some 26) (v := ?_) (a' := ?_) #[true, true, true, true, true, true, true, true, false, false, true, true, false, false, false, true, false, false, false, false] rfl rfl (take_ofW HT_.out HW_.out (by kernel_rfl)) (fun _ _ _ h => h) (Or.inl ⟨by rfl, ?_⟩) hHeld ?_ ?_
        rotate_left
        · rintro w' ⟨s0, s1, s2, s3, s4, s5, s6, s7, s8, s9, s10, s11, s12, s13⟩
          go_simp
          with_reducible rfl
        rotate_left
        · simp only [Act.put, List.setIfInBounds_toArray, List.set_cons_zero, List.set_cons_succ, i64_w, i32_w]
          rfl
        refine pure_ (i := 12) (N := some 27) (v := ?_) (a' := ?_) #[true, true, true, true, true, true, true, true, false, false, true, true, true, false, false, true, false, false, false, false] rfl rfl (any_of HT_.out (by kernel_rfl)) (fun _ _ _ h => h) (Or.inl ⟨by rfl, ?_⟩) ?_ ?_
        rotate_left
        · intro w'
          go_simp
          with_reducible rfl
        rotate_left
        · simp only [Act.put, List.setIfInBounds_toArray, List.set_cons_zero, List.set_cons_succ, i64_w, i32_w]
          rfl
        refine take_ (i := 16) (N := some 31) (v := ?_) (a' := ?_) #[true, true, true, true, true, true, true, true, false, false, true, true, true, false, false, true, true, false, false, false] rfl rfl (take_ofW HT_.out HW_.out (by kernel_rfl)) (fun _ _ _ h => h) (Or.inl ⟨by rfl, ?_⟩) hHeld ?_ ?_
        rotate_left
        · rintro w' ⟨s0, s1, s2, s3, s4, s5, s6, s7, s8, s9, s10, s11, s12, s13⟩
          go_simp
          with_reducible rfl
        rotate_left
        · simp only [Act.put, List.setIfInBounds_toArray, List.set_cons_zero, List.set_cons_succ, i64_w, i32_w]
          rfl
        refine one_ (i := 8) (N := some 23) #[true, true, true, true, true, true, true, true, true, false, true, true, true, false, false, true, true, false, false, false] rfl rfl (one_of HT_.out (by kernel_rfl)) (by decide) (fun K hK => ?_)
        refine goes_ Tryz.func43 (by kernel_rfl) rfl #[.int .u64 (IntKind.u64.wrap (a1_3))] (by rfl) rfl rfl (by (try simp only [List.map_toArray, List.map_cons, List.map_nil]); first | done | rfl | (simp only [List.length_drop, List.length_take]; rfl)) ?_
        with_reducible refine (num_Show.calls (IntKind.u64.wrap (a1_3)) t186 _ ?side1 A6.out).mono ?_
        (case side1 => exact Tabs.below HT.out (by repeat (first | (with_reducible first | exact HB.out | apply below_alloc | apply pw_below_drewN | apply below_drew1 | refine below_set ?_ GE182.out | refine below_set ?_ GE183.out) | exact HB.out)))
        rintro e w18 ⟨rfl, hb⟩
        refine ⟨_, rfl, ?_⟩
        have n0_ := Aside0.mk (blk_below (g := gb182) (o := .cells #[.string a0_0, .int .u8 a0_1, .string a0_2, .string a0_3] 41 (0, 0)) (by (with_reducible repeat (first | refine blk_drewN ?_ _ | refine blk_drew ?_ | refine blk_alloc ?_ _)); exact BK182.out) hb)
        have n1_ := Aside0.mk (blk_below (g := gb183) (o := .cells #[.int .i64 a1_0, .string a1_1, .slice A1_2 l1_2.length c1_2, .int .u32 a1_3, .int .i64 a1_4, .int .u64 a1_5, .int .u64 a1_6, .int .u64 a1_7, .bool a1_8, .bool a1_9] 26 (0, 0)) (by (with_reducible repeat (first | refine blk_drewN ?_ _ | refine blk_drew ?_ | refine blk_alloc ?_ _)); exact BK183.out) hb)
        have n2_ := Aside0.mk (below_step (by repeat (first | (with_reducible first | exact HB.out | apply below_alloc | apply pw_below_drewN | apply below_drew1 | refine below_set ?_ GE182.out | refine below_set ?_ GE183.out) | exact HB.out)) hb)
        clear BK182
        clear BK183
        clear HB
        have BK182 := n0_
        have BK183 := n1_
        have HB := n2_
        clear n0_ n1_ n2_
        (try clear hb)
        (try clear hb2)
        (try clear hk)
        (try clear hi)
        refine hK.out _ _ ⟨(blk_cell BK182.out 0).trans rfl, (blk_cell BK182.out 1).trans rfl, (blk_cell BK182.out 2).trans rfl, (blk_cell BK182.out 3).trans rfl, (blk_cell BK183.out 0).trans rfl, (blk_cell BK183.out 1).trans rfl, (blk_cell BK183.out 2).trans rfl, (blk_cell BK183.out 3).trans rfl, (blk_cell BK183.out 4).trans rfl, (blk_cell BK183.out 5).trans rfl, (blk_cell BK183.out 6).trans rfl, (blk_cell BK183.out 7).trans rfl, (blk_cell BK183.out 8).trans rfl, (blk_cell BK183.out 9).trans rfl⟩ (fun hHeld => ?_)
        clear hK K
        refine norm_ (a' := ?_) ?_ ?_
        rotate_left
        · show Act.put _ (some 23) _ = _
          simp only [Act.put, List.setIfInBounds_toArray, List.set_cons_zero, List.set_cons_succ, i64_w, i32_w]
          rfl
        refine pure_ (i := 9) (N := some 24) (v := ?_) (a' := ?_) #[true, true, true, true, true, true, true, true, true, true, true, true, true, false, false, true, true, false, false, false] rfl rfl (any_of HT_.out (by kernel_rfl)) (fun _ _ _ h => h) (Or.inl ⟨by rfl, ?_⟩) ?_ ?_
        rotate_left
        · intro w'
          go_simp
          with_reducible rfl
        rotate_left
        · simp only [Act.put, List.setIfInBounds_toArray, List.set_cons_zero, List.set_cons_succ, i64_w, i32_w]
          rfl
        refine one_ (i := 13) (N := some 28) #[true, true, true, true, true, true, true, true, true, true, true, true, true, true, false, true, true, false, false, false] rfl rfl (one_of HT_.out (by kernel_rfl)) (by decide) (fun K hK => ?_)
        refine goes_ Tryz.func43 (by kernel_rfl) rfl #[.int .u64 (IntKind.u64.wrap (a1_4))] (by rfl) rfl rfl (by (try simp only [List.map_toArray, List.map_cons, List.map_nil]); first | done | rfl | (simp only [List.length_drop, List.length_take]; rfl)) ?_
        with_reducible refine (num_Show.calls (IntKind.u64.wrap (a1_4)) t187 _ ?side1 A8.out).mono ?_
        (case side1 => exact Tabs.below HT.out (by repeat (first | (with_reducible first | exact HB.out | apply below_alloc | apply pw_below_drewN | apply below_drew1 | refine below_set ?_ GE182.out | refine below_set ?_ GE183.out) | exact HB.out)))
        rintro e w19 ⟨rfl, hb⟩
        refine ⟨_, rfl, ?_⟩
        have n0_ := Aside0.mk (blk_below (g := gb182) (o := .cells #[.string a0_0, .int .u8 a0_1, .string a0_2, .string a0_3] 41 (0, 0)) (by (with_reducible repeat (first | refine blk_drewN ?_ _ | refine blk_drew ?_ | refine blk_alloc ?_ _)); exact BK182.out) hb)
        have n1_ := Aside0.mk (blk_below (g := gb183) (o := .cells #[.int .i64 a1_0, .string a1_1, .slice A1_2 l1_2.length c1_2, .int .u32 a1_3, .int .i64 a1_4, .int .u64 a1_5, .int .u64 a1_6, .int .u64 a1_7, .bool a1_8, .bool a1_9] 26 (0, 0)) (by (with_reducible repeat (first | refine blk_drewN ?_ _ | refine blk_drew ?_ | refine blk_alloc ?_ _)); exact BK183.out) hb)
        have n2_ := Aside0.mk (below_step (by repeat (first | (with_reducible first | exact HB.out | apply below_alloc | apply pw_below_drewN | apply below_drew1 | refine below_set ?_ GE182.out | refine below_set ?_ GE183.out) | exact HB.out)) hb)
        clear BK182
        clear BK183
        clear HB
        have BK182 := n0_
        have BK183 := n1_
        have HB := n2_
        clear n0_ n1_ n2_
        (try clear hb)
        (try clear hb2)
        (try clear hk)
        (try clear hi)
        refine hK.out _ _ ⟨(blk_cell BK182.out 0).trans rfl, (blk_cell BK182.out 1).trans rfl, (blk_cell BK182.out 2).trans rfl, (blk_cell BK182.out 3).trans rfl, (blk_cell BK183.out 0).trans rfl, (blk_cell BK183.out 1).trans rfl, (blk_cell BK183.out 2).trans rfl, (blk_cell BK183.out 3).trans rfl, (blk_cell BK183.out 4).trans rfl, (blk_cell BK183.out 5).trans rfl, (blk_cell BK183.out 6).trans rfl, (blk_cell BK183.out 7).trans rfl, (blk_cell BK183.out 8).trans rfl, (blk_cell BK183.out 9).trans rfl⟩ (fun hHeld => ?_)
        clear hK K
        refine norm_ (a' := ?_) ?_ ?_
        rotate_left
        · show Act.put _ (some 28) _ = _
          simp only [Act.put, List.setIfInBounds_toArray, List.set_cons_zero, List.set_cons_succ, i64_w, i32_w]
          rfl
        refine pure_ (i := 14) (N := some 29) (v := ?_) (a' := ?_) #[true, true, true, true, true, true, true, true, true, true, true, true, true, true, true, true, true, false, false, false] rfl rfl (any_of HT_.out (by kernel_rfl)) (fun _ _ _ h => h) (Or.inl ⟨by rfl, ?_⟩) ?_ ?_
        rotate_left
        · intro w'
          go_simp
          with_reducible rfl
        rotate_left
        · simp only [Act.put, List.setIfInBounds_toArray, List.set_cons_zero, List.set_cons_succ, i64_w, i32_w]
          rfl
        refine one_ (i := 17) (N := some 32) #[true, true, true, true, true, true, true, true, true, true, true, true, true, true, true, true, true, true, false, false] rfl rfl (one_of HT_.out (by kernel_rfl)) (by decide) (fun K hK => ?_)
        refine Kd.R_lit_step Kd.string _ 9 ?hg (N := 32) ?hd (xs := ([a0_2, a1_1, t184, (⟨#[70]⟩ : ByteArray) ++ t186, (⟨#[84]⟩ : ByteArray) ++ t187, a0_3] : List ByteArray)) (inner := [.string a0_2, .string a1_1, .string t184, .string ((⟨#[70]⟩ : ByteArray) ++ t186), .string ((⟨#[84]⟩ : ByteArray) ++ t187), .string a0_3]) (ok := fun _ => True) (okp := fun _ => True) ?hr ?hp (fun _ hk => hk) trivial (Below.refl _ _) (Nat.le_refl _) (by simp) ?_; (case hd => rfl); (case hg => rfl); (case hr => first | (go_simp; done) | (go_simp; rfl)); (case hp => exact (Reps.one (show Kd.M Kd.string _ _ _ a0_2 [.string a0_2] from rfl) (Reps.one (show Kd.M Kd.string _ _ _ a1_1 [.string a1_1] from rfl) (Reps.one (show Kd.M Kd.string _ _ _ t184 [.string t184] from rfl) (Reps.one (show Kd.M Kd.string _ _ _ ((⟨#[70]⟩ : ByteArray) ++ t186) [.string ((⟨#[70]⟩ : ByteArray) ++ t186)] from rfl) (Reps.one (show Kd.M Kd.string _ _ _ ((⟨#[84]⟩ : ByteArray) ++ t187) [.string ((⟨#[84]⟩ : ByteArray) ++ t187)] from rfl) (Reps.one (show Kd.M Kd.string _ _ _ a0_3 [.string a0_3] from rfl) (Reps.none _ _))))))))
        intro v189 w20 ho21 hb hg_ hnew_
        clear hg_ hnew_
        (first | rw [← Ny188.out] at ho21 | (simp only [Int.reduceToNat] at ho21; rw [← Ny188.out] at ho21))
        have n0_ := Aside0.mk (Kd.R_lower ho21 (below_size (by repeat (first | (with_reducible first | exact HB.out | apply below_alloc | apply pw_below_drewN | apply below_drew1 | refine below_set ?_ GE182.out | refine below_set ?_ GE183.out) | exact HB.out))))
        have n1_ := Aside0.mk (blk_below (g := gb182) (o := .cells #[.string a0_0, .int .u8 a0_1, .string a0_2, .string a0_3] 41 (0, 0)) (by (with_reducible repeat (first | refine blk_drewN ?_ _ | refine blk_drew ?_ | refine blk_alloc ?_ _)); exact BK182.out) hb)
        have n2_ := Aside0.mk (blk_below (g := gb183) (o := .cells #[.int .i64 a1_0, .string a1_1, .slice A1_2 l1_2.length c1_2, .int .u32 a1_3, .int .i64 a1_4, .int .u64 a1_5, .int .u64 a1_6, .int .u64 a1_7, .bool a1_8, .bool a1_9] 26 (0, 0)) (by (with_reducible repeat (first | refine blk_drewN ?_ _ | refine blk_drew ?_ | refine blk_alloc ?_ _)); exact BK183.out) hb)
        have n3_ := Aside0.mk (below_step (by repeat (first | (with_reducible first | exact HB.out | apply below_alloc | apply pw_below_drewN | apply below_drew1 | refine below_set ?_ GE182.out | refine below_set ?_ GE183.out) | exact HB.out)) hb)
        clear BK182
        clear BK183
        clear HB
        have HO190 := n0_
        have BK182 := n1_
        have BK183 := n2_
        have HB := n3_
        clear n0_ n1_ n2_ n3_
        clear hb ho21
        obtain ⟨Ao22, co22, eo22⟩ := Kd.R_slice HO190.out
        (first | subst eo22 | (injection eo22 with f1_ f2_ f3_; have f4_ := f1_.symm; have f5_ := f3_.symm; clear f1_ f2_ f3_; subst f4_; subst f5_))
        refine hK.out _ _ ⟨(blk_cell BK182.out 0).trans rfl, (blk_cell BK182.out 1).trans rfl, (blk_cell BK182.out 2).trans rfl, (blk_cell BK182.out 3).trans rfl, (blk_cell BK183.out 0).trans rfl, (blk_cell BK183.out 1).trans rfl, (blk_cell BK183.out 2).trans rfl, (blk_cell BK183.out 3).trans rfl, (blk_cell BK183.out 4).trans rfl, (blk_cell BK183.out 5).trans rfl, (blk_cell BK183.out 6).trans rfl, (blk_cell BK183.out 7).trans rfl, (blk_cell BK183.out 8).trans rfl, (blk_cell BK183.out 9).trans rfl⟩ (fun hHeld => ?_)
        clear hK K
        refine norm_ (a' := ?_) ?_ ?_
        rotate_left
        · show Act.put _ (some 32) _ = _
          simp only [Act.put, List.setIfInBounds_toArray, List.set_cons_zero, List.set_cons_succ, i64_w, i32_w]
          rfl
        refine one_ (i := 18) (N := some 33) #[true, true, true, true, true, true, true, true, true, true, true, true, true, true, true, true, true, true, true, false] rfl rfl (one_of HT_.out (by kernel_rfl)) (by decide) (fun K hK => ?_)
        refine goes_ Tryz.func45 (by kernel_rfl) rfl #[.slice Ao22 y188.length co22] (by rfl) rfl rfl (by (try simp only [List.map_toArray, List.map_cons, List.map_nil]); first | done | rfl | (simp only [List.length_drop, List.length_take]; rfl)) ?_
        with_reducible refine (script_line.calls _ _ y188 t191 _ ?side1 ?side2 A10.out).mono ?_
        (case side1 => repeat (first | exact (Kd.R_reads' HO190.out).2.2 | (with_reducible refine Kd.C_alloc ?_ _) | (with_reducible refine Kd.C_drewN ?_ _) | (with_reducible refine Kd.C_drew ?_)))
        (case side2 => exact (Kd.R_reads' HO190.out).2.1)
        rintro e w23 ⟨rfl, hb⟩
        refine ⟨_, rfl, ?_⟩
        have n0_ := Aside0.mk (Kd.R_below (by (with_reducible repeat (first | apply Kd.R_alloc | apply Kd.R_drewN | apply Kd.R_drew)); exact HO190.out) hb)
        have n1_ := Aside0.mk (blk_below (g := gb182) (o := .cells #[.string a0_0, .int .u8 a0_1, .string a0_2, .string a0_3] 41 (0, 0)) (by (with_reducible repeat (first | refine blk_drewN ?_ _ | refine blk_drew ?_ | refine blk_alloc ?_ _)); exact BK182.out) hb)
        have n2_ := Aside0.mk (blk_below (g := gb183) (o := .cells #[.int .i64 a1_0, .string a1_1, .slice A1_2 l1_2.length c1_2, .int .u32 a1_3, .int .i64 a1_4, .int .u64 a1_5, .int .u64 a1_6, .int .u64 a1_7, .bool a1_8, .bool a1_9] 26 (0, 0)) (by (with_reducible repeat (first | refine blk_drewN ?_ _ | refine blk_drew ?_ | refine blk_alloc ?_ _)); exact BK183.out) hb)
        have n3_ := Aside0.mk (below_step (by repeat (first | (with_reducible first | exact HB.out | apply below_alloc | apply pw_below_drewN | apply below_drew1 | refine below_set ?_ GE182.out | refine below_set ?_ GE183.out) | exact HB.out)) hb)
        clear HO190
        clear BK182
        clear BK183
        clear HB
        have HO190 := n0_
        have BK182 := n1_
        have BK183 := n2_
        have HB := n3_
        clear n0_ n1_ n2_ n3_
        (try clear hb)
        (try clear hb2)
        (try clear hk)
        (try clear hi)
        refine hK.out _ _ ⟨(blk_cell BK182.out 0).trans rfl, (blk_cell BK182.out 1).trans rfl, (blk_cell BK182.out 2).trans rfl, (blk_cell BK182.out 3).trans rfl, (blk_cell BK183.out 0).trans rfl, (blk_cell BK183.out 1).trans rfl, (blk_cell BK183.out 2).trans rfl, (blk_cell BK183.out 3).trans rfl, (blk_cell BK183.out 4).trans rfl, (blk_cell BK183.out 5).trans rfl, (blk_cell BK183.out 6).trans rfl, (blk_cell BK183.out 7).trans rfl, (blk_cell BK183.out 8).trans rfl, (blk_cell BK183.out 9).trans rfl⟩ (fun hHeld => ?_)
        clear hK K
        refine norm_ (a' := ?_) ?_ ?_
        rotate_left
        · show Act.put _ (some 33) _ = _
          simp only [Act.put, List.setIfInBounds_toArray, List.set_cons_zero, List.set_cons_succ, i64_w, i32_w]
          rfl
        refine pure_ (i := 19) (N := some 4) (v := ?_) (a' := ?_) #[true, true, true, true, true, true, true, true, true, true, true, true, true, true, true, true, true, true, true, true] rfl rfl (any_of HT_.out (by kernel_rfl)) (fun _ _ _ h => h) (Or.inl ⟨by rfl, ?_⟩) ?_ ?_
        rotate_left
        · intro w'
          go_simp
          with_reducible rfl
        rotate_left
        · simp only [Act.put, List.setIfInBounds_toArray, List.set_cons_zero, List.set_cons_succ, i64_w, i32_w]
          rfl
        refine done_ (done_of HT_.out (by kernel_rfl)) ?_
        try go_wp2
        go_ret
        exact ⟨by first | rfl | (simp <;> rfl) | (simp [*] <;> rfl), by repeat (first | (with_reducible first | exact HB.out | apply below_alloc | apply pw_below_drewN | apply below_drew1 | refine below_set ?_ GE182.out | refine below_set ?_ GE183.out) | exact HB.out)⟩
      · rw [if_neg c9] at H
        exact absurd H (by simp)
    · rw [if_neg c7] at H
      exact absurd H (by simp)
  · replace c5 := Bool.eq_false_iff.mpr c5
    subst c5
    have H1 : ((script_stores.f a1_0).bind fun t192 => (if t192 = true then ((script_line.f (([a0_2, a1_1, t184, a0_3] : List ByteArray))).bind fun t196 => (some t196)) else ((script_reckons.f a1_0).bind fun t197 => (if t197 = true then ((num_Show.f a1_6).bind fun t198 => (if 1 + t198.size ≤ 9223372036854775807 then ((script_line.f (([a0_2, a1_1, (⟨#[68]⟩ : ByteArray) ++ t198, (⟨#[118]⟩ : ByteArray), a0_3] : List ByteArray))).bind fun t202 => (some t202)) else (none))) else (if a1_0 = 0 then ((script_line.f (([a0_2, a1_1, (⟨#[99]⟩ : ByteArray), (⟨#[102]⟩ : ByteArray), (⟨#[118]⟩ : ByteArray)] : List ByteArray))).bind fun t206 => (some t206)) else ((script_line.f (([a0_2, a1_1] : List ByteArray))).bind fun t210 => (some t210))))))) = some r := by rw [if_neg (show ¬ (false = true) by decide)] at H; exact H
    clear H
    have H := H1
    clear H1
    replace H := Option.bind_eq_some_iff.mp H
    obtain ⟨t192, A240, H⟩ := H
    replace H : (if t192 = true then ((script_line.f (([a0_2, a1_1, t184, a0_3] : List ByteArray))).bind fun t196 => (some t196)) else ((script_reckons.f a1_0).bind fun t197 => (if t197 = true then ((num_Show.f a1_6).bind fun t198 => (if 1 + t198.size ≤ 9223372036854775807 then ((script_line.f (([a0_2, a1_1, (⟨#[68]⟩ : ByteArray) ++ t198, (⟨#[118]⟩ : ByteArray), a0_3] : List ByteArray))).bind fun t202 => (some t202)) else (none))) else (if a1_0 = 0 then ((script_line.f (([a0_2, a1_1, (⟨#[99]⟩ : ByteArray), (⟨#[102]⟩ : ByteArray), (⟨#[118]⟩ : ByteArray)] : List ByteArray))).bind fun t206 => (some t206)) else ((script_line.f (([a0_2, a1_1] : List ByteArray))).bind fun t210 => (some t210)))))) = some r := H
    have A24 := Aside0.mk A240
    clear A240
    by_cases c25 : t192 = true
    · subst c25
      have H1 : ((script_line.f (([a0_2, a1_1, t184, a0_3] : List ByteArray))).bind fun t196 => (some t196)) = some r := by rw [if_pos rfl] at H; exact H
      clear H
      have H := H1
      clear H1
      obtain ⟨y193, hy193⟩ : ∃ y_ : List ByteArray, y_ = (([a0_2, a1_1, t184, a0_3] : List ByteArray)) := ⟨_, rfl⟩
      replace H : ((script_line.f y193).bind fun t196 => (some t196)) = some r := by first | (rw [hy193]; with_reducible exact H) | (have H2_ := (Option.bind_some _ _).symm.trans H; rw [hy193]; with_reducible exact H2_) | (have H2_ := (Option.bind_some _ _).symm.trans H; with_reducible exact H2_) | with_reducible exact H | (rw [hy193]; exact H) | exact H
      have Ny193 := Aside0.mk hy193
      clear hy193
      replace H := Option.bind_eq_some_iff.mp H
      obtain ⟨t196, A260, H⟩ := H
      replace H : (some t196) = some r := H
      have A26 := Aside0.mk A260
      clear A260
      obtain rfl := Option.some.inj H
      go_enter Tryz.func25, Tryz.ntmps25
      go_wp2_with (first | ((with_reducible refine gate_dst (N := 2) rfl ?_); refine box_event ?hg (N := 2) ?hd (cs := #[.string a0_0, .int .u8 a0_1, .string a0_2, .string a0_3]) (t := 41) ?hr ?_; (case hd => rfl); (case hg => rfl); (case hr => first | (go_simp; done) | (go_simp; rfl)); intro gb182 hg w27 hbox hb; have n0_ := Aside0.mk (below_step (by repeat (first | (with_reducible first | exact HB.out | apply below_alloc | apply pw_below_drewN | apply below_drew1) | exact HB.out)) hb); have n1_ := Aside0.mk (hbox); have n2_ := Aside0.mk ((by rw [hg]; exact (below_size (by repeat (first | (with_reducible first | exact HB.out | apply below_alloc | apply pw_below_drewN | apply below_drew1) | exact HB.out))) : w.heap.size ≤ gb182)); have n3_ := Aside0.mk ((by rw [hg]; exact (below_size (by repeat (first | (with_reducible first | exact HB.out | apply below_alloc | apply pw_below_drewN | apply below_drew1) | exact HB.out))) : w.heap.size ≤ gb182)); clear HB; have HB := n0_; have BK182 := n1_; have GW182 := n2_; have GE182 := n3_; clear n0_ n1_ n2_ n3_; clear hb hbox hg) | ((with_reducible refine gate_dst (N := 3) rfl ?_); refine box_event ?hg (N := 3) ?hd (cs := #[.int .i64 a1_0, .string a1_1, .slice A1_2 l1_2.length c1_2, .int .u32 a1_3, .int .i64 a1_4, .int .u64 a1_5, .int .u64 a1_6, .int .u64 a1_7, .bool a1_8, .bool a1_9]) (t := 26) ?hr ?_; (case hd => rfl); (case hg => rfl); (case hr => first | (go_simp; done) | (go_simp; rfl)); intro gb183 hg w28 hbox hb; have n0_ := Aside0.mk (blk_below (g := gb182) (o := .cells #[.string a0_0, .int .u8 a0_1, .string a0_2, .string a0_3] 41 (0, 0)) (by (with_reducible repeat (first | refine blk_drewN ?_ _ | refine blk_drew ?_ | refine blk_alloc ?_ _)); exact BK182.out) hb); have n1_ := Aside0.mk (below_step (by repeat (first | (with_reducible first | exact HB.out | apply below_alloc | apply pw_below_drewN | apply below_drew1 | refine below_set ?_ GE182.out) | exact HB.out)) hb); have n2_ := Aside0.mk (hbox); have n3_ := Aside0.mk ((by rw [hg]; exact (below_size (by repeat (first | (with_reducible first | exact HB.out | apply below_alloc | apply pw_below_drewN | apply below_drew1 | refine below_set ?_ GE182.out) | exact HB.out))) : w.heap.size ≤ gb183)); have n4_ := Aside0.mk ((by rw [hg]; exact (below_size (by repeat (first | (with_reducible first | exact HB.out | apply below_alloc | apply pw_below_drewN | apply below_drew1 | refine below_set ?_ GE182.out) | exact HB.out))) : w.heap.size ≤ gb183)); have n5_ := Aside0.mk ((by rw [hg]; exact Nat.ne_of_lt (blk_lt (g := gb182) (o := .cells #[.string a0_0, .int .u8 a0_1, .string a0_2, .string a0_3] 41 (0, 0)) (by (with_reducible repeat (first | refine blk_drewN ?_ _ | refine blk_drew ?_ | refine blk_alloc ?_ _)); exact BK182.out)) : gb182 ≠ gb183)); have n6_ := Aside0.mk ((by rw [hg]; exact Nat.ne_of_gt (blk_lt (g := gb182) (o := .cells #[.string a0_0, .int .u8 a0_1, .string a0_2, .string a0_3] 41 (0, 0)) (by (with_reducible repeat (first | refine blk_drewN ?_ _ | refine blk_drew ?_ | refine blk_alloc ?_ _)); exact BK182.out)) : gb183 ≠ gb182)); clear BK182; clear HB; have BK182 := n0_; have HB := n1_; have BK183 := n2_; have GW183 := n3_; have GE183 := n4_; have NB182_183 := n5_; have NB183_182 := n6_; clear n0_ n1_ n2_ n3_ n4_ n5_ n6_; clear hb hbox hg; have hnb29 := NB183_182.out; have hnc29 := NB182_183.out; have hcz30_0 : w28.cell? ⟨gb183, 0, none⟩ = some (.int .i64 a1_0) := (blk_cell BK183.out 0).trans rfl; have hcz30_1 : w28.cell? ⟨gb183, 1, none⟩ = some (.string a1_1) := (blk_cell BK183.out 1).trans rfl; have hcz30_2 : w28.cell? ⟨gb183, 2, none⟩ = some (.slice A1_2 l1_2.length c1_2) := (blk_cell BK183.out 2).trans rfl; have hcz30_3 : w28.cell? ⟨gb183, 3, none⟩ = some (.int .u32 a1_3) := (blk_cell BK183.out 3).trans rfl; have hcz30_4 : w28.cell? ⟨gb183, 4, none⟩ = some (.int .i64 a1_4) := (blk_cell BK183.out 4).trans rfl; have hcz30_5 : w28.cell? ⟨gb183, 5, none⟩ = some (.int .u64 a1_5) := (blk_cell BK183.out 5).trans rfl; have hcz30_6 : w28.cell? ⟨gb183, 6, none⟩ = some (.int .u64 a1_6) := (blk_cell BK183.out 6).trans rfl; have hcz30_7 : w28.cell? ⟨gb183, 7, none⟩ = some (.int .u64 a1_7) := (blk_cell BK183.out 7).trans rfl; have hcz30_8 : w28.cell? ⟨gb183, 8, none⟩ = some (.bool a1_8) := (blk_cell BK183.out 8).trans rfl; have hcz30_9 : w28.cell? ⟨gb183, 9, none⟩ = some (.bool a1_9) := (blk_cell BK183.out 9).trans rfl; have hfz30_0 := blk_frozen BK183.out 0; have hfz30_1 := blk_frozen BK183.out 1; have hfz30_2 := blk_frozen BK183.out 2; have hfz30_3 := blk_frozen BK183.out 3; have hfz30_4 := blk_frozen BK183.out 4; have hfz30_5 := blk_frozen BK183.out 5; have hfz30_6 := blk_frozen BK183.out 6; have hfz30_7 := blk_frozen BK183.out 7; have hfz30_8 := blk_frozen BK183.out 8; have hfz30_9 := blk_frozen BK183.out 9) | ((with_reducible refine gate_callee (f := 43) rfl ?_); refine goesL_ (some 10) rfl rfl Tryz.func43 (by kernel_rfl) rfl #[.int .u64 (IntKind.u64.wrap ((l1_2.length : Int)))] rfl (by (try simp only [List.map_toArray, List.map_cons, List.map_nil]); first | done | rfl | (simp only [List.length_drop, List.length_take]; rfl)) ?_; (with_reducible refine (num_Show.calls (IntKind.u64.wrap ((l1_2.length : Int))) t184 _ ?side1 A3.out).mono ?_); (case side1 => exact Tabs.below HT.out (by repeat (first | (with_reducible first | exact HB.out | apply below_alloc | apply pw_below_drewN | apply below_drew1 | refine below_set ?_ GE182.out | refine below_set ?_ GE183.out) | exact HB.out))); rintro e w31 ⟨rfl, hb⟩; refine ⟨_, rfl, ?_⟩; have n0_ := Aside0.mk (blk_below (g := gb182) (o := .cells #[.string a0_0, .int .u8 a0_1, .string a0_2, .string a0_3] 41 (0, 0)) (by (with_reducible repeat (first | refine blk_drewN ?_ _ | refine blk_drew ?_ | refine blk_alloc ?_ _)); exact BK182.out) hb); have n1_ := Aside0.mk (blk_below (g := gb183) (o := .cells #[.int .i64 a1_0, .string a1_1, .slice A1_2 l1_2.length c1_2, .int .u32 a1_3, .int .i64 a1_4, .int .u64 a1_5, .int .u64 a1_6, .int .u64 a1_7, .bool a1_8, .bool a1_9] 26 (0, 0)) (by (with_reducible repeat (first | refine blk_drewN ?_ _ | refine blk_drew ?_ | refine blk_alloc ?_ _)); exact BK183.out) hb); have n2_ := Aside0.mk (below_step (by repeat (first | (with_reducible first | exact HB.out | apply below_alloc | apply pw_below_drewN | apply below_drew1 | refine below_set ?_ GE182.out | refine below_set ?_ GE183.out) | exact HB.out)) hb); clear BK182; clear BK183; clear HB; have BK182 := n0_; have BK183 := n1_; have HB := n2_; clear n0_ n1_ n2_; (try clear hb); (try clear hb2); (try clear hk); (try clear hi); have hcz32_0 : w31.cell? ⟨gb183, 0, none⟩ = some (.int .i64 a1_0) := (blk_cell BK183.out 0).trans rfl; have hcz32_1 : w31.cell? ⟨gb183, 1, none⟩ = some (.string a1_1) := (blk_cell BK183.out 1).trans rfl; have hcz32_2 : w31.cell? ⟨gb183, 2, none⟩ = some (.slice A1_2 l1_2.length c1_2) := (blk_cell BK183.out 2).trans rfl; have hcz32_3 : w31.cell? ⟨gb183, 3, none⟩ = some (.int .u32 a1_3) := (blk_cell BK183.out 3).trans rfl; have hcz32_4 : w31.cell? ⟨gb183, 4, none⟩ = some (.int .i64 a1_4) := (blk_cell BK183.out 4).trans rfl; have hcz32_5 : w31.cell? ⟨gb183, 5, none⟩ = some (.int .u64 a1_5) := (blk_cell BK183.out 5).trans rfl; have hcz32_6 : w31.cell? ⟨gb183, 6, none⟩ = some (.int .u64 a1_6) := (blk_cell BK183.out 6).trans rfl; have hcz32_7 : w31.cell? ⟨gb183, 7, none⟩ = some (.int .u64 a1_7) := (blk_cell BK183.out 7).trans rfl; have hcz32_8 : w31.cell? ⟨gb183, 8, none⟩ = some (.bool a1_8) := (blk_cell BK183.out 8).trans rfl; have hcz32_9 : w31.cell? ⟨gb183, 9, none⟩ = some (.bool a1_9) := (blk_cell BK183.out 9).trans rfl; have hfz32_0 := blk_frozen BK183.out 0; have hfz32_1 := blk_frozen BK183.out 1; have hfz32_2 := blk_frozen BK183.out 2; have hfz32_3 := blk_frozen BK183.out 3; have hfz32_4 := blk_frozen BK183.out 4; have hfz32_5 := blk_frozen BK183.out 5; have hfz32_6 := blk_frozen BK183.out 6; have hfz32_7 := blk_frozen BK183.out 7; have hfz32_8 := blk_frozen BK183.out 8; have hfz32_9 := blk_frozen BK183.out 9) | ((with_reducible refine gate_callee (f := 44) rfl ?_); refine goesL_ (some 14) rfl rfl Tryz.func44 (by kernel_rfl) rfl #[.int .i64 a1_0] rfl (by (try simp only [List.map_toArray, List.map_cons, List.map_nil]); first | done | rfl | (simp only [List.length_drop, List.length_take]; rfl)) ?_; (with_reducible refine (script_whole.calls a1_0 false _ A4.out).mono ?_); rintro e w' ⟨rfl, ⟨nd, rfl⟩⟩; refine ⟨_, rfl, ?_⟩) | ((with_reducible refine gate_callee (f := 26) rfl ?_); refine goesL_ (some 37) rfl rfl Tryz.func26 (by kernel_rfl) rfl #[.int .i64 a1_0] rfl (by (try simp only [List.map_toArray, List.map_cons, List.map_nil]); first | done | rfl | (simp only [List.length_drop, List.length_take]; rfl)) ?_; (with_reducible refine (script_stores.calls a1_0 true _ A24.out).mono ?_); rintro e w' ⟨rfl, ⟨nd, rfl⟩⟩; refine ⟨_, rfl, ?_⟩; have hcz33_0 : w31.cell? ⟨gb182, 0, none⟩ = some (.string a0_0) := (blk_cell BK182.out 0).trans rfl; have hcz33_1 : w31.cell? ⟨gb182, 1, none⟩ = some (.int .u8 a0_1) := (blk_cell BK182.out 1).trans rfl; have hcz33_2 : w31.cell? ⟨gb182, 2, none⟩ = some (.string a0_2) := (blk_cell BK182.out 2).trans rfl; have hcz33_3 : w31.cell? ⟨gb182, 3, none⟩ = some (.string a0_3) := (blk_cell BK182.out 3).trans rfl; have hfz33_0 := blk_frozen BK182.out 0; have hfz33_1 := blk_frozen BK182.out 1; have hfz33_2 := blk_frozen BK182.out 2; have hfz33_3 := blk_frozen BK182.out 3) | ((with_reducible refine gate_dst (N := 45) rfl ?_); refine Kd.R_lit Kd.string _ 9 ?hg (N := 45) ?hd (xs := ([a0_2, a1_1, t184, a0_3] : List ByteArray)) (inner := [.string a0_2, .string a1_1, .string t184, .string a0_3]) (ok := fun _ => True) (okp := fun _ => True) ?hr ?hp (fun _ hk => hk) trivial (Below.refl _ _) (Nat.le_refl _) (by simp) ?_; (case hd => rfl); (case hg => rfl); (case hr => first | (go_simp; done) | (go_simp; rfl)); (case hp => exact (Reps.one (show Kd.M Kd.string _ _ _ a0_2 [.string a0_2] from rfl) (Reps.one (show Kd.M Kd.string _ _ _ a1_1 [.string a1_1] from rfl) (Reps.one (show Kd.M Kd.string _ _ _ t184 [.string t184] from rfl) (Reps.one (show Kd.M Kd.string _ _ _ a0_3 [.string a0_3] from rfl) (Reps.none _ _)))))); intro v194 w34 ho35 hb hg_ hnew_; clear hg_ hnew_; (first | rw [← Ny193.out] at ho35 | (simp only [Int.reduceToNat] at ho35; rw [← Ny193.out] at ho35)); have n0_ := Aside0.mk (Kd.R_lower ho35 (below_size (by repeat (first | (with_reducible first | exact HB.out | apply below_alloc | apply pw_below_drewN | apply below_drew1 | refine below_set ?_ GE182.out | refine below_set ?_ GE183.out) | exact HB.out)))); have n1_ := Aside0.mk (blk_below (g := gb182) (o := .cells #[.string a0_0, .int .u8 a0_1, .string a0_2, .string a0_3] 41 (0, 0)) (by (with_reducible repeat (first | refine blk_drewN ?_ _ | refine blk_drew ?_ | refine blk_alloc ?_ _)); exact BK182.out) hb); have n2_ := Aside0.mk (blk_below (g := gb183) (o := .cells #[.int .i64 a1_0, .string a1_1, .slice A1_2 l1_2.length c1_2, .int .u32 a1_3, .int .i64 a1_4, .int .u64 a1_5, .int .u64 a1_6, .int .u64 a1_7, .bool a1_8, .bool a1_9] 26 (0, 0)) (by (with_reducible repeat (first | refine blk_drewN ?_ _ | refine blk_drew ?_ | refine blk_alloc ?_ _)); exact BK183.out) hb); have n3_ := Aside0.mk (below_step (by repeat (first | (with_reducible first | exact HB.out | apply below_alloc | apply pw_below_drewN | apply below_drew1 | refine below_set ?_ GE182.out | refine below_set ?_ GE183.out) | exact HB.out)) hb); clear BK182; clear BK183; clear HB; have HO195 := n0_; have BK182 := n1_; have BK183 := n2_; have HB := n3_; clear n0_ n1_ n2_ n3_; clear hb ho35; obtain ⟨Ao36, co36, eo36⟩ := Kd.R_slice HO195.out; subst eo36) | ((with_reducible refine gate_callee (f := 45) rfl ?_); refine goesL_ (some 46) rfl rfl Tryz.func45 (by kernel_rfl) rfl #[.slice Ao36 y193.length co36] rfl (by (try simp only [List.map_toArray, List.map_cons, List.map_nil]); first | done | rfl | (simp only [List.length_drop, List.length_take]; rfl)) ?_; (with_reducible refine (script_line.calls _ _ y193 t196 _ ?side1 ?side2 A26.out).mono ?_); (case side1 => repeat (first | exact (Kd.R_reads' HO195.out).2.2 | (with_reducible refine Kd.C_alloc ?_ _) | (with_reducible refine Kd.C_drewN ?_ _) | (with_reducible refine Kd.C_drew ?_))); (case side2 => exact (Kd.R_reads' HO195.out).2.1); rintro e w37 ⟨rfl, hb⟩; refine ⟨_, rfl, ?_⟩; have n0_ := Aside0.mk (Kd.R_below (by (with_reducible repeat (first | apply Kd.R_alloc | apply Kd.R_drewN | apply Kd.R_drew)); exact HO195.out) hb); have n1_ := Aside0.mk (blk_below (g := gb182) (o := .cells #[.string a0_0, .int .u8 a0_1, .string a0_2, .string a0_3] 41 (0, 0)) (by (with_reducible repeat (first | refine blk_drewN ?_ _ | refine blk_drew ?_ | refine blk_alloc ?_ _)); exact BK182.out) hb); have n2_ := Aside0.mk (blk_below (g := gb183) (o := .cells #[.int .i64 a1_0, .string a1_1, .slice A1_2 l1_2.length c1_2, .int .u32 a1_3, .int .i64 a1_4, .int .u64 a1_5, .int .u64 a1_6, .int .u64 a1_7, .bool a1_8, .bool a1_9] 26 (0, 0)) (by (with_reducible repeat (first | refine blk_drewN ?_ _ | refine blk_drew ?_ | refine blk_alloc ?_ _)); exact BK183.out) hb); have n3_ := Aside0.mk (below_step (by repeat (first | (with_reducible first | exact HB.out | apply below_alloc | apply pw_below_drewN | apply below_drew1 | refine below_set ?_ GE182.out | refine below_set ?_ GE183.out) | exact HB.out)) hb); clear HO195; clear BK182; clear BK183; clear HB; have HO195 := n0_; have BK182 := n1_; have BK183 := n2_; have HB := n3_; clear n0_ n1_ n2_ n3_; (try clear hb); (try clear hb2); (try clear hk); (try clear hi)))
      go_ret
      exact ⟨by first | rfl | (simp <;> rfl) | (simp [*] <;> rfl), by repeat (first | (with_reducible first | exact HB.out | apply below_alloc | apply pw_below_drewN | apply below_drew1 | refine below_set ?_ GE182.out | refine below_set ?_ GE183.out) | exact HB.out)⟩
    · replace c25 := Bool.eq_false_iff.mpr c25
      subst c25
      have H1 : ((script_reckons.f a1_0).bind fun t197 => (if t197 = true then ((num_Show.f a1_6).bind fun t198 => (if 1 + t198.size ≤ 9223372036854775807 then ((script_line.f (([a0_2, a1_1, (⟨#[68]⟩ : ByteArray) ++ t198, (⟨#[118]⟩ : ByteArray), a0_3] : List ByteArray))).bind fun t202 => (some t202)) else (none))) else (if a1_0 = 0 then ((script_line.f (([a0_2, a1_1, (⟨#[99]⟩ : ByteArray), (⟨#[102]⟩ : ByteArray), (⟨#[118]⟩ : ByteArray)] : List ByteArray))).bind fun t206 => (some t206)) else ((script_line.f (([a0_2, a1_1] : List ByteArray))).bind fun t210 => (some t210))))) = some r := by rw [if_neg (show ¬ (false = true) by decide)] at H; exact H
      clear H
      have H := H1
      clear H1
      replace H := Option.bind_eq_some_iff.mp H
      obtain ⟨t197, A380, H⟩ := H
      replace H : (if t197 = true then ((num_Show.f a1_6).bind fun t198 => (if 1 + t198.size ≤ 9223372036854775807 then ((script_line.f (([a0_2, a1_1, (⟨#[68]⟩ : ByteArray) ++ t198, (⟨#[118]⟩ : ByteArray), a0_3] : List ByteArray))).bind fun t202 => (some t202)) else (none))) else (if a1_0 = 0 then ((script_line.f (([a0_2, a1_1, (⟨#[99]⟩ : ByteArray), (⟨#[102]⟩ : ByteArray), (⟨#[118]⟩ : ByteArray)] : List ByteArray))).bind fun t206 => (some t206)) else ((script_line.f (([a0_2, a1_1] : List ByteArray))).bind fun t210 => (some t210)))) = some r := H
      have A38 := Aside0.mk A380
      clear A380
      by_cases c39 : t197 = true
      · subst c39
        have H1 : ((num_Show.f a1_6).bind fun t198 => (if 1 + t198.size ≤ 9223372036854775807 then ((script_line.f (([a0_2, a1_1, (⟨#[68]⟩ : ByteArray) ++ t198, (⟨#[118]⟩ : ByteArray), a0_3] : List ByteArray))).bind fun t202 => (some t202)) else (none))) = some r := by rw [if_pos rfl] at H; exact H
        clear H
        have H := H1
        clear H1
        replace H := Option.bind_eq_some_iff.mp H
        obtain ⟨t198, A400, H⟩ := H
        replace H : (if 1 + t198.size ≤ 9223372036854775807 then ((script_line.f (([a0_2, a1_1, (⟨#[68]⟩ : ByteArray) ++ t198, (⟨#[118]⟩ : ByteArray), a0_3] : List ByteArray))).bind fun t202 => (some t202)) else (none)) = some r := H
        have A40 := Aside0.mk A400
        clear A400
        by_cases c41 : 1 + t198.size ≤ 9223372036854775807
        · rw [if_pos c41] at H
          have c41b0 := eq_true c41
          have c41b1 : decide (1 + t198.size ≤ 9223372036854775807) = true := decide_eq_true c41
          try have c41b2 : (9223372036854775807 < 1 + t198.size) = False := eq_false (Nat.not_lt.2 c41)
          obtain ⟨y199, hy199⟩ : ∃ y_ : List ByteArray, y_ = (([a0_2, a1_1, (⟨#[68]⟩ : ByteArray) ++ t198, (⟨#[118]⟩ : ByteArray), a0_3] : List ByteArray)) := ⟨_, rfl⟩
          replace H : ((script_line.f y199).bind fun t202 => (some t202)) = some r := by first | (rw [hy199]; with_reducible exact H) | (have H2_ := (Option.bind_some _ _).symm.trans H; rw [hy199]; with_reducible exact H2_) | (have H2_ := (Option.bind_some _ _).symm.trans H; with_reducible exact H2_) | with_reducible exact H | (rw [hy199]; exact H) | exact H
          have Ny199 := Aside0.mk hy199
          clear hy199
          replace H := Option.bind_eq_some_iff.mp H
          obtain ⟨t202, A420, H⟩ := H
          replace H : (some t202) = some r := H
          have A42 := Aside0.mk A420
          clear A420
          obtain rfl := Option.some.inj H
          go_enter Tryz.func25, Tryz.ntmps25
          try go_wp2_with (first | ((with_reducible refine gate_dst (N := 2) rfl ?_); refine box_event ?hg (N := 2) ?hd (cs := #[.string a0_0, .int .u8 a0_1, .string a0_2, .string a0_3]) (t := 41) ?hr ?_; (case hd => rfl); (case hg => rfl); (case hr => first | (go_simp; done) | (go_simp; rfl)); intro gb182 hg w43 hbox hb; have n0_ := Aside0.mk (below_step (by repeat (first | (with_reducible first | exact HB.out | apply below_alloc | apply pw_below_drewN | apply below_drew1) | exact HB.out)) hb); have n1_ := Aside0.mk (hbox); have n2_ := Aside0.mk ((by rw [hg]; exact (below_size (by repeat (first | (with_reducible first | exact HB.out | apply below_alloc | apply pw_below_drewN | apply below_drew1) | exact HB.out))) : w.heap.size ≤ gb182)); have n3_ := Aside0.mk ((by rw [hg]; exact (below_size (by repeat (first | (with_reducible first | exact HB.out | apply below_alloc | apply pw_below_drewN | apply below_drew1) | exact HB.out))) : w.heap.size ≤ gb182)); clear HB; have HB := n0_; have BK182 := n1_; have GW182 := n2_; have GE182 := n3_; clear n0_ n1_ n2_ n3_; clear hb hbox hg) | ((with_reducible refine gate_dst (N := 3) rfl ?_); refine box_event ?hg (N := 3) ?hd (cs := #[.int .i64 a1_0, .string a1_1, .slice A1_2 l1_2.length c1_2, .int .u32 a1_3, .int .i64 a1_4, .int .u64 a1_5, .int .u64 a1_6, .int .u64 a1_7, .bool a1_8, .bool a1_9]) (t := 26) ?hr ?_; (case hd => rfl); (case hg => rfl); (case hr => first | (go_simp; done) | (go_simp; rfl)); intro gb183 hg w44 hbox hb; have n0_ := Aside0.mk (blk_below (g := gb182) (o := .cells #[.string a0_0, .int .u8 a0_1, .string a0_2, .string a0_3] 41 (0, 0)) (by (with_reducible repeat (first | refine blk_drewN ?_ _ | refine blk_drew ?_ | refine blk_alloc ?_ _)); exact BK182.out) hb); have n1_ := Aside0.mk (below_step (by repeat (first | (with_reducible first | exact HB.out | apply below_alloc | apply pw_below_drewN | apply below_drew1 | refine below_set ?_ GE182.out) | exact HB.out)) hb); have n2_ := Aside0.mk (hbox); have n3_ := Aside0.mk ((by rw [hg]; exact (below_size (by repeat (first | (with_reducible first | exact HB.out | apply below_alloc | apply pw_below_drewN | apply below_drew1 | refine below_set ?_ GE182.out) | exact HB.out))) : w.heap.size ≤ gb183)); have n4_ := Aside0.mk ((by rw [hg]; exact (below_size (by repeat (first | (with_reducible first | exact HB.out | apply below_alloc | apply pw_below_drewN | apply below_drew1 | refine below_set ?_ GE182.out) | exact HB.out))) : w.heap.size ≤ gb183)); have n5_ := Aside0.mk ((by rw [hg]; exact Nat.ne_of_lt (blk_lt (g := gb182) (o := .cells #[.string a0_0, .int .u8 a0_1, .string a0_2, .string a0_3] 41 (0, 0)) (by (with_reducible repeat (first | refine blk_drewN ?_ _ | refine blk_drew ?_ | refine blk_alloc ?_ _)); exact BK182.out)) : gb182 ≠ gb183)); have n6_ := Aside0.mk ((by rw [hg]; exact Nat.ne_of_gt (blk_lt (g := gb182) (o := .cells #[.string a0_0, .int .u8 a0_1, .string a0_2, .string a0_3] 41 (0, 0)) (by (with_reducible repeat (first | refine blk_drewN ?_ _ | refine blk_drew ?_ | refine blk_alloc ?_ _)); exact BK182.out)) : gb183 ≠ gb182)); clear BK182; clear HB; have BK182 := n0_; have HB := n1_; have BK183 := n2_; have GW183 := n3_; have GE183 := n4_; have NB182_183 := n5_; have NB183_182 := n6_; clear n0_ n1_ n2_ n3_ n4_ n5_ n6_; clear hb hbox hg; have hnb45 := NB183_182.out; have hnc45 := NB182_183.out; have hcz46_0 : w44.cell? ⟨gb183, 0, none⟩ = some (.int .i64 a1_0) := (blk_cell BK183.out 0).trans rfl; have hcz46_1 : w44.cell? ⟨gb183, 1, none⟩ = some (.string a1_1) := (blk_cell BK183.out 1).trans rfl; have hcz46_2 : w44.cell? ⟨gb183, 2, none⟩ = some (.slice A1_2 l1_2.length c1_2) := (blk_cell BK183.out 2).trans rfl; have hcz46_3 : w44.cell? ⟨gb183, 3, none⟩ = some (.int .u32 a1_3) := (blk_cell BK183.out 3).trans rfl; have hcz46_4 : w44.cell? ⟨gb183, 4, none⟩ = some (.int .i64 a1_4) := (blk_cell BK183.out 4).trans rfl; have hcz46_5 : w44.cell? ⟨gb183, 5, none⟩ = some (.int .u64 a1_5) := (blk_cell BK183.out 5).trans rfl; have hcz46_6 : w44.cell? ⟨gb183, 6, none⟩ = some (.int .u64 a1_6) := (blk_cell BK183.out 6).trans rfl; have hcz46_7 : w44.cell? ⟨gb183, 7, none⟩ = some (.int .u64 a1_7) := (blk_cell BK183.out 7).trans rfl; have hcz46_8 : w44.cell? ⟨gb183, 8, none⟩ = some (.bool a1_8) := (blk_cell BK183.out 8).trans rfl; have hcz46_9 : w44.cell? ⟨gb183, 9, none⟩ = some (.bool a1_9) := (blk_cell BK183.out 9).trans rfl; have hfz46_0 := blk_frozen BK183.out 0; have hfz46_1 := blk_frozen BK183.out 1; have hfz46_2 := blk_frozen BK183.out 2; have hfz46_3 := blk_frozen BK183.out 3; have hfz46_4 := blk_frozen BK183.out 4; have hfz46_5 := blk_frozen BK183.out 5; have hfz46_6 := blk_frozen BK183.out 6; have hfz46_7 := blk_frozen BK183.out 7; have hfz46_8 := blk_frozen BK183.out 8; have hfz46_9 := blk_frozen BK183.out 9) | ((with_reducible refine gate_callee (f := 43) rfl ?_); refine goesL_ (some 10) rfl rfl Tryz.func43 (by kernel_rfl) rfl #[.int .u64 (IntKind.u64.wrap ((l1_2.length : Int)))] rfl (by (try simp only [List.map_toArray, List.map_cons, List.map_nil]); first | done | rfl | (simp only [List.length_drop, List.length_take]; rfl)) ?_; (with_reducible refine (num_Show.calls (IntKind.u64.wrap ((l1_2.length : Int))) t184 _ ?side1 A3.out).mono ?_); (case side1 => exact Tabs.below HT.out (by repeat (first | (with_reducible first | exact HB.out | apply below_alloc | apply pw_below_drewN | apply below_drew1 | refine below_set ?_ GE182.out | refine below_set ?_ GE183.out) | exact HB.out))); rintro e w47 ⟨rfl, hb⟩; refine ⟨_, rfl, ?_⟩; have n0_ := Aside0.mk (blk_below (g := gb182) (o := .cells #[.string a0_0, .int .u8 a0_1, .string a0_2, .string a0_3] 41 (0, 0)) (by (with_reducible repeat (first | refine blk_drewN ?_ _ | refine blk_drew ?_ | refine blk_alloc ?_ _)); exact BK182.out) hb); have n1_ := Aside0.mk (blk_below (g := gb183) (o := .cells #[.int .i64 a1_0, .string a1_1, .slice A1_2 l1_2.length c1_2, .int .u32 a1_3, .int .i64 a1_4, .int .u64 a1_5, .int .u64 a1_6, .int .u64 a1_7, .bool a1_8, .bool a1_9] 26 (0, 0)) (by (with_reducible repeat (first | refine blk_drewN ?_ _ | refine blk_drew ?_ | refine blk_alloc ?_ _)); exact BK183.out) hb); have n2_ := Aside0.mk (below_step (by repeat (first | (with_reducible first | exact HB.out | apply below_alloc | apply pw_below_drewN | apply below_drew1 | refine below_set ?_ GE182.out | refine below_set ?_ GE183.out) | exact HB.out)) hb); clear BK182; clear BK183; clear HB; have BK182 := n0_; have BK183 := n1_; have HB := n2_; clear n0_ n1_ n2_; (try clear hb); (try clear hb2); (try clear hk); (try clear hi); have hcz48_0 : w47.cell? ⟨gb183, 0, none⟩ = some (.int .i64 a1_0) := (blk_cell BK183.out 0).trans rfl; have hcz48_1 : w47.cell? ⟨gb183, 1, none⟩ = some (.string a1_1) := (blk_cell BK183.out 1).trans rfl; have hcz48_2 : w47.cell? ⟨gb183, 2, none⟩ = some (.slice A1_2 l1_2.length c1_2) := (blk_cell BK183.out 2).trans rfl; have hcz48_3 : w47.cell? ⟨gb183, 3, none⟩ = some (.int .u32 a1_3) := (blk_cell BK183.out 3).trans rfl; have hcz48_4 : w47.cell? ⟨gb183, 4, none⟩ = some (.int .i64 a1_4) := (blk_cell BK183.out 4).trans rfl; have hcz48_5 : w47.cell? ⟨gb183, 5, none⟩ = some (.int .u64 a1_5) := (blk_cell BK183.out 5).trans rfl; have hcz48_6 : w47.cell? ⟨gb183, 6, none⟩ = some (.int .u64 a1_6) := (blk_cell BK183.out 6).trans rfl; have hcz48_7 : w47.cell? ⟨gb183, 7, none⟩ = some (.int .u64 a1_7) := (blk_cell BK183.out 7).trans rfl; have hcz48_8 : w47.cell? ⟨gb183, 8, none⟩ = some (.bool a1_8) := (blk_cell BK183.out 8).trans rfl; have hcz48_9 : w47.cell? ⟨gb183, 9, none⟩ = some (.bool a1_9) := (blk_cell BK183.out 9).trans rfl; have hfz48_0 := blk_frozen BK183.out 0; have hfz48_1 := blk_frozen BK183.out 1; have hfz48_2 := blk_frozen BK183.out 2; have hfz48_3 := blk_frozen BK183.out 3; have hfz48_4 := blk_frozen BK183.out 4; have hfz48_5 := blk_frozen BK183.out 5; have hfz48_6 := blk_frozen BK183.out 6; have hfz48_7 := blk_frozen BK183.out 7; have hfz48_8 := blk_frozen BK183.out 8; have hfz48_9 := blk_frozen BK183.out 9) | ((with_reducible refine gate_callee (f := 44) rfl ?_); refine goesL_ (some 14) rfl rfl Tryz.func44 (by kernel_rfl) rfl #[.int .i64 a1_0] rfl (by (try simp only [List.map_toArray, List.map_cons, List.map_nil]); first | done | rfl | (simp only [List.length_drop, List.length_take]; rfl)) ?_; (with_reducible refine (script_whole.calls a1_0 false _ A4.out).mono ?_); rintro e w' ⟨rfl, ⟨nd, rfl⟩⟩; refine ⟨_, rfl, ?_⟩) | ((with_reducible refine gate_callee (f := 26) rfl ?_); refine goesL_ (some 37) rfl rfl Tryz.func26 (by kernel_rfl) rfl #[.int .i64 a1_0] rfl (by (try simp only [List.map_toArray, List.map_cons, List.map_nil]); first | done | rfl | (simp only [List.length_drop, List.length_take]; rfl)) ?_; (with_reducible refine (script_stores.calls a1_0 false _ A24.out).mono ?_); rintro e w' ⟨rfl, ⟨nd, rfl⟩⟩; refine ⟨_, rfl, ?_⟩) | ((with_reducible refine gate_callee (f := 46) rfl ?_); refine goesL_ (some 50) rfl rfl Tryz.func46 (by kernel_rfl) rfl #[.int .i64 a1_0] rfl (by (try simp only [List.map_toArray, List.map_cons, List.map_nil]); first | done | rfl | (simp only [List.length_drop, List.length_take]; rfl)) ?_; (with_reducible refine (script_reckons.calls a1_0 true _ A38.out).mono ?_); rintro e w' ⟨rfl, ⟨nd, rfl⟩⟩; refine ⟨_, rfl, ?_⟩))
          (try (rw [drewN_self w47]; generalize hq_ : World.drewN w47 _ = w47; have n0_ : Aside0 (w47.heap[gb182]? = some (.cells #[.string a0_0, .int .u8 a0_1, .string a0_2, .string a0_3] 41 (0, 0))) := ⟨by rw [← hq_]; exact (by (with_reducible repeat (first | refine blk_drewN ?_ _ | refine blk_drew ?_ | refine blk_alloc ?_ _)); exact BK182.out)⟩; have n1_ : Aside0 (w47.heap[gb183]? = some (.cells #[.int .i64 a1_0, .string a1_1, .slice A1_2 l1_2.length c1_2, .int .u32 a1_3, .int .i64 a1_4, .int .u64 a1_5, .int .u64 a1_6, .int .u64 a1_7, .bool a1_8, .bool a1_9] 26 (0, 0))) := ⟨by rw [← hq_]; exact (by (with_reducible repeat (first | refine blk_drewN ?_ _ | refine blk_drew ?_ | refine blk_alloc ?_ _)); exact BK183.out)⟩; have n2_ : Aside0 (Below w.heap.size w w47) := ⟨by rw [← hq_]; exact (by repeat (first | (with_reducible first | exact HB.out | apply below_alloc | apply pw_below_drewN | apply below_drew1 | refine below_set ?_ GE182.out | refine below_set ?_ GE183.out) | exact HB.out))⟩; clear BK182 BK183 HB hq_; have BK182 := n0_; have BK183 := n1_; have HB := n2_; clear n0_ n1_ n2_))
          have n0_ := Aside0.mk (blk_drew BK182.out)
          have n1_ := Aside0.mk (blk_drew BK183.out)
          have n2_ := Aside0.mk (below_drew1 HB.out)
          clear BK182
          clear BK183
          clear HB
          have BK182 := n0_
          have BK183 := n1_
          have HB := n2_
          clear n0_ n1_ n2_
          refine start_ (n := 13) (S := fun w' => w'.cell? ⟨gb182, 0, none⟩ = some (.string a0_0) ∧ w'.cell? ⟨gb182, 1, none⟩ = some (.int .u8 a0_1) ∧ w'.cell? ⟨gb182, 2, none⟩ = some (.string a0_2) ∧ w'.cell? ⟨gb182, 3, none⟩ = some (.string a0_3) ∧ w'.cell? ⟨gb183, 0, none⟩ = some (.int .i64 a1_0) ∧ w'.cell? ⟨gb183, 1, none⟩ = some (.string a1_1) ∧ w'.cell? ⟨gb183, 2, none⟩ = some (.slice A1_2 l1_2.length c1_2) ∧ w'.cell? ⟨gb183, 3, none⟩ = some (.int .u32 a1_3) ∧ w'.cell? ⟨gb183, 4, none⟩ = some (.int .i64 a1_4) ∧ w'.cell? ⟨gb183, 5, none⟩ = some (.int .u64 a1_5) ∧ w'.cell? ⟨gb183, 6, none⟩ = some (.int .u64 a1_6) ∧ w'.cell? ⟨gb183, 7, none⟩ = some (.int .u64 a1_7) ∧ w'.cell? ⟨gb183, 8, none⟩ = some (.bool a1_8) ∧ w'.cell? ⟨gb183, 9, none⟩ = some (.bool a1_9)) (ds := []) #[false, false, false, false, false, false, false, false, false, false, false, false, false] (by kernel_rfl) rfl rfl ⟨(blk_cell BK182.out 0).trans rfl, (blk_cell BK182.out 1).trans rfl, (blk_cell BK182.out 2).trans rfl, (blk_cell BK182.out 3).trans rfl, (blk_cell BK183.out 0).trans rfl, (blk_cell BK183.out 1).trans rfl, (blk_cell BK183.out 2).trans rfl, (blk_cell BK183.out 3).trans rfl, (blk_cell BK183.out 4).trans rfl, (blk_cell BK183.out 5).trans rfl, (blk_cell BK183.out 6).trans rfl, (blk_cell BK183.out 7).trans rfl, (blk_cell BK183.out 8).trans rfl, (blk_cell BK183.out 9).trans rfl⟩ (fun hHeld => ?_); refine with_tabW script_meta.tab7 script_meta.bits7 (fun HT_ HW_ => ?_)
          generalize w47.drew = w49 at BK182 BK183 HB hHeld ⊢
          refine pure_ (i := 0) (N := some 51) (v := ?_) (a' := ?_) #[true, false, false, false, false, false, false, false, false, false, false, false, false] rfl rfl (any_of HT_.out (by kernel_rfl)) (fun _ _ _ h => h) (Or.inl ⟨by rfl, ?_⟩) ?_ ?_
          rotate_left
          · intro w'
            go_simp
            with_reducible rfl
          rotate_left
          · simp only [Act.put, List.setIfInBounds_toArray, List.set_cons_zero, List.set_cons_succ, i64_w, i32_w]
            rfl
          refine pure_ (i := 2) (N := some 53) (v := ?_) (a' := ?_) #[true, false, true, false, false, false, false, false, false, false, false, false, false] rfl rfl (any_of HT_.out (by kernel_rfl)) (fun _ _ _ h => h) (Or.inl ⟨by rfl, ?_⟩) ?_ ?_
          rotate_left
          · intro w'
            go_simp
            with_reducible rfl
          rotate_left
          · simp only [Act.put, List.setIfInBounds_toArray, List.set_cons_zero, List.set_cons_succ, i64_w, i32_w]
            rfl
          refine pure_ (i := 4) (N := some 55) (v := ?_) (a' := ?_) #[true, false, true, false, true, false, false, false, false, false, false, false, false] rfl rfl (any_of HT_.out (by kernel_rfl)) (fun _ _ _ h => h) (Or.inl ⟨by rfl, ?_⟩) ?_ ?_
          rotate_left
          · intro w'
            go_simp
            with_reducible rfl
          rotate_left
          · simp only [Act.put, List.setIfInBounds_toArray, List.set_cons_zero, List.set_cons_succ, i64_w, i32_w]
            rfl
          refine pure_ (i := 8) (N := some 59) (v := ?_) (a' := ?_) #[true, false, true, false, true, false, false, false, true, false, false, false, false] rfl rfl (any_of HT_.out (by kernel_rfl)) (fun _ _ _ h => h) (Or.inl ⟨by rfl, ?_⟩) ?_ ?_
          rotate_left
          · intro w'
            go_simp
            with_reducible rfl
          rotate_left
          · simp only [Act.put, List.setIfInBounds_toArray, List.set_cons_zero, List.set_cons_succ, i64_w, i32_w]
            rfl
          refine take_ (i := 1) (N := some 52) (v := ?_) (a' := ?_) #[true, true, true, false, true, false, false, false, true, false, false, false, false] rfl rfl (take_ofW HT_.out HW_.out (by kernel_rfl)) (fun _ _ _ h => h) (Or.inl ⟨by rfl, ?_⟩) hHeld ?_ ?_
          rotate_left
          · rintro w' ⟨s0, s1, s2, s3, s4, s5, s6, s7, s8, s9, s10, s11, s12, s13⟩
            go_simp
            with_reducible rfl
          rotate_left
          · simp only [Act.put, List.setIfInBounds_toArray, List.set_cons_zero, List.set_cons_succ, i64_w, i32_w]
            rfl
          refine take_ (i := 3) (N := some 54) (v := ?_) (a' := ?_) #[true, true, true, true, true, false, false, false, true, false, false, false, false] rfl rfl (take_ofW HT_.out HW_.out (by kernel_rfl)) (fun _ _ _ h => h) (Or.inl ⟨by rfl, ?_⟩) hHeld ?_ ?_
          rotate_left
          · rintro w' ⟨s0, s1, s2, s3, s4, s5, s6, s7, s8, s9, s10, s11, s12, s13⟩
            go_simp
            with_reducible rfl
          rotate_left
          · simp only [Act.put, List.setIfInBounds_toArray, List.set_cons_zero, List.set_cons_succ, i64_w, i32_w]
            rfl
          refine take_ (i := 5) (N := some 56) (v := ?_) (a' := ?_) #[true, true, true, true, true, true, false, false, true, false, false, false, false] rfl rfl (take_ofW HT_.out HW_.out (by kernel_rfl)) (fun _ _ _ h => h) (Or.inl ⟨by rfl, ?_⟩) hHeld ?_ ?_
          rotate_left
          · rintro w' ⟨s0, s1, s2, s3, s4, s5, s6, s7, s8, s9, s10, s11, s12, s13⟩
            go_simp
            with_reducible rfl
          rotate_left
          · simp only [Act.put, List.setIfInBounds_toArray, List.set_cons_zero, List.set_cons_succ, i64_w, i32_w]
            rfl
          refine take_ (i := 9) (N := some 60) (v := ?_) (a' := ?_) #[true, true, true, true, true, true, false, false, true, true, false, false, false] rfl rfl (take_ofW HT_.out HW_.out (by kernel_rfl)) (fun _ _ _ h => h) (Or.inl ⟨by rfl, ?_⟩) hHeld ?_ ?_
          rotate_left
          · rintro w' ⟨s0, s1, s2, s3, s4, s5, s6, s7, s8, s9, s10, s11, s12, s13⟩
            go_simp
            with_reducible rfl
          rotate_left
          · simp only [Act.put, List.setIfInBounds_toArray, List.set_cons_zero, List.set_cons_succ, i64_w, i32_w]
            rfl
          refine one_ (i := 6) (N := some 57) #[true, true, true, true, true, true, true, false, true, true, false, false, false] rfl rfl (one_of HT_.out (by kernel_rfl)) (by decide) (fun K hK => ?_)
          refine goes_ Tryz.func43 (by kernel_rfl) rfl #[.int .u64 a1_6] (by rfl) rfl rfl (by (try simp only [List.map_toArray, List.map_cons, List.map_nil]); first | done | rfl | (simp only [List.length_drop, List.length_take]; rfl)) ?_
          with_reducible refine (num_Show.calls a1_6 t198 _ ?side1 A40.out).mono ?_
          (case side1 => exact Tabs.below HT.out (by repeat (first | (with_reducible first | exact HB.out | apply below_alloc | apply pw_below_drewN | apply below_drew1 | refine below_set ?_ GE182.out | refine below_set ?_ GE183.out) | exact HB.out)))
          rintro e w50 ⟨rfl, hb⟩
          refine ⟨_, rfl, ?_⟩
          have n0_ := Aside0.mk (blk_below (g := gb182) (o := .cells #[.string a0_0, .int .u8 a0_1, .string a0_2, .string a0_3] 41 (0, 0)) (by (with_reducible repeat (first | refine blk_drewN ?_ _ | refine blk_drew ?_ | refine blk_alloc ?_ _)); exact BK182.out) hb)
          have n1_ := Aside0.mk (blk_below (g := gb183) (o := .cells #[.int .i64 a1_0, .string a1_1, .slice A1_2 l1_2.length c1_2, .int .u32 a1_3, .int .i64 a1_4, .int .u64 a1_5, .int .u64 a1_6, .int .u64 a1_7, .bool a1_8, .bool a1_9] 26 (0, 0)) (by (with_reducible repeat (first | refine blk_drewN ?_ _ | refine blk_drew ?_ | refine blk_alloc ?_ _)); exact BK183.out) hb)
          have n2_ := Aside0.mk (below_step (by repeat (first | (with_reducible first | exact HB.out | apply below_alloc | apply pw_below_drewN | apply below_drew1 | refine below_set ?_ GE182.out | refine below_set ?_ GE183.out) | exact HB.out)) hb)
          clear BK182
          clear BK183
          clear HB
          have BK182 := n0_
          have BK183 := n1_
          have HB := n2_
          clear n0_ n1_ n2_
          (try clear hb)
          (try clear hb2)
          (try clear hk)
          (try clear hi)
          refine hK.out _ _ ⟨(blk_cell BK182.out 0).trans rfl, (blk_cell BK182.out 1).trans rfl, (blk_cell BK182.out 2).trans rfl, (blk_cell BK182.out 3).trans rfl, (blk_cell BK183.out 0).trans rfl, (blk_cell BK183.out 1).trans rfl, (blk_cell BK183.out 2).trans rfl, (blk_cell BK183.out 3).trans rfl, (blk_cell BK183.out 4).trans rfl, (blk_cell BK183.out 5).trans rfl, (blk_cell BK183.out 6).trans rfl, (blk_cell BK183.out 7).trans rfl, (blk_cell BK183.out 8).trans rfl, (blk_cell BK183.out 9).trans rfl⟩ (fun hHeld => ?_)
          clear hK K
          refine norm_ (a' := ?_) ?_ ?_
          rotate_left
          · show Act.put _ (some 57) _ = _
            simp only [Act.put, List.setIfInBounds_toArray, List.set_cons_zero, List.set_cons_succ, i64_w, i32_w]
            rfl
          refine pure_ (i := 7) (N := some 58) (v := ?_) (a' := ?_) #[true, true, true, true, true, true, true, true, true, true, false, false, false] rfl rfl (any_of HT_.out (by kernel_rfl)) (fun _ _ _ h => h) (Or.inl ⟨by rfl, ?_⟩) ?_ ?_
          rotate_left
          · intro w'
            go_simp
            with_reducible rfl
          rotate_left
          · simp only [Act.put, List.setIfInBounds_toArray, List.set_cons_zero, List.set_cons_succ, i64_w, i32_w]
            rfl
          refine one_ (i := 10) (N := some 61) #[true, true, true, true, true, true, true, true, true, true, true, false, false] rfl rfl (one_of HT_.out (by kernel_rfl)) (by decide) (fun K hK => ?_)
          refine Kd.R_lit_step Kd.string _ 9 ?hg (N := 61) ?hd (xs := ([a0_2, a1_1, (⟨#[68]⟩ : ByteArray) ++ t198, (⟨#[118]⟩ : ByteArray), a0_3] : List ByteArray)) (inner := [.string a0_2, .string a1_1, .string ((⟨#[68]⟩ : ByteArray) ++ t198), .string (⟨#[118]⟩ : ByteArray), .string a0_3]) (ok := fun _ => True) (okp := fun _ => True) ?hr ?hp (fun _ hk => hk) trivial (Below.refl _ _) (Nat.le_refl _) (by simp) ?_; (case hd => rfl); (case hg => rfl); (case hr => first | (go_simp; done) | (go_simp; rfl)); (case hp => exact (Reps.one (show Kd.M Kd.string _ _ _ a0_2 [.string a0_2] from rfl) (Reps.one (show Kd.M Kd.string _ _ _ a1_1 [.string a1_1] from rfl) (Reps.one (show Kd.M Kd.string _ _ _ ((⟨#[68]⟩ : ByteArray) ++ t198) [.string ((⟨#[68]⟩ : ByteArray) ++ t198)] from rfl) (Reps.one (show Kd.M Kd.string _ _ _ (⟨#[118]⟩ : ByteArray) [.string (⟨#[118]⟩ : ByteArray)] from rfl) (Reps.one (show Kd.M Kd.string _ _ _ a0_3 [.string a0_3] from rfl) (Reps.none _ _)))))))
          intro v200 w51 ho52 hb hg_ hnew_
          clear hg_ hnew_
          (first | rw [← Ny199.out] at ho52 | (simp only [Int.reduceToNat] at ho52; rw [← Ny199.out] at ho52))
          have n0_ := Aside0.mk (Kd.R_lower ho52 (below_size (by repeat (first | (with_reducible first | exact HB.out | apply below_alloc | apply pw_below_drewN | apply below_drew1 | refine below_set ?_ GE182.out | refine below_set ?_ GE183.out) | exact HB.out))))
          have n1_ := Aside0.mk (blk_below (g := gb182) (o := .cells #[.string a0_0, .int .u8 a0_1, .string a0_2, .string a0_3] 41 (0, 0)) (by (with_reducible repeat (first | refine blk_drewN ?_ _ | refine blk_drew ?_ | refine blk_alloc ?_ _)); exact BK182.out) hb)
          have n2_ := Aside0.mk (blk_below (g := gb183) (o := .cells #[.int .i64 a1_0, .string a1_1, .slice A1_2 l1_2.length c1_2, .int .u32 a1_3, .int .i64 a1_4, .int .u64 a1_5, .int .u64 a1_6, .int .u64 a1_7, .bool a1_8, .bool a1_9] 26 (0, 0)) (by (with_reducible repeat (first | refine blk_drewN ?_ _ | refine blk_drew ?_ | refine blk_alloc ?_ _)); exact BK183.out) hb)
          have n3_ := Aside0.mk (below_step (by repeat (first | (with_reducible first | exact HB.out | apply below_alloc | apply pw_below_drewN | apply below_drew1 | refine below_set ?_ GE182.out | refine below_set ?_ GE183.out) | exact HB.out)) hb)
          clear BK182
          clear BK183
          clear HB
          have HO201 := n0_
          have BK182 := n1_
          have BK183 := n2_
          have HB := n3_
          clear n0_ n1_ n2_ n3_
          clear hb ho52
          obtain ⟨Ao53, co53, eo53⟩ := Kd.R_slice HO201.out
          (first | subst eo53 | (injection eo53 with f1_ f2_ f3_; have f4_ := f1_.symm; have f5_ := f3_.symm; clear f1_ f2_ f3_; subst f4_; subst f5_))
          refine hK.out _ _ ⟨(blk_cell BK182.out 0).trans rfl, (blk_cell BK182.out 1).trans rfl, (blk_cell BK182.out 2).trans rfl, (blk_cell BK182.out 3).trans rfl, (blk_cell BK183.out 0).trans rfl, (blk_cell BK183.out 1).trans rfl, (blk_cell BK183.out 2).trans rfl, (blk_cell BK183.out 3).trans rfl, (blk_cell BK183.out 4).trans rfl, (blk_cell BK183.out 5).trans rfl, (blk_cell BK183.out 6).trans rfl, (blk_cell BK183.out 7).trans rfl, (blk_cell BK183.out 8).trans rfl, (blk_cell BK183.out 9).trans rfl⟩ (fun hHeld => ?_)
          clear hK K
          refine norm_ (a' := ?_) ?_ ?_
          rotate_left
          · show Act.put _ (some 61) _ = _
            simp only [Act.put, List.setIfInBounds_toArray, List.set_cons_zero, List.set_cons_succ, i64_w, i32_w]
            rfl
          refine one_ (i := 11) (N := some 62) #[true, true, true, true, true, true, true, true, true, true, true, true, false] rfl rfl (one_of HT_.out (by kernel_rfl)) (by decide) (fun K hK => ?_)
          refine goes_ Tryz.func45 (by kernel_rfl) rfl #[.slice Ao53 y199.length co53] (by rfl) rfl rfl (by (try simp only [List.map_toArray, List.map_cons, List.map_nil]); first | done | rfl | (simp only [List.length_drop, List.length_take]; rfl)) ?_
          with_reducible refine (script_line.calls _ _ y199 t202 _ ?side1 ?side2 A42.out).mono ?_
          (case side1 => repeat (first | exact (Kd.R_reads' HO201.out).2.2 | (with_reducible refine Kd.C_alloc ?_ _) | (with_reducible refine Kd.C_drewN ?_ _) | (with_reducible refine Kd.C_drew ?_)))
          (case side2 => exact (Kd.R_reads' HO201.out).2.1)
          rintro e w54 ⟨rfl, hb⟩
          refine ⟨_, rfl, ?_⟩
          have n0_ := Aside0.mk (Kd.R_below (by (with_reducible repeat (first | apply Kd.R_alloc | apply Kd.R_drewN | apply Kd.R_drew)); exact HO201.out) hb)
          have n1_ := Aside0.mk (blk_below (g := gb182) (o := .cells #[.string a0_0, .int .u8 a0_1, .string a0_2, .string a0_3] 41 (0, 0)) (by (with_reducible repeat (first | refine blk_drewN ?_ _ | refine blk_drew ?_ | refine blk_alloc ?_ _)); exact BK182.out) hb)
          have n2_ := Aside0.mk (blk_below (g := gb183) (o := .cells #[.int .i64 a1_0, .string a1_1, .slice A1_2 l1_2.length c1_2, .int .u32 a1_3, .int .i64 a1_4, .int .u64 a1_5, .int .u64 a1_6, .int .u64 a1_7, .bool a1_8, .bool a1_9] 26 (0, 0)) (by (with_reducible repeat (first | refine blk_drewN ?_ _ | refine blk_drew ?_ | refine blk_alloc ?_ _)); exact BK183.out) hb)
          have n3_ := Aside0.mk (below_step (by repeat (first | (with_reducible first | exact HB.out | apply below_alloc | apply pw_below_drewN | apply below_drew1 | refine below_set ?_ GE182.out | refine below_set ?_ GE183.out) | exact HB.out)) hb)
          clear HO201
          clear BK182
          clear BK183
          clear HB
          have HO201 := n0_
          have BK182 := n1_
          have BK183 := n2_
          have HB := n3_
          clear n0_ n1_ n2_ n3_
          (try clear hb)
          (try clear hb2)
          (try clear hk)
          (try clear hi)
          refine hK.out _ _ ⟨(blk_cell BK182.out 0).trans rfl, (blk_cell BK182.out 1).trans rfl, (blk_cell BK182.out 2).trans rfl, (blk_cell BK182.out 3).trans rfl, (blk_cell BK183.out 0).trans rfl, (blk_cell BK183.out 1).trans rfl, (blk_cell BK183.out 2).trans rfl, (blk_cell BK183.out 3).trans rfl, (blk_cell BK183.out 4).trans rfl, (blk_cell BK183.out 5).trans rfl, (blk_cell BK183.out 6).trans rfl, (blk_cell BK183.out 7).trans rfl, (blk_cell BK183.out 8).trans rfl, (blk_cell BK183.out 9).trans rfl⟩ (fun hHeld => ?_)
          clear hK K
          refine norm_ (a' := ?_) ?_ ?_
          rotate_left
          · show Act.put _ (some 62) _ = _
            simp only [Act.put, List.setIfInBounds_toArray, List.set_cons_zero, List.set_cons_succ, i64_w, i32_w]
            rfl
          refine pure_ (i := 12) (N := some 4) (v := ?_) (a' := ?_) #[true, true, true, true, true, true, true, true, true, true, true, true, true] rfl rfl (any_of HT_.out (by kernel_rfl)) (fun _ _ _ h => h) (Or.inl ⟨by rfl, ?_⟩) ?_ ?_
          rotate_left
          · intro w'
            go_simp
            with_reducible rfl
          rotate_left
          · simp only [Act.put, List.setIfInBounds_toArray, List.set_cons_zero, List.set_cons_succ, i64_w, i32_w]
            rfl
          refine done_ (done_of HT_.out (by kernel_rfl)) ?_
          try go_wp2
          go_ret
          exact ⟨by first | rfl | (simp <;> rfl) | (simp [*] <;> rfl), by repeat (first | (with_reducible first | exact HB.out | apply below_alloc | apply pw_below_drewN | apply below_drew1 | refine below_set ?_ GE182.out | refine below_set ?_ GE183.out) | exact HB.out)⟩
        · rw [if_neg c41] at H
          exact absurd H (by simp)
      · replace c39 := Bool.eq_false_iff.mpr c39
        subst c39
        have H1 : (if a1_0 = 0 then ((script_line.f (([a0_2, a1_1, (⟨#[99]⟩ : ByteArray), (⟨#[102]⟩ : ByteArray), (⟨#[118]⟩ : ByteArray)] : List ByteArray))).bind fun t206 => (some t206)) else ((script_line.f (([a0_2, a1_1] : List ByteArray))).bind fun t210 => (some t210))) = some r := by rw [if_neg (show ¬ (false = true) by decide)] at H; exact H
        clear H
        have H := H1
        clear H1
        by_cases c55 : a1_0 = 0
        · rw [if_pos c55] at H
          have c55b0 : (a1_0 == 0) = true := beq_iff_eq.mpr c55
          have c55b1 : (a1_0 != 0) = false := bne_eq_false_iff_eq.mpr c55
          clear c55
          obtain ⟨y203, hy203⟩ : ∃ y_ : List ByteArray, y_ = (([a0_2, a1_1, (⟨#[99]⟩ : ByteArray), (⟨#[102]⟩ : ByteArray), (⟨#[118]⟩ : ByteArray)] : List ByteArray)) := ⟨_, rfl⟩
          replace H : ((script_line.f y203).bind fun t206 => (some t206)) = some r := by first | (rw [hy203]; with_reducible exact H) | (have H2_ := (Option.bind_some _ _).symm.trans H; rw [hy203]; with_reducible exact H2_) | (have H2_ := (Option.bind_some _ _).symm.trans H; with_reducible exact H2_) | with_reducible exact H | (rw [hy203]; exact H) | exact H
          have Ny203 := Aside0.mk hy203
          clear hy203
          replace H := Option.bind_eq_some_iff.mp H
          obtain ⟨t206, A560, H⟩ := H
          replace H : (some t206) = some r := H
          have A56 := Aside0.mk A560
          clear A560
          obtain rfl := Option.some.inj H
          go_enter Tryz.func25, Tryz.ntmps25
          go_wp2_with (first | ((with_reducible refine gate_dst (N := 2) rfl ?_); refine box_event ?hg (N := 2) ?hd (cs := #[.string a0_0, .int .u8 a0_1, .string a0_2, .string a0_3]) (t := 41) ?hr ?_; (case hd => rfl); (case hg => rfl); (case hr => first | (go_simp; done) | (go_simp; rfl)); intro gb182 hg w57 hbox hb; have n0_ := Aside0.mk (below_step (by repeat (first | (with_reducible first | exact HB.out | apply below_alloc | apply pw_below_drewN | apply below_drew1) | exact HB.out)) hb); have n1_ := Aside0.mk (hbox); have n2_ := Aside0.mk ((by rw [hg]; exact (below_size (by repeat (first | (with_reducible first | exact HB.out | apply below_alloc | apply pw_below_drewN | apply below_drew1) | exact HB.out))) : w.heap.size ≤ gb182)); have n3_ := Aside0.mk ((by rw [hg]; exact (below_size (by repeat (first | (with_reducible first | exact HB.out | apply below_alloc | apply pw_below_drewN | apply below_drew1) | exact HB.out))) : w.heap.size ≤ gb182)); clear HB; have HB := n0_; have BK182 := n1_; have GW182 := n2_; have GE182 := n3_; clear n0_ n1_ n2_ n3_; clear hb hbox hg) | ((with_reducible refine gate_dst (N := 3) rfl ?_); refine box_event ?hg (N := 3) ?hd (cs := #[.int .i64 a1_0, .string a1_1, .slice A1_2 l1_2.length c1_2, .int .u32 a1_3, .int .i64 a1_4, .int .u64 a1_5, .int .u64 a1_6, .int .u64 a1_7, .bool a1_8, .bool a1_9]) (t := 26) ?hr ?_; (case hd => rfl); (case hg => rfl); (case hr => first | (go_simp; done) | (go_simp; rfl)); intro gb183 hg w58 hbox hb; have n0_ := Aside0.mk (blk_below (g := gb182) (o := .cells #[.string a0_0, .int .u8 a0_1, .string a0_2, .string a0_3] 41 (0, 0)) (by (with_reducible repeat (first | refine blk_drewN ?_ _ | refine blk_drew ?_ | refine blk_alloc ?_ _)); exact BK182.out) hb); have n1_ := Aside0.mk (below_step (by repeat (first | (with_reducible first | exact HB.out | apply below_alloc | apply pw_below_drewN | apply below_drew1 | refine below_set ?_ GE182.out) | exact HB.out)) hb); have n2_ := Aside0.mk (hbox); have n3_ := Aside0.mk ((by rw [hg]; exact (below_size (by repeat (first | (with_reducible first | exact HB.out | apply below_alloc | apply pw_below_drewN | apply below_drew1 | refine below_set ?_ GE182.out) | exact HB.out))) : w.heap.size ≤ gb183)); have n4_ := Aside0.mk ((by rw [hg]; exact (below_size (by repeat (first | (with_reducible first | exact HB.out | apply below_alloc | apply pw_below_drewN | apply below_drew1 | refine below_set ?_ GE182.out) | exact HB.out))) : w.heap.size ≤ gb183)); have n5_ := Aside0.mk ((by rw [hg]; exact Nat.ne_of_lt (blk_lt (g := gb182) (o := .cells #[.string a0_0, .int .u8 a0_1, .string a0_2, .string a0_3] 41 (0, 0)) (by (with_reducible repeat (first | refine blk_drewN ?_ _ | refine blk_drew ?_ | refine blk_alloc ?_ _)); exact BK182.out)) : gb182 ≠ gb183)); have n6_ := Aside0.mk ((by rw [hg]; exact Nat.ne_of_gt (blk_lt (g := gb182) (o := .cells #[.string a0_0, .int .u8 a0_1, .string a0_2, .string a0_3] 41 (0, 0)) (by (with_reducible repeat (first | refine blk_drewN ?_ _ | refine blk_drew ?_ | refine blk_alloc ?_ _)); exact BK182.out)) : gb183 ≠ gb182)); clear BK182; clear HB; have BK182 := n0_; have HB := n1_; have BK183 := n2_; have GW183 := n3_; have GE183 := n4_; have NB182_183 := n5_; have NB183_182 := n6_; clear n0_ n1_ n2_ n3_ n4_ n5_ n6_; clear hb hbox hg; have hnb59 := NB183_182.out; have hnc59 := NB182_183.out; have hcz60_0 : w58.cell? ⟨gb183, 0, none⟩ = some (.int .i64 a1_0) := (blk_cell BK183.out 0).trans rfl; have hcz60_1 : w58.cell? ⟨gb183, 1, none⟩ = some (.string a1_1) := (blk_cell BK183.out 1).trans rfl; have hcz60_2 : w58.cell? ⟨gb183, 2, none⟩ = some (.slice A1_2 l1_2.length c1_2) := (blk_cell BK183.out 2).trans rfl; have hcz60_3 : w58.cell? ⟨gb183, 3, none⟩ = some (.int .u32 a1_3) := (blk_cell BK183.out 3).trans rfl; have hcz60_4 : w58.cell? ⟨gb183, 4, none⟩ = some (.int .i64 a1_4) := (blk_cell BK183.out 4).trans rfl; have hcz60_5 : w58.cell? ⟨gb183, 5, none⟩ = some (.int .u64 a1_5) := (blk_cell BK183.out 5).trans rfl; have hcz60_6 : w58.cell? ⟨gb183, 6, none⟩ = some (.int .u64 a1_6) := (blk_cell BK183.out 6).trans rfl; have hcz60_7 : w58.cell? ⟨gb183, 7, none⟩ = some (.int .u64 a1_7) := (blk_cell BK183.out 7).trans rfl; have hcz60_8 : w58.cell? ⟨gb183, 8, none⟩ = some (.bool a1_8) := (blk_cell BK183.out 8).trans rfl; have hcz60_9 : w58.cell? ⟨gb183, 9, none⟩ = some (.bool a1_9) := (blk_cell BK183.out 9).trans rfl; have hfz60_0 := blk_frozen BK183.out 0; have hfz60_1 := blk_frozen BK183.out 1; have hfz60_2 := blk_frozen BK183.out 2; have hfz60_3 := blk_frozen BK183.out 3; have hfz60_4 := blk_frozen BK183.out 4; have hfz60_5 := blk_frozen BK183.out 5; have hfz60_6 := blk_frozen BK183.out 6; have hfz60_7 := blk_frozen BK183.out 7; have hfz60_8 := blk_frozen BK183.out 8; have hfz60_9 := blk_frozen BK183.out 9) | ((with_reducible refine gate_callee (f := 43) rfl ?_); refine goesL_ (some 10) rfl rfl Tryz.func43 (by kernel_rfl) rfl #[.int .u64 (IntKind.u64.wrap ((l1_2.length : Int)))] rfl (by (try simp only [List.map_toArray, List.map_cons, List.map_nil]); first | done | rfl | (simp only [List.length_drop, List.length_take]; rfl)) ?_; (with_reducible refine (num_Show.calls (IntKind.u64.wrap ((l1_2.length : Int))) t184 _ ?side1 A3.out).mono ?_); (case side1 => exact Tabs.below HT.out (by repeat (first | (with_reducible first | exact HB.out | apply below_alloc | apply pw_below_drewN | apply below_drew1 | refine below_set ?_ GE182.out | refine below_set ?_ GE183.out) | exact HB.out))); rintro e w61 ⟨rfl, hb⟩; refine ⟨_, rfl, ?_⟩; have n0_ := Aside0.mk (blk_below (g := gb182) (o := .cells #[.string a0_0, .int .u8 a0_1, .string a0_2, .string a0_3] 41 (0, 0)) (by (with_reducible repeat (first | refine blk_drewN ?_ _ | refine blk_drew ?_ | refine blk_alloc ?_ _)); exact BK182.out) hb); have n1_ := Aside0.mk (blk_below (g := gb183) (o := .cells #[.int .i64 a1_0, .string a1_1, .slice A1_2 l1_2.length c1_2, .int .u32 a1_3, .int .i64 a1_4, .int .u64 a1_5, .int .u64 a1_6, .int .u64 a1_7, .bool a1_8, .bool a1_9] 26 (0, 0)) (by (with_reducible repeat (first | refine blk_drewN ?_ _ | refine blk_drew ?_ | refine blk_alloc ?_ _)); exact BK183.out) hb); have n2_ := Aside0.mk (below_step (by repeat (first | (with_reducible first | exact HB.out | apply below_alloc | apply pw_below_drewN | apply below_drew1 | refine below_set ?_ GE182.out | refine below_set ?_ GE183.out) | exact HB.out)) hb); clear BK182; clear BK183; clear HB; have BK182 := n0_; have BK183 := n1_; have HB := n2_; clear n0_ n1_ n2_; (try clear hb); (try clear hb2); (try clear hk); (try clear hi); have hcz62_0 : w61.cell? ⟨gb183, 0, none⟩ = some (.int .i64 a1_0) := (blk_cell BK183.out 0).trans rfl; have hcz62_1 : w61.cell? ⟨gb183, 1, none⟩ = some (.string a1_1) := (blk_cell BK183.out 1).trans rfl; have hcz62_2 : w61.cell? ⟨gb183, 2, none⟩ = some (.slice A1_2 l1_2.length c1_2) := (blk_cell BK183.out 2).trans rfl; have hcz62_3 : w61.cell? ⟨gb183, 3, none⟩ = some (.int .u32 a1_3) := (blk_cell BK183.out 3).trans rfl; have hcz62_4 : w61.cell? ⟨gb183, 4, none⟩ = some (.int .i64 a1_4) := (blk_cell BK183.out 4).trans rfl; have hcz62_5 : w61.cell? ⟨gb183, 5, none⟩ = some (.int .u64 a1_5) := (blk_cell BK183.out 5).trans rfl; have hcz62_6 : w61.cell? ⟨gb183, 6, none⟩ = some (.int .u64 a1_6) := (blk_cell BK183.out 6).trans rfl; have hcz62_7 : w61.cell? ⟨gb183, 7, none⟩ = some (.int .u64 a1_7) := (blk_cell BK183.out 7).trans rfl; have hcz62_8 : w61.cell? ⟨gb183, 8, none⟩ = some (.bool a1_8) := (blk_cell BK183.out 8).trans rfl; have hcz62_9 : w61.cell? ⟨gb183, 9, none⟩ = some (.bool a1_9) := (blk_cell BK183.out 9).trans rfl; have hfz62_0 := blk_frozen BK183.out 0; have hfz62_1 := blk_frozen BK183.out 1; have hfz62_2 := blk_frozen BK183.out 2; have hfz62_3 := blk_frozen BK183.out 3; have hfz62_4 := blk_frozen BK183.out 4; have hfz62_5 := blk_frozen BK183.out 5; have hfz62_6 := blk_frozen BK183.out 6; have hfz62_7 := blk_frozen BK183.out 7; have hfz62_8 := blk_frozen BK183.out 8; have hfz62_9 := blk_frozen BK183.out 9) | ((with_reducible refine gate_callee (f := 44) rfl ?_); refine goesL_ (some 14) rfl rfl Tryz.func44 (by kernel_rfl) rfl #[.int .i64 a1_0] rfl (by (try simp only [List.map_toArray, List.map_cons, List.map_nil]); first | done | rfl | (simp only [List.length_drop, List.length_take]; rfl)) ?_; (with_reducible refine (script_whole.calls a1_0 false _ A4.out).mono ?_); rintro e w' ⟨rfl, ⟨nd, rfl⟩⟩; refine ⟨_, rfl, ?_⟩) | ((with_reducible refine gate_callee (f := 26) rfl ?_); refine goesL_ (some 37) rfl rfl Tryz.func26 (by kernel_rfl) rfl #[.int .i64 a1_0] rfl (by (try simp only [List.map_toArray, List.map_cons, List.map_nil]); first | done | rfl | (simp only [List.length_drop, List.length_take]; rfl)) ?_; (with_reducible refine (script_stores.calls a1_0 false _ A24.out).mono ?_); rintro e w' ⟨rfl, ⟨nd, rfl⟩⟩; refine ⟨_, rfl, ?_⟩) | ((with_reducible refine gate_callee (f := 46) rfl ?_); refine goesL_ (some 50) rfl rfl Tryz.func46 (by kernel_rfl) rfl #[.int .i64 a1_0] rfl (by (try simp only [List.map_toArray, List.map_cons, List.map_nil]); first | done | rfl | (simp only [List.length_drop, List.length_take]; rfl)) ?_; (with_reducible refine (script_reckons.calls a1_0 false _ A38.out).mono ?_); rintro e w' ⟨rfl, ⟨nd, rfl⟩⟩; refine ⟨_, rfl, ?_⟩; have hcz63_0 : w61.cell? ⟨gb182, 0, none⟩ = some (.string a0_0) := (blk_cell BK182.out 0).trans rfl; have hcz63_1 : w61.cell? ⟨gb182, 1, none⟩ = some (.int .u8 a0_1) := (blk_cell BK182.out 1).trans rfl; have hcz63_2 : w61.cell? ⟨gb182, 2, none⟩ = some (.string a0_2) := (blk_cell BK182.out 2).trans rfl; have hcz63_3 : w61.cell? ⟨gb182, 3, none⟩ = some (.string a0_3) := (blk_cell BK182.out 3).trans rfl; have hfz63_0 := blk_frozen BK182.out 0; have hfz63_1 := blk_frozen BK182.out 1; have hfz63_2 := blk_frozen BK182.out 2; have hfz63_3 := blk_frozen BK182.out 3) | ((with_reducible refine gate_dst (N := 71) rfl ?_); refine Kd.R_lit Kd.string _ 9 ?hg (N := 71) ?hd (xs := ([a0_2, a1_1, (⟨#[99]⟩ : ByteArray), (⟨#[102]⟩ : ByteArray), (⟨#[118]⟩ : ByteArray)] : List ByteArray)) (inner := [.string a0_2, .string a1_1, .string (⟨#[99]⟩ : ByteArray), .string (⟨#[102]⟩ : ByteArray), .string (⟨#[118]⟩ : ByteArray)]) (ok := fun _ => True) (okp := fun _ => True) ?hr ?hp (fun _ hk => hk) trivial (Below.refl _ _) (Nat.le_refl _) (by simp) ?_; (case hd => rfl); (case hg => rfl); (case hr => first | (go_simp; done) | (go_simp; rfl)); (case hp => exact (Reps.one (show Kd.M Kd.string _ _ _ a0_2 [.string a0_2] from rfl) (Reps.one (show Kd.M Kd.string _ _ _ a1_1 [.string a1_1] from rfl) (Reps.one (show Kd.M Kd.string _ _ _ (⟨#[99]⟩ : ByteArray) [.string (⟨#[99]⟩ : ByteArray)] from rfl) (Reps.one (show Kd.M Kd.string _ _ _ (⟨#[102]⟩ : ByteArray) [.string (⟨#[102]⟩ : ByteArray)] from rfl) (Reps.one (show Kd.M Kd.string _ _ _ (⟨#[118]⟩ : ByteArray) [.string (⟨#[118]⟩ : ByteArray)] from rfl) (Reps.none _ _))))))); intro v204 w64 ho65 hb hg_ hnew_; clear hg_ hnew_; (first | rw [← Ny203.out] at ho65 | (simp only [Int.reduceToNat] at ho65; rw [← Ny203.out] at ho65)); have n0_ := Aside0.mk (Kd.R_lower ho65 (below_size (by repeat (first | (with_reducible first | exact HB.out | apply below_alloc | apply pw_below_drewN | apply below_drew1 | refine below_set ?_ GE182.out | refine below_set ?_ GE183.out) | exact HB.out)))); have n1_ := Aside0.mk (blk_below (g := gb182) (o := .cells #[.string a0_0, .int .u8 a0_1, .string a0_2, .string a0_3] 41 (0, 0)) (by (with_reducible repeat (first | refine blk_drewN ?_ _ | refine blk_drew ?_ | refine blk_alloc ?_ _)); exact BK182.out) hb); have n2_ := Aside0.mk (blk_below (g := gb183) (o := .cells #[.int .i64 a1_0, .string a1_1, .slice A1_2 l1_2.length c1_2, .int .u32 a1_3, .int .i64 a1_4, .int .u64 a1_5, .int .u64 a1_6, .int .u64 a1_7, .bool a1_8, .bool a1_9] 26 (0, 0)) (by (with_reducible repeat (first | refine blk_drewN ?_ _ | refine blk_drew ?_ | refine blk_alloc ?_ _)); exact BK183.out) hb); have n3_ := Aside0.mk (below_step (by repeat (first | (with_reducible first | exact HB.out | apply below_alloc | apply pw_below_drewN | apply below_drew1 | refine below_set ?_ GE182.out | refine below_set ?_ GE183.out) | exact HB.out)) hb); clear BK182; clear BK183; clear HB; have HO205 := n0_; have BK182 := n1_; have BK183 := n2_; have HB := n3_; clear n0_ n1_ n2_ n3_; clear hb ho65; obtain ⟨Ao66, co66, eo66⟩ := Kd.R_slice HO205.out; subst eo66) | ((with_reducible refine gate_callee (f := 45) rfl ?_); refine goesL_ (some 72) rfl rfl Tryz.func45 (by kernel_rfl) rfl #[.slice Ao66 y203.length co66] rfl (by (try simp only [List.map_toArray, List.map_cons, List.map_nil]); first | done | rfl | (simp only [List.length_drop, List.length_take]; rfl)) ?_; (with_reducible refine (script_line.calls _ _ y203 t206 _ ?side1 ?side2 A56.out).mono ?_); (case side1 => repeat (first | exact (Kd.R_reads' HO205.out).2.2 | (with_reducible refine Kd.C_alloc ?_ _) | (with_reducible refine Kd.C_drewN ?_ _) | (with_reducible refine Kd.C_drew ?_))); (case side2 => exact (Kd.R_reads' HO205.out).2.1); rintro e w67 ⟨rfl, hb⟩; refine ⟨_, rfl, ?_⟩; have n0_ := Aside0.mk (Kd.R_below (by (with_reducible repeat (first | apply Kd.R_alloc | apply Kd.R_drewN | apply Kd.R_drew)); exact HO205.out) hb); have n1_ := Aside0.mk (blk_below (g := gb182) (o := .cells #[.string a0_0, .int .u8 a0_1, .string a0_2, .string a0_3] 41 (0, 0)) (by (with_reducible repeat (first | refine blk_drewN ?_ _ | refine blk_drew ?_ | refine blk_alloc ?_ _)); exact BK182.out) hb); have n2_ := Aside0.mk (blk_below (g := gb183) (o := .cells #[.int .i64 a1_0, .string a1_1, .slice A1_2 l1_2.length c1_2, .int .u32 a1_3, .int .i64 a1_4, .int .u64 a1_5, .int .u64 a1_6, .int .u64 a1_7, .bool a1_8, .bool a1_9] 26 (0, 0)) (by (with_reducible repeat (first | refine blk_drewN ?_ _ | refine blk_drew ?_ | refine blk_alloc ?_ _)); exact BK183.out) hb); have n3_ := Aside0.mk (below_step (by repeat (first | (with_reducible first | exact HB.out | apply below_alloc | apply pw_below_drewN | apply below_drew1 | refine below_set ?_ GE182.out | refine below_set ?_ GE183.out) | exact HB.out)) hb); clear HO205; clear BK182; clear BK183; clear HB; have HO205 := n0_; have BK182 := n1_; have BK183 := n2_; have HB := n3_; clear n0_ n1_ n2_ n3_; (try clear hb); (try clear hb2); (try clear hk); (try clear hi)))
          go_ret
          exact ⟨by first | rfl | (simp <;> rfl) | (simp [*] <;> rfl), by repeat (first | (with_reducible first | exact HB.out | apply below_alloc | apply pw_below_drewN | apply below_drew1 | refine below_set ?_ GE182.out | refine below_set ?_ GE183.out) | exact HB.out)⟩
        · rw [if_neg c55] at H
          have c55b0 : (a1_0 == 0) = false := beq_eq_false_iff_ne.mpr c55
          have c55b1 : (a1_0 != 0) = true := bne_iff_ne.mpr c55
          obtain ⟨y207, hy207⟩ : ∃ y_ : List ByteArray, y_ = (([a0_2, a1_1] : List ByteArray)) := ⟨_, rfl⟩
          replace H : ((script_line.f y207).bind fun t210 => (some t210)) = some r := by first | (rw [hy207]; with_reducible exact H) | (have H2_ := (Option.bind_some _ _).symm.trans H; rw [hy207]; with_reducible exact H2_) | (have H2_ := (Option.bind_some _ _).symm.trans H; with_reducible exact H2_) | with_reducible exact H | (rw [hy207]; exact H) | exact H
          have Ny207 := Aside0.mk hy207
          clear hy207
          replace H := Option.bind_eq_some_iff.mp H
          obtain ⟨t210, A680, H⟩ := H
          replace H : (some t210) = some r := H
          have A68 := Aside0.mk A680
          clear A680
          obtain rfl := Option.some.inj H
          go_enter Tryz.func25, Tryz.ntmps25
          go_wp2_with (first | ((with_reducible refine gate_dst (N := 2) rfl ?_); refine box_event ?hg (N := 2) ?hd (cs := #[.string a0_0, .int .u8 a0_1, .string a0_2, .string a0_3]) (t := 41) ?hr ?_; (case hd => rfl); (case hg => rfl); (case hr => first | (go_simp; done) | (go_simp; rfl)); intro gb182 hg w69 hbox hb; have n0_ := Aside0.mk (below_step (by repeat (first | (with_reducible first | exact HB.out | apply below_alloc | apply pw_below_drewN | apply below_drew1) | exact HB.out)) hb); have n1_ := Aside0.mk (hbox); have n2_ := Aside0.mk ((by rw [hg]; exact (below_size (by repeat (first | (with_reducible first | exact HB.out | apply below_alloc | apply pw_below_drewN | apply below_drew1) | exact HB.out))) : w.heap.size ≤ gb182)); have n3_ := Aside0.mk ((by rw [hg]; exact (below_size (by repeat (first | (with_reducible first | exact HB.out | apply below_alloc | apply pw_below_drewN | apply below_drew1) | exact HB.out))) : w.heap.size ≤ gb182)); clear HB; have HB := n0_; have BK182 := n1_; have GW182 := n2_; have GE182 := n3_; clear n0_ n1_ n2_ n3_; clear hb hbox hg) | ((with_reducible refine gate_dst (N := 3) rfl ?_); refine box_event ?hg (N := 3) ?hd (cs := #[.int .i64 a1_0, .string a1_1, .slice A1_2 l1_2.length c1_2, .int .u32 a1_3, .int .i64 a1_4, .int .u64 a1_5, .int .u64 a1_6, .int .u64 a1_7, .bool a1_8, .bool a1_9]) (t := 26) ?hr ?_; (case hd => rfl); (case hg => rfl); (case hr => first | (go_simp; done) | (go_simp; rfl)); intro gb183 hg w70 hbox hb; have n0_ := Aside0.mk (blk_below (g := gb182) (o := .cells #[.string a0_0, .int .u8 a0_1, .string a0_2, .string a0_3] 41 (0, 0)) (by (with_reducible repeat (first | refine blk_drewN ?_ _ | refine blk_drew ?_ | refine blk_alloc ?_ _)); exact BK182.out) hb); have n1_ := Aside0.mk (below_step (by repeat (first | (with_reducible first | exact HB.out | apply below_alloc | apply pw_below_drewN | apply below_drew1 | refine below_set ?_ GE182.out) | exact HB.out)) hb); have n2_ := Aside0.mk (hbox); have n3_ := Aside0.mk ((by rw [hg]; exact (below_size (by repeat (first | (with_reducible first | exact HB.out | apply below_alloc | apply pw_below_drewN | apply below_drew1 | refine below_set ?_ GE182.out) | exact HB.out))) : w.heap.size ≤ gb183)); have n4_ := Aside0.mk ((by rw [hg]; exact (below_size (by repeat (first | (with_reducible first | exact HB.out | apply below_alloc | apply pw_below_drewN | apply below_drew1 | refine below_set ?_ GE182.out) | exact HB.out))) : w.heap.size ≤ gb183)); have n5_ := Aside0.mk ((by rw [hg]; exact Nat.ne_of_lt (blk_lt (g := gb182) (o := .cells #[.string a0_0, .int .u8 a0_1, .string a0_2, .string a0_3] 41 (0, 0)) (by (with_reducible repeat (first | refine blk_drewN ?_ _ | refine blk_drew ?_ | refine blk_alloc ?_ _)); exact BK182.out)) : gb182 ≠ gb183)); have n6_ := Aside0.mk ((by rw [hg]; exact Nat.ne_of_gt (blk_lt (g := gb182) (o := .cells #[.string a0_0, .int .u8 a0_1, .string a0_2, .string a0_3] 41 (0, 0)) (by (with_reducible repeat (first | refine blk_drewN ?_ _ | refine blk_drew ?_ | refine blk_alloc ?_ _)); exact BK182.out)) : gb183 ≠ gb182)); clear BK182; clear HB; have BK182 := n0_; have HB := n1_; have BK183 := n2_; have GW183 := n3_; have GE183 := n4_; have NB182_183 := n5_; have NB183_182 := n6_; clear n0_ n1_ n2_ n3_ n4_ n5_ n6_; clear hb hbox hg; have hnb71 := NB183_182.out; have hnc71 := NB182_183.out; have hcz72_0 : w70.cell? ⟨gb183, 0, none⟩ = some (.int .i64 a1_0) := (blk_cell BK183.out 0).trans rfl; have hcz72_1 : w70.cell? ⟨gb183, 1, none⟩ = some (.string a1_1) := (blk_cell BK183.out 1).trans rfl; have hcz72_2 : w70.cell? ⟨gb183, 2, none⟩ = some (.slice A1_2 l1_2.length c1_2) := (blk_cell BK183.out 2).trans rfl; have hcz72_3 : w70.cell? ⟨gb183, 3, none⟩ = some (.int .u32 a1_3) := (blk_cell BK183.out 3).trans rfl; have hcz72_4 : w70.cell? ⟨gb183, 4, none⟩ = some (.int .i64 a1_4) := (blk_cell BK183.out 4).trans rfl; have hcz72_5 : w70.cell? ⟨gb183, 5, none⟩ = some (.int .u64 a1_5) := (blk_cell BK183.out 5).trans rfl; have hcz72_6 : w70.cell? ⟨gb183, 6, none⟩ = some (.int .u64 a1_6) := (blk_cell BK183.out 6).trans rfl; have hcz72_7 : w70.cell? ⟨gb183, 7, none⟩ = some (.int .u64 a1_7) := (blk_cell BK183.out 7).trans rfl; have hcz72_8 : w70.cell? ⟨gb183, 8, none⟩ = some (.bool a1_8) := (blk_cell BK183.out 8).trans rfl; have hcz72_9 : w70.cell? ⟨gb183, 9, none⟩ = some (.bool a1_9) := (blk_cell BK183.out 9).trans rfl; have hfz72_0 := blk_frozen BK183.out 0; have hfz72_1 := blk_frozen BK183.out 1; have hfz72_2 := blk_frozen BK183.out 2; have hfz72_3 := blk_frozen BK183.out 3; have hfz72_4 := blk_frozen BK183.out 4; have hfz72_5 := blk_frozen BK183.out 5; have hfz72_6 := blk_frozen BK183.out 6; have hfz72_7 := blk_frozen BK183.out 7; have hfz72_8 := blk_frozen BK183.out 8; have hfz72_9 := blk_frozen BK183.out 9) | ((with_reducible refine gate_callee (f := 43) rfl ?_); refine goesL_ (some 10) rfl rfl Tryz.func43 (by kernel_rfl) rfl #[.int .u64 (IntKind.u64.wrap ((l1_2.length : Int)))] rfl (by (try simp only [List.map_toArray, List.map_cons, List.map_nil]); first | done | rfl | (simp only [List.length_drop, List.length_take]; rfl)) ?_; (with_reducible refine (num_Show.calls (IntKind.u64.wrap ((l1_2.length : Int))) t184 _ ?side1 A3.out).mono ?_); (case side1 => exact Tabs.below HT.out (by repeat (first | (with_reducible first | exact HB.out | apply below_alloc | apply pw_below_drewN | apply below_drew1 | refine below_set ?_ GE182.out | refine below_set ?_ GE183.out) | exact HB.out))); rintro e w73 ⟨rfl, hb⟩; refine ⟨_, rfl, ?_⟩; have n0_ := Aside0.mk (blk_below (g := gb182) (o := .cells #[.string a0_0, .int .u8 a0_1, .string a0_2, .string a0_3] 41 (0, 0)) (by (with_reducible repeat (first | refine blk_drewN ?_ _ | refine blk_drew ?_ | refine blk_alloc ?_ _)); exact BK182.out) hb); have n1_ := Aside0.mk (blk_below (g := gb183) (o := .cells #[.int .i64 a1_0, .string a1_1, .slice A1_2 l1_2.length c1_2, .int .u32 a1_3, .int .i64 a1_4, .int .u64 a1_5, .int .u64 a1_6, .int .u64 a1_7, .bool a1_8, .bool a1_9] 26 (0, 0)) (by (with_reducible repeat (first | refine blk_drewN ?_ _ | refine blk_drew ?_ | refine blk_alloc ?_ _)); exact BK183.out) hb); have n2_ := Aside0.mk (below_step (by repeat (first | (with_reducible first | exact HB.out | apply below_alloc | apply pw_below_drewN | apply below_drew1 | refine below_set ?_ GE182.out | refine below_set ?_ GE183.out) | exact HB.out)) hb); clear BK182; clear BK183; clear HB; have BK182 := n0_; have BK183 := n1_; have HB := n2_; clear n0_ n1_ n2_; (try clear hb); (try clear hb2); (try clear hk); (try clear hi); have hcz74_0 : w73.cell? ⟨gb183, 0, none⟩ = some (.int .i64 a1_0) := (blk_cell BK183.out 0).trans rfl; have hcz74_1 : w73.cell? ⟨gb183, 1, none⟩ = some (.string a1_1) := (blk_cell BK183.out 1).trans rfl; have hcz74_2 : w73.cell? ⟨gb183, 2, none⟩ = some (.slice A1_2 l1_2.length c1_2) := (blk_cell BK183.out 2).trans rfl; have hcz74_3 : w73.cell? ⟨gb183, 3, none⟩ = some (.int .u32 a1_3) := (blk_cell BK183.out 3).trans rfl; have hcz74_4 : w73.cell? ⟨gb183, 4, none⟩ = some (.int .i64 a1_4) := (blk_cell BK183.out 4).trans rfl; have hcz74_5 : w73.cell? ⟨gb183, 5, none⟩ = some (.int .u64 a1_5) := (blk_cell BK183.out 5).trans rfl; have hcz74_6 : w73.cell? ⟨gb183, 6, none⟩ = some (.int .u64 a1_6) := (blk_cell BK183.out 6).trans rfl; have hcz74_7 : w73.cell? ⟨gb183, 7, none⟩ = some (.int .u64 a1_7) := (blk_cell BK183.out 7).trans rfl; have hcz74_8 : w73.cell? ⟨gb183, 8, none⟩ = some (.bool a1_8) := (blk_cell BK183.out 8).trans rfl; have hcz74_9 : w73.cell? ⟨gb183, 9, none⟩ = some (.bool a1_9) := (blk_cell BK183.out 9).trans rfl; have hfz74_0 := blk_frozen BK183.out 0; have hfz74_1 := blk_frozen BK183.out 1; have hfz74_2 := blk_frozen BK183.out 2; have hfz74_3 := blk_frozen BK183.out 3; have hfz74_4 := blk_frozen BK183.out 4; have hfz74_5 := blk_frozen BK183.out 5; have hfz74_6 := blk_frozen BK183.out 6; have hfz74_7 := blk_frozen BK183.out 7; have hfz74_8 := blk_frozen BK183.out 8; have hfz74_9 := blk_frozen BK183.out 9) | ((with_reducible refine gate_callee (f := 44) rfl ?_); refine goesL_ (some 14) rfl rfl Tryz.func44 (by kernel_rfl) rfl #[.int .i64 a1_0] rfl (by (try simp only [List.map_toArray, List.map_cons, List.map_nil]); first | done | rfl | (simp only [List.length_drop, List.length_take]; rfl)) ?_; (with_reducible refine (script_whole.calls a1_0 false _ A4.out).mono ?_); rintro e w' ⟨rfl, ⟨nd, rfl⟩⟩; refine ⟨_, rfl, ?_⟩) | ((with_reducible refine gate_callee (f := 26) rfl ?_); refine goesL_ (some 37) rfl rfl Tryz.func26 (by kernel_rfl) rfl #[.int .i64 a1_0] rfl (by (try simp only [List.map_toArray, List.map_cons, List.map_nil]); first | done | rfl | (simp only [List.length_drop, List.length_take]; rfl)) ?_; (with_reducible refine (script_stores.calls a1_0 false _ A24.out).mono ?_); rintro e w' ⟨rfl, ⟨nd, rfl⟩⟩; refine ⟨_, rfl, ?_⟩) | ((with_reducible refine gate_callee (f := 46) rfl ?_); refine goesL_ (some 50) rfl rfl Tryz.func46 (by kernel_rfl) rfl #[.int .i64 a1_0] rfl (by (try simp only [List.map_toArray, List.map_cons, List.map_nil]); first | done | rfl | (simp only [List.length_drop, List.length_take]; rfl)) ?_; (with_reducible refine (script_reckons.calls a1_0 false _ A38.out).mono ?_); rintro e w' ⟨rfl, ⟨nd, rfl⟩⟩; refine ⟨_, rfl, ?_⟩; have hcz75_0 : w73.cell? ⟨gb182, 0, none⟩ = some (.string a0_0) := (blk_cell BK182.out 0).trans rfl; have hcz75_1 : w73.cell? ⟨gb182, 1, none⟩ = some (.int .u8 a0_1) := (blk_cell BK182.out 1).trans rfl; have hcz75_2 : w73.cell? ⟨gb182, 2, none⟩ = some (.string a0_2) := (blk_cell BK182.out 2).trans rfl; have hcz75_3 : w73.cell? ⟨gb182, 3, none⟩ = some (.string a0_3) := (blk_cell BK182.out 3).trans rfl; have hfz75_0 := blk_frozen BK182.out 0; have hfz75_1 := blk_frozen BK182.out 1; have hfz75_2 := blk_frozen BK182.out 2; have hfz75_3 := blk_frozen BK182.out 3) | ((with_reducible refine gate_dst (N := 77) rfl ?_); refine Kd.R_lit Kd.string _ 9 ?hg (N := 77) ?hd (xs := ([a0_2, a1_1] : List ByteArray)) (inner := [.string a0_2, .string a1_1]) (ok := fun _ => True) (okp := fun _ => True) ?hr ?hp (fun _ hk => hk) trivial (Below.refl _ _) (Nat.le_refl _) (by simp) ?_; (case hd => rfl); (case hg => rfl); (case hr => first | (go_simp; done) | (go_simp; rfl)); (case hp => exact (Reps.one (show Kd.M Kd.string _ _ _ a0_2 [.string a0_2] from rfl) (Reps.one (show Kd.M Kd.string _ _ _ a1_1 [.string a1_1] from rfl) (Reps.none _ _)))); intro v208 w76 ho77 hb hg_ hnew_; clear hg_ hnew_; (first | rw [← Ny207.out] at ho77 | (simp only [Int.reduceToNat] at ho77; rw [← Ny207.out] at ho77)); have n0_ := Aside0.mk (Kd.R_lower ho77 (below_size (by repeat (first | (with_reducible first | exact HB.out | apply below_alloc | apply pw_below_drewN | apply below_drew1 | refine below_set ?_ GE182.out | refine below_set ?_ GE183.out) | exact HB.out)))); have n1_ := Aside0.mk (blk_below (g := gb182) (o := .cells #[.string a0_0, .int .u8 a0_1, .string a0_2, .string a0_3] 41 (0, 0)) (by (with_reducible repeat (first | refine blk_drewN ?_ _ | refine blk_drew ?_ | refine blk_alloc ?_ _)); exact BK182.out) hb); have n2_ := Aside0.mk (blk_below (g := gb183) (o := .cells #[.int .i64 a1_0, .string a1_1, .slice A1_2 l1_2.length c1_2, .int .u32 a1_3, .int .i64 a1_4, .int .u64 a1_5, .int .u64 a1_6, .int .u64 a1_7, .bool a1_8, .bool a1_9] 26 (0, 0)) (by (with_reducible repeat (first | refine blk_drewN ?_ _ | refine blk_drew ?_ | refine blk_alloc ?_ _)); exact BK183.out) hb); have n3_ := Aside0.mk (below_step (by repeat (first | (with_reducible first | exact HB.out | apply below_alloc | apply pw_below_drewN | apply below_drew1 | refine below_set ?_ GE182.out | refine below_set ?_ GE183.out) | exact HB.out)) hb); clear BK182; clear BK183; clear HB; have HO209 := n0_; have BK182 := n1_; have BK183 := n2_; have HB := n3_; clear n0_ n1_ n2_ n3_; clear hb ho77; obtain ⟨Ao78, co78, eo78⟩ := Kd.R_slice HO209.out; subst eo78) | ((with_reducible refine gate_callee (f := 45) rfl ?_); refine goesL_ (some 78) rfl rfl Tryz.func45 (by kernel_rfl) rfl #[.slice Ao78 y207.length co78] rfl (by (try simp only [List.map_toArray, List.map_cons, List.map_nil]); first | done | rfl | (simp only [List.length_drop, List.length_take]; rfl)) ?_; (with_reducible refine (script_line.calls _ _ y207 t210 _ ?side1 ?side2 A68.out).mono ?_); (case side1 => repeat (first | exact (Kd.R_reads' HO209.out).2.2 | (with_reducible refine Kd.C_alloc ?_ _) | (with_reducible refine Kd.C_drewN ?_ _) | (with_reducible refine Kd.C_drew ?_))); (case side2 => exact (Kd.R_reads' HO209.out).2.1); rintro e w79 ⟨rfl, hb⟩; refine ⟨_, rfl, ?_⟩; have n0_ := Aside0.mk (Kd.R_below (by (with_reducible repeat (first | apply Kd.R_alloc | apply Kd.R_drewN | apply Kd.R_drew)); exact HO209.out) hb); have n1_ := Aside0.mk (blk_below (g := gb182) (o := .cells #[.string a0_0, .int .u8 a0_1, .string a0_2, .string a0_3] 41 (0, 0)) (by (with_reducible repeat (first | refine blk_drewN ?_ _ | refine blk_drew ?_ | refine blk_alloc ?_ _)); exact BK182.out) hb); have n2_ := Aside0.mk (blk_below (g := gb183) (o := .cells #[.int .i64 a1_0, .string a1_1, .slice A1_2 l1_2.length c1_2, .int .u32 a1_3, .int .i64 a1_4, .int .u64 a1_5, .int .u64 a1_6, .int .u64 a1_7, .bool a1_8, .bool a1_9] 26 (0, 0)) (by (with_reducible repeat (first | refine blk_drewN ?_ _ | refine blk_drew ?_ | refine blk_alloc ?_ _)); exact BK183.out) hb); have n3_ := Aside0.mk (below_step (by repeat (first | (with_reducible first | exact HB.out | apply below_alloc | apply pw_below_drewN | apply below_drew1 | refine below_set ?_ GE182.out | refine below_set ?_ GE183.out) | exact HB.out)) hb); clear HO209; clear BK182; clear BK183; clear HB; have HO209 := n0_; have BK182 := n1_; have BK183 := n2_; have HB := n3_; clear n0_ n1_ n2_ n3_; (try clear hb); (try clear hb2); (try clear hk); (try clear hi)))
          go_ret
          exact ⟨by first | rfl | (simp <;> rfl) | (simp [*] <;> rfl), by repeat (first | (with_reducible first | exact HB.out | apply below_alloc | apply pw_below_drewN | apply below_drew1 | refine below_set ?_ GE182.out | refine below_set ?_ GE183.out) | exact HB.out)⟩

-- NOT PRINTED: function 12 (script_Encode)

end Go.Proofs.YtamndkiagenfnaaGreatDoor.X
namespace Go.Proofs.YtamndkiagenfnaaGreatDoor.X
open Go.RowKit Go.Proofs.YtamndkiagenfnaaGreatDoorW.PrintWords Go.Proofs.YtamndkiagenfnaaGreatDoorW.PrintMore
set_option linter.unusedVariables false
set_option linter.unusedSimpArgs false
theorem says_ok : script_Says.f 3 8 (⟨#[107]⟩ : ByteArray) [] 0 0 0 0 0 false false = some true := by kernel_rfl
theorem text_ok : script_text.f (⟨#[100, 101, 108, 101, 116, 101]⟩ : ByteArray) 4 (⟨#[109, 100]⟩ : ByteArray) ⟨#[]⟩ 8 (⟨#[107]⟩ : ByteArray) [] 0 0 0 0 0 false false = some (⟨#[100, 101, 108, 101, 116, 101, 32, 107, 13, 10]⟩ : ByteArray) := by kernel_rfl
theorem meta_ok : script_meta.f (⟨#[100, 101, 108, 101, 116, 101]⟩ : ByteArray) 4 (⟨#[109, 100]⟩ : ByteArray) ⟨#[]⟩ 8 (⟨#[107]⟩ : ByteArray) [] 0 0 0 0 0 false false = some (⟨#[109, 100, 32, 107, 13, 10]⟩ : ByteArray) := by kernel_rfl
theorem says_calls (w : World) : Calls Tryz.prog 10 #[.int .i64 3, .agg #[.int .i64 8, .string (⟨#[107]⟩ : ByteArray), .slice none 0 0, .int .u32 0, .int .i64 0, .int .u64 0, .int .u64 0, .int .u64 0, .bool false, .bool false]] w fun e w' => e = .returned (.bool true) ∧ Below w.heap.size w w' :=
  script_Says.calls 3 8 _ none 0 [] 0 0 0 0 0 false false true w (C_nil _ _) (Nat.le_refl _) says_ok
theorem text_calls (w : World) (hT : Tabs w) : Calls Tryz.prog 23 #[.agg #[.string (⟨#[100, 101, 108, 101, 116, 101]⟩ : ByteArray), .int .u8 4, .string (⟨#[109, 100]⟩ : ByteArray), .string ⟨#[]⟩], .agg #[.int .i64 8, .string (⟨#[107]⟩ : ByteArray), .slice none 0 0, .int .u32 0, .int .i64 0, .int .u64 0, .int .u64 0, .int .u64 0, .bool false, .bool false]] w fun e w' => e = .returned (.string (⟨#[100, 101, 108, 101, 116, 101, 32, 107, 13, 10]⟩ : ByteArray)) ∧ Below w.heap.size w w' :=
  script_text.calls _ 4 _ _ 8 _ none 0 [] 0 0 0 0 0 false false _ w (C_nil _ _) (Nat.le_refl _) hT text_ok
theorem meta_calls (w : World) (hT : Tabs w) : Calls Tryz.prog 25 #[.agg #[.string (⟨#[100, 101, 108, 101, 116, 101]⟩ : ByteArray), .int .u8 4, .string (⟨#[109, 100]⟩ : ByteArray), .string ⟨#[]⟩], .agg #[.int .i64 8, .string (⟨#[107]⟩ : ByteArray), .slice none 0 0, .int .u32 0, .int .i64 0, .int .u64 0, .int .u64 0, .int .u64 0, .bool false, .bool false]] w fun e w' => e = .returned (.string (⟨#[109, 100, 32, 107, 13, 10]⟩ : ByteArray)) ∧ Below w.heap.size w w' :=
  script_meta.calls _ 4 _ _ 8 _ none 0 [] 0 0 0 0 0 false false _ w (C_nil _ _) (Nat.le_refl _) hT meta_ok
theorem stat_calls (w : World) : Calls Tryz.prog 32 #[.int .i64 8] w fun e w' => ∃ b o c, e = .returned (.slice (some ⟨b, o, none⟩) 2 c) ∧ 2 ≤ c ∧ b < w'.heap.size ∧ w'.cell? ⟨b, o, none⟩ = some (.int .i64 5) ∧ Below w.heap.size w w' := by
  refine (script_statuses.calls 8 [5, 1] w rfl).mono ?_
  rintro e w5 ⟨v0, rfl, hR, hb⟩
  obtain ⟨A5, c5, rfl, hc5, hC5⟩ := Kd.R_reads hR
  obtain ⟨ad, rfl, hc⟩ := hC5.2.2 (by decide)
  obtain ⟨cs, hl, hK, hcell⟩ := hc 0 5 rfl
  obtain rfl : cs = [Value.int .i64 5] := hK
  have h0 := hcell 0 _ rfl
  rw [Nat.zero_mul, Nat.zero_add, Addr.add_zero'] at h0
  obtain ⟨b, o, rfl, hb5⟩ := addr_plain h0
  exact ⟨b, o, c5, rfl, hc5, hb5, h0, hb⟩
set_option maxRecDepth 100000 in
set_option maxHeartbeats 2000000 in
theorem encode_calls (w : World) (hT : Tabs w) :
    Calls Tryz.prog 12 #[.int .i64 3, .agg #[.int .i64 8, .string (⟨#[107]⟩ : ByteArray), .slice none 0 0, .int .u32 0, .int .i64 0, .int .u64 0, .int .u64 0, .int .u64 0, .bool false, .bool false]] w fun e w' => ∃ A c, e = .returned (.slice A 6 c) ∧ 6 ≤ c ∧ Bytes w' A (bytesOf (⟨#[109, 100, 32, 107, 13, 10]⟩ : ByteArray)) ∧ Below w.heap.size w w' := by
  have HB := Aside0.mk (Below.refl w.heap.size w)
  have HT := Aside0.mk hT
  clear hT
  go_enter Tryz.func12, Tryz.ntmps12
  go_wp2_with (first | (go_at_call 19; (with_reducible refine (script_of.calls 8 _ _ _ _ _ _ rfl).mono ?_); rintro e w1 ⟨rfl, hb⟩; have BX := Aside0.mk (blk_below (g := w.heap.size) (o := .cells #[.int .i64 8, .string (⟨#[107]⟩ : ByteArray), .slice none 0 0, .int .u32 0, .int .i64 0, .int .u64 0, .int .u64 0, .int .u64 0, .bool false, .bool false] 26 (0, 0)) (by repeat (first | exact blk_at_new _ _ _ (by simp; done) | exact blk_at_new _ _ _ rfl | refine blk_alloc ?_ _ | refine blk_drew ?_ | refine blk_drewN ?_ _)) hb); have HBn := Aside0.mk (below_step (by repeat (first | (with_reducible first | exact HB.out | apply below_alloc | apply pw_below_drewN | apply below_drew1) | exact HB.out)) hb); clear HB; have HB := HBn; clear HBn; clear hb) | (refine wpList_load_row rfl 26 _ rfl w.heap.size rfl 26 _ (0, 0) _ (by repeat (first | exact BX.out | refine blk_alloc ?_ _)) Tryz.underlying26 rfl (by kernel_rfl) ?_) | (go_at_call 10; (with_reducible refine (says_calls _).mono ?_); rintro e w2 ⟨rfl, hb⟩; have BXn := Aside0.mk (blk_below (g := w.heap.size) (o := .cells #[.int .i64 8, .string (⟨#[107]⟩ : ByteArray), .slice none 0 0, .int .u32 0, .int .i64 0, .int .u64 0, .int .u64 0, .int .u64 0, .bool false, .bool false] 26 (0, 0)) (by repeat (first | exact BX.out | refine blk_alloc ?_ _)) hb); clear BX; have BX := BXn; clear BXn; have BN := Aside0.mk (blk_below (g := w1.heap.size) (o := .cells #[.string (⟨#[100, 101, 108, 101, 116, 101]⟩ : ByteArray), .int .u8 4, .string (⟨#[109, 100]⟩ : ByteArray), .string ⟨#[]⟩] 41 (0, 0)) (by repeat (first | exact blk_at_new _ _ _ (by simp; done) | exact blk_at_new _ _ _ rfl | refine blk_alloc ?_ _ | refine blk_drew ?_ | refine blk_drewN ?_ _)) hb); have HBn := Aside0.mk (below_step (by repeat (first | (with_reducible first | exact HB.out | apply below_alloc | apply pw_below_drewN | apply below_drew1) | exact HB.out)) hb); clear HB; have HB := HBn; clear HBn; clear hb) | (refine wpList_load_row rfl 41 _ rfl w1.heap.size rfl 41 _ (0, 0) _ (by repeat (first | exact BN.out | refine blk_alloc ?_ _)) Tryz.underlying41 rfl (by kernel_rfl) ?_) | (go_at_call 23; (with_reducible refine (text_calls _ (Tabs.below HT.out (by repeat (first | (with_reducible first | exact HB.out | apply below_alloc | apply pw_below_drewN | apply below_drew1) | exact HB.out)))).mono ?_); rintro e w3 ⟨rfl, hb⟩; have BXn := Aside0.mk (blk_below (g := w.heap.size) (o := .cells #[.int .i64 8, .string (⟨#[107]⟩ : ByteArray), .slice none 0 0, .int .u32 0, .int .i64 0, .int .u64 0, .int .u64 0, .int .u64 0, .bool false, .bool false] 26 (0, 0)) (by repeat (first | exact BX.out | refine blk_alloc ?_ _)) hb); clear BX; have BX := BXn; clear BXn; have BNn := Aside0.mk (blk_below (g := w1.heap.size) (o := .cells #[.string (⟨#[100, 101, 108, 101, 116, 101]⟩ : ByteArray), .int .u8 4, .string (⟨#[109, 100]⟩ : ByteArray), .string ⟨#[]⟩] 41 (0, 0)) (by repeat (first | exact BN.out | refine blk_alloc ?_ _)) hb); clear BN; have BN := BNn; clear BNn; have HBn := Aside0.mk (below_step (by repeat (first | (with_reducible first | exact HB.out | apply below_alloc | apply pw_below_drewN | apply below_drew1) | exact HB.out)) hb); clear HB; have HB := HBn; clear HBn; clear hb) | (go_at_call 25; (with_reducible refine (meta_calls _ (Tabs.below HT.out (by repeat (first | (with_reducible first | exact HB.out | apply below_alloc | apply pw_below_drewN | apply below_drew1) | exact HB.out)))).mono ?_); rintro e w4 ⟨rfl, hb⟩; have BXn := Aside0.mk (blk_below (g := w.heap.size) (o := .cells #[.int .i64 8, .string (⟨#[107]⟩ : ByteArray), .slice none 0 0, .int .u32 0, .int .i64 0, .int .u64 0, .int .u64 0, .int .u64 0, .bool false, .bool false] 26 (0, 0)) (by repeat (first | exact BX.out | refine blk_alloc ?_ _)) hb); clear BX; have BX := BXn; clear BXn; have BNn := Aside0.mk (blk_below (g := w1.heap.size) (o := .cells #[.string (⟨#[100, 101, 108, 101, 116, 101]⟩ : ByteArray), .int .u8 4, .string (⟨#[109, 100]⟩ : ByteArray), .string ⟨#[]⟩] 41 (0, 0)) (by repeat (first | exact BN.out | refine blk_alloc ?_ _)) hb); clear BN; have BN := BNn; clear BNn; have HBn := Aside0.mk (below_step (by repeat (first | (with_reducible first | exact HB.out | apply below_alloc | apply pw_below_drewN | apply below_drew1) | exact HB.out)) hb); clear HB; have HB := HBn; clear HBn; clear hb; have t0 : w4.cell? ⟨w.heap.size, 0, none⟩ = some (.int .i64 8) := (blk_cell BX.out 0).trans rfl) | (go_at_call 26; (with_reducible refine (script_stores.calls 8 false _ rfl).mono ?_); rintro e w5 ⟨rfl, hd⟩; have hb := hd.below; clear t0 hd; have HBn := Aside0.mk (below_step (by repeat (first | (with_reducible first | exact HB.out | apply below_alloc | apply pw_below_drewN | apply below_drew1) | exact HB.out)) hb); clear HB; have HB := HBn; clear HBn; clear hb) | ((with_reducible refine gate_dst (N := 42) rfl ?_); refine wp_bytes rfl _ _ _ _ rfl _ rfl Tryz.underlying9 Tryz.underlying22 Tryz.underlying5 (by decide) ?_; intro Ab cb wb hcap hby hb; have HBY := Aside0.mk hby; have HCAP := Aside0.mk hcap; have HBn := Aside0.mk (below_step (by repeat (first | (with_reducible first | exact HB.out | apply below_alloc | apply pw_below_drewN | apply below_drew1) | exact HB.out)) hb); clear HB; have HB := HBn; clear HBn; clear hcap hby hb))
  go_ret
  exact ⟨Ab, cb, rfl, HCAP.out, HBY.out, (by repeat (first | (with_reducible first | exact HB.out | apply below_alloc | apply pw_below_drewN | apply below_drew1) | exact HB.out))⟩
end Go.Proofs.YtamndkiagenfnaaGreatDoor.X
namespace Go.Proofs.YtamndkiagenfnaaGreatDoor.X
open Go.RowKit Go.Proofs.YtamndkiagenfnaaGreatDoorW.PrintWords Go.Proofs.YtamndkiagenfnaaGreatDoorW.PrintMore
set_option linter.unusedVariables false
set_option linter.unusedSimpArgs false
theorem plain5_calls (w : World) : Calls Tryz.prog 17 #[.agg #[.int .i64 5, .slice none 0 0, .int .u32 0, .int .u64 0, .int .i64 0, .int .u64 0, .bool false, .bool false, .bool false]] w fun e w' => e = .returned (.agg #[.int .i64 5, .slice none 0 0, .int .u32 0, .int .u64 0, .int .i64 0, .int .u64 0, .bool false, .bool false, .bool false]) ∧ Below w.heap.size w w' :=
  plain_no 5 0 0 0 0 none 0 0 false false false w (by decide)
theorem hp_calls (g : Nat) (A : Option Addr) (c : Nat) (w : World) (h1 : Bytes w (some ⟨g, 0, none⟩) awR) (h2 : Bytes w A awR) : Calls Tryz.prog 34 #[.slice (some ⟨g, 0, none⟩) 4 4, .slice A 4 c] w fun e w' => e = .returned (.bool true) ∧ w' = w :=
  Tryz.bytes_HasPrefix_all (some ⟨g, 0, none⟩) A 4 4 4 c awR awR w rfl rfl (by decide) (in_of_C h1) (in_of_C h2)
set_option maxRecDepth 100000 in
theorem clone_nil (w : World) : Calls Tryz.prog 35 #[.slice none 0 0] w fun e w' => e = .returned (.slice none 0 0) ∧ Below w.heap.size w w' := by
  have HB := Aside0.mk (Below.refl w.heap.size w)
  go_enter Tryz.func35, Tryz.ntmps35
  go_wp2
  rw [Lib.run_eql_slice_nil (h := Tryz.underlying22)]
  go_wp2
  go_ret
  exact ⟨rfl, HB.out⟩
set_option maxRecDepth 100000 in
set_option maxHeartbeats 2000000 in
theorem decode_calls (g : Nat) (w : World) (hT : Tabs w) (hM : MaxC w) (hb : Bytes w (some ⟨g, 0, none⟩) awR) :
    Calls Tryz.prog 14 #[.int .i64 3, .agg #[.int .i64 8, .string (⟨#[107]⟩ : ByteArray), .slice none 0 0, .int .u32 0, .int .i64 0, .int .u64 0, .int .u64 0, .int .u64 0, .bool false, .bool false], .slice (some ⟨g, 0, none⟩) 4 4] w fun e w' => e = .returned (.tuple #[.agg #[.int .i64 5, .slice none 0 0, .int .u32 0, .int .u64 0, .int .i64 0, .int .u64 0, .bool false, .bool false, .bool false], .int .i64 4]) ∧ Below w.heap.size w w' := by
  have HB := Aside0.mk (Below.refl w.heap.size w)
  have HT := Aside0.mk hT
  have HM := Aside0.mk hM
  have HBY := Aside0.mk hb
  clear hT hM hb
  go_enter Tryz.func14, Tryz.ntmps14
  go_wp2_with (first | (go_at_call 10; (with_reducible refine (says_calls _).mono ?_); rintro e w2 ⟨rfl, hb⟩; have BX := Aside0.mk (blk_below (g := w.heap.size) (o := .cells #[.int .i64 8, .string (⟨#[107]⟩ : ByteArray), .slice none 0 0, .int .u32 0, .int .i64 0, .int .u64 0, .int .u64 0, .int .u64 0, .bool false, .bool false] 26 (0, 0)) (by repeat (first | exact blk_at_new _ _ _ (by simp; done) | exact blk_at_new _ _ _ rfl | refine blk_alloc ?_ _ | refine blk_drew ?_ | refine blk_drewN ?_ _)) hb); have BR := Aside0.mk (blk_below (g := w.heap.size + 1) (o := .cells #[.int .i64 0, .slice none 0 0, .int .u32 0, .int .u64 0, .int .i64 0, .int .u64 0, .bool false, .bool false, .bool false] 32 (0, 0)) (by repeat (first | exact blk_at_new _ _ _ (by simp; done) | exact blk_at_new _ _ _ rfl | refine blk_alloc ?_ _ | refine blk_drew ?_ | refine blk_drewN ?_ _)) hb); have HBn := Aside0.mk (below_step (by repeat (first | (with_reducible first | exact HB.out | apply below_alloc | apply pw_below_drewN | apply below_drew1) | exact HB.out)) hb); clear HB; have HB := HBn; clear HBn; clear hb) | (refine wpList_load_row rfl 26 _ rfl w.heap.size rfl 26 _ (0, 0) _ (by repeat (first | exact BX.out | refine blk_alloc ?_ _)) Tryz.underlying26 rfl (by kernel_rfl) ?_) | (go_at_call 31; (with_reducible refine (heard_calls g _ (Tabs.below HT.out (by repeat (first | (with_reducible first | exact HB.out | apply below_alloc | apply pw_below_drewN | apply below_drew1) | exact HB.out))) (HM.out.below (by repeat (first | (with_reducible first | exact HB.out | apply below_alloc | apply pw_below_drewN | apply below_drew1) | exact HB.out))) (Kd.C_below HBY.out (by repeat (first | (with_reducible first | exact HB.out | apply below_alloc | apply pw_below_drewN | apply below_drew1) | exact HB.out)))).mono ?_); rintro e w3 ⟨rfl, hb⟩; have BXn := Aside0.mk (blk_below (g := w.heap.size) (o := .cells #[.int .i64 8, .string (⟨#[107]⟩ : ByteArray), .slice none 0 0, .int .u32 0, .int .i64 0, .int .u64 0, .int .u64 0, .int .u64 0, .bool false, .bool false] 26 (0, 0)) (by repeat (first | exact BX.out | refine blk_alloc ?_ _)) hb); clear BX; have BX := BXn; clear BXn; have BRn := Aside0.mk (blk_below (g := w.heap.size + 1) (o := .cells #[.int .i64 0, .slice none 0 0, .int .u32 0, .int .u64 0, .int .i64 0, .int .u64 0, .bool false, .bool false, .bool false] 32 (0, 0)) (by repeat (first | exact BR.out | refine blk_alloc ?_ _)) hb); clear BR; have BR := BRn; clear BRn; have HBn := Aside0.mk (below_step (by repeat (first | (with_reducible first | exact HB.out | apply below_alloc | apply pw_below_drewN | apply below_drew1) | exact HB.out)) hb); clear HB; have HB := HBn; clear HBn; clear hb; have hl3 : w.heap.size < w3.heap.size := blk_lt BX.out; have hr3 : w.heap.size + 1 < w3.heap.size := blk_lt BR.out; have t0 : w3.cell? ⟨w.heap.size, 0, none⟩ = some (.int .i64 8) := (blk_cell BX.out 0).trans rfl) | (go_at_call 32; (with_reducible refine (stat_calls _).mono ?_); rintro e w4 ⟨b4, o4, c4, rfl, hc4, hb4, hcell, hb⟩; have BXn := Aside0.mk (blk_below (g := w.heap.size) (o := .cells #[.int .i64 8, .string (⟨#[107]⟩ : ByteArray), .slice none 0 0, .int .u32 0, .int .i64 0, .int .u64 0, .int .u64 0, .int .u64 0, .bool false, .bool false] 26 (0, 0)) (by repeat (first | exact BX.out | refine blk_alloc ?_ _)) hb); clear BX; have BX := BXn; clear BXn; have BRn := Aside0.mk (blk_below (g := w.heap.size + 1) (o := .cells #[.int .i64 0, .slice none 0 0, .int .u32 0, .int .u64 0, .int .i64 0, .int .u64 0, .bool false, .bool false, .bool false] 32 (0, 0)) (by repeat (first | exact BR.out | refine blk_alloc ?_ _)) hb); clear BR; have BR := BRn; clear BRn; have B8 := Aside0.mk (blk_below (g := w3.heap.size) (o := .cells #[.int .i64 0, .slice none 0 0, .int .u32 0, .int .u64 0, .int .i64 0, .int .u64 0, .bool false, .bool false, .bool false] 32 (0, 0)) (by repeat (first | exact blk_at_new _ _ _ (by simp; done) | exact blk_at_new _ _ _ rfl | refine blk_alloc ?_ _ | refine blk_drew ?_ | refine blk_drewN ?_ _)) hb); have HBn := Aside0.mk (below_step (by repeat (first | (with_reducible first | exact HB.out | apply below_alloc | apply pw_below_drewN | apply below_drew1) | exact HB.out)) hb); clear HB; have HB := HBn; clear HBn; clear hb t0; have hc4i : (2 : Int) ≤ ↑c4 := (by omega)))
  have HR3 : Aside0 (w.heap.size + 1 < w3.heap.size) := ⟨hr3⟩
  go_loopw [24] (fun v wr => v = .int .i64 0 ∧ Aside0 (wr = w4)) (fun _ _ => 0)
  case atStart => exact ⟨rfl, ⟨rfl⟩⟩
  case round =>
    obtain ⟨rfl, ⟨rfl⟩⟩ := hrel
    go_wp2_with (first | (refine wpList_store_1 rfl 3 _ _ rfl w3.heap.size 0 (.int .i64 5) rfl rfl rfl 32 _ (#[.int .i64 5, .slice none 0 0, .int .u32 0, .int .u64 0, .int .i64 0, .int .u64 0, .bool false, .bool false, .bool false]) B8.out (by simp) (by kernel_rfl) rfl ?_; intro w5 hbk hst; have BXn := Aside0.mk (hst.blk BX.out (by omega)); have BRn := Aside0.mk (hst.blk BR.out (by have := blk_lt BR.out; have := HR3.out; omega)); have HBn := Aside0.mk (hst.up HB.out (by omega)); clear BX BR HB B8; have BX := BXn; have BR := BRn; have HB := HBn; have B8 := Aside0.mk hbk; clear BXn BRn HBn hbk hst hcell) | (refine wpList_load_row rfl 26 _ rfl w.heap.size rfl 26 _ (0, 0) _ (by repeat (first | exact BX.out | refine blk_alloc ?_ _)) Tryz.underlying26 rfl (by kernel_rfl) ?_) | (refine wpList_load_row rfl 32 _ rfl w3.heap.size rfl 32 _ (0, 0) _ (by repeat (first | exact B8.out | refine blk_alloc ?_ _)) Tryz.underlying32 rfl (by kernel_rfl) ?_) | (go_at_call 33; (with_reducible refine (answer_calls _ (Tabs.below HT.out (by repeat (first | (with_reducible first | exact HB.out | apply below_alloc | apply pw_below_drewN | apply below_drew1) | exact HB.out)))).mono ?_); rintro e w6 ⟨A6, c6, rfl, hc6, hby6, hb⟩; have BXn := Aside0.mk (blk_below (g := w.heap.size) (o := .cells #[.int .i64 8, .string (⟨#[107]⟩ : ByteArray), .slice none 0 0, .int .u32 0, .int .i64 0, .int .u64 0, .int .u64 0, .int .u64 0, .bool false, .bool false] 26 (0, 0)) (by repeat (first | exact BX.out | refine blk_alloc ?_ _)) hb); clear BX; have BX := BXn; clear BXn; have BRn := Aside0.mk (blk_below (g := w.heap.size + 1) (o := .cells #[.int .i64 0, .slice none 0 0, .int .u32 0, .int .u64 0, .int .i64 0, .int .u64 0, .bool false, .bool false, .bool false] 32 (0, 0)) (by repeat (first | exact BR.out | refine blk_alloc ?_ _)) hb); clear BR; have BR := BRn; clear BRn; have B8n := Aside0.mk (blk_below (g := w3.heap.size) (o := .cells #[.int .i64 5, .slice none 0 0, .int .u32 0, .int .u64 0, .int .i64 0, .int .u64 0, .bool false, .bool false, .bool false] 32 (0, 0)) (by repeat (first | exact B8.out | refine blk_alloc ?_ _)) hb); clear B8; have B8 := B8n; clear B8n; have HBn := Aside0.mk (below_step (by repeat (first | (with_reducible first | exact HB.out | apply below_alloc | apply pw_below_drewN | apply below_drew1) | exact HB.out)) hb); clear HB; have HB := HBn; clear HBn; clear hb; have HY6 := Aside0.mk hby6; clear hby6) | (go_at_call 34; (with_reducible refine (hp_calls g A6 c6 _ (Kd.C_below HBY.out (by repeat (first | (with_reducible first | exact HB.out | apply below_alloc | apply pw_below_drewN | apply below_drew1) | exact HB.out))) HY6.out).mono ?_); rintro e w7 ⟨rfl, rfl⟩) | (go_at_call 17; (with_reducible refine (plain5_calls _).mono ?_); rintro e w8 ⟨rfl, hb⟩; have BRn := Aside0.mk (blk_below (g := w.heap.size + 1) (o := .cells #[.int .i64 0, .slice none 0 0, .int .u32 0, .int .u64 0, .int .i64 0, .int .u64 0, .bool false, .bool false, .bool false] 32 (0, 0)) (by repeat (first | exact BR.out | refine blk_alloc ?_ _)) hb); clear BR; have BR := BRn; clear BRn; have HBn := Aside0.mk (below_step (by repeat (first | (with_reducible first | exact HB.out | apply below_alloc | apply pw_below_drewN | apply below_drew1) | exact HB.out)) hb); clear HB; have HB := HBn; clear HBn; clear hb; have HR8 : Aside0 (w.heap.size + 1 < w8.heap.size) := ⟨blk_lt BR.out⟩) | (go_at_call 35; (with_reducible refine (clone_nil _).mono ?_); rintro e w9 ⟨rfl, hb⟩; have BRn := Aside0.mk (blk_below (g := w.heap.size + 1) (o := .cells #[.int .i64 0, .slice none 0 0, .int .u32 0, .int .u64 0, .int .i64 0, .int .u64 0, .bool false, .bool false, .bool false] 32 (0, 0)) (by repeat (first | exact BR.out | refine blk_alloc ?_ _)) hb); clear BR; have BR := BRn; clear BRn; have B10 := Aside0.mk (blk_below (g := w8.heap.size) (o := .cells #[.int .i64 5, .slice none 0 0, .int .u32 0, .int .u64 0, .int .i64 0, .int .u64 0, .bool false, .bool false, .bool false] 32 (0, 0)) (by repeat (first | exact blk_at_new _ _ _ (by simp; done) | exact blk_at_new _ _ _ rfl | refine blk_alloc ?_ _ | refine blk_drew ?_ | refine blk_drewN ?_ _)) hb); have HBn := Aside0.mk (below_step (by repeat (first | (with_reducible first | exact HB.out | apply below_alloc | apply pw_below_drewN | apply below_drew1) | exact HB.out)) hb); clear HB; have HB := HBn; clear HBn; clear hb) | (refine wpList_store_1 rfl 22 _ _ rfl w8.heap.size 1 (.slice none 0 0) rfl rfl rfl 32 _ (#[.int .i64 5, .slice none 0 0, .int .u32 0, .int .u64 0, .int .i64 0, .int .u64 0, .bool false, .bool false, .bool false]) B10.out (by simp) (by kernel_rfl) rfl ?_; intro w10 hbk hst; have BRn := Aside0.mk (hst.blk BR.out (by have := HR8.out; omega)); have HBn := Aside0.mk (hst.up HB.out (by have := HR8.out; omega)); clear BR HB B10; have BR := BRn; have HB := HBn; have B10 := Aside0.mk hbk; clear BRn HBn hbk hst) | (refine wpList_load_row rfl 32 _ rfl w8.heap.size rfl 32 _ (0, 0) _ (by repeat (first | exact B10.out | refine blk_alloc ?_ _)) Tryz.underlying32 rfl (by kernel_rfl) ?_) | (refine wpList_store_A rfl 32 _ _ rfl (w.heap.size + 1) _ rfl rfl 32 _ BR.out (by kernel_rfl) rfl (by kernel_rfl) ?_; intro w11 hbk hlow; have BRn := Aside0.mk hbk; clear BR; have BR := BRn; clear BRn; have HL := Aside0.mk (hlow w.heap.size (Nat.le_succ _)); clear hbk hlow))
    (try simp only [Exit.inBlock, Exit.then])
    refine bodyPost_ret (results_ct rfl _ _ (w.heap.size + 1) 32 _ (0, 0) _ rfl BR.out Tryz.underlying32 rfl (by kernel_rfl)) rfl ?_
    exact ⟨rfl, HB.out.trans HL.out⟩
end Go.Proofs.YtamndkiagenfnaaGreatDoor.X
namespace Go.Proofs.YtamndkiagenfnaaGreatDoor.X
open Go.RowKit Go.Proofs.YtamndkiagenfnaaGreatDoorW.PrintWords Go.Proofs.YtamndkiagenfnaaGreatDoorW.PrintMore
set_option linter.unusedVariables false
set_option linter.unusedSimpArgs false
theorem says1_ok : script_Says.f 1 8 (⟨#[107]⟩ : ByteArray) [] 0 0 0 0 0 false false = some true := by kernel_rfl
theorem says1_calls (w : World) : Calls Tryz.prog 10 #[.int .i64 1, .agg #[.int .i64 8, .string (⟨#[107]⟩ : ByteArray), .slice none 0 0, .int .u32 0, .int .i64 0, .int .u64 0, .int .u64 0, .int .u64 0, .bool false, .bool false]] w fun e w' => e = .returned (.bool true) ∧ Below w.heap.size w w' :=
  script_Says.calls 1 8 _ none 0 [] 0 0 0 0 0 false false true w (C_nil _ _) (Nat.le_refl _) says1_ok
theorem awR_at {W : World} {b : Nat} {e : TypeId} {fr : Nat × Nat} (hb : W.heap[b]? = some (.cells #[.int .u8 72, .int .u8 68, .int .u8 13, .int .u8 10] e fr)) : Bytes W (some ⟨b, 0, none⟩) awR := Bytes_at hb awR (by decide) rfl
theorem str_md : strOfNums (bytesOf (⟨#[109, 100, 32, 107, 13, 10]⟩ : ByteArray)) = (⟨#[109, 100, 32, 107, 13, 10]⟩ : ByteArray) := rfl
theorem md_len {w : World} {A : Option Addr} (h : Bytes w A (bytesOf (⟨#[109, 100, 32, 107, 13, 10]⟩ : ByteArray))) : (Kd.int .u8).C w A 6 (bytesOf (⟨#[109, 100, 32, 107, 13, 10]⟩ : ByteArray)) := h
set_option maxRecDepth 100000 in
set_option maxHeartbeats 2000000 in
theorem awake_calls (w : World) (hT : Tabs w) (hM : MaxC w) : Calls Tryz.prog 8 #[] w fun e w' => e = .returned (.bool true) ∧ Below w.heap.size w w' := by
  have HB := Aside0.mk (Below.refl w.heap.size w)
  have HT := Aside0.mk hT
  have HM := Aside0.mk hM
  clear hT hM
  go_enter Tryz.func8, Tryz.ntmps8
  go_wp2_with (first | ((with_reducible refine gate_dst (N := 8) rfl ?_); (first | (refine wp_const_drew rfl _ _ _ rfl _ _ _ _ rfl ?_ Tryz.underlying22 Tryz.underlying5 ?_) | (refine wp_const rfl _ _ _ rfl _ _ _ _ rfl ?_ Tryz.underlying22 Tryz.underlying5 ?_)); (case _ => simp)) | (go_at_call 14; (with_reducible refine (decode_calls (w.heap.size + 1) _ (Tabs.below HT.out (by repeat (first | (with_reducible first | exact HB.out | apply below_alloc | apply pw_below_drewN | apply below_drew1) | exact HB.out))) (HM.out.below (by repeat (first | (with_reducible first | exact HB.out | apply below_alloc | apply pw_below_drewN | apply below_drew1) | exact HB.out))) (awR_at (by repeat first | (apply ha_at; (simp; done)) | apply ha_old))).mono ?_); rintro e w1 ⟨rfl, hb⟩; have BX := Aside0.mk (blk_below (g := w.heap.size) (o := .cells #[.int .i64 8, .string (⟨#[107]⟩ : ByteArray), .slice none 0 0, .int .u32 0, .int .i64 0, .int .u64 0, .int .u64 0, .int .u64 0, .bool false, .bool false] 26 (0, 0)) (by repeat (with_reducible first | refine blk_drew ?_ | refine blk_drewN ?_ _ | exact blk_at_new _ _ _ rfl | refine blk_alloc ?_ _)) hb); have HBn := Aside0.mk (below_step (by repeat (first | (with_reducible first | exact HB.out | apply below_alloc | apply pw_below_drewN | apply below_drew1) | exact HB.out)) hb); clear HB; have HB := HBn; clear HBn; clear hb) | (refine wpList_load_row rfl 26 _ rfl w.heap.size rfl 26 _ (0, 0) _ (by repeat (with_reducible first | exact BX.out | refine blk_alloc ?_ _ | refine blk_drew ?_ | refine blk_drewN ?_ _)) Tryz.underlying26 rfl (by kernel_rfl) ?_) | (go_at_call 12; (with_reducible refine (encode_calls _ (Tabs.below HT.out (by repeat (first | (with_reducible first | exact HB.out | apply below_alloc | apply pw_below_drewN | apply below_drew1) | exact HB.out)))).mono ?_); rintro e w2 ⟨A2, c2, rfl, hc2, hby, hb⟩; have BXn := Aside0.mk (blk_below (g := w.heap.size) (o := .cells #[.int .i64 8, .string (⟨#[107]⟩ : ByteArray), .slice none 0 0, .int .u32 0, .int .i64 0, .int .u64 0, .int .u64 0, .int .u64 0, .bool false, .bool false] 26 (0, 0)) (by repeat (with_reducible first | exact BX.out | refine blk_alloc ?_ _ | refine blk_drew ?_ | refine blk_drewN ?_ _)) hb); clear BX; have BX := BXn; clear BXn; have B2 := Aside0.mk (blk_below (g := w1.heap.size) (o := .cells #[.int .i64 5, .slice none 0 0, .int .u32 0, .int .u64 0, .int .i64 0, .int .u64 0, .bool false, .bool false, .bool false] 32 (0, 0)) (by repeat (with_reducible first | refine blk_drew ?_ | refine blk_drewN ?_ _ | exact blk_at_new _ _ _ rfl | refine blk_alloc ?_ _)) hb); have t0 : w2.cell? ⟨w1.heap.size, 0, none⟩ = some (.int .i64 5) := (blk_cell B2.out 0).trans rfl; have x0 : w2.cell? ⟨w.heap.size, 0, none⟩ = some (.int .i64 8) := (blk_cell BX.out 0).trans rfl; have x1 : w2.cell? ⟨w.heap.size, 1, none⟩ = some (.string (⟨#[107]⟩ : ByteArray)) := (blk_cell BX.out 1).trans rfl; have x2 : w2.cell? ⟨w.heap.size, 2, none⟩ = some (.slice none 0 0) := (blk_cell BX.out 2).trans rfl; have x3 : w2.cell? ⟨w.heap.size, 3, none⟩ = some (.int .u32 0) := (blk_cell BX.out 3).trans rfl; have x4 : w2.cell? ⟨w.heap.size, 4, none⟩ = some (.int .i64 0) := (blk_cell BX.out 4).trans rfl; have x5 : w2.cell? ⟨w.heap.size, 5, none⟩ = some (.int .u64 0) := (blk_cell BX.out 5).trans rfl; have x6 : w2.cell? ⟨w.heap.size, 6, none⟩ = some (.int .u64 0) := (blk_cell BX.out 6).trans rfl; have x7 : w2.cell? ⟨w.heap.size, 7, none⟩ = some (.int .u64 0) := (blk_cell BX.out 7).trans rfl; have x8 : w2.cell? ⟨w.heap.size, 8, none⟩ = some (.bool false) := (blk_cell BX.out 8).trans rfl; have x9 : w2.cell? ⟨w.heap.size, 9, none⟩ = some (.bool false) := (blk_cell BX.out 9).trans rfl; have HBY := Aside0.mk hby; have HBn := Aside0.mk (below_step (by repeat (first | (with_reducible first | exact HB.out | apply below_alloc | apply pw_below_drewN | apply below_drew1) | exact HB.out)) hb); clear HB; have HB := HBn; clear HBn; clear hb hby) | ((with_reducible refine gate_dst (N := 14) rfl ?_); refine wp_strof rfl _ _ _ _ rfl _ _ _ (bytesOf (⟨#[109, 100, 32, 107, 13, 10]⟩ : ByteArray)) rfl Tryz.underlying22 Tryz.underlying5 Tryz.underlying9 (md_len HBY.out) ?_; rw [str_md]) | (go_at_call 10; (with_reducible refine (says1_calls _).mono ?_); rintro e w3 ⟨rfl, hb⟩; have HBn := Aside0.mk (below_step (by repeat (first | (with_reducible first | exact HB.out | apply below_alloc | apply pw_below_drewN | apply below_drew1) | exact HB.out)) hb); clear HB; have HB := HBn; clear HBn; clear hb))
  go_ret
  exact ⟨rfl, (by repeat (first | (with_reducible first | exact HB.out | apply below_alloc | apply pw_below_drewN | apply below_drew1) | exact HB.out))⟩
end Go.Proofs.YtamndkiagenfnaaGreatDoor.X
namespace Go.Proofs.YtamndkiagenfnaaGreatDoor.X
set_option linter.unusedVariables false
section
variable {P : Program} {md : Region.Mode} {ops : Array Oper} {Q : Exit → Act → World → Prop} {S : World → Prop}
def wpAnyL (P : Program) (md : Region.Mode) (ops : Array Oper) (Q : Exit → Act → World → Prop) (S : World → Prop) (N : Nat) : Nat → Array Bool → Act → World → Prop
  | 0, listed, a, w => Region.ready md ops listed = [] ∧ Q .normal a w
  | fuel + 1, listed, a, w =>
    (Region.ready md ops listed = [] → Q .normal a w) ∧
    ∀ i ∈ Region.ready md ops listed, wpOp P ops Q i (fun a' w' => (i ≠ N → S w') ∧ wpAnyL P md ops Q S N fuel (listed.setIfInBounds i true) a' w') a w
theorem wpAny_of_L {N : Nat} : ∀ (fuel : Nat) (listed : Array Bool) (a : Act) (w : World), wpAnyL P md ops Q S N fuel listed a w → wpAny P md ops Q fuel listed a w
  | 0, _, _, _, h => h
  | fuel + 1, _, _, _, h => ⟨h.1, fun i hi => wpOp_mono (fun a' w' h' => wpAny_of_L fuel _ a' w' h'.2) (h.2 i hi)⟩
theorem wpAnyL_first {N i : Nat} {oi : Oper} {v : Value} (hi : ops[i]? = some oi) (hsel : ∀ (j : Nat) (o : Oper) cs b, ops[j]? = some o → o.op ≠ .select cs b)
    (hQ : ∀ c a w, Q (.panic c) (a.put oi.dst v) w → Q (.panic c) a w) (hN : ∀ oN, ops[N]? = some oN → ∃ e ∈ oN.after, Region.binds md e = true ∧ e.on = i) :
    ∀ (fuel : Nat) (listed : Array Bool) (a : Act) (w : World),
      (∀ j oj, ops[j]? = some oj → j ≠ i → listed.getD j true = false → (∀ e ∈ oj.after, Region.binds md e = true → e.on ≠ i) → oi.apart ops oj = true) →
      i ∈ Region.ready md ops listed → YieldsIf P ops S oi v a → S w →
      wpAnyL P md ops Q S N fuel (listed.setIfInBounds i true) (a.put oi.dst v) w → wpAnyL P md ops Q S N (fuel + 1) listed a w := by
  intro fuel
  induction fuel with
  | zero =>
    intro listed a w _ hr hy hS H
    refine ⟨fun h => (by rw [h] at hr; cases hr), fun j hj => ?_⟩
    by_cases hji : j = i
    · subst hji; exact hy.wpOp hi hS ⟨fun _ => hS, H⟩
    · have := ready_mono hj hji
      rw [H.1] at this
      cases this
  | succ fuel ih =>
    intro listed a w hfree hr hy hS H
    refine ⟨fun h => (by rw [h] at hr; cases hr), fun j hj => ?_⟩
    by_cases hji : j = i
    · subst hji; exact hy.wpOp hi hS ⟨fun _ => hS, H⟩
    · have h1 := H.2 j (ready_mono hj hji)
      obtain ⟨hjun, oj, hoj, hall⟩ := mem_ready.1 hj
      have hnot : ∀ e ∈ oj.after, Region.binds md e = true → e.on ≠ i := fun e he hb heq => by
        have h1 := hall e he hb
        have h0 := (mem_ready.1 hr).1
        rw [heq] at h1
        rcases Nat.lt_or_ge i listed.size with h' | h'
        · simp [h'] at h0 h1; rw [h0] at h1; cases h1
        · simp [Array.getElem?_eq_none h'] at h1
      have h2 := wpOp_putIf hoj (hfree j oj hoj hji hjun hnot) (fun cs b => hsel i oi cs b hi) (fun cs b => hsel j oj cs b hoj) hQ hy h1
      have hfree' : ∀ k ok, ops[k]? = some ok → k ≠ i → (listed.setIfInBounds j true).getD k true = false →
          (∀ e ∈ ok.after, Region.binds md e = true → e.on ≠ i) → oi.apart ops ok = true := fun k ok hk hki hun hno => by
        refine hfree k ok hk hki ?_ hno
        by_cases hjk : j = k
        · subst hjk; exact hjun
        · rw [getD_set_ne true hjk] at hun; exact hun
      have hjN : j ≠ N := fun e => by
        obtain ⟨x, hx, hb, hon⟩ := hN oj (e ▸ hoj)
        exact hnot x hx hb hon
      refine wpOp_mono (fun a' w' h3 => ⟨h3.2.1, ih (listed.setIfInBounds j true) a' w' hfree' (ready_mono hr (Ne.symm hji)) h3.1 (h3.2.1 hjN) ?_⟩) h2
      rw [Array.setIfInBounds_comm _ _ hji]
      exact h3.2.2
def depB (md : Region.Mode) (ops : Array Oper) (N i : Nat) : Bool := match ops[N]? with | none => true | some o => o.after.any (fun e => Region.binds md e && e.on == i)
theorem depB_spec {N i : Nat} (h : depB md ops N i = true) : ∀ oN, ops[N]? = some oN → ∃ e ∈ oN.after, Region.binds md e = true ∧ e.on = i := by
  intro oN hoN
  unfold depB at h
  rw [hoN] at h
  obtain ⟨k, hk, hx⟩ := Array.any_eq_true.1 h
  rw [Bool.and_eq_true, beq_iff_eq] at hx
  exact ⟨_, Array.getElem_mem hk, hx.1, hx.2⟩
theorem wpAnyL_take {N i : Nat} {oi : Oper} {v : Value} {fuel : Nat} {listed : Array Bool} {a : Act} {w : World} (hi : ops[i]? = some oi)
    (hs : Region.noSelect ops = true) (hf : Region.free md ops listed i = true) (hr : (Region.ready md ops listed).contains i = true) (hd : depB md ops N i = true)
    (hQ : ∀ c a w, Q (.panic c) (a.put oi.dst v) w → Q (.panic c) a w) (hy : YieldsIf P ops S oi v a) (hS : S w)
    (h : wpAnyL P md ops Q S N fuel (listed.setIfInBounds i true) (a.put oi.dst v) w) : wpAnyL P md ops Q S N (fuel + 1) listed a w :=
  wpAnyL_first hi (Region.noSelect_spec hs) hQ (depB_spec hd) fuel listed a w (Region.free_spec hi hf) (by simpa using hr) hy hS h
/-- The one operation that may come up now. -/
theorem wpAnyL_one {N i : Nat} {o : Oper} {fuel : Nat} {listed : Array Bool} {a : Act} {w : World} (hr : Region.ready md ops listed = [i]) (ho : ops[i]? = some o)
    (h : ∀ K' : Act → World → Prop, Shut (∀ a w, (i ≠ N → S w) → ((i ≠ N → S w) → wpAnyL P md ops Q S N fuel (listed.setIfInBounds i true) a w) → K' a w) → if Region.wanted o (yielded ops a.tmps) = true then Oper.wp P o a w K' Q else K' (a.put o.dst undef) w) :
    wpAnyL P md ops Q S N (fuel + 1) listed a w := by
  refine ⟨fun h0 => (by rw [h0] at hr; cases hr), fun j hj => ?_⟩
  rw [hr, List.mem_singleton] at hj
  subst hj
  exact wpOp_step ho (fun K' hK => h K' (fun a w hS hW => hK a w ⟨hS, hW hS⟩))
theorem wpAnyL_done {N : Nat} {listed : Array Bool} {a : Act} {w : World} (hr : Region.ready md ops listed = []) (h : Q .normal a w) : ∀ fuel, wpAnyL P md ops Q S N fuel listed a w
  | 0 => ⟨hr, h⟩
  | _ + 1 => ⟨fun _ => h, by rw [hr]; simp⟩
theorem wp_region_L {id : Nat} {a : Act} {w : World} (N : Nat) (hm : P.follows .mixedOrders = true) (hS : S w.drew)
    (h : S w.drew → wpAnyL P .any ops Q S N ops.size (Array.replicate ops.size false) a w.drew) : (Code.region id ops true).wp P Q a w :=
  wp_region_any hm (wpAny_of_L _ _ _ _ (h hS))
end
end Go.Proofs.YtamndkiagenfnaaGreatDoor.X
namespace Go.Proofs.YtamndkiagenfnaaGreatDoor.X
open Go.RowKit Go.Proofs.YtamndkiagenfnaaGreatDoorW.PrintWords Go.Proofs.YtamndkiagenfnaaGreatDoorW.PrintMore
set_option linter.unusedVariables false
set_option linter.unusedSimpArgs false
set_option maxRecDepth 100000 in
set_option maxHeartbeats 2000000 in
theorem plain_hit (f k t m : Int) (A : Option Addr) (n c : Nat) (b1 b2 b3 : Bool) (w : World) :
    Calls Tryz.prog 17 #[.agg #[.int .i64 0, .slice A n c, .int .u32 f, .int .u64 k, .int .i64 t, .int .u64 m, .bool b1, .bool b2, .bool b3]] w fun e w' => e = .returned (.agg #[.int .i64 0, .slice A n c, .int .u32 f, .int .u64 k, .int .i64 0, .int .u64 0, .bool false, .bool false, .bool false]) ∧ Below w.heap.size w w' := by
  have HB := Aside0.mk (Below.refl w.heap.size w)
  go_enter Tryz.func17, Tryz.ntmps17
  go_upto_region 4 with fail
  obtain ⟨W, hW⟩ : ∃ W, ((w.alloc (.cells #[.int .i64 0, .slice A n c, .int .u32 f, .int .u64 k, .int .i64 t, .int .u64 m, .bool b1, .bool b2, .bool b3] 32 (0, 0))).alloc (.cells #[.int .i64 0, .slice none 0 0, .int .u32 0, .int .u64 0, .int .i64 0, .int .u64 0, .bool false, .bool false, .bool false] 32 (0, 0))).alloc (.cells #[.int .i64 0, .slice none 0 0, .int .u32 0, .int .u64 0, .int .i64 0, .int .u64 0, .bool false, .bool false, .bool false] 32 (0, 0)) = W := ⟨_, rfl⟩
  rw [hW]
  have BX := Aside0.mk (show W.heap[w.heap.size]? = some (.cells #[.int .i64 0, .slice A n c, .int .u32 f, .int .u64 k, .int .i64 t, .int .u64 m, .bool b1, .bool b2, .bool b3] 32 (0, 0)) from hW ▸ blk_alloc (blk_alloc (blk_at_new _ _ _ rfl) _) _)
  have BR := Aside0.mk (show W.heap[w.heap.size + 1]? = some (.cells #[.int .i64 0, .slice none 0 0, .int .u32 0, .int .u64 0, .int .i64 0, .int .u64 0, .bool false, .bool false, .bool false] 32 (0, 0)) from hW ▸ blk_alloc (blk_at_new _ _ _ (by simp)) _)
  have BP := Aside0.mk (show W.drew.heap[w.heap.size + 1 + 1]? = some (.cells #[.int .i64 0, .slice none 0 0, .int .u32 0, .int .u64 0, .int .i64 0, .int .u64 0, .bool false, .bool false, .bool false] 32 (0, 0)) from blk_drew (hW ▸ blk_at_new _ _ _ (by simp)))
  have HBW : Aside0 (Below w.heap.size w W.drew) := ⟨below_drew1 (hW ▸ (by repeat (first | (with_reducible first | exact HB.out | apply below_alloc | apply pw_below_drewN | apply below_drew1) | exact HB.out)))⟩
  clear hW
  have t1 : W.cell? ⟨w.heap.size, 1, none⟩ = some (.slice A n c) := (blk_cell BX.out 1).trans rfl
  have t2 : W.cell? ⟨w.heap.size, 2, none⟩ = some (.int .u32 f) := (blk_cell BX.out 2).trans rfl
  have t3 : W.cell? ⟨w.heap.size, 3, none⟩ = some (.int .u64 k) := (blk_cell BX.out 3).trans rfl
  refine wp_region_noPanic ?_
  refine wp_region_L (S := (fun w' => w'.cell? ⟨w.heap.size, 1, none⟩ = some (.slice A n c) ∧ w'.cell? ⟨w.heap.size, 2, none⟩ = some (.int .u32 f) ∧ w'.cell? ⟨w.heap.size, 3, none⟩ = some (.int .u64 k))) 11 (by kernel_rfl) ⟨t1, t2, t3⟩ ?_
  intro hHeld
  (refine wpAnyL_take (i := 0) (v := ?_) (by simp only [List.getElem?_toArray, List.getElem?_cons_succ, List.getElem?_cons_zero]; rfl) (by kernel_rfl) (by kernel_rfl) (by kernel_rfl) (by kernel_rfl) (fun _ _ _ h => h) (Or.inl ⟨by rfl, ?_⟩) (by exact hHeld) ?_; rotate_left; (focus (intro w' hSw; obtain ⟨s0, s1, s2⟩ := hSw; go_simp; (try with_reducible rfl); done)); (try simp only [Act.put, List.setIfInBounds_toArray, List.set_cons_zero, List.set_cons_succ]))
  (refine wpAnyL_take (i := 1) (v := ?_) (by simp only [List.getElem?_toArray, List.getElem?_cons_succ, List.getElem?_cons_zero]; rfl) (by kernel_rfl) (by kernel_rfl) (by kernel_rfl) (by kernel_rfl) (fun _ _ _ h => h) (Or.inl ⟨by rfl, ?_⟩) (by exact hHeld) ?_; rotate_left; (focus (intro w' hSw; obtain ⟨s0, s1, s2⟩ := hSw; go_simp; (try with_reducible rfl); done)); (try simp only [Act.put, List.setIfInBounds_toArray, List.set_cons_zero, List.set_cons_succ]))
  (refine wpAnyL_take (i := 2) (v := ?_) (by simp only [List.getElem?_toArray, List.getElem?_cons_succ, List.getElem?_cons_zero]; rfl) (by kernel_rfl) (by kernel_rfl) (by kernel_rfl) (by kernel_rfl) (fun _ _ _ h => h) (Or.inl ⟨by rfl, ?_⟩) (by exact hHeld) ?_; rotate_left; (focus (intro w' hSw; obtain ⟨s0, s1, s2⟩ := hSw; go_simp; (try with_reducible rfl); done)); (try simp only [Act.put, List.setIfInBounds_toArray, List.set_cons_zero, List.set_cons_succ]))
  (refine wpAnyL_take (i := 3) (v := ?_) (by simp only [List.getElem?_toArray, List.getElem?_cons_succ, List.getElem?_cons_zero]; rfl) (by kernel_rfl) (by kernel_rfl) (by kernel_rfl) (by kernel_rfl) (fun _ _ _ h => h) (Or.inl ⟨by rfl, ?_⟩) (by exact hHeld) ?_; rotate_left; (focus (intro w' hSw; obtain ⟨s0, s1, s2⟩ := hSw; go_simp; (try with_reducible rfl); done)); (try simp only [Act.put, List.setIfInBounds_toArray, List.set_cons_zero, List.set_cons_succ]))
  (refine wpAnyL_take (i := 4) (v := ?_) (by simp only [List.getElem?_toArray, List.getElem?_cons_succ, List.getElem?_cons_zero]; rfl) (by kernel_rfl) (by kernel_rfl) (by kernel_rfl) (by kernel_rfl) (fun _ _ _ h => h) (Or.inl ⟨by rfl, ?_⟩) (by exact hHeld) ?_; rotate_left; (focus (intro w' hSw; obtain ⟨s0, s1, s2⟩ := hSw; go_simp; (try with_reducible rfl); done)); (try simp only [Act.put, List.setIfInBounds_toArray, List.set_cons_zero, List.set_cons_succ]))
  (refine wpAnyL_take (i := 5) (v := ?_) (by simp only [List.getElem?_toArray, List.getElem?_cons_succ, List.getElem?_cons_zero]; rfl) (by kernel_rfl) (by kernel_rfl) (by kernel_rfl) (by kernel_rfl) (fun _ _ _ h => h) (Or.inl ⟨by rfl, ?_⟩) (by exact hHeld) ?_; rotate_left; (focus (intro w' hSw; obtain ⟨s0, s1, s2⟩ := hSw; go_simp; (try with_reducible rfl); done)); (try simp only [Act.put, List.setIfInBounds_toArray, List.set_cons_zero, List.set_cons_succ]))
  (refine wpAnyL_take (i := 6) (v := ?_) (by simp only [List.getElem?_toArray, List.getElem?_cons_succ, List.getElem?_cons_zero]; rfl) (by kernel_rfl) (by kernel_rfl) (by kernel_rfl) (by kernel_rfl) (fun _ _ _ h => h) (Or.inl ⟨by rfl, ?_⟩) (by exact hHeld) ?_; rotate_left; (focus (intro w' hSw; obtain ⟨s0, s1, s2⟩ := hSw; go_simp; (try with_reducible rfl); done)); (try simp only [Act.put, List.setIfInBounds_toArray, List.set_cons_zero, List.set_cons_succ]))
  refine wpAnyL_one (i := 7) (by kernel_rfl) (by simp only [List.getElem?_toArray, List.getElem?_cons_succ, List.getElem?_cons_zero]; rfl) (fun K hK => ?_)
  refine step_store_F rfl 22 _ _ rfl (w.heap.size + 1 + 1) 1 [.slice A n c] rfl rfl (by intro u hu; simp only [List.mem_singleton] at hu; subst hu; rfl) 32 _ (#[.int .i64 0, .slice A n c, .int .u32 0, .int .u64 0, .int .i64 0, .int .u64 0, .bool false, .bool false, .bool false]) BP.out (by simp) (by kernel_rfl) rfl ?_
  intro w3 hbk hst3
  have BP3 := Aside0.mk hbk
  have HST3 := Aside0.mk hst3
  have BX3 : Aside0 (w3.heap[w.heap.size]? = some (.cells #[.int .i64 0, .slice A n c, .int .u32 f, .int .u64 k, .int .i64 t, .int .u64 m, .bool b1, .bool b2, .bool b3] 32 (0, 0))) := ⟨hst3.blk (blk_drew BX.out) (by omega)⟩
  refine hK.out _ _ (fun _ => ⟨(blk_cell BX3.out 1).trans rfl, (blk_cell BX3.out 2).trans rfl, (blk_cell BX3.out 3).trans rfl⟩) ?_
  clear hK K hHeld hbk hst3
  intro hHeld
  have hHeld := hHeld (by decide)
  (try simp only [Act.put, List.setIfInBounds_toArray, List.set_cons_zero, List.set_cons_succ])
  (refine wpAnyL_take (i := 8) (v := ?_) (by simp only [List.getElem?_toArray, List.getElem?_cons_succ, List.getElem?_cons_zero]; rfl) (by kernel_rfl) (by kernel_rfl) (by kernel_rfl) (by kernel_rfl) (fun _ _ _ h => h) (Or.inl ⟨by rfl, ?_⟩) (by exact hHeld) ?_; rotate_left; (focus (intro w' hSw; obtain ⟨s0, s1, s2⟩ := hSw; go_simp; (try with_reducible rfl); done)); (try simp only [Act.put, List.setIfInBounds_toArray, List.set_cons_zero, List.set_cons_succ]))
  refine wpAnyL_one (i := 9) (by kernel_rfl) (by simp only [List.getElem?_toArray, List.getElem?_cons_succ, List.getElem?_cons_zero]; rfl) (fun K hK => ?_)
  refine step_store_F rfl 23 _ _ rfl (w.heap.size + 1 + 1) 2 [.int .u32 f] rfl rfl (by intro u hu; simp only [List.mem_singleton] at hu; subst hu; rfl) 32 _ (#[.int .i64 0, .slice A n c, .int .u32 f, .int .u64 0, .int .i64 0, .int .u64 0, .bool false, .bool false, .bool false]) BP3.out (by simp) (by kernel_rfl) rfl ?_
  intro w4 hbk hst4
  have BP4 := Aside0.mk hbk
  have HST4 := Aside0.mk hst4
  have BX4 : Aside0 (w4.heap[w.heap.size]? = some (.cells #[.int .i64 0, .slice A n c, .int .u32 f, .int .u64 k, .int .i64 t, .int .u64 m, .bool b1, .bool b2, .bool b3] 32 (0, 0))) := ⟨hst4.blk BX3.out (by omega)⟩
  refine hK.out _ _ (fun _ => ⟨(blk_cell BX4.out 1).trans rfl, (blk_cell BX4.out 2).trans rfl, (blk_cell BX4.out 3).trans rfl⟩) ?_
  clear hK K hHeld hbk hst4
  intro hHeld
  have hHeld := hHeld (by decide)
  (try simp only [Act.put, List.setIfInBounds_toArray, List.set_cons_zero, List.set_cons_succ])
  (refine wpAnyL_take (i := 10) (v := ?_) (by simp only [List.getElem?_toArray, List.getElem?_cons_succ, List.getElem?_cons_zero]; rfl) (by kernel_rfl) (by kernel_rfl) (by kernel_rfl) (by kernel_rfl) (fun _ _ _ h => h) (Or.inl ⟨by rfl, ?_⟩) (by exact hHeld) ?_; rotate_left; (focus (intro w' hSw; obtain ⟨s0, s1, s2⟩ := hSw; go_simp; (try with_reducible rfl); done)); (try simp only [Act.put, List.setIfInBounds_toArray, List.set_cons_zero, List.set_cons_succ]))
  refine wpAnyL_one (i := 11) (by kernel_rfl) (by simp only [List.getElem?_toArray, List.getElem?_cons_succ, List.getElem?_cons_zero]; rfl) (fun K hK => ?_)
  refine step_store_F rfl 24 _ _ rfl (w.heap.size + 1 + 1) 3 [.int .u64 k] rfl rfl (by intro u hu; simp only [List.mem_singleton] at hu; subst hu; rfl) 32 _ (#[.int .i64 0, .slice A n c, .int .u32 f, .int .u64 k, .int .i64 0, .int .u64 0, .bool false, .bool false, .bool false]) BP4.out (by simp) (by kernel_rfl) rfl ?_
  intro w5 hbk hst5
  have BP5 := Aside0.mk hbk
  have HST5 := Aside0.mk hst5
  refine hK.out _ _ (fun h => absurd rfl h) ?_
  clear hK K hHeld hbk hst5
  intro _
  (try simp only [Act.put, List.setIfInBounds_toArray, List.set_cons_zero, List.set_cons_succ])
  refine wpAnyL_done (by kernel_rfl) ?_ _
  refine NoPanic.normal ?_
  have BR5 := Aside0.mk (HST5.out.blk (HST4.out.blk (HST3.out.blk (show W.drew.heap[w.heap.size + 1]? = _ from blk_drew BR.out) (by omega)) (by omega)) (by omega))
  have HB5 : Aside0 (Below w.heap.size w w5) := ⟨HST5.out.up (HST4.out.up (HST3.out.up HBW.out (by omega)) (by omega)) (by omega)⟩
  go_wp2_with (first
    | (refine wpList_load_row rfl 32 _ rfl (w.heap.size + 1 + 1) rfl 32 _ (0, 0) _ BP5.out Tryz.underlying32 rfl (by kernel_rfl) ?_)
    | (refine wpList_store_A rfl 32 _ _ rfl (w.heap.size + 1) _ rfl rfl 32 _ BR5.out (by kernel_rfl) rfl (by kernel_rfl) ?_; intro w6 hbk hlow; have BR6 := Aside0.mk hbk; have HL := Aside0.mk (hlow w.heap.size (Nat.le_succ _)); clear hbk hlow))
  (try simp only [Exit.inBlock, Exit.then])
  refine bodyPost_ret (results_cell_row rfl _ _ (w.heap.size + 1) 32 _ (0, 0) _ rfl BR6.out Tryz.underlying32 rfl (by kernel_rfl)) rfl ?_
  exact ⟨rfl, HB5.out.trans HL.out⟩
end Go.Proofs.YtamndkiagenfnaaGreatDoor.X
