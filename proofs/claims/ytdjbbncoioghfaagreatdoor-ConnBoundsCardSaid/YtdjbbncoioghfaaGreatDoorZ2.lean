/- Texts of this work, merged in build order: Fn2, Pf2, Key3, Body, Body2, Api, K, Step, Step2, Keys, Nums, Verb, Flush, Clo. -/
import Derived.Test.YtdjbbncoioghfaaGreatDoorZ1
import Derived.Test.YtdjbbncoioghfaaGreatDoorProg
import Derived.Below
import Derived.Deep.Draws
import Derived.Deep.AppendLies
import Derived.Maps.AppendAt
import Derived.OwnWalk
import Derived.Laws.BytesArg
import Derived.Laws.MakeOwn
import Derived.Laws.OwnMore
import Derived.Deep.OwnRows
import Derived.Tactics
import Derived.Lib.ConvBytes
import Derived.Laws.Slices
import Derived.WalkKit
import Derived.KernelRfl
import Derived.RowKit3
import Derived.Deep.LoopGhost
import Derived.Deep.QuietTactic
import Derived.BigQuiet
import Derived.WideLaws
import Derived.Deep.DeepCutAuto
import Derived.Deep.CutBlock
import Derived.Deep.RegionHeld3
import Derived.Laws.Rows
import Derived.Lib.AppendStr
import Derived.ArgAppend
import Derived.Laws.IdiomCopy
import Derived.OrdersHeld
import Derived.Laws.BitsLemmas
import Derived.RowKit
import Derived.WalkSpells
import Derived.Laws.CopyOwn
namespace Go.Proofs.YtdjbbncoioghfaaGreatDoor.X
open Go.RowKit Go.Proofs.YtdjbbncoioghfaaGreatDoorW.PrintWords Go.Proofs.YtdjbbncoioghfaaGreatDoorW.PrintLast Go.Proofs.YtdjbbncoioghfaaGreatDoorW.PrintMore
attribute [local go_sem] max2_int min2_int max_two min_two max_three min_three max_four min_four
set_option linter.unusedVariables false
set_option linter.unusedSimpArgs false

/-! ### butteryref01_Decimal -/
mutual
def butteryref01_Decimal.j0 : Nat → ByteArray → Bool → Option (Int × Bool)
  | 0, _, _ => none
  | k + 1, x0, x14 => if x14 = true then (some (0, false)) else (butteryref01_Decimal.l0 k x0 0 0)
def butteryref01_Decimal.l0 : Nat → ByteArray → Int → Int → Option (Int × Bool)
  | 0, _, _, _ => none
  | k + 1, x0, x4, x5 => if x5 < (x0.size : Int) then (if 0 ≤ x5 then (if (bt x0 x5) < 48 then (butteryref01_Decimal.j2 k x0 x4 x5 true) else (butteryref01_Decimal.j2 k x0 x4 x5 (decide ((bt x0 x5) > 57)))) else (none)) else (some (x4, true))
def butteryref01_Decimal.j2 : Nat → ByteArray → Int → Int → Bool → Option (Int × Bool)
  | 0, _, _, _, _ => none
  | k + 1, x0, x4, x5, x30 => if x30 = true then (some (0, false)) else (if 0 ≤ x5 then (if x5 < (x0.size : Int) then (if x4 > ((18446744073709551615 - (((bt x0 x5) - 48) % 256)) / 10) then (some (0, false)) else (butteryref01_Decimal.l0 k x0 (IntKind.u64.wrap ((IntKind.u64.wrap (10 * x4)) + (((bt x0 x5) - 48) % 256))) (wrap64 (x5 + 1)))) else (none)) else (none))
end
def butteryref01_Decimal.f (k : Nat) (a0 : ByteArray) : Option (Int × Bool) := if (a0.size : Int) = 0 then (butteryref01_Decimal.j0 k a0 true) else (butteryref01_Decimal.j0 k a0 (decide ((a0.size : Int) > 40)))
theorem butteryref01_Decimal.mono_l : ∀ k, (∀ y0 y1, LeO (butteryref01_Decimal.j0 k y0 y1) (butteryref01_Decimal.j0 (k + 1) y0 y1)) ∧ (∀ y0 y1 y2, LeO (butteryref01_Decimal.l0 k y0 y1 y2) (butteryref01_Decimal.l0 (k + 1) y0 y1 y2)) ∧ (∀ y0 y1 y2 y3, LeO (butteryref01_Decimal.j2 k y0 y1 y2 y3) (butteryref01_Decimal.j2 (k + 1) y0 y1 y2 y3))
  | 0 => ⟨fun _ _ r h => by simp [butteryref01_Decimal.j0] at h, fun _ _ _ r h => by simp [butteryref01_Decimal.l0] at h, fun _ _ _ _ r h => by simp [butteryref01_Decimal.j2] at h⟩
  | k + 1 => by
    obtain ⟨ih0, ih1, ih2⟩ := butteryref01_Decimal.mono_l k
    refine ⟨?_, ?_, ?_⟩
    · intro y0 y1
      unfold butteryref01_Decimal.j0
      repeat' first
      | (with_reducible exact ih0 _ _)
      | (with_reducible exact ih1 _ _ _)
      | (with_reducible exact ih2 _ _ _ _)
      | (with_reducible exact LeO.refl _)
      | (with_reducible exact LeO.none _)
      | (with_reducible refine LeO.ite ?_ ?_)
      | (with_reducible refine LeO.bind ?_ (fun _ => ?_))
      | exact ih0 _ _
      | exact ih1 _ _ _
      | exact ih2 _ _ _ _
      | exact LeO.none _
      | refine LeO.ite ?_ ?_
      | refine LeO.bind ?_ (fun _ => ?_)
    · intro y0 y1 y2
      unfold butteryref01_Decimal.l0
      repeat' first
      | (with_reducible exact ih0 _ _)
      | (with_reducible exact ih1 _ _ _)
      | (with_reducible exact ih2 _ _ _ _)
      | (with_reducible exact LeO.refl _)
      | (with_reducible exact LeO.none _)
      | (with_reducible refine LeO.ite ?_ ?_)
      | (with_reducible refine LeO.bind ?_ (fun _ => ?_))
      | exact ih0 _ _
      | exact ih1 _ _ _
      | exact ih2 _ _ _ _
      | exact LeO.none _
      | refine LeO.ite ?_ ?_
      | refine LeO.bind ?_ (fun _ => ?_)
    · intro y0 y1 y2 y3
      unfold butteryref01_Decimal.j2
      repeat' first
      | (with_reducible exact ih0 _ _)
      | (with_reducible exact ih1 _ _ _)
      | (with_reducible exact ih2 _ _ _ _)
      | (with_reducible exact LeO.refl _)
      | (with_reducible exact LeO.none _)
      | (with_reducible refine LeO.ite ?_ ?_)
      | (with_reducible refine LeO.bind ?_ (fun _ => ?_))
      | exact ih0 _ _
      | exact ih1 _ _ _
      | exact ih2 _ _ _ _
      | exact LeO.none _
      | refine LeO.ite ?_ ?_
      | refine LeO.bind ?_ (fun _ => ?_)
theorem butteryref01_Decimal.mono : ∀ a0 k, LeO (butteryref01_Decimal.f k a0) (butteryref01_Decimal.f (k + 1) a0) := by
  intro a0 k
  obtain ⟨ih0, ih1, ih2⟩ := butteryref01_Decimal.mono_l k
  unfold butteryref01_Decimal.f
  repeat' first
      | (with_reducible exact ih0 _ _)
      | (with_reducible exact ih1 _ _ _)
      | (with_reducible exact ih2 _ _ _ _)
      | (with_reducible exact LeO.refl _)
      | (with_reducible exact LeO.none _)
      | (with_reducible refine LeO.ite ?_ ?_)
      | (with_reducible refine LeO.bind ?_ (fun _ => ?_))
      | exact ih0 _ _
      | exact ih1 _ _ _
      | exact ih2 _ _ _ _
      | exact LeO.none _
      | refine LeO.ite ?_ ?_
      | refine LeO.bind ?_ (fun _ => ?_)
set_option maxHeartbeats 8000000 in
set_option maxRecDepth 100000 in
theorem butteryref01_Decimal.calls (k : Nat) (a0 : ByteArray) (r1 : Int) (r2 : Bool) (w : World) (h : butteryref01_Decimal.f k a0 = some (r1, r2)) :
    Calls Tryz.prog 101 #[.string a0] w fun e w' => e = .returned (.tuple #[.int .u64 r1, .bool r2]) ∧ Drawn0 w w' := by
  have H : (if (a0.size : Int) = 0 then (butteryref01_Decimal.j0 k a0 true) else (butteryref01_Decimal.j0 k a0 (decide ((a0.size : Int) > 40)))) = some (r1, r2) := h
  clear h
  have HC2 := Aside0.mk H
  clear H
  go_enter Tryz.func101, Tryz.ntmps101
  go_upto_region 1 with (fail)
  go_cut [14] (fun v14 wc => ∃ (kq : Nat) (x14_1 : Bool), v14 = .bool x14_1 ∧ Aside0 (butteryref01_Decimal.j0 kq a0 x14_1 = some (r1, r2)) ∧ Aside0 (kq ≤ k) ∧ Drawn0 w wc)
  case first =>
    have H := HC2.out
    clear HC2
    by_cases c3 : (a0.size : Int) = 0
    · rw [if_pos c3] at H
      have c3b0 : ((a0.size : Int) == 0) = true := beq_iff_eq.mpr c3
      have c3b1 : ((a0.size : Int) != 0) = false := bne_eq_false_iff_eq.mpr c3
      clear c3
      (first | rw [c3b0] | (simp only [i64_w, i32_w]; rw [c3b0]) | skip)
      have H' := Aside0.mk H
      clear H
      go_wp2
      go_meet
      case rel => exact ⟨_, (true), (by first | rfl | (simp; done) | (simp [*]; done)), H', ⟨by first | omega | exact Nat.le_refl _⟩, by repeat (first | exact Drawn0.refl _ | apply Drawn0.step)⟩
    · rw [if_neg c3] at H
      have c3b0 : ((a0.size : Int) == 0) = false := beq_eq_false_iff_ne.mpr c3
      have c3b1 : ((a0.size : Int) != 0) = true := bne_iff_ne.mpr c3
      (first | rw [c3b0] | (simp only [i64_w, i32_w]; rw [c3b0]) | skip)
      have H' := Aside0.mk H
      clear H
      go_wp2
      go_meet
      case rel => exact ⟨_, (decide ((a0.size : Int) > 40)), (by first | rfl | (simp; done) | (simp [*]; done)), H', ⟨by first | omega | exact Nat.le_refl _⟩, by repeat (first | exact Drawn0.refl _ | apply Drawn0.step)⟩
  case rest =>
    clear HC2
    try clear c1
    try clear p2
    try clear c3
    try clear c3b0
    try clear c3b1
    obtain ⟨kq, x14_1, rfl, HA, HJ1, ⟨mc1, rfl⟩⟩ := hcut
    cases kq with
    | zero => exact absurd HA.out (by simp [butteryref01_Decimal.j0])
    | succ kj1 =>
      have H := HA.out
      clear HA
      simp only [butteryref01_Decimal.j0] at H
      by_cases c4 : x14_1 = true
      · subst c4
        have H1 : (some (0, false)) = some (r1, r2) := by rw [if_pos rfl] at H; exact H
        clear H
        have H := H1
        clear H1
        simp only [Option.some.injEq, Prod.mk.injEq] at H
        obtain ⟨rfl, rfl⟩ := H
        go_wp2
        go_ret2
        exact ⟨by first | rfl | (simp; done) | (simp [*]; done), by repeat (first | exact Drawn0.refl _ | apply Drawn0.step)⟩
      · replace c4 := Bool.eq_false_iff.mpr c4
        subst c4
        have H1 : (butteryref01_Decimal.l0 kj1 a0 0 0) = some (r1, r2) := by rw [if_neg (show ¬ (false = true) by decide)] at H; exact H
        clear H
        have H := H1
        clear H1
        have H' := Aside0.mk H
        clear H
        go_wp2
        go_loopg [4, 5] kj1 (fun kq v4 v5 w' => ∃ (x4_2 : Int) (x5_2 : Int), v4 = .int .u64 x4_2 ∧ v5 = .int .i64 x5_2 ∧ Aside0 (butteryref01_Decimal.l0 kq a0 x4_2 x5_2 = some (r1, r2)) ∧ Aside0 (kq ≤ kj1) ∧ Drawn0 w w')
        case atStart => exact ⟨(0), (0), (by first | rfl | (simp; done) | (simp [*]; done)), (by first | rfl | (simp; done) | (simp [*]; done)), H', ⟨Nat.le_refl _⟩, by repeat (first | exact Drawn0.refl _ | apply Drawn0.step)⟩
        case round =>
          clear H'
          try clear c1
          try clear p2
          try clear c3
          try clear c3b0
          try clear c3b1
          try clear c4
          try clear p2
          obtain ⟨x4_2, x5_2, rfl, rfl, HA, HK2, ⟨m2, rfl⟩⟩ := hrel
          cases gk with
          | zero => exact absurd HA.out (by simp [butteryref01_Decimal.l0])
          | succ k2 =>
            have H := HA.out
            clear HA
            simp only [butteryref01_Decimal.l0] at H
            by_cases c5 : x5_2 < (a0.size : Int)
            · rw [if_pos c5] at H
              have c5b0 : decide (x5_2 < (a0.size : Int)) = true := decide_eq_true c5
              clear c5
              have HC6 := Aside0.mk H
              clear H
              go_upto_region 7 with (fail)
              go_cut [30] (fun v30 wc => ∃ (kq : Nat) (x30_5 : Bool), v30 = .bool x30_5 ∧ Aside0 (butteryref01_Decimal.j2 kq a0 x4_2 x5_2 x30_5 = some (r1, r2)) ∧ Aside0 (kq ≤ k2) ∧ Drawn0 w wc)
              case first =>
                have H := HC6.out
                clear HC6
                by_cases c7 : 0 ≤ x5_2
                · rw [if_pos c7] at H
                  have c7b0 : decide (0 ≤ x5_2) = true := decide_eq_true c7
                  clear c7
                  (first | rw [c7b0] | (simp only [i64_w, i32_w]; rw [c7b0]) | skip)
                  by_cases c9 : (bt a0 x5_2) < 48
                  · rw [if_pos c9] at H
                    have c9b0 : decide ((bt a0 x5_2) < 48) = true := decide_eq_true c9
                    clear c9
                    have H' := Aside0.mk H
                    clear H
                    have p8 : 0 ≤ (x5_2 : Int) := of_decide_eq_true (by first | (with_reducible assumption) | assumption)
                    have q8 : x5_2 < (a0.size : Int) := of_decide_eq_true (by first | (with_reducible assumption) | assumption)
                    have hx8 := bt_at a0 x5_2
                    replace p8 := eq_true p8
                    replace q8 := eq_true q8
                    go_wp2
                    go_meet
                    case rel => exact ⟨_, (true), (by first | rfl | (simp; done) | (simp [*]; done)), H', ⟨by have := HJ1.out; have := HK2.out; first | omega | exact Nat.le_refl _⟩, by repeat (first | exact Drawn0.refl _ | apply Drawn0.step)⟩
                  · rw [if_neg c9] at H
                    have c9b0 : decide ((bt a0 x5_2) < 48) = false := decide_eq_false c9
                    clear c9
                    have H' := Aside0.mk H
                    clear H
                    have p8 : 0 ≤ (x5_2 : Int) := of_decide_eq_true (by first | (with_reducible assumption) | assumption)
                    have q8 : x5_2 < (a0.size : Int) := of_decide_eq_true (by first | (with_reducible assumption) | assumption)
                    have hx8 := bt_at a0 x5_2
                    replace p8 := eq_true p8
                    replace q8 := eq_true q8
                    have p10 : 0 ≤ (x5_2 : Int) := of_decide_eq_true (by first | (with_reducible assumption) | assumption)
                    have q10 : x5_2 < (a0.size : Int) := of_decide_eq_true (by first | (with_reducible assumption) | assumption)
                    have hx10 := bt_at a0 x5_2
                    replace p10 := eq_true p10
                    replace q10 := eq_true q10
                    go_wp2
                    go_meet
                    case rel => exact ⟨_, (decide ((bt a0 x5_2) > 57)), (by first | rfl | (simp; done) | (simp [*]; done)), H', ⟨by have := HJ1.out; have := HK2.out; first | omega | exact Nat.le_refl _⟩, by repeat (first | exact Drawn0.refl _ | apply Drawn0.step)⟩
                · rw [if_neg c7] at H
                  exact absurd H (by simp)
              case rest =>
                clear HC6
                try clear c1
                try clear p1
                try clear q1
                try clear hx1
                try clear p2
                try clear c3
                try clear c3b0
                try clear c3b1
                try clear c4
                try clear c5
                try clear c5b0
                try clear c7
                try clear c7b0
                try clear p8
                try clear q8
                try clear hx8
                try clear c9
                try clear c9b0
                try clear c10
                try clear p10
                try clear q10
                try clear hx10
                try clear p10
                try clear p2
                try clear p8
                try clear q10
                try clear q8
                obtain ⟨kq, x30_5, rfl, HA, HJ5, ⟨mc5, rfl⟩⟩ := hcut
                cases kq with
                | zero => exact absurd HA.out (by simp [butteryref01_Decimal.j2])
                | succ kj5 =>
                  have H := HA.out
                  clear HA
                  simp only [butteryref01_Decimal.j2] at H
                  by_cases c11 : x30_5 = true
                  · subst c11
                    have H1 : (some (0, false)) = some (r1, r2) := by rw [if_pos rfl] at H; exact H
                    clear H
                    have H := H1
                    clear H1
                    simp only [Option.some.injEq, Prod.mk.injEq] at H
                    obtain ⟨rfl, rfl⟩ := H
                    go_wp2
                    go_ret2
                    exact ⟨by first | rfl | (simp; done) | (simp [*]; done), by repeat (first | exact Drawn0.refl _ | apply Drawn0.step)⟩
                  · replace c11 := Bool.eq_false_iff.mpr c11
                    subst c11
                    have H1 : (if 0 ≤ x5_2 then (if x5_2 < (a0.size : Int) then (if x4_2 > ((18446744073709551615 - (((bt a0 x5_2) - 48) % 256)) / 10) then (some (0, false)) else (butteryref01_Decimal.l0 kj5 a0 (IntKind.u64.wrap ((IntKind.u64.wrap (10 * x4_2)) + (((bt a0 x5_2) - 48) % 256))) (wrap64 (x5_2 + 1)))) else (none)) else (none)) = some (r1, r2) := by rw [if_neg (show ¬ (false = true) by decide)] at H; exact H
                    clear H
                    have H := H1
                    clear H1
                    by_cases c12 : 0 ≤ x5_2
                    · rw [if_pos c12] at H
                      have c12b0 : decide (0 ≤ x5_2) = true := decide_eq_true c12
                      clear c12
                      by_cases c13 : x5_2 < (a0.size : Int)
                      · rw [if_pos c13] at H
                        have c13b0 : decide (x5_2 < (a0.size : Int)) = true := decide_eq_true c13
                        clear c13
                        by_cases c15 : x4_2 > ((18446744073709551615 - (((bt a0 x5_2) - 48) % 256)) / 10)
                        · rw [if_pos c15] at H
                          have c15b0 : decide (((18446744073709551615 - (((bt a0 x5_2) - 48) % 256)) / 10) < x4_2) = true := decide_eq_true c15
                          clear c15
                          simp only [Option.some.injEq, Prod.mk.injEq] at H
                          obtain ⟨rfl, rfl⟩ := H
                          have p14 : 0 ≤ (x5_2 : Int) := of_decide_eq_true (by first | (with_reducible assumption) | assumption)
                          have q14 : x5_2 < (a0.size : Int) := of_decide_eq_true (by first | (with_reducible assumption) | assumption)
                          have hx14 := bt_at a0 x5_2
                          replace p14 := eq_true p14
                          replace q14 := eq_true q14
                          go_wp2
                          go_ret2
                          exact ⟨by first | rfl | (simp; done) | (simp [*]; done), by repeat (first | exact Drawn0.refl _ | apply Drawn0.step)⟩
                        · rw [if_neg c15] at H
                          have c15b0 : decide (((18446744073709551615 - (((bt a0 x5_2) - 48) % 256)) / 10) < x4_2) = false := decide_eq_false c15
                          clear c15
                          have H' := Aside0.mk H
                          clear H
                          have p14 : 0 ≤ (x5_2 : Int) := of_decide_eq_true (by first | (with_reducible assumption) | assumption)
                          have q14 : x5_2 < (a0.size : Int) := of_decide_eq_true (by first | (with_reducible assumption) | assumption)
                          have hx14 := bt_at a0 x5_2
                          replace p14 := eq_true p14
                          replace q14 := eq_true q14
                          go_wp2
                          go_roundg kj5
                          case measure => have := HJ1.out; have := HK2.out; have := HJ5.out; omega
                          case rel => exact ⟨(IntKind.u64.wrap ((IntKind.u64.wrap (10 * x4_2)) + (((bt a0 x5_2) - 48) % 256))), (wrap64 (x5_2 + 1)), (by first | rfl | (simp; done) | (simp [*]; done)), (by first | rfl | (simp; done) | (simp [*]; done)), H', ⟨by have := HJ1.out; have := HK2.out; have := HJ5.out; omega⟩, by repeat (first | exact Drawn0.refl _ | apply Drawn0.step)⟩
                      · rw [if_neg c13] at H
                        exact absurd H (by simp)
                    · rw [if_neg c12] at H
                      exact absurd H (by simp)
            · rw [if_neg c5] at H
              have c5b0 : decide (x5_2 < (a0.size : Int)) = false := decide_eq_false c5
              clear c5
              simp only [Option.some.injEq, Prod.mk.injEq] at H
              obtain ⟨rfl, rfl⟩ := H
              go_wp2
              go_ret2
              exact ⟨by first | rfl | (simp; done) | (simp [*]; done), by repeat (first | exact Drawn0.refl _ | apply Drawn0.step)⟩

/-! ### num_Signed -/
def num_Signed.j0 : Nat → Bool → Int → Bool → Option (Int × Bool)
  | 0, _, _, _ => none
  | k + 1, x5, x6, x18 => if x18 = true then (some (0, false)) else (if x5 = true then (some (wrap64 (-(wrap64 (x6))), true)) else (some (wrap64 (x6), true)))
def num_Signed.f (k : Nat) (a0 : ByteArray) : Option (Int × Bool) := (strings_CutPrefix.f a0 (⟨#[45]⟩ : ByteArray)).bind fun bt250 => ((num_Decimal.f bt250.1).bind fun bt252 => (if bt252.2 = true then (num_Signed.j0 k bt250.2 bt252.1 (decide (bt252.1 > 1099511627776))) else (num_Signed.j0 k bt250.2 bt252.1 true)))
theorem num_Signed.mono_l : ∀ k, (∀ y0 y1 y2, LeO (num_Signed.j0 k y0 y1 y2) (num_Signed.j0 (k + 1) y0 y1 y2))
  | 0 => fun _ _ _ r h => by simp [num_Signed.j0] at h
  | k + 1 => by
    have ih0 := num_Signed.mono_l k
    · intro y0 y1 y2
      unfold num_Signed.j0
      repeat' first
      | (with_reducible exact ih0 _ _ _)
      | (with_reducible exact LeO.refl _)
      | (with_reducible exact LeO.none _)
      | (with_reducible refine LeO.ite ?_ ?_)
      | (with_reducible refine LeO.bind ?_ (fun _ => ?_))
      | exact ih0 _ _ _
      | exact LeO.none _
      | refine LeO.ite ?_ ?_
      | refine LeO.bind ?_ (fun _ => ?_)
theorem num_Signed.mono : ∀ a0 k, LeO (num_Signed.f k a0) (num_Signed.f (k + 1) a0) := by
  intro a0 k
  have ih0 := num_Signed.mono_l k
  unfold num_Signed.f
  repeat' first
      | (with_reducible exact ih0 _ _ _)
      | (with_reducible exact LeO.refl _)
      | (with_reducible exact LeO.none _)
      | (with_reducible refine LeO.ite ?_ ?_)
      | (with_reducible refine LeO.bind ?_ (fun _ => ?_))
      | exact ih0 _ _ _
      | exact LeO.none _
      | refine LeO.ite ?_ ?_
      | refine LeO.bind ?_ (fun _ => ?_)
set_option maxHeartbeats 8000000 in
set_option maxRecDepth 100000 in
theorem num_Signed.calls (k : Nat) (a0 : ByteArray) (r1 : Int) (r2 : Bool) (w : World) (hT : Tabs w) (h : num_Signed.f k a0 = some (r1, r2)) :
    Calls Tryz.prog 134 #[.string a0] w fun e w' => e = .returned (.tuple #[.int .i64 r1, .bool r2]) ∧ Below w.heap.size w w' := by
  have HT := Aside0.mk hT
  clear hT
  have HB := Aside0.mk (Below.refl w.heap.size w)
  have H : ((strings_CutPrefix.f a0 (⟨#[45]⟩ : ByteArray)).bind fun bt250 => ((num_Decimal.f bt250.1).bind fun bt252 => (if bt252.2 = true then (num_Signed.j0 k bt250.2 bt252.1 (decide (bt252.1 > 1099511627776))) else (num_Signed.j0 k bt250.2 bt252.1 true)))) = some (r1, r2) := h
  clear h
  replace H := Option.bind_eq_some_iff.mp H
  obtain ⟨⟨t250, t251⟩, A20, H⟩ := H
  replace H : ((num_Decimal.f t250).bind fun bt252 => (if bt252.2 = true then (num_Signed.j0 k t251 bt252.1 (decide (bt252.1 > 1099511627776))) else (num_Signed.j0 k t251 bt252.1 true))) = some (r1, r2) := H
  have A2 := Aside0.mk A20
  clear A20
  replace H := Option.bind_eq_some_iff.mp H
  obtain ⟨⟨t252, t253⟩, A30, H⟩ := H
  replace H : (if t253 = true then (num_Signed.j0 k t251 t252 (decide (t252 > 1099511627776))) else (num_Signed.j0 k t251 t252 true)) = some (r1, r2) := H
  have A3 := Aside0.mk A30
  clear A30
  have HC4 := Aside0.mk H
  clear H
  go_enter Tryz.func134, Tryz.ntmps134
  go_upto_region 3 with (first | ((with_reducible refine gate_callee (f := 162) rfl ?_); refine goesL_ (some 10) rfl rfl Tryz.func162 (by kernel_rfl) rfl #[.string a0, .string (⟨#[45]⟩ : ByteArray)] rfl (by (try simp only [List.map_toArray, List.map_cons, List.map_nil]); first | done | rfl | (simp only [List.length_drop, List.length_take]; rfl)) ?_; (with_reducible refine (strings_CutPrefix.calls a0 (⟨#[45]⟩ : ByteArray) t250 t251 _ A2.out).mono ?_); rintro e w' ⟨rfl, ⟨nd, rfl⟩⟩; refine ⟨_, rfl, ?_⟩) | ((with_reducible refine gate_callee (f := 84) rfl ?_); refine goesL_ (some 15) rfl rfl Tryz.func84 (by kernel_rfl) rfl #[.string t250] rfl (by (try simp only [List.map_toArray, List.map_cons, List.map_nil]); first | done | rfl | (simp only [List.length_drop, List.length_take]; rfl)) ?_; (with_reducible refine (num_Decimal.calls t250 t252 t253 _ ?side1 A3.out).mono ?_); (case side1 => exact Tabs.below HT.out (by repeat (first | (with_reducible first | exact HB.out | apply below_alloc | apply pw_below_drewN | apply below_drew1) | exact HB.out))); rintro e w5 ⟨rfl, hb⟩; refine ⟨_, rfl, ?_⟩; have n0_ := Aside0.mk (below_step (by repeat (first | (with_reducible first | exact HB.out | apply below_alloc | apply pw_below_drewN | apply below_drew1) | exact HB.out)) hb); clear HB; have HB := n0_; clear n0_; (try clear hb); (try clear hb2); (try clear hk); (try clear hi)))
  (try simp only [Act.put, List.setIfInBounds_toArray, List.set_cons_zero, List.set_cons_succ])
  go_cut [18] (fun v18 wc => ∃ (kq : Nat) (x18_3 : Bool), v18 = .bool x18_3 ∧ Aside0 (num_Signed.j0 kq t251 t252 x18_3 = some (r1, r2)) ∧ Aside0 (kq ≤ k) ∧ Aside0 (Below w.heap.size w wc))
  case first =>
    have H := HC4.out
    clear HC4
    by_cases c6 : t253 = true
    · subst c6
      have H1 : (num_Signed.j0 k t251 t252 (decide (t252 > 1099511627776))) = some (r1, r2) := by rw [if_pos rfl] at H; exact H
      clear H
      have H := H1
      clear H1
      have H' := Aside0.mk H
      clear H
      go_wp2
      go_meet
      case rel => exact ⟨_, (decide (t252 > 1099511627776)), (by first | rfl | (simp; done) | (simp [*]; done)), H', ⟨by first | omega | exact Nat.le_refl _⟩, ⟨by repeat (first | (with_reducible first | exact HB.out | apply below_alloc | apply pw_below_drewN | apply below_drew1) | exact HB.out)⟩⟩
    · replace c6 := Bool.eq_false_iff.mpr c6
      subst c6
      have H1 : (num_Signed.j0 k t251 t252 true) = some (r1, r2) := by rw [if_neg (show ¬ (false = true) by decide)] at H; exact H
      clear H
      have H := H1
      clear H1
      have H' := Aside0.mk H
      clear H
      go_wp2
      go_meet
      case rel => exact ⟨_, (true), (by first | rfl | (simp; done) | (simp [*]; done)), H', ⟨by first | omega | exact Nat.le_refl _⟩, ⟨by repeat (first | (with_reducible first | exact HB.out | apply below_alloc | apply pw_below_drewN | apply below_drew1) | exact HB.out)⟩⟩
  case rest =>
    clear HC4
    try clear c1
    try clear p2
    try clear c6
    obtain ⟨kq, x18_3, rfl, HA, HJ3, HB⟩ := hcut
    cases kq with
    | zero => exact absurd HA.out (by simp [num_Signed.j0])
    | succ kj3 =>
      have H := HA.out
      clear HA
      simp only [num_Signed.j0] at H
      by_cases c7 : x18_3 = true
      · subst c7
        have H1 : (some (0, false)) = some (r1, r2) := by rw [if_pos rfl] at H; exact H
        clear H
        have H := H1
        clear H1
        simp only [Option.some.injEq, Prod.mk.injEq] at H
        obtain ⟨rfl, rfl⟩ := H
        go_wp2
        go_ret2
        exact ⟨by first | rfl | (simp <;> rfl) | (simp [*] <;> rfl), by repeat (first | (with_reducible first | exact HB.out | apply below_alloc | apply pw_below_drewN | apply below_drew1) | exact HB.out)⟩
      · replace c7 := Bool.eq_false_iff.mpr c7
        subst c7
        have H1 : (if t251 = true then (some (wrap64 (-(wrap64 (t252))), true)) else (some (wrap64 (t252), true))) = some (r1, r2) := by rw [if_neg (show ¬ (false = true) by decide)] at H; exact H
        clear H
        have H := H1
        clear H1
        by_cases c8 : t251 = true
        · subst c8
          have H1 : (some (wrap64 (-(wrap64 (t252))), true)) = some (r1, r2) := by rw [if_pos rfl] at H; exact H
          clear H
          have H := H1
          clear H1
          simp only [Option.some.injEq, Prod.mk.injEq] at H
          obtain ⟨rfl, rfl⟩ := H
          go_wp2
          go_ret2
          exact ⟨by first | rfl | (simp <;> rfl) | (simp [*] <;> rfl), by repeat (first | (with_reducible first | exact HB.out | apply below_alloc | apply pw_below_drewN | apply below_drew1) | exact HB.out)⟩
        · replace c8 := Bool.eq_false_iff.mpr c8
          subst c8
          have H1 : (some (wrap64 (t252), true)) = some (r1, r2) := by rw [if_neg (show ¬ (false = true) by decide)] at H; exact H
          clear H
          have H := H1
          clear H1
          simp only [Option.some.injEq, Prod.mk.injEq] at H
          obtain ⟨rfl, rfl⟩ := H
          go_wp2
          go_ret2
          exact ⟨by first | rfl | (simp <;> rfl) | (simp [*] <;> rfl), by repeat (first | (with_reducible first | exact HB.out | apply below_alloc | apply pw_below_drewN | apply below_drew1) | exact HB.out)⟩

/-- A state of type 81 at block g of W; what its slices lead to came in by w0. -/
def IsS81 (w0 W : World) (g : Nat) (f0 : Int) (f1 : ByteArray) (f2 : List Int) (f3 : Int) (f4 : Int) (f5 : Int) (f6 : Int) (f7 : Int) (f8 : Bool) (f9 : Bool) (f10 : Int) (f11 : ByteArray) (f12 : Int) (f13 : Int) (f14 : Bool) (f15 : Bool) (f16 : ByteArray) (f17 : List ByteArray) (f18 : List ByteArray) (f19 : Bool) (f20 : ByteArray) : Prop := ∃ A2 c2, ∃ A17 c17, ∃ A18 c18, W.heap[g]? = some (.cells #[.int .i64 f0, .string f1, .slice A2 f2.length c2, .int .u32 f3, .int .i64 f4, .int .u64 f5, .int .u64 f6, .int .u64 f7, .bool f8, .bool f9, .int .i64 f10, .string f11, .int .i64 f12, .int .u32 f13, .bool f14, .bool f15, .string f16, .slice A17 f17.length c17, .slice A18 f18.length c18, .bool f19, .string f20] 81 (0, 0)) ∧ w0.heap.size ≤ g ∧ Kd.C (Kd.int .u8) w0 A2 f2.length f2 ∧ Kd.C Kd.string w0 A17 f17.length f17 ∧ Kd.C Kd.string w0 A18 f18.length f18
theorem IsS81.grown {w0 W : World} {g : Nat} {f0 : Int} {f1 : ByteArray} {f2 : List Int} {f3 : Int} {f4 : Int} {f5 : Int} {f6 : Int} {f7 : Int} {f8 : Bool} {f9 : Bool} {f10 : Int} {f11 : ByteArray} {f12 : Int} {f13 : Int} {f14 : Bool} {f15 : Bool} {f16 : ByteArray} {f17 : List ByteArray} {f18 : List ByteArray} {f19 : Bool} {f20 : ByteArray} {W1 : World} {row : Option Nat} (h : IsS81 w0 W g f0 f1 f2 f3 f4 f5 f6 f7 f8 f9 f10 f11 f12 f13 f14 f15 f16 f17 f18 f19 f20) (hw : W.grownBy W1 row) (hne : some g ≠ row) : IsS81 w0 W1 g f0 f1 f2 f3 f4 f5 f6 f7 f8 f9 f10 f11 f12 f13 f14 f15 f16 f17 f18 f19 f20 := by
  obtain ⟨A2, c2, A17, c17, A18, c18, hb, hg, hr2, hr17, hr18⟩ := h
  exact ⟨A2, c2, A17, c17, A18, c18, blk_grown hb hw hne, hg, hr2, hr17, hr18⟩
theorem IsS81.kept {w0 W : World} {g : Nat} {f0 : Int} {f1 : ByteArray} {f2 : List Int} {f3 : Int} {f4 : Int} {f5 : Int} {f6 : Int} {f7 : Int} {f8 : Bool} {f9 : Bool} {f10 : Int} {f11 : ByteArray} {f12 : Int} {f13 : Int} {f14 : Bool} {f15 : Bool} {f16 : ByteArray} {f17 : List ByteArray} {f18 : List ByteArray} {f19 : Bool} {f20 : ByteArray} {W1 : World} {S : Nat → Prop} (h : IsS81 w0 W g f0 f1 f2 f3 f4 f5 f6 f7 f8 f9 f10 f11 f12 f13 f14 f15 f16 f17 f18 f19 f20) (hk : Kept W W1 S) (hne : ¬ S g) : IsS81 w0 W1 g f0 f1 f2 f3 f4 f5 f6 f7 f8 f9 f10 f11 f12 f13 f14 f15 f16 f17 f18 f19 f20 := by
  obtain ⟨A2, c2, A17, c17, A18, c18, hb, hg, hr2, hr17, hr18⟩ := h
  exact ⟨A2, c2, A17, c17, A18, c18, blk_kept hb hk hne, hg, hr2, hr17, hr18⟩
theorem IsS81.below {w0 W : World} {g : Nat} {f0 : Int} {f1 : ByteArray} {f2 : List Int} {f3 : Int} {f4 : Int} {f5 : Int} {f6 : Int} {f7 : Int} {f8 : Bool} {f9 : Bool} {f10 : Int} {f11 : ByteArray} {f12 : Int} {f13 : Int} {f14 : Bool} {f15 : Bool} {f16 : ByteArray} {f17 : List ByteArray} {f18 : List ByteArray} {f19 : Bool} {f20 : ByteArray} {W1 : World} (h : IsS81 w0 W g f0 f1 f2 f3 f4 f5 f6 f7 f8 f9 f10 f11 f12 f13 f14 f15 f16 f17 f18 f19 f20) (hw : Below W.heap.size W W1) : IsS81 w0 W1 g f0 f1 f2 f3 f4 f5 f6 f7 f8 f9 f10 f11 f12 f13 f14 f15 f16 f17 f18 f19 f20 := h.grown (grown_of_below hw none) (by simp)
theorem IsS81.alloc {w0 W : World} {g : Nat} {f0 : Int} {f1 : ByteArray} {f2 : List Int} {f3 : Int} {f4 : Int} {f5 : Int} {f6 : Int} {f7 : Int} {f8 : Bool} {f9 : Bool} {f10 : Int} {f11 : ByteArray} {f12 : Int} {f13 : Int} {f14 : Bool} {f15 : Bool} {f16 : ByteArray} {f17 : List ByteArray} {f18 : List ByteArray} {f19 : Bool} {f20 : ByteArray} (h : IsS81 w0 W g f0 f1 f2 f3 f4 f5 f6 f7 f8 f9 f10 f11 f12 f13 f14 f15 f16 f17 f18 f19 f20) (o : Obj) : IsS81 w0 (W.alloc o) g f0 f1 f2 f3 f4 f5 f6 f7 f8 f9 f10 f11 f12 f13 f14 f15 f16 f17 f18 f19 f20 := h.below (below_alloc (Below.refl _ _) o)
theorem IsS81.drewN {w0 W : World} {g : Nat} {f0 : Int} {f1 : ByteArray} {f2 : List Int} {f3 : Int} {f4 : Int} {f5 : Int} {f6 : Int} {f7 : Int} {f8 : Bool} {f9 : Bool} {f10 : Int} {f11 : ByteArray} {f12 : Int} {f13 : Int} {f14 : Bool} {f15 : Bool} {f16 : ByteArray} {f17 : List ByteArray} {f18 : List ByteArray} {f19 : Bool} {f20 : ByteArray} (h : IsS81 w0 W g f0 f1 f2 f3 f4 f5 f6 f7 f8 f9 f10 f11 f12 f13 f14 f15 f16 f17 f18 f19 f20) (m : Nat) : IsS81 w0 (W.drewN m) g f0 f1 f2 f3 f4 f5 f6 f7 f8 f9 f10 f11 f12 f13 f14 f15 f16 f17 f18 f19 f20 := h
theorem IsS81.drew {w0 W : World} {g : Nat} {f0 : Int} {f1 : ByteArray} {f2 : List Int} {f3 : Int} {f4 : Int} {f5 : Int} {f6 : Int} {f7 : Int} {f8 : Bool} {f9 : Bool} {f10 : Int} {f11 : ByteArray} {f12 : Int} {f13 : Int} {f14 : Bool} {f15 : Bool} {f16 : ByteArray} {f17 : List ByteArray} {f18 : List ByteArray} {f19 : Bool} {f20 : ByteArray} (h : IsS81 w0 W g f0 f1 f2 f3 f4 f5 f6 f7 f8 f9 f10 f11 f12 f13 f14 f15 f16 f17 f18 f19 f20) : IsS81 w0 W.drew g f0 f1 f2 f3 f4 f5 f6 f7 f8 f9 f10 f11 f12 f13 f14 f15 f16 f17 f18 f19 f20 := h
theorem IsS81.at_ {w0 W : World} {g : Nat} {f0 : Int} {f1 : ByteArray} {f2 : List Int} {f3 : Int} {f4 : Int} {f5 : Int} {f6 : Int} {f7 : Int} {f8 : Bool} {f9 : Bool} {f10 : Int} {f11 : ByteArray} {f12 : Int} {f13 : Int} {f14 : Bool} {f15 : Bool} {f16 : ByteArray} {f17 : List ByteArray} {f18 : List ByteArray} {f19 : Bool} {f20 : ByteArray} {w' : World} {m : Nat} (hq : W.drewN m = w') (h : IsS81 w0 W g f0 f1 f2 f3 f4 f5 f6 f7 f8 f9 f10 f11 f12 f13 f14 f15 f16 f17 f18 f19 f20) : IsS81 w0 w' g f0 f1 f2 f3 f4 f5 f6 f7 f8 f9 f10 f11 f12 f13 f14 f15 f16 f17 f18 f19 f20 := by subst hq; exact IsS81.drewN h m
theorem IsS81.apart {w0 W : World} {g : Nat} {f0 : Int} {f1 : ByteArray} {f2 : List Int} {f3 : Int} {f4 : Int} {f5 : Int} {f6 : Int} {f7 : Int} {f8 : Bool} {f9 : Bool} {f10 : Int} {f11 : ByteArray} {f12 : Int} {f13 : Int} {f14 : Bool} {f15 : Bool} {f16 : ByteArray} {f17 : List ByteArray} {f18 : List ByteArray} {f19 : Bool} {f20 : ByteArray} {α : Type} {d : Kd α} {e : Nat} {base : Nat} {ok : Nat → Prop} {v : Value} {xs : List α} (h : IsS81 w0 W g f0 f1 f2 f3 f4 f5 f6 f7 f8 f9 f10 f11 f12 f13 f14 f15 f16 f17 f18 f19 f20) (ho : d.R e W base ok v xs) (ht : ∀ q, q ∈ e :: d.E → q ≠ 81) : d.R e W base (fun k => ok k ∧ k ≠ g) v xs := by
  obtain ⟨A2, c2, A17, c17, A18, c18, hb, hg, hr2, hr17, hr18⟩ := h
  exact Kd.R_types ho hb ht
theorem IsS81.own_ne {w0 W : World} {g : Nat} {f0 : Int} {f1 : ByteArray} {f2 : List Int} {f3 : Int} {f4 : Int} {f5 : Int} {f6 : Int} {f7 : Int} {f8 : Bool} {f9 : Bool} {f10 : Int} {f11 : ByteArray} {f12 : Int} {f13 : Int} {f14 : Bool} {f15 : Bool} {f16 : ByteArray} {f17 : List ByteArray} {f18 : List ByteArray} {f19 : Bool} {f20 : ByteArray} {α : Type} {d : Kd α} {e : Nat} {base : Nat} {ok : Nat → Prop} {v : Value} {xs : List α} (h : IsS81 w0 W g f0 f1 f2 f3 f4 f5 f6 f7 f8 f9 f10 f11 f12 f13 f14 f15 f16 f17 f18 f19 f20) (ho : d.R e W base ok v xs) (ht : e ≠ 81) : some g ≠ v.ownBlock := by
  obtain ⟨A2, c2, A17, c17, A18, c18, hb, hg, hr2, hr17, hr18⟩ := h
  exact Kd.R_ne ho hb ht
theorem IsS81.lt {w0 W : World} {g : Nat} {f0 : Int} {f1 : ByteArray} {f2 : List Int} {f3 : Int} {f4 : Int} {f5 : Int} {f6 : Int} {f7 : Int} {f8 : Bool} {f9 : Bool} {f10 : Int} {f11 : ByteArray} {f12 : Int} {f13 : Int} {f14 : Bool} {f15 : Bool} {f16 : ByteArray} {f17 : List ByteArray} {f18 : List ByteArray} {f19 : Bool} {f20 : ByteArray} (h : IsS81 w0 W g f0 f1 f2 f3 f4 f5 f6 f7 f8 f9 f10 f11 f12 f13 f14 f15 f16 f17 f18 f19 f20) : g < W.heap.size := by
  obtain ⟨A2, c2, A17, c17, A18, c18, hb, hg, hr2, hr17, hr18⟩ := h
  exact blk_lt hb
theorem IsS81.far {w0 W : World} {g : Nat} {f0 : Int} {f1 : ByteArray} {f2 : List Int} {f3 : Int} {f4 : Int} {f5 : Int} {f6 : Int} {f7 : Int} {f8 : Bool} {f9 : Bool} {f10 : Int} {f11 : ByteArray} {f12 : Int} {f13 : Int} {f14 : Bool} {f15 : Bool} {f16 : ByteArray} {f17 : List ByteArray} {f18 : List ByteArray} {f19 : Bool} {f20 : ByteArray} {p : Addr} (h : IsS81 w0 W g f0 f1 f2 f3 f4 f5 f6 f7 f8 f9 f10 f11 f12 f13 f14 f15 f16 f17 f18 f19 f20) (hne : g ≠ p.block) (u : Value) : IsS81 w0 (W.setCell p u) g f0 f1 f2 f3 f4 f5 f6 f7 f8 f9 f10 f11 f12 f13 f14 f15 f16 f17 f18 f19 f20 := by
  obtain ⟨A2, c2, A17, c17, A18, c18, hb, hg, hr2, hr17, hr18⟩ := h
  exact ⟨A2, c2, A17, c17, A18, c18, blk_far hb hne u, hg, hr2, hr17, hr18⟩
theorem IsS81.new (w0 W : World) (A2 : Option Addr) (c2 : Nat) (A17 : Option Addr) (c17 : Nat) (A18 : Option Addr) (c18 : Nat) (f0 : Int) (f1 : ByteArray) (f2 : List Int) (f3 : Int) (f4 : Int) (f5 : Int) (f6 : Int) (f7 : Int) (f8 : Bool) (f9 : Bool) (f10 : Int) (f11 : ByteArray) (f12 : Int) (f13 : Int) (f14 : Bool) (f15 : Bool) (f16 : ByteArray) (f17 : List ByteArray) (f18 : List ByteArray) (f19 : Bool) (f20 : ByteArray) (hB : Below w0.heap.size w0 W) (hr2 : Kd.C (Kd.int .u8) w0 A2 f2.length f2) (hr17 : Kd.C Kd.string w0 A17 f17.length f17) (hr18 : Kd.C Kd.string w0 A18 f18.length f18) : IsS81 w0 (W.alloc (.cells #[.int .i64 f0, .string f1, .slice A2 f2.length c2, .int .u32 f3, .int .i64 f4, .int .u64 f5, .int .u64 f6, .int .u64 f7, .bool f8, .bool f9, .int .i64 f10, .string f11, .int .i64 f12, .int .u32 f13, .bool f14, .bool f15, .string f16, .slice A17 f17.length c17, .slice A18 f18.length c18, .bool f19, .string f20] 81)) W.heap.size f0 f1 f2 f3 f4 f5 f6 f7 f8 f9 f10 f11 f12 f13 f14 f15 f16 f17 f18 f19 f20 := ⟨A2, c2, A17, c17, A18, c18, by simpa using heap_alloc_new W _, hB.size, hr2, hr17, hr18⟩

/-! ### butteryref01_Signed -/
mutual
def butteryref01_Signed.j0 : Nat → ByteArray → Bool → Option (Int × Bool)
  | 0, _, _ => none
  | k + 1, x0, x4 => if x4 = true then (if 1 ≤ (x0.size : Int) then (butteryref01_Signed.j1 k (x0.extract 1 x0.size) x4) else (none)) else (butteryref01_Signed.j1 k x0 x4)
def butteryref01_Signed.j1 : Nat → ByteArray → Bool → Option (Int × Bool)
  | 0, _, _ => none
  | k + 1, x0, x4 => (butteryref01_Decimal.f k x0).bind fun bt627 => (if bt627.2 = true then (butteryref01_Signed.j2 k x4 bt627.1 (decide (bt627.1 > 1099511627776))) else (butteryref01_Signed.j2 k x4 bt627.1 true))
def butteryref01_Signed.j2 : Nat → Bool → Int → Bool → Option (Int × Bool)
  | 0, _, _, _ => none
  | k + 1, x4, x5, x28 => if x28 = true then (some (0, false)) else (if x4 = true then (some (wrap64 (-(wrap64 (x5))), true)) else (some (wrap64 (x5), true)))
end
def butteryref01_Signed.f (k : Nat) (a0 : ByteArray) : Option (Int × Bool) := if (a0.size : Int) > 0 then (if 0 < (a0.size : Int) then (butteryref01_Signed.j0 k a0 ((bt a0 0) == 45)) else (none)) else (butteryref01_Signed.j0 k a0 false)
theorem butteryref01_Signed.mono_l : ∀ k, (∀ y0 y1, LeO (butteryref01_Signed.j0 k y0 y1) (butteryref01_Signed.j0 (k + 1) y0 y1)) ∧ (∀ y0 y1, LeO (butteryref01_Signed.j1 k y0 y1) (butteryref01_Signed.j1 (k + 1) y0 y1)) ∧ (∀ y0 y1 y2, LeO (butteryref01_Signed.j2 k y0 y1 y2) (butteryref01_Signed.j2 (k + 1) y0 y1 y2))
  | 0 => ⟨fun _ _ r h => by simp [butteryref01_Signed.j0] at h, fun _ _ r h => by simp [butteryref01_Signed.j1] at h, fun _ _ _ r h => by simp [butteryref01_Signed.j2] at h⟩
  | k + 1 => by
    obtain ⟨ih0, ih1, ih2⟩ := butteryref01_Signed.mono_l k
    refine ⟨?_, ?_, ?_⟩
    · intro y0 y1
      unfold butteryref01_Signed.j0
      repeat' first
      | (with_reducible exact ih0 _ _)
      | (with_reducible exact ih1 _ _)
      | (with_reducible exact ih2 _ _ _)
      | (with_reducible exact butteryref01_Decimal.mono _ _)
      | (with_reducible exact LeO.refl _)
      | (with_reducible exact LeO.none _)
      | (with_reducible refine LeO.ite ?_ ?_)
      | (with_reducible refine LeO.bind ?_ (fun _ => ?_))
      | exact ih0 _ _
      | exact ih1 _ _
      | exact ih2 _ _ _
      | exact butteryref01_Decimal.mono _ _
      | exact LeO.none _
      | refine LeO.ite ?_ ?_
      | refine LeO.bind ?_ (fun _ => ?_)
    · intro y0 y1
      unfold butteryref01_Signed.j1
      repeat' first
      | (with_reducible exact ih0 _ _)
      | (with_reducible exact ih1 _ _)
      | (with_reducible exact ih2 _ _ _)
      | (with_reducible exact butteryref01_Decimal.mono _ _)
      | (with_reducible exact LeO.refl _)
      | (with_reducible exact LeO.none _)
      | (with_reducible refine LeO.ite ?_ ?_)
      | (with_reducible refine LeO.bind ?_ (fun _ => ?_))
      | exact ih0 _ _
      | exact ih1 _ _
      | exact ih2 _ _ _
      | exact butteryref01_Decimal.mono _ _
      | exact LeO.none _
      | refine LeO.ite ?_ ?_
      | refine LeO.bind ?_ (fun _ => ?_)
    · intro y0 y1 y2
      unfold butteryref01_Signed.j2
      repeat' first
      | (with_reducible exact ih0 _ _)
      | (with_reducible exact ih1 _ _)
      | (with_reducible exact ih2 _ _ _)
      | (with_reducible exact butteryref01_Decimal.mono _ _)
      | (with_reducible exact LeO.refl _)
      | (with_reducible exact LeO.none _)
      | (with_reducible refine LeO.ite ?_ ?_)
      | (with_reducible refine LeO.bind ?_ (fun _ => ?_))
      | exact ih0 _ _
      | exact ih1 _ _
      | exact ih2 _ _ _
      | exact butteryref01_Decimal.mono _ _
      | exact LeO.none _
      | refine LeO.ite ?_ ?_
      | refine LeO.bind ?_ (fun _ => ?_)
theorem butteryref01_Signed.mono : ∀ a0 k, LeO (butteryref01_Signed.f k a0) (butteryref01_Signed.f (k + 1) a0) := by
  intro a0 k
  obtain ⟨ih0, ih1, ih2⟩ := butteryref01_Signed.mono_l k
  unfold butteryref01_Signed.f
  repeat' first
      | (with_reducible exact ih0 _ _)
      | (with_reducible exact ih1 _ _)
      | (with_reducible exact ih2 _ _ _)
      | (with_reducible exact butteryref01_Decimal.mono _ _)
      | (with_reducible exact LeO.refl _)
      | (with_reducible exact LeO.none _)
      | (with_reducible refine LeO.ite ?_ ?_)
      | (with_reducible refine LeO.bind ?_ (fun _ => ?_))
      | exact ih0 _ _
      | exact ih1 _ _
      | exact ih2 _ _ _
      | exact butteryref01_Decimal.mono _ _
      | exact LeO.none _
      | refine LeO.ite ?_ ?_
      | refine LeO.bind ?_ (fun _ => ?_)
set_option maxHeartbeats 8000000 in
set_option maxRecDepth 100000 in
theorem butteryref01_Signed.calls (k : Nat) (a0 : ByteArray) (r1 : Int) (r2 : Bool) (w : World) (h : butteryref01_Signed.f k a0 = some (r1, r2)) :
    Calls Tryz.prog 108 #[.string a0] w fun e w' => e = .returned (.tuple #[.int .i64 r1, .bool r2]) ∧ Drawn0 w w' := by
  have H : (if (a0.size : Int) > 0 then (if 0 < (a0.size : Int) then (butteryref01_Signed.j0 k a0 ((bt a0 0) == 45)) else (none)) else (butteryref01_Signed.j0 k a0 false)) = some (r1, r2) := h
  clear h
  have HC2 := Aside0.mk H
  clear H
  go_enter Tryz.func108, Tryz.ntmps108
  go_upto_region 1 with (fail)
  go_cut [4] (fun v4 wc => ∃ (kq : Nat) (x4_1 : Bool), v4 = .bool x4_1 ∧ Aside0 (butteryref01_Signed.j0 kq a0 x4_1 = some (r1, r2)) ∧ Aside0 (kq ≤ k) ∧ Drawn0 w wc)
  case first =>
    have H := HC2.out
    clear HC2
    by_cases c3 : (a0.size : Int) > 0
    · rw [if_pos c3] at H
      have c3b0 : decide (0 < (a0.size : Int)) = true := decide_eq_true c3
      have c3b1 : decide (0 < a0.size) = true := decide_eq_true (by omega)
      clear c3
      (first | rw [c3b0] | (simp only [i64_w, i32_w]; rw [c3b0]) | skip)
      by_cases c4 : 0 < (a0.size : Int)
      · rw [if_pos c4] at H
        have c4b0 : decide (0 < (a0.size : Int)) = true := decide_eq_true c4
        have c4b1 : decide (0 < a0.size) = true := decide_eq_true (by omega)
        clear c4
        have H' := Aside0.mk H
        clear H
        have p5 : 0 ≤ (0 : Int) := (by omega)
        have q5 : 0 < a0.size := (by have : (0 : Int) < (a0.size : Int) := of_decide_eq_true (by first | (with_reducible assumption) | assumption); omega)
        have hx5 : ∀ h : 0 < a0.size, ((a0[0]'h).toNat : Int) = bt a0 0 := bt_at a0 0
        clear p5
        have qi5 : (0 < (a0.size : Int)) = True := eq_true (of_decide_eq_true (by first | (with_reducible assumption) | assumption))
        replace q5 := eq_true q5
        go_wp2
        go_meet
        case rel => exact ⟨_, (((bt a0 0) == 45)), (by first | rfl | (simp; done) | (simp [*]; done)), H', ⟨by first | omega | exact Nat.le_refl _⟩, by repeat (first | exact Drawn0.refl _ | apply Drawn0.step)⟩
      · rw [if_neg c4] at H
        exact absurd H (by simp)
    · rw [if_neg c3] at H
      have c3b0 : decide (0 < (a0.size : Int)) = false := decide_eq_false c3
      have c3b1 : decide (0 < a0.size) = false := decide_eq_false (by omega)
      clear c3
      (first | rw [c3b0] | (simp only [i64_w, i32_w]; rw [c3b0]) | skip)
      have H' := Aside0.mk H
      clear H
      go_wp2
      go_meet
      case rel => exact ⟨_, (false), (by first | rfl | (simp; done) | (simp [*]; done)), H', ⟨by first | omega | exact Nat.le_refl _⟩, by repeat (first | exact Drawn0.refl _ | apply Drawn0.step)⟩
  case rest =>
    clear HC2
    try clear c1
    try clear p2
    try clear c3
    try clear c3b0
    try clear c3b1
    try clear c4
    try clear c4b0
    try clear c4b1
    try clear p5
    try clear q5
    try clear hx5
    try clear qi5
    try clear p5
    try clear q5
    obtain ⟨kq, x4_1, rfl, HA, HJ1, ⟨mc1, rfl⟩⟩ := hcut
    cases kq with
    | zero => exact absurd HA.out (by simp [butteryref01_Signed.j0])
    | succ kj1 =>
      have H := HA.out
      clear HA
      simp only [butteryref01_Signed.j0] at H
      have HC6 := Aside0.mk H
      clear H
      go_upto_if 15 with (fail)
      go_cut [0] (fun v0 wc => ∃ (kq : Nat) (x0_5 : ByteArray), v0 = .string x0_5 ∧ Aside0 (butteryref01_Signed.j1 kq x0_5 x4_1 = some (r1, r2)) ∧ Aside0 (kq ≤ kj1) ∧ Drawn0 w wc)
      case first =>
        have H := HC6.out
        clear HC6
        by_cases c7 : x4_1 = true
        · subst c7
          have H1 : (if 1 ≤ (a0.size : Int) then (butteryref01_Signed.j1 kj1 (a0.extract 1 a0.size) true) else (none)) = some (r1, r2) := by rw [if_pos rfl] at H; exact H
          clear H
          have H := H1
          clear H1
          by_cases c8 : 1 ≤ (a0.size : Int)
          · rw [if_pos c8] at H
            have c8b0 := eq_true c8
            have c8b1 : decide (1 ≤ (a0.size : Int)) = true := decide_eq_true c8
            clear c8
            have H' := Aside0.mk H
            clear H
            go_wp2
            go_meet
            case rel => exact ⟨_, (a0.extract 1 a0.size), (by first | rfl | (simp; done) | (simp [*]; done)), H', ⟨by have := HJ1.out; first | omega | exact Nat.le_refl _⟩, by repeat (first | exact Drawn0.refl _ | apply Drawn0.step)⟩
          · rw [if_neg c8] at H
            exact absurd H (by simp)
        · replace c7 := Bool.eq_false_iff.mpr c7
          subst c7
          have H1 : (butteryref01_Signed.j1 kj1 a0 false) = some (r1, r2) := by rw [if_neg (show ¬ (false = true) by decide)] at H; exact H
          clear H
          have H := H1
          clear H1
          have H' := Aside0.mk H
          clear H
          go_wp2
          go_meet
          case rel => exact ⟨_, (a0), (by first | rfl | (simp; done) | (simp [*]; done)), H', ⟨by have := HJ1.out; first | omega | exact Nat.le_refl _⟩, by repeat (first | exact Drawn0.refl _ | apply Drawn0.step)⟩
      case rest =>
        clear HC6
        try clear c1
        try clear p2
        try clear c3
        try clear c3b0
        try clear c3b1
        try clear c4
        try clear c4b0
        try clear c4b1
        try clear p5
        try clear q5
        try clear hx5
        try clear qi5
        try clear c7
        try clear c8
        try clear c8b0
        try clear c8b1
        try clear p2
        try clear p5
        try clear q5
        obtain ⟨kq, x0_5, rfl, HA, HJ5, ⟨mc5, rfl⟩⟩ := hcut
        cases kq with
        | zero => exact absurd HA.out (by simp [butteryref01_Signed.j1])
        | succ kj5 =>
          have H := HA.out
          clear HA
          simp only [butteryref01_Signed.j1] at H
          replace H := Option.bind_eq_some_iff.mp H
          obtain ⟨⟨t627, t628⟩, A90, H⟩ := H
          replace H : (if t628 = true then (butteryref01_Signed.j2 kj5 x4_1 t627 (decide (t627 > 1099511627776))) else (butteryref01_Signed.j2 kj5 x4_1 t627 true)) = some (r1, r2) := H
          have A9 := Aside0.mk A90
          clear A90
          have HC10 := Aside0.mk H
          clear H
          go_upto_region 5 with (first | ((with_reducible refine gate_callee (f := 101) rfl ?_); refine goesL_ (some 20) rfl rfl Tryz.func101 (by kernel_rfl) rfl #[.string x0_5] rfl (by (try simp only [List.map_toArray, List.map_cons, List.map_nil]); first | done | rfl | (simp only [List.length_drop, List.length_take]; rfl)) ?_; (with_reducible refine (butteryref01_Decimal.calls kj5 x0_5 t627 t628 _ A9.out).mono ?_); rintro e w' ⟨rfl, ⟨nd, rfl⟩⟩; refine ⟨_, rfl, ?_⟩))
          (try simp only [Act.put, List.setIfInBounds_toArray, List.set_cons_zero, List.set_cons_succ])
          go_cut [28] (fun v28 wc => ∃ (kq : Nat) (x28_9 : Bool), v28 = .bool x28_9 ∧ Aside0 (butteryref01_Signed.j2 kq x4_1 t627 x28_9 = some (r1, r2)) ∧ Aside0 (kq ≤ kj5) ∧ Drawn0 w wc)
          case first =>
            have H := HC10.out
            clear HC10
            by_cases c11 : t628 = true
            · subst c11
              have H1 : (butteryref01_Signed.j2 kj5 x4_1 t627 (decide (t627 > 1099511627776))) = some (r1, r2) := by rw [if_pos rfl] at H; exact H
              clear H
              have H := H1
              clear H1
              have H' := Aside0.mk H
              clear H
              go_wp2
              go_meet
              case rel => exact ⟨_, (decide (t627 > 1099511627776)), (by first | rfl | (simp; done) | (simp [*]; done)), H', ⟨by have := HJ1.out; have := HJ5.out; first | omega | exact Nat.le_refl _⟩, by repeat (first | exact Drawn0.refl _ | apply Drawn0.step)⟩
            · replace c11 := Bool.eq_false_iff.mpr c11
              subst c11
              have H1 : (butteryref01_Signed.j2 kj5 x4_1 t627 true) = some (r1, r2) := by rw [if_neg (show ¬ (false = true) by decide)] at H; exact H
              clear H
              have H := H1
              clear H1
              have H' := Aside0.mk H
              clear H
              go_wp2
              go_meet
              case rel => exact ⟨_, (true), (by first | rfl | (simp; done) | (simp [*]; done)), H', ⟨by have := HJ1.out; have := HJ5.out; first | omega | exact Nat.le_refl _⟩, by repeat (first | exact Drawn0.refl _ | apply Drawn0.step)⟩
          case rest =>
            clear HC10
            try clear c1
            try clear p2
            try clear c3
            try clear c3b0
            try clear c3b1
            try clear c4
            try clear c4b0
            try clear c4b1
            try clear c5
            try clear p5
            try clear q5
            try clear hx5
            try clear qi5
            try clear c7
            try clear c8
            try clear c8b0
            try clear c8b1
            try clear c10
            try clear c11
            try clear p2
            try clear p5
            try clear q5
            obtain ⟨kq, x28_9, rfl, HA, HJ9, ⟨mc9, rfl⟩⟩ := hcut
            cases kq with
            | zero => exact absurd HA.out (by simp [butteryref01_Signed.j2])
            | succ kj9 =>
              have H := HA.out
              clear HA
              simp only [butteryref01_Signed.j2] at H
              by_cases c12 : x28_9 = true
              · subst c12
                have H1 : (some (0, false)) = some (r1, r2) := by rw [if_pos rfl] at H; exact H
                clear H
                have H := H1
                clear H1
                simp only [Option.some.injEq, Prod.mk.injEq] at H
                obtain ⟨rfl, rfl⟩ := H
                go_wp2
                go_ret2
                exact ⟨by first | rfl | (simp; done) | (simp [*]; done), by repeat (first | exact Drawn0.refl _ | apply Drawn0.step)⟩
              · replace c12 := Bool.eq_false_iff.mpr c12
                subst c12
                have H1 : (if x4_1 = true then (some (wrap64 (-(wrap64 (t627))), true)) else (some (wrap64 (t627), true))) = some (r1, r2) := by rw [if_neg (show ¬ (false = true) by decide)] at H; exact H
                clear H
                have H := H1
                clear H1
                by_cases c13 : x4_1 = true
                · subst c13
                  have H1 : (some (wrap64 (-(wrap64 (t627))), true)) = some (r1, r2) := by rw [if_pos rfl] at H; exact H
                  clear H
                  have H := H1
                  clear H1
                  simp only [Option.some.injEq, Prod.mk.injEq] at H
                  obtain ⟨rfl, rfl⟩ := H
                  go_wp2
                  go_ret2
                  exact ⟨by first | rfl | (simp; done) | (simp [*]; done), by repeat (first | exact Drawn0.refl _ | apply Drawn0.step)⟩
                · replace c13 := Bool.eq_false_iff.mpr c13
                  subst c13
                  have H1 : (some (wrap64 (t627), true)) = some (r1, r2) := by rw [if_neg (show ¬ (false = true) by decide)] at H; exact H
                  clear H
                  have H := H1
                  clear H1
                  simp only [Option.some.injEq, Prod.mk.injEq] at H
                  obtain ⟨rfl, rfl⟩ := H
                  go_wp2
                  go_ret2
                  exact ⟨by first | rfl | (simp; done) | (simp [*]; done), by repeat (first | exact Drawn0.refl _ | apply Drawn0.step)⟩

end Go.Proofs.YtdjbbncoioghfaaGreatDoor.X
namespace Go.Proofs.YtdjbbncoioghfaaGreatDoor.X
open Go.RowKit Go.Proofs.YtdjbbncoioghfaaGreatDoorW.PrintWords Go.Proofs.YtdjbbncoioghfaaGreatDoorW.PrintMore
set_option linter.unusedVariables false
set_option linter.unusedSimpArgs false

def rdigs (n : Nat) : List Int := if h : n = 0 then [] else ((48 + n % 10 : Nat) : Int) :: rdigs (n / 10)
termination_by n
decreasing_by omega
theorem rdigs_len : ∀ (k n : Nat), n < 10 ^ k → (rdigs n).length ≤ k
  | 0, n, h => by
    have : n = 0 := by simpa using h
    subst this; unfold rdigs; simp
  | k + 1, n, h => by
    unfold rdigs
    by_cases h0 : n = 0
    · rw [dif_pos h0]; simp
    · rw [dif_neg h0, List.length_cons]
      have := rdigs_len k (n / 10) (by rw [Nat.pow_succ] at h; omega)
      omega
theorem rdigs_dec (n : Nat) (h : n ≠ 0) : (rdigs n).reverse.map (fun i => UInt8.ofNat i.toNat) = Lib.decDigits n := by
  induction n using Nat.strongRecOn with
  | _ n ih =>
    rw [rdigs, dif_neg h, Lib.decDigits]
    by_cases h10 : n < 10
    · rw [dif_pos h10, show n / 10 = 0 by omega, rdigs, dif_pos rfl]
      simp only [List.reverse_cons, List.reverse_nil, List.nil_append, List.map_cons, List.map_nil]
      rw [Int.toNat_natCast, Nat.mod_eq_of_lt h10]
    · rw [dif_neg h10, List.reverse_cons, List.map_append, ih (n / 10) (by omega) (by omega)]
      simp only [List.map_cons, List.map_nil]
      rw [Int.toNat_natCast]
/-- The list that the second loop has made behind i rounds. -/
def swp (L : List Int) (i : Nat) : List Int := (List.range L.length).map fun j => if j < i ∨ L.length ≤ j + i then L.getD (L.length - 1 - j) 0 else L.getD j 0
theorem swp_len (L : List Int) (i : Nat) : (swp L i).length = L.length := by simp [swp]
theorem swp_at (L : List Int) (i j : Nat) (h : j < L.length) : (swp L i).getD j 0 = if j < i ∨ L.length ≤ j + i then L.getD (L.length - 1 - j) 0 else L.getD j 0 := by
  simp [swp, List.getD_eq_getElem?_getD, h]
theorem getD_ext {a b : List Int} (h : a.length = b.length) (h2 : ∀ j, j < a.length → a.getD j 0 = b.getD j 0) : a = b := by
  apply List.ext_getElem h
  intro j h1 h3
  have := h2 j h1
  simpa [List.getD_eq_getElem?_getD, h1, h3] using this
theorem getD_set (l : List Int) (i j : Nat) (v : Int) (h : j < l.length) : (l.set i v).getD j 0 = if i = j then v else l.getD j 0 := by
  simp only [List.getD_eq_getElem?_getD, List.getElem?_set]
  split
  · next e => subst e; simp [h]
  · rfl
theorem swp_zero (L : List Int) : swp L 0 = L := by
  apply getD_ext (swp_len _ _)
  intro j hj
  rw [swp_len] at hj
  rw [swp_at _ _ _ hj, if_neg (by omega)]
theorem swp_end (L : List Int) (i : Nat) (h : L.length ≤ 2 * i + 1) : swp L i = L.reverse := by
  apply getD_ext (by rw [swp_len, List.length_reverse])
  intro j hj
  rw [swp_len] at hj
  rw [swp_at _ _ _ hj]
  have e : L.reverse.getD j 0 = L.getD (L.length - 1 - j) 0 := by
    simp only [List.getD_eq_getElem?_getD]
    rw [List.getElem?_reverse hj]
  rw [e]
  split
  · rfl
  · rw [show L.length - 1 - j = j by omega]
theorem swp_step (L : List Int) (i : Nat) (h : 2 * i + 1 < L.length) : ((swp L i).set i ((swp L i).getD (L.length - 1 - i) 0)).set (L.length - 1 - i) ((swp L i).getD i 0) = swp L (i + 1) := by
  apply getD_ext (by simp [swp_len])
  intro j hj
  rw [List.length_set, List.length_set, swp_len] at hj
  have ha : (swp L i).getD (L.length - 1 - i) 0 = L.getD (L.length - 1 - i) 0 := by rw [swp_at _ _ _ (by omega), if_neg (by omega)]
  have hb : (swp L i).getD i 0 = L.getD i 0 := by rw [swp_at _ _ _ (by omega), if_neg (by omega)]
  rw [ha, hb, getD_set _ _ _ _ (by rw [List.length_set, swp_len]; exact hj), getD_set _ _ _ _ (by rw [swp_len]; exact hj), swp_at _ _ _ hj, swp_at _ _ _ hj]
  by_cases h1 : L.length - 1 - i = j
  · rw [if_pos h1, if_pos (by omega), show L.length - 1 - j = i by omega]
  · rw [if_neg h1]
    by_cases h2 : i = j
    · rw [if_pos h2, if_pos (by omega), h2]
    · rw [if_neg h2]
      by_cases h3 : j < i ∨ L.length ≤ j + i
      · rw [if_pos h3, if_pos (by omega)]
      · rw [if_neg h3, if_neg (by omega)]
theorem bt_list (s : ByteArray) (i : Nat) (h : i < s.size) (hl : i < s.data.toList.length) : bt s (i : Int) = ((s.data.toList[i]).toNat : Int) := by
  unfold bt
  rw [Int.toNat_natCast, dif_pos h]
  rw [Array.getElem_toList]
  rfl
def resOf : Option Nat → Int × Bool
  | some u => (u, true)
  | none => (0, false)
theorem rdec_l0 (s : ByteArray) (hs : s.size ≤ 40) : ∀ (d i n : Nat), i + d = s.size → n < 18446744073709551616 → ∃ K, butteryref01_Decimal.l0 K s n i = some (resOf (rDecL n (s.data.toList.drop i)))
  | 0, i, n, hd, hn => by
    refine ⟨1, ?_⟩
    unfold butteryref01_Decimal.l0
    have hl : s.data.toList.length = s.size := Array.length_toList
    rw [if_neg (by omega), List.drop_eq_nil_of_le (by omega)]
    rfl
  | d + 1, i, n, hd, hn => by
    have hl : s.data.toList.length = s.size := Array.length_toList
    have hi : i < s.size := by omega
    have hb := bt_list s i hi (by omega)
    have hc : (s.data.toList[i]'(by omega)).toNat < 256 := UInt8.toNat_lt _
    have hdr := List.drop_eq_getElem_cons (l := s.data.toList) (i := i) (by omega)
    generalize (s.data.toList[i]'(by omega)) = c at *
    rw [hdr]
    by_cases h1 : c.toNat < 48
    · refine ⟨2, ?_⟩
      unfold butteryref01_Decimal.l0
      rw [if_pos (by omega), if_pos (by omega), if_pos (by omega)]
      unfold butteryref01_Decimal.j2
      rw [if_pos rfl, rDecL, if_pos (Or.inl h1)]
      rfl
    · by_cases h2 : 57 < c.toNat
      · refine ⟨2, ?_⟩
        unfold butteryref01_Decimal.l0
        rw [if_pos (by omega), if_pos (by omega), if_neg (by omega)]
        unfold butteryref01_Decimal.j2
        rw [if_pos (decide_eq_true (by omega)), rDecL, if_pos (Or.inr h2)]
        rfl
      · have e8 : (bt s (i : Int) - 48) % 256 = ((c.toNat - 48 : Nat) : Int) := by omega
        by_cases h3 : (18446744073709551615 - (c.toNat - 48)) / 10 < n
        · refine ⟨2, ?_⟩
          unfold butteryref01_Decimal.l0
          rw [if_pos (by omega), if_pos (by omega), if_neg (by omega)]
          unfold butteryref01_Decimal.j2
          rw [if_neg (by rw [decide_eq_true_eq]; omega), if_pos (by omega), if_pos (by omega), e8, if_pos (by omega), rDecL, if_neg (by omega), if_pos h3]
          rfl
        · obtain ⟨K, hK⟩ := rdec_l0 s hs d (i + 1) (10 * n + (c.toNat - 48)) (by omega) (by omega)
          refine ⟨K + 2, ?_⟩
          unfold butteryref01_Decimal.l0
          rw [if_pos (by omega), if_pos (by omega), if_neg (by omega)]
          unfold butteryref01_Decimal.j2
          have e9 : IntKind.u64.wrap (IntKind.u64.wrap (10 * (n : Int)) + ((c.toNat - 48 : Nat) : Int)) = ((10 * n + (c.toNat - 48) : Nat) : Int) := by rw [IntKind.wrap_u64, IntKind.wrap_u64]; omega
          rw [if_neg (by rw [decide_eq_true_eq]; omega), if_pos (by omega), if_pos (by omega), e8, if_neg (by omega), e9, w64 _ (by omega) (by omega), rDecL, if_neg (by omega), if_neg h3]
          exact hK
theorem rdec_f (s : ByteArray) : Ev (fun k => butteryref01_Decimal.f k s) ((decS s).1, (decS s).2) := by
  have hm := butteryref01_Decimal.mono s
  by_cases h0 : s.size = 0
  · refine Ev.of hm (k := 1) ?_
    show butteryref01_Decimal.f 1 s = _
    unfold butteryref01_Decimal.f decS
    rw [if_pos (by omega), if_pos (Or.inl h0)]
    rfl
  · by_cases h40 : 40 < s.size
    · refine Ev.of hm (k := 1) ?_
      show butteryref01_Decimal.f 1 s = _
      unfold butteryref01_Decimal.f decS
      rw [if_neg (by omega), if_pos (Or.inr h40), decide_eq_true (by omega)]
      rfl
    · obtain ⟨K, hK⟩ := rdec_l0 s (by omega) s.size 0 0 (by omega) (by omega)
      refine Ev.of hm (k := K + 1) ?_
      show butteryref01_Decimal.f (K + 1) s = _
      unfold butteryref01_Decimal.f decS
      rw [if_neg (by omega), if_neg (by omega), decide_eq_false (by omega)]
      show butteryref01_Decimal.l0 K s ((0 : Nat) : Int) ((0 : Nat) : Int) = _
      rw [hK, List.drop_zero]
      cases rDecL 0 s.data.toList <;> rfl
/-- A number with or without a sign. -/
def sgnOf (neg : Bool) (p : Nat × Bool) : Int × Bool := if p.2 = true ∧ p.1 ≤ 1099511627776 then ((if neg then -(p.1 : Int) else p.1), true) else (0, false)
def isNeg (s : ByteArray) : Bool := Lib.hasPrefix s.data.toList [45]
def unsigned (s : ByteArray) : ByteArray := ⟨(Lib.trimPrefix s.data.toList [45]).toArray⟩
def sgnS (s : ByteArray) : Int × Bool := sgnOf (isNeg s) (decS (unsigned s))
theorem sgn_f (s : ByteArray) : Ev (fun k => num_Signed.f k s) (sgnS s) := by
  have hm := num_Signed.mono s
  refine Ev.of hm (k := 1) ?_
  show num_Signed.f 1 s = _
  unfold num_Signed.f
  show ((num_Decimal.f (unsigned s)).bind fun bt228 => (if bt228.2 = true then (num_Signed.j0 1 (isNeg s) bt228.1 (decide (bt228.1 > 1099511627776))) else (num_Signed.j0 1 (isNeg s) bt228.1 true))) = _
  unfold num_Decimal.f sgnS
  generalize decS (unsigned s) = p
  obtain ⟨u, b⟩ := p
  show (if b = true then (num_Signed.j0 1 (isNeg s) (u : Int) (decide ((u : Int) > 1099511627776))) else (num_Signed.j0 1 (isNeg s) (u : Int) true)) = _
  unfold sgnOf
  cases b
  · rw [if_neg (by decide)]
    show some (0, false) = _
    rw [if_neg (by simp)]
  · rw [if_pos rfl]
    by_cases h : (u : Int) > 1099511627776
    · rw [decide_eq_true h]
      show some (0, false) = _
      rw [if_neg (by simp; omega)]
    · rw [decide_eq_false h]
      have hu : u ≤ 1099511627776 := by omega
      show (if isNeg s = true then (some (wrap64 (-(wrap64 (u : Int))), true)) else (some (wrap64 (u : Int), true))) = _
      rw [w64 (u : Int) (by omega) (by omega), w64 (-(u : Int)) (by omega) (by omega)]
      cases isNeg s
      · show some ((u : Int), true) = some (if true = true ∧ u ≤ 1099511627776 then ((u : Int), true) else (0, false))
        rw [if_pos ⟨rfl, hu⟩]
      · show some (-(u : Int), true) = some (if true = true ∧ u ≤ 1099511627776 then (-(u : Int), true) else (0, false))
        rw [if_pos ⟨rfl, hu⟩]
theorem rsgn_j1 (s : ByteArray) (neg : Bool) : ∃ K, butteryref01_Signed.j1 K s neg = some (sgnOf neg (decS s)) := by
  obtain ⟨K, hK⟩ := rdec_f s
  refine ⟨K + 2, ?_⟩
  have h1 : butteryref01_Decimal.f (K + 1) s = some (((decS s).1 : Int), (decS s).2) := hK (K + 1) (by omega)
  show ((butteryref01_Decimal.f (K + 1) s).bind fun bt230 => (if bt230.2 = true then (butteryref01_Signed.j2 (K + 1) neg bt230.1 (decide (bt230.1 > 1099511627776))) else (butteryref01_Signed.j2 (K + 1) neg bt230.1 true))) = _
  rw [h1]
  generalize decS s = p
  obtain ⟨u, b⟩ := p
  show (if b = true then (butteryref01_Signed.j2 (K + 1) neg (u : Int) (decide ((u : Int) > 1099511627776))) else (butteryref01_Signed.j2 (K + 1) neg (u : Int) true)) = _
  unfold sgnOf
  cases b
  · rw [if_neg (by decide)]
    show some (0, false) = _
    rw [if_neg (by simp)]
  · rw [if_pos rfl]
    by_cases h : (u : Int) > 1099511627776
    · rw [decide_eq_true h]
      show some (0, false) = _
      rw [if_neg (by simp; omega)]
    · rw [decide_eq_false h]
      have hu : u ≤ 1099511627776 := by omega
      show (if neg = true then (some (wrap64 (-(wrap64 (u : Int))), true)) else (some (wrap64 (u : Int), true))) = _
      rw [w64 (u : Int) (by omega) (by omega), w64 (-(u : Int)) (by omega) (by omega)]
      cases neg
      · show some ((u : Int), true) = some (if true = true ∧ u ≤ 1099511627776 then ((u : Int), true) else (0, false))
        rw [if_pos ⟨rfl, hu⟩]
      · show some (-(u : Int), true) = some (if true = true ∧ u ≤ 1099511627776 then (-(u : Int), true) else (0, false))
        rw [if_pos ⟨rfl, hu⟩]
theorem neg_cases (s : ByteArray) : (s.size = 0 ∧ isNeg s = false ∧ unsigned s = s) ∨ (0 < s.size ∧ isNeg s = (bt s 0 == 45) ∧ unsigned s = if isNeg s then s.extract 1 s.size else s) := by
  obtain ⟨⟨l⟩⟩ := s
  cases l with
  | nil => exact Or.inl ⟨rfl, rfl, rfl⟩
  | cons c r =>
    right
    have e : isNeg ⟨⟨c :: r⟩⟩ = (c == 45) := by
      unfold isNeg
      rw [Bool.eq_iff_iff]
      simp [Lib.hasPrefix]
      exact eq_comm
    have e2 : bt ⟨⟨c :: r⟩⟩ 0 = (c.toNat : Int) := by
      have := bt_list ⟨⟨c :: r⟩⟩ 0 (by simp [ByteArray.size]) (by simp)
      simpa using this
    refine ⟨by simp [ByteArray.size], ?_, ?_⟩
    · rw [e, e2, Bool.eq_iff_iff, beq_iff_eq, beq_iff_eq]
      constructor
      · rintro rfl; rfl
      · intro h
        exact UInt8.toNat_inj.1 (by have : (45 : UInt8).toNat = 45 := rfl
                                    omega)
    · rw [e]
      unfold unsigned
      cases hc : (c == 45)
      · have : Lib.hasPrefix (c :: r) [45] = false := by have := e; unfold isNeg at this; rw [hc] at this; exact this
        show (⟨(Lib.trimPrefix (c :: r) [45]).toArray⟩ : ByteArray) = _
        unfold Lib.trimPrefix
        rw [this]
        rfl
      · have : Lib.hasPrefix (c :: r) [45] = true := by have := e; unfold isNeg at this; rw [hc] at this; exact this
        show (⟨(Lib.trimPrefix (c :: r) [45]).toArray⟩ : ByteArray) = _
        unfold Lib.trimPrefix
        rw [this]
        apply ByteArray.ext
        simp [ByteArray.data_extract, ByteArray.size]
theorem rsgn_f (s : ByteArray) (hs : s.size ≤ 9223372036854775807) : Ev (fun k => butteryref01_Signed.f k s) (sgnS s) := by
  have hm := butteryref01_Signed.mono s
  unfold sgnS
  rcases neg_cases s with ⟨h0, h1, h2⟩ | ⟨h0, h1, h2⟩
  · rw [h1, h2]
    obtain ⟨K, hK⟩ := rsgn_j1 s false
    refine Ev.of hm (k := K + 1) ?_
    show butteryref01_Signed.f (K + 1) s = _
    unfold butteryref01_Signed.f
    rw [if_neg (by omega)]
    exact hK
  · obtain ⟨K, hK⟩ := rsgn_j1 (unsigned s) (isNeg s)
    refine Ev.of hm (k := K + 1) ?_
    show butteryref01_Signed.f (K + 1) s = _
    unfold butteryref01_Signed.f
    rw [if_pos (by omega), if_pos (by omega), ← h1]
    rw [h2] at hK
    rw [h2]
    cases hn : isNeg s
    · rw [hn] at hK
      rw [if_neg (by decide)] at hK ⊢
      exact hK
    · rw [hn] at hK
      rw [if_pos rfl] at hK ⊢
      show (if 1 ≤ (s.size : Int) then (butteryref01_Signed.j1 K (s.extract 1 s.size) true) else (none)) = _
      rw [if_pos (by omega)]
      exact hK
end Go.Proofs.YtdjbbncoioghfaaGreatDoor.X
namespace Go.Proofs.YtdjbbncoioghfaaGreatDoor.X
open Go.RowKit Go.Proofs.YtdjbbncoioghfaaGreatDoorW.PrintWords
set_option linter.unusedVariables false
set_option linter.unusedSimpArgs false

theorem rkey_l0 (s : ByteArray) (hl : s.size ≤ 1000000) : ∀ (d i : Nat), i + d = s.size → Ev (fun k => butteryref13_Key.l0 k s (i : Int)) (!((bytesOf s).drop i).any oddB)
  | 0, i, hd => by
    refine Ev.step (fun k => by rw [butteryref13_Key.l0]) (Ev.neg (by omega) ?_)
    rw [List.drop_eq_nil_of_le (by rw [bytesOf_length]; omega)]
    exact Ev.now _
  | d + 1, i, hd => by
    have hi : i < s.size := by omega
    have hil : i < s.data.toList.length := hi
    have hib : i < (bytesOf s).length := by rw [bytesOf_length]; exact hi
    have e : (bytesOf s).drop i = (bytesOf s)[i] :: (bytesOf s).drop (i + 1) := List.drop_eq_getElem_cons hib
    have hr : bt s (i : Int) = (bytesOf s)[i] := by
      rw [bt_list s i hi hil]
      simp [bytesOf]
    refine Ev.step (fun k => by rw [butteryref13_Key.l0]) (Ev.pos (by omega) (Ev.pos (by omega) ?_))
    rw [hr, e, List.any_cons]
    generalize (bytesOf s)[i] = v
    by_cases h1 : v ≤ 32
    · refine Ev.pos h1 (ev_to (Ev.now _) ?_)
      simp [oddB, h1]
    · refine Ev.neg h1 ?_
      by_cases h2 : v = 127
      · refine Ev.pos h2 (ev_to (Ev.now _) ?_)
        simp [oddB, h2]
      · refine Ev.neg h2 ?_
        rw [w64 _ (by omega) (by omega)]
        refine ev_to (rkey_l0 s hl d (i + 1) (by omega)) ?_
        simp [oddB, h1, h2]
theorem rkey_ev (s : ByteArray) (hl : s.size ≤ 1000000) : Ev (fun k => butteryref13_Key.f k s) (keyS s) := by
  rw [keyS_eq]
  unfold butteryref13_Key.f
  by_cases h : (s.size : Int) < 1
  · refine Ev.pos h (Ev.step (fun k => by rw [butteryref13_Key.j0]) (Ev.pos rfl (ev_to (Ev.now _) ?_)))
    have : ¬ 1 ≤ s.size := by omega
    simp [keyedS, this]
  · refine Ev.neg h ?_
    by_cases h2 : (s.size : Int) > 250
    · rw [decide_eq_true h2]
      refine Ev.step (fun k => by rw [butteryref13_Key.j0]) (Ev.pos rfl (ev_to (Ev.now _) ?_))
      have : ¬ s.size ≤ 250 := by omega
      simp [keyedS, this]
    · rw [decide_eq_false h2]
      refine Ev.step (fun k => by rw [butteryref13_Key.j0]) (Ev.neg (by decide) ?_)
      refine ev_to (rkey_l0 s hl s.size 0 (by omega)) ?_
      have h3 : 1 ≤ s.size := by omega
      have h4 : s.size ≤ 250 := by omega
      simp [keyedS, h3, h4]
theorem rkey_calls (s : ByteArray) (w : World) (hl : s.size ≤ 1000000) : Calls Tryz.prog 110 #[.string s] w fun e w' => e = .returned (.bool (keyS s)) ∧ Below w.heap.size w w' := by
  obtain ⟨K, hK⟩ := rkey_ev s hl
  exact (butteryref13_Key.calls K s _ w (hK K (Nat.le_refl _))).mono fun e w' ⟨he, hd⟩ => ⟨he, hd.below⟩
end Go.Proofs.YtdjbbncoioghfaaGreatDoor.X
namespace Go.Proofs.YtdjbbncoioghfaaGreatDoor.X
open Go.RowKit Go.Proofs.YtdjbbncoioghfaaGreatDoorW.PrintWords Go.Proofs.YtdjbbncoioghfaaGreatDoorW.PrintMore
set_option linter.unusedVariables false
set_option linter.unusedSimpArgs false
/-- A row of bytes of the call's own. -/
def RowB (l : List Int) (w : World) (v : Value) (w' : World) : Prop := w'.ownsRow w.heap.size 5 1 v l.length (encs (Value.int .u8) l) ∧ Below w.heap.size w w'
theorem C_news {W : World} {A : Addr} {l : List Int} (h : (Kd.int .u8).C W (some A) l.length l) : ∀ j u, (encs (Value.int .u8) l)[j]? = some u → W.cell? (A.add j) = some u := by
  intro j u hj
  have hlt : j < l.length := by
    obtain ⟨h1, -⟩ := List.getElem?_eq_some_iff.1 hj
    rwa [encs_length] at h1
  obtain ⟨b, o, e, -, hc⟩ := C_cell h j hlt
  obtain rfl := Option.some.inj e
  have e2 : (encs (Value.int .u8) l)[j]? = some (Value.int .u8 (l.getD j 0)) := encs_get _ _ hlt
  rw [e2] at hj
  obtain rfl := Option.some.inj hj
  have e3 : (⟨b, o, none⟩ : Addr).add j = ⟨b, o + j, none⟩ := by
    unfold Addr.add
    split <;> simp_all
  rw [e3]
  exact hc
theorem rowB_own {l : List Int} {w w' : World} {v : Value} (h : w'.ownsRow w.heap.size 5 1 v l.length (encs (Value.int .u8) l)) (hb : Below w.heap.size w w') : RowB l w v w' := ⟨h, hb⟩
theorem RowB.C {l : List Int} {w w' : World} {v : Value} (h : RowB l w v w') : ∃ A c, v = .slice A l.length c ∧ l.length ≤ c ∧ (Kd.int .u8).C w' A l.length l := Kd.R_reads (Kd.R_of_own (h1 := fun _ => rfl) (ok := fun _ => True) h.1 (fun _ _ => trivial))
theorem own_empty (W : World) (base : Nat) (e : TypeId) (h : base ≤ W.heap.size) : (W.alloc (.cells #[] e)).ownsRow base e 1 (.slice (some ⟨W.heap.size, 0, none⟩) 0 0) 0 [] :=
  ⟨rfl, .inr ⟨W.heap.size, 0, #[], rfl, h, by rw [← World.alloc_eq]; exact Array.getElem?_push_size, by omega, by decide, rfl, rfl⟩⟩
set_option maxRecDepth 100000 in
set_option maxHeartbeats 1000000 in
theorem clone_calls (l : List Int) (A : Option Addr) (c : Nat) (w : World) (hC : (Kd.int .u8).C w A l.length l) (hc : l.length ≤ c) (hl : l.length ≤ 1000000) :
    Calls Tryz.prog 79 #[.slice A l.length c] w fun e w' => ∃ v, e = .returned v ∧ RowB l w v w' := by
  have HC := Aside0.mk hC
  clear hC
  have HB := Aside0.mk (Below.refl w.heap.size w)
  obtain ⟨i0, hi, hz0, hz1, hz2⟩ := info_parts info5
  cases A with
  | none =>
    obtain rfl : l = [] := by
      cases l with
      | nil => rfl
      | cons x xs => obtain ⟨b, o, e, -⟩ := C_cell HC.out 0 (by simp); cases e
    go_enter Tryz.func79, Tryz.ntmps79
    go_wp2
    rw [Lib.run_eql_slice_nil (h := Tryz.underlying22)]
    go_wp2
    go_ret
    exact ⟨_, rfl, World.ownsRow_nil _ _ _ _, HB.out⟩
  | some a =>
    go_enter Tryz.func79, Tryz.ntmps79
    go_wp2
    rw [Lib.run_eql_slice_nil (h := Tryz.underlying22)]
    go_wp2_with (at_builtin; refine wpList_append_own _ rfl _ _ 22 rfl w.heap.size 5 i0 (.int .u8 0) 1 1 Tryz.underlying22 hi hz0 hz1 hz2 rfl (by decide) _ _ _ rfl (own_empty w _ _ (Nat.le_refl _)) a l.length c (encs (Value.int .u8) l) rfl (by rw [encs_length, Nat.mul_one]) (C_news (Kd.C_below HC.out (by repeat (first | (with_reducible first | exact HB.out | apply below_alloc | apply pw_below_drewN | apply below_drew1) | exact HB.out)))) (by intro u hu; obtain ⟨z, -, rfl⟩ := List.mem_map.1 hu; rfl) (by unfold maxLen; omega) (by omega) (by simp) ?_; intro v' w1 hown' hgrow _; have HO := Aside0.mk hown'; have HG := Aside0.mk hgrow; clear hown' hgrow)
    go_ret
    refine ⟨_, rfl, rowB_own (by have := HO.out; simpa using this) ?_⟩
    exact Below.grown ((Below.refl _ w).alloc (Nat.le_refl _) _) HG.out (by simp) (fun k hk => by cases hk; exact Nat.le_refl _)
def BL (w : World) (r : List Int × Int × Int) (e : Ending) (w' : World) : Prop := ∃ v, e = .returned (.tuple #[v, .int .i64 r.2.1, .int .i64 r.2.2]) ∧ RowB r.1 w v w'
theorem rowB_nil (w : World) (w' : World) (h : Below w.heap.size w w') : RowB [] w (.slice none 0 0) w' := ⟨World.ownsRow_nil _ _ _ _, h⟩
theorem crlf_iff (l : List Int) (k : Nat) (h : k + 2 ≤ l.length) (h8 : B8 l) : strOfNums ((l.drop k).take 2) = ⟨#[13, 10]⟩ ↔ (l.getD k 0 = 13 ∧ l.getD (k + 1) 0 = 10) := by
  have e1 : (l.drop k).take 2 = [l.getD k 0, l.getD (k + 1) 0] := by
    rw [List.drop_eq_getElem_cons (by omega), List.drop_eq_getElem_cons (by omega), List.getD_eq_getElem?_getD, List.getD_eq_getElem?_getD, List.getElem?_eq_getElem (by omega), List.getElem?_eq_getElem (by omega)]
    rfl
  have hx := h8 (l.getD k 0) (by rw [List.getD_eq_getElem?_getD, List.getElem?_eq_getElem (by omega)]; exact List.getElem_mem _)
  have hy := h8 (l.getD (k + 1) 0) (by rw [List.getD_eq_getElem?_getD, List.getElem?_eq_getElem (by omega)]; exact List.getElem_mem _)
  rw [e1]
  generalize l.getD k 0 = x at *
  generalize l.getD (k + 1) 0 = y at *
  have e2 : ∀ z : Int, 0 ≤ z ∧ z < 256 → ∀ n : Nat, n < 256 → (UInt8.ofNat z.toNat = UInt8.ofNat n ↔ z = n) := by
    intro z hz n hn
    constructor
    · intro h
      have h2 := congrArg UInt8.toNat h
      rw [UInt8.toNat_ofNat', UInt8.toNat_ofNat'] at h2
      omega
    · rintro rfl
      rfl
  have e3 : strOfNums [x, y] = ⟨#[UInt8.ofNat x.toNat, UInt8.ofNat y.toNat]⟩ := rfl
  rw [e3]
  constructor
  · intro h
    injection h with h
    have h2 := congrArg Array.toList h
    simp only [List.cons.injEq, and_true] at h2
    exact ⟨(e2 x hx 13 (by omega)).1 h2.1, (e2 y hy 10 (by omega)).1 h2.2⟩
  · rintro ⟨rfl, rfl⟩
    rfl
set_option maxRecDepth 100000 in
set_option maxHeartbeats 1000000 in
theorem fbody_calls (l : List Int) (A : Option Addr) (c : Nat) (n : Int) (w : World) (hC : (Kd.int .u8).C w A l.length l) (hc : l.length ≤ c) (hl : l.length ≤ 1000000) (h8 : B8 l) :
    Calls Tryz.prog 85 #[.slice A l.length c, .int .i64 n] w (BL w (bodyS l n)) := by
  have HC := Aside0.mk hC
  have H8 := Aside0.mk h8
  clear hC h8
  have HB := Aside0.mk (Below.refl w.heap.size w)
  obtain ⟨r, hr⟩ : ∃ r, bodyS l n = r := ⟨_, rfl⟩
  rw [hr]
  unfold bodyS at hr
  by_cases h1 : n < 0
  · rw [if_pos (Or.inl h1)] at hr
    subst hr
    have h1d : decide (n < 0) = true := decide_eq_true h1
    go_enter Tryz.func85, Tryz.ntmps85
    go_wp2
    go_ret3
    exact ⟨_, rfl, rowB_nil _ _ HB.out⟩
  by_cases h2 : n > 1000
  · rw [if_pos (Or.inr h2)] at hr
    subst hr
    have h1d : decide (n < 0) = false := decide_eq_false h1
    have h2d : decide (n > 1000) = true := decide_eq_true h2
    go_enter Tryz.func85, Tryz.ntmps85
    go_wp2
    go_ret3
    exact ⟨_, rfl, rowB_nil _ _ HB.out⟩
  rw [if_neg (by omega)] at hr
  obtain ⟨k, rfl⟩ : ∃ k : Nat, n = k := ⟨n.toNat, by omega⟩
  have hw : IntKind.i64.wrap ((k : Int) + 2) = (k : Int) + 2 := IntWalk.i64_in _ (by omega)
  by_cases h3 : (l.length : Int) < (k : Int) + 2
  · rw [if_pos h3] at hr
    subst hr
    go_enter Tryz.func85, Tryz.ntmps85
    go_wp2
    go_ret3
    exact ⟨_, rfl, rowB_nil _ _ HB.out⟩
  rw [if_neg h3] at hr
  have hp1 : (0 : Int) ≤ (k : Int) + 2 := by omega
  have hn1 : ((k : Int) + 2).toNat = k + 2 := by omega
  have hk1 : (k : Int) + 2 ≤ l.length := by omega
  have hk2 : (k : Int) ≤ l.length := by omega
  have hk3 : (k : Int) ≤ c := by omega
  have hk4 : k ≤ c := by omega
  have hk5 : (l.length : Int) ≤ c := by omega
  have hk6 : (k : Int) + 2 ≤ c := by omega
  have HD : Aside0 ((Kd.int .u8).C w (Option.map (fun x => x.add k) A) 2 ((l.drop k).take 2)) := ⟨by
    have h5 := Kd.C_drop (c := c) (m := k) HC.out (by omega) hc
    rw [if_neg (by omega), show k * (Kd.int .u8).sz = k from Nat.mul_one k] at h5
    have h6 := Kd.C_take (m := 2) h5 (by rw [List.length_drop]; omega)
    rw [show ((l.drop k).take 2).length = 2 from by rw [List.length_take, List.length_drop]; omega] at h6
    exact h6⟩
  have hs2 : strOfNums ((l.drop k).take 2) = ⟨#[13, 10]⟩ ↔ (l.getD k 0 = 13 ∧ l.getD (k + 1) 0 = 10) := crlf_iff l k (by omega) H8.out
  obtain ⟨s2, he2⟩ : ∃ s2, strOfNums ((l.drop k).take 2) = s2 := ⟨_, rfl⟩
  have HE2 := Aside0.mk he2
  rw [he2] at hs2
  rw [show ((k : Int)).toNat = k from by omega] at hr
  clear he2
  go_enter Tryz.func85, Tryz.ntmps85
  go_wp2
  rw [Kd.C_string (xs := (l.drop k).take 2) Tryz.underlying22 Tryz.underlying5 Tryz.underlying9 HD.out, HE2.out]
  by_cases h4 : l.getD k 0 = 13 ∧ l.getD (k + 1) 0 = 10
  · rw [if_pos h4] at hr
    obtain rfl := hs2.2 h4
    clear hs2
    subst hr
    have HT : Aside0 ((Kd.int .u8).C w A (l.take k).length (l.take k)) := ⟨Kd.C_take (m := k) HC.out (by omega)⟩
    have hlk : (l.take k).length = k := by rw [List.length_take]; omega
    obtain ⟨T, hT⟩ : ∃ T, l.take k = T := ⟨_, rfl⟩
    rw [hT] at HT hlk
    have HTK := Aside0.mk hT
    clear hT
    have HCL := Aside0.mk (clone_calls T A k w HT.out (by omega) (by omega))
    rw [hlk] at HCL
    go_wp2_with (go_at_call 79; (with_reducible refine HCL.out.mono ?_); rintro e w1 ⟨v, rfl, hrow⟩; have HR := Aside0.mk hrow; clear hrow)
    go_ret3
    have HR2 := HR.out
    rw [← HTK.out] at HR2
    exact ⟨_, rfl, HR2⟩
  · rw [if_neg h4] at hr
    subst hr
    have hne : (s2.toList == [13, 10]) = false := by
      rw [Bool.eq_false_iff]
      intro h
      have h5 := beq_iff_eq.1 h
      rw [ByteArray.toList_eq] at h5
      refine h4 (hs2.1 ?_)
      rcases s2 with ⟨⟨q⟩⟩
      have h6 : q = [13, 10] := h5
      subst h6
      rfl
    clear hs2
    go_wp2
    go_ret3
    exact ⟨_, rfl, rowB_nil _ _ HB.out⟩
end Go.Proofs.YtdjbbncoioghfaaGreatDoor.X
namespace Go.Proofs.YtdjbbncoioghfaaGreatDoor.X
open Go.RowKit Go.Proofs.YtdjbbncoioghfaaGreatDoorW.PrintWords Go.Proofs.YtdjbbncoioghfaaGreatDoorW.PrintMore
set_option linter.unusedVariables false
set_option linter.unusedSimpArgs false
set_option maxRecDepth 100000 in
set_option maxHeartbeats 1000000 in
theorem rbody_calls (l : List Int) (A : Option Addr) (c : Nat) (n : Int) (w : World) (hC : (Kd.int .u8).C w A l.length l) (hc : l.length ≤ c) (hl : l.length ≤ 1000000) :
    Calls Tryz.prog 103 #[.slice A l.length c, .int .i64 n] w (BL w (bodyS l n)) := by
  have HC := Aside0.mk hC
  clear hC
  have HB := Aside0.mk (Below.refl w.heap.size w)
  obtain ⟨i0, hi, hz0, hz1, hz2⟩ := info_parts info5
  obtain ⟨r, hr⟩ : ∃ r, bodyS l n = r := ⟨_, rfl⟩
  rw [hr]
  unfold bodyS at hr
  by_cases h1 : n < 0
  · rw [if_pos (Or.inl h1)] at hr
    subst hr
    have h1d : decide (n < 0) = true := decide_eq_true h1
    go_enter Tryz.func103, Tryz.ntmps103
    go_wp2
    go_ret3
    exact ⟨_, rfl, rowB_nil _ _ HB.out⟩
  by_cases h2 : n > 1000
  · rw [if_pos (Or.inr h2)] at hr
    subst hr
    have h1d : decide (n < 0) = false := decide_eq_false h1
    have h2d : decide (n > 1000) = true := decide_eq_true h2
    go_enter Tryz.func103, Tryz.ntmps103
    go_wp2
    go_ret3
    exact ⟨_, rfl, rowB_nil _ _ HB.out⟩
  rw [if_neg (by omega)] at hr
  obtain ⟨k, rfl⟩ : ∃ k : Nat, n = k := ⟨n.toNat, by omega⟩
  have hw : IntKind.i64.wrap ((k : Int) + 2) = (k : Int) + 2 := IntWalk.i64_in _ (by omega)
  have hwa : IntKind.i64.wrap ((k : Int) + 1) = (k : Int) + 1 := IntWalk.i64_in _ (by omega)
  by_cases h3 : (l.length : Int) < (k : Int) + 2
  · rw [if_pos h3] at hr
    subst hr
    go_enter Tryz.func103, Tryz.ntmps103
    go_wp2
    go_ret3
    exact ⟨_, rfl, rowB_nil _ _ HB.out⟩
  rw [if_neg h3] at hr
  have hp1 : (0 : Int) ≤ (k : Int) + 2 := by omega
  have hn1 : ((k : Int) + 2).toNat = k + 2 := by omega
  have hpa : (0 : Int) ≤ (k : Int) + 1 := by omega
  have hna : ((k : Int) + 1).toNat = k + 1 := by omega
  have hk1 : (k : Int) + 2 ≤ l.length := by omega
  have hka : (k : Int) + 1 < l.length := by omega
  have hkb : (k : Int) < l.length := by omega
  have hk2 : (k : Int) ≤ l.length := by omega
  have hk3 : (k : Int) ≤ c := by omega
  have hk4 : k ≤ c := by omega
  have hk5 : (l.length : Int) ≤ c := by omega
  have hk6 : (k : Int) + 2 ≤ c := by omega
  obtain ⟨b, o, rfl, hb0, t1⟩ := C_cell HC.out k (by omega)
  obtain ⟨b', o', e', -, t2⟩ := C_cell HC.out (k + 1) (by omega)
  obtain ⟨rfl, rfl⟩ : b = b' ∧ o = o' := by simpa using e'
  rw [show ((k : Int)).toNat = k from by omega] at hr
  obtain ⟨x, hx⟩ : ∃ x, l.getD k 0 = x := ⟨_, rfl⟩
  obtain ⟨y, hy⟩ : ∃ y, l.getD (k + 1) 0 = y := ⟨_, rfl⟩
  rw [hx] at hr t1
  rw [hy] at hr t2
  clear hx hy e'
  by_cases hx : x = 13
  · by_cases hy : y = 10
    · rw [if_pos ⟨hx, hy⟩] at hr
      subst hx hy hr
      have HT : Aside0 ((Kd.int .u8).C w (some ⟨b, o, none⟩) (l.take k).length (l.take k)) := ⟨Kd.C_take (m := k) HC.out (by omega)⟩
      have hlk : (l.take k).length = k := by rw [List.length_take]; omega
      obtain ⟨T, hT⟩ : ∃ T, l.take k = T := ⟨_, rfl⟩
      rw [hT] at HT hlk
      have HTK := Aside0.mk hT
      clear hT
      go_enter Tryz.func103, Tryz.ntmps103
      go_wp2_with (at_builtin; refine wpList_append_own _ rfl _ _ 22 rfl w.heap.size 5 i0 (.int .u8 0) 1 1 Tryz.underlying22 hi hz0 hz1 hz2 rfl (by decide) _ _ _ rfl (own_nil w _ _ _) ⟨b, o, none⟩ k c (encs (Value.int .u8) T) rfl (by rw [encs_length, hlk, Nat.mul_one]) (C_news HT.out) (by intro u hu; obtain ⟨z, -, rfl⟩ := List.mem_map.1 hu; rfl) (by unfold maxLen; omega) (by omega) (by simp) ?_; intro v' w1 hown' hgrow _; have HO := Aside0.mk hown'; have HG := Aside0.mk hgrow; clear hown' hgrow)
      go_ret3
      refine ⟨_, rfl, ?_⟩
      have HO2 := HO.out
      rw [Nat.zero_add, List.nil_append, ← hlk] at HO2
      have HR := rowB_own HO2 (Below.grown (Below.refl _ w) HG.out (Nat.le_refl _) (fun k hk => by cases hk))
      rw [← HTK.out] at HR
      exact HR
    · rw [if_neg (fun h => hy h.2)] at hr
      subst hx hr
      have hyb : (y == 10) = false := beq_eq_false_iff_ne.2 hy
      go_enter Tryz.func103, Tryz.ntmps103
      go_wp2
      go_ret3
      exact ⟨_, rfl, rowB_nil _ _ HB.out⟩
  · rw [if_neg (fun h => hx h.1)] at hr
    subst hr
    have hxb : (x == 13) = false := beq_eq_false_iff_ne.2 hx
    go_enter Tryz.func103, Tryz.ntmps103
    go_wp2
    go_ret3
    exact ⟨_, rfl, rowB_nil _ _ HB.out⟩
end Go.Proofs.YtdjbbncoioghfaaGreatDoor.X
namespace Go.Proofs.YtdjbbncoioghfaaGreatDoor.X
structure Cmd where
  op : Int
  key : ByteArray
  value : List Int
  flags : Int
  exp : Int
  cas : Int
  delta : Int
  initial : Int
  makes : Bool
  sets : Bool
structure Cmd.Wf (x : Cmd) : Prop where
  op : -9223372036854775808 ≤ x.op ∧ x.op ≤ 9223372036854775807
  key : x.key.size ≤ 9223372036854775807
  value : x.value.length ≤ 9223372036854775807 ∧ ∀ y ∈ x.value, 0 ≤ y ∧ y ≤ 255
  flags : 0 ≤ x.flags ∧ x.flags ≤ 4294967295
  exp : -9223372036854775808 ≤ x.exp ∧ x.exp ≤ 9223372036854775807
  cas : 0 ≤ x.cas ∧ x.cas ≤ 18446744073709551615
  delta : 0 ≤ x.delta ∧ x.delta ≤ 18446744073709551615
  initial : 0 ≤ x.initial ∧ x.initial ≤ 18446744073709551615
structure Form where
  dialect : Int
  verb : ByteArray
  code : Int
  opq : Int
  quiet : Bool
  withcas : Bool
  flags : ByteArray
  tokens : List ByteArray
  keys : List ByteArray
  base64 : Bool
structure Form.Wf (x : Form) : Prop where
  dialect : -9223372036854775808 ≤ x.dialect ∧ x.dialect ≤ 9223372036854775807
  verb : x.verb.size ≤ 9223372036854775807
  code : -9223372036854775808 ≤ x.code ∧ x.code ≤ 9223372036854775807
  opq : 0 ≤ x.opq ∧ x.opq ≤ 4294967295
  flags : x.flags.size ≤ 9223372036854775807
  tokens : x.tokens.length ≤ 9223372036854775807 ∧ ∀ y ∈ x.tokens, y.size ≤ 9223372036854775807
  keys : x.keys.length ≤ 9223372036854775807 ∧ ∀ y ∈ x.keys, y.size ≤ 9223372036854775807
structure Request where
  cmds : List Cmd
  form : Form
structure Request.Wf (x : Request) : Prop where
  cmds : x.cmds.length ≤ 9223372036854775807 ∧ ∀ y ∈ x.cmds, y.Wf
  form : x.form.Wf
structure Step where
  req : Request
  reply : ByteArray
  used : Int
  skip : Int
  line : Bool
  e : Int
structure Step.Wf (x : Step) : Prop where
  req : x.req.Wf
  reply : x.reply.size ≤ 9223372036854775807
  used : -9223372036854775808 ≤ x.used ∧ x.used ≤ 9223372036854775807
  skip : -9223372036854775808 ≤ x.skip ∧ x.skip ≤ 9223372036854775807
  e : -9223372036854775808 ≤ x.e ∧ x.e ≤ 9223372036854775807
structure TextinLine where
  verb : ByteArray
  words : List ByteArray
  quiet : Bool
  used : Int
  rest : List Int
structure TextinLine.Wf (x : TextinLine) : Prop where
  verb : x.verb.size ≤ 9223372036854775807
  words : x.words.length ≤ 9223372036854775807 ∧ ∀ y ∈ x.words, y.size ≤ 9223372036854775807
  used : -9223372036854775808 ≤ x.used ∧ x.used ≤ 9223372036854775807
  rest : x.rest.length ≤ 9223372036854775807 ∧ ∀ y ∈ x.rest, 0 ≤ y ∧ y ≤ 255
end Go.Proofs.YtdjbbncoioghfaaGreatDoor.X
namespace Go.Proofs.YtdjbbncoioghfaaGreatDoor.X
open Go.RowKit Go.Proofs.YtdjbbncoioghfaaGreatDoorW.PrintWords
set_option linter.unusedVariables false
set_option linter.unusedSimpArgs false

def rd_L3 (xs : List (List Int)) (i : Int) : (List Int) := xs.getD i.toNat ([] : List Int)
theorem at_L3 {w : World} {A : Option Addr} {n : Nat} {xs : List (List Int)} (h : Kd.C (Kd.slice 5 (Kd.int .u8)) w A n xs) (i : Int) (h0 : 0 ≤ i) (h1 : i < n) : ∃ ad A0 c0, A = some ad ∧ w.cell? (ad.add i.toNat) = some (.slice A0 (rd_L3 xs i).length c0) ∧ (rd_L3 xs i).length ≤ c0 ∧ (Kd.int .u8).C w A0 (rd_L3 xs i).length (rd_L3 xs i) := by
  obtain ⟨ad, c, e, _, hK, hc0⟩ := Kd.C_get h ([] : List Int) i h0 h1
  have hc : ∀ j u, c[j]? = some u → w.cell? (ad.add (i.toNat * 1 + j)) = some u := hc0
  obtain ⟨A0, c0, rfl, l0, g0⟩ := hK
  exact ⟨ad, A0, c0, e, by have hq := hc 0 _ rfl; rwa [Nat.mul_one, Nat.add_zero] at hq, l0, g0⟩


/-! #### struct type 57 -/
def zCmd : Cmd := ⟨(0 : Int), (⟨#[]⟩ : ByteArray), ([] : List Int), (0 : Int), (0 : Int), (0 : Int), (0 : Int), (0 : Int), false, false⟩
def kCmd : Kd Cmd := Kd.iso (Kd.pair (Kd.int .i64) (Kd.pair Kd.string (Kd.pair (Kd.slice 5 (Kd.int .u8)) (Kd.pair (Kd.int .u32) (Kd.pair (Kd.int .i64) (Kd.pair (Kd.int .u64) (Kd.pair (Kd.int .u64) (Kd.pair (Kd.int .u64) (Kd.pair Kd.bool Kd.bool))))))))) (fun x : Cmd => (x.op, x.key, x.value, x.flags, x.exp, x.cas, x.delta, x.initial, x.makes, x.sets))
theorem kCmd_open {w : World} {x : Cmd} {cs : List Value} (h : kCmd.K w x cs) : ∃ A2 c2, cs = [.int .i64 x.op, .string x.key, .slice A2 x.value.length c2, .int .u32 x.flags, .int .i64 x.exp, .int .u64 x.cas, .int .u64 x.delta, .int .u64 x.initial, .bool x.makes, .bool x.sets] ∧ x.value.length ≤ c2 ∧ (Kd.int .u8).C w A2 x.value.length x.value := by
  obtain ⟨_, _, rfl, rfl, ⟨_, _, rfl, rfl, ⟨_, _, rfl, ⟨A2, c2, rfl, l2, g2⟩, ⟨_, _, rfl, rfl, ⟨_, _, rfl, rfl, ⟨_, _, rfl, rfl, ⟨_, _, rfl, rfl, ⟨_, _, rfl, rfl, ⟨_, _, rfl, rfl, rfl⟩⟩⟩⟩⟩⟩⟩⟩⟩ := h
  exact ⟨A2, c2, rfl, l2, g2⟩
theorem kCmd_openM {w : World} {base : Nat} {ok : Nat → Prop} {x : Cmd} {cs : List Value} (h : kCmd.M w base ok x cs) : ∃ v2, cs = [.int .i64 x.op, .string x.key, v2, .int .u32 x.flags, .int .i64 x.exp, .int .u64 x.cas, .int .u64 x.delta, .int .u64 x.initial, .bool x.makes, .bool x.sets] ∧ (Kd.int .u8).R 5 w base ok v2 x.value := by
  obtain ⟨_, _, rfl, rfl, ⟨_, _, rfl, rfl, ⟨_, _, rfl, ⟨v2, rfl, g2⟩, ⟨_, _, rfl, rfl, ⟨_, _, rfl, rfl, ⟨_, _, rfl, rfl, ⟨_, _, rfl, rfl, ⟨_, _, rfl, rfl, ⟨_, _, rfl, rfl, rfl⟩⟩⟩⟩⟩⟩⟩⟩⟩ := h
  exact ⟨v2, rfl, g2⟩
theorem kCmd_mk (w : World) (x : Cmd) {A2 : Option Addr} {c2 : Nat} (l2 : x.value.length ≤ c2) (g2 : (Kd.int .u8).C w A2 x.value.length x.value) : kCmd.K w x [.int .i64 x.op, .string x.key, .slice A2 x.value.length c2, .int .u32 x.flags, .int .i64 x.exp, .int .u64 x.cas, .int .u64 x.delta, .int .u64 x.initial, .bool x.makes, .bool x.sets] := ⟨[.int .i64 x.op], [.string x.key, .slice A2 x.value.length c2, .int .u32 x.flags, .int .i64 x.exp, .int .u64 x.cas, .int .u64 x.delta, .int .u64 x.initial, .bool x.makes, .bool x.sets], rfl, rfl, ⟨[.string x.key], [.slice A2 x.value.length c2, .int .u32 x.flags, .int .i64 x.exp, .int .u64 x.cas, .int .u64 x.delta, .int .u64 x.initial, .bool x.makes, .bool x.sets], rfl, rfl, ⟨[.slice A2 x.value.length c2], [.int .u32 x.flags, .int .i64 x.exp, .int .u64 x.cas, .int .u64 x.delta, .int .u64 x.initial, .bool x.makes, .bool x.sets], rfl, ⟨A2, c2, rfl, l2, g2⟩, ⟨[.int .u32 x.flags], [.int .i64 x.exp, .int .u64 x.cas, .int .u64 x.delta, .int .u64 x.initial, .bool x.makes, .bool x.sets], rfl, rfl, ⟨[.int .i64 x.exp], [.int .u64 x.cas, .int .u64 x.delta, .int .u64 x.initial, .bool x.makes, .bool x.sets], rfl, rfl, ⟨[.int .u64 x.cas], [.int .u64 x.delta, .int .u64 x.initial, .bool x.makes, .bool x.sets], rfl, rfl, ⟨[.int .u64 x.delta], [.int .u64 x.initial, .bool x.makes, .bool x.sets], rfl, rfl, ⟨[.int .u64 x.initial], [.bool x.makes, .bool x.sets], rfl, rfl, ⟨[.bool x.makes], [.bool x.sets], rfl, rfl, rfl⟩⟩⟩⟩⟩⟩⟩⟩⟩
theorem kCmd_mkM (w : World) (base : Nat) (ok : Nat → Prop) (x : Cmd) {v2 : Value} (g2 : (Kd.int .u8).R 5 w base ok v2 x.value) : kCmd.M w base ok x [.int .i64 x.op, .string x.key, v2, .int .u32 x.flags, .int .i64 x.exp, .int .u64 x.cas, .int .u64 x.delta, .int .u64 x.initial, .bool x.makes, .bool x.sets] := ⟨[.int .i64 x.op], [.string x.key, v2, .int .u32 x.flags, .int .i64 x.exp, .int .u64 x.cas, .int .u64 x.delta, .int .u64 x.initial, .bool x.makes, .bool x.sets], rfl, rfl, ⟨[.string x.key], [v2, .int .u32 x.flags, .int .i64 x.exp, .int .u64 x.cas, .int .u64 x.delta, .int .u64 x.initial, .bool x.makes, .bool x.sets], rfl, rfl, ⟨[v2], [.int .u32 x.flags, .int .i64 x.exp, .int .u64 x.cas, .int .u64 x.delta, .int .u64 x.initial, .bool x.makes, .bool x.sets], rfl, ⟨v2, rfl, g2⟩, ⟨[.int .u32 x.flags], [.int .i64 x.exp, .int .u64 x.cas, .int .u64 x.delta, .int .u64 x.initial, .bool x.makes, .bool x.sets], rfl, rfl, ⟨[.int .i64 x.exp], [.int .u64 x.cas, .int .u64 x.delta, .int .u64 x.initial, .bool x.makes, .bool x.sets], rfl, rfl, ⟨[.int .u64 x.cas], [.int .u64 x.delta, .int .u64 x.initial, .bool x.makes, .bool x.sets], rfl, rfl, ⟨[.int .u64 x.delta], [.int .u64 x.initial, .bool x.makes, .bool x.sets], rfl, rfl, ⟨[.int .u64 x.initial], [.bool x.makes, .bool x.sets], rfl, rfl, ⟨[.bool x.makes], [.bool x.sets], rfl, rfl, rfl⟩⟩⟩⟩⟩⟩⟩⟩⟩
def rd_Cmd (xs : List Cmd) (i : Int) : Cmd := xs.getD i.toNat zCmd
theorem at_Cmd {w : World} {A : Option Addr} {n : Nat} {xs : List Cmd} (h : Kd.C kCmd w A n xs) (i : Int) (h0 : 0 ≤ i) (h1 : i < n) : ∃ ad A2 c2, A = some ad ∧ w.cell? (ad.add (i.toNat * 10)) = some (.int .i64 (rd_Cmd xs i).op) ∧ w.cell? ⟨(ad.add (i.toNat * 10)).block, (ad.add (i.toNat * 10)).off + 1, none⟩ = some (.string (rd_Cmd xs i).key) ∧ w.cell? ⟨(ad.add (i.toNat * 10)).block, (ad.add (i.toNat * 10)).off + 2, none⟩ = some (.slice A2 (rd_Cmd xs i).value.length c2) ∧ w.cell? ⟨(ad.add (i.toNat * 10)).block, (ad.add (i.toNat * 10)).off + 3, none⟩ = some (.int .u32 (rd_Cmd xs i).flags) ∧ w.cell? ⟨(ad.add (i.toNat * 10)).block, (ad.add (i.toNat * 10)).off + 4, none⟩ = some (.int .i64 (rd_Cmd xs i).exp) ∧ w.cell? ⟨(ad.add (i.toNat * 10)).block, (ad.add (i.toNat * 10)).off + 5, none⟩ = some (.int .u64 (rd_Cmd xs i).cas) ∧ w.cell? ⟨(ad.add (i.toNat * 10)).block, (ad.add (i.toNat * 10)).off + 6, none⟩ = some (.int .u64 (rd_Cmd xs i).delta) ∧ w.cell? ⟨(ad.add (i.toNat * 10)).block, (ad.add (i.toNat * 10)).off + 7, none⟩ = some (.int .u64 (rd_Cmd xs i).initial) ∧ w.cell? ⟨(ad.add (i.toNat * 10)).block, (ad.add (i.toNat * 10)).off + 8, none⟩ = some (.bool (rd_Cmd xs i).makes) ∧ w.cell? ⟨(ad.add (i.toNat * 10)).block, (ad.add (i.toNat * 10)).off + 9, none⟩ = some (.bool (rd_Cmd xs i).sets) ∧ (rd_Cmd xs i).value.length ≤ c2 ∧ (Kd.int .u8).C w A2 (rd_Cmd xs i).value.length (rd_Cmd xs i).value := by
  obtain ⟨ad, c, e, _, hK, hc0⟩ := Kd.C_get h zCmd i h0 h1
  have hc : ∀ j u, c[j]? = some u → w.cell? (ad.add (i.toNat * 10 + j)) = some u := hc0
  obtain ⟨A2, c2, rfl, l2, g2⟩ := kCmd_open hK
  exact ⟨ad, A2, c2, e, hc 0 _ rfl, by rw [← add_field _ _ 1 (by omega)]; exact hc 1 _ rfl, by rw [← add_field _ _ 2 (by omega)]; exact hc 2 _ rfl, by rw [← add_field _ _ 3 (by omega)]; exact hc 3 _ rfl, by rw [← add_field _ _ 4 (by omega)]; exact hc 4 _ rfl, by rw [← add_field _ _ 5 (by omega)]; exact hc 5 _ rfl, by rw [← add_field _ _ 6 (by omega)]; exact hc 6 _ rfl, by rw [← add_field _ _ 7 (by omega)]; exact hc 7 _ rfl, by rw [← add_field _ _ 8 (by omega)]; exact hc 8 _ rfl, by rw [← add_field _ _ 9 (by omega)]; exact hc 9 _ rfl, l2, g2⟩


def rd_L8 (xs : List (List Cmd)) (i : Int) : (List Cmd) := xs.getD i.toNat ([] : List Cmd)
theorem at_L8 {w : World} {A : Option Addr} {n : Nat} {xs : List (List Cmd)} (h : Kd.C (Kd.slice 57 kCmd) w A n xs) (i : Int) (h0 : 0 ≤ i) (h1 : i < n) : ∃ ad A0 c0, A = some ad ∧ w.cell? (ad.add i.toNat) = some (.slice A0 (rd_L8 xs i).length c0) ∧ (rd_L8 xs i).length ≤ c0 ∧ kCmd.C w A0 (rd_L8 xs i).length (rd_L8 xs i) := by
  obtain ⟨ad, c, e, _, hK, hc0⟩ := Kd.C_get h ([] : List Cmd) i h0 h1
  have hc : ∀ j u, c[j]? = some u → w.cell? (ad.add (i.toNat * 1 + j)) = some u := hc0
  obtain ⟨A0, c0, rfl, l0, g0⟩ := hK
  exact ⟨ad, A0, c0, e, by have hq := hc 0 _ rfl; rwa [Nat.mul_one, Nat.add_zero] at hq, l0, g0⟩


def rd_L9 (xs : List (List ByteArray)) (i : Int) : (List ByteArray) := xs.getD i.toNat ([] : List ByteArray)
theorem at_L9 {w : World} {A : Option Addr} {n : Nat} {xs : List (List ByteArray)} (h : Kd.C (Kd.slice 9 Kd.string) w A n xs) (i : Int) (h0 : 0 ≤ i) (h1 : i < n) : ∃ ad A0 c0, A = some ad ∧ w.cell? (ad.add i.toNat) = some (.slice A0 (rd_L9 xs i).length c0) ∧ (rd_L9 xs i).length ≤ c0 ∧ Kd.string.C w A0 (rd_L9 xs i).length (rd_L9 xs i) := by
  obtain ⟨ad, c, e, _, hK, hc0⟩ := Kd.C_get h ([] : List ByteArray) i h0 h1
  have hc : ∀ j u, c[j]? = some u → w.cell? (ad.add (i.toNat * 1 + j)) = some u := hc0
  obtain ⟨A0, c0, rfl, l0, g0⟩ := hK
  exact ⟨ad, A0, c0, e, by have hq := hc 0 _ rfl; rwa [Nat.mul_one, Nat.add_zero] at hq, l0, g0⟩


/-! #### struct type 32 -/
def zForm : Form := ⟨(0 : Int), (⟨#[]⟩ : ByteArray), (0 : Int), (0 : Int), false, false, (⟨#[]⟩ : ByteArray), ([] : List ByteArray), ([] : List ByteArray), false⟩
def kForm : Kd Form := Kd.iso (Kd.pair (Kd.int .i64) (Kd.pair Kd.string (Kd.pair (Kd.int .i64) (Kd.pair (Kd.int .u32) (Kd.pair Kd.bool (Kd.pair Kd.bool (Kd.pair Kd.string (Kd.pair (Kd.slice 9 Kd.string) (Kd.pair (Kd.slice 9 Kd.string) Kd.bool))))))))) (fun x : Form => (x.dialect, x.verb, x.code, x.opq, x.quiet, x.withcas, x.flags, x.tokens, x.keys, x.base64))
theorem kForm_open {w : World} {x : Form} {cs : List Value} (h : kForm.K w x cs) : ∃ A7 c7 A8 c8, cs = [.int .i64 x.dialect, .string x.verb, .int .i64 x.code, .int .u32 x.opq, .bool x.quiet, .bool x.withcas, .string x.flags, .slice A7 x.tokens.length c7, .slice A8 x.keys.length c8, .bool x.base64] ∧ x.tokens.length ≤ c7 ∧ Kd.string.C w A7 x.tokens.length x.tokens ∧ x.keys.length ≤ c8 ∧ Kd.string.C w A8 x.keys.length x.keys := by
  obtain ⟨_, _, rfl, rfl, ⟨_, _, rfl, rfl, ⟨_, _, rfl, rfl, ⟨_, _, rfl, rfl, ⟨_, _, rfl, rfl, ⟨_, _, rfl, rfl, ⟨_, _, rfl, rfl, ⟨_, _, rfl, ⟨A7, c7, rfl, l7, g7⟩, ⟨_, _, rfl, ⟨A8, c8, rfl, l8, g8⟩, rfl⟩⟩⟩⟩⟩⟩⟩⟩⟩ := h
  exact ⟨A7, c7, A8, c8, rfl, l7, g7, l8, g8⟩
theorem kForm_openM {w : World} {base : Nat} {ok : Nat → Prop} {x : Form} {cs : List Value} (h : kForm.M w base ok x cs) : ∃ v7 v8, cs = [.int .i64 x.dialect, .string x.verb, .int .i64 x.code, .int .u32 x.opq, .bool x.quiet, .bool x.withcas, .string x.flags, v7, v8, .bool x.base64] ∧ Kd.string.R 9 w base ok v7 x.tokens ∧ Kd.string.R 9 w base ok v8 x.keys := by
  obtain ⟨_, _, rfl, rfl, ⟨_, _, rfl, rfl, ⟨_, _, rfl, rfl, ⟨_, _, rfl, rfl, ⟨_, _, rfl, rfl, ⟨_, _, rfl, rfl, ⟨_, _, rfl, rfl, ⟨_, _, rfl, ⟨v7, rfl, g7⟩, ⟨_, _, rfl, ⟨v8, rfl, g8⟩, rfl⟩⟩⟩⟩⟩⟩⟩⟩⟩ := h
  exact ⟨v7, v8, rfl, g7, g8⟩
theorem kForm_mk (w : World) (x : Form) {A7 : Option Addr} {c7 : Nat} (l7 : x.tokens.length ≤ c7) (g7 : Kd.string.C w A7 x.tokens.length x.tokens) {A8 : Option Addr} {c8 : Nat} (l8 : x.keys.length ≤ c8) (g8 : Kd.string.C w A8 x.keys.length x.keys) : kForm.K w x [.int .i64 x.dialect, .string x.verb, .int .i64 x.code, .int .u32 x.opq, .bool x.quiet, .bool x.withcas, .string x.flags, .slice A7 x.tokens.length c7, .slice A8 x.keys.length c8, .bool x.base64] := ⟨[.int .i64 x.dialect], [.string x.verb, .int .i64 x.code, .int .u32 x.opq, .bool x.quiet, .bool x.withcas, .string x.flags, .slice A7 x.tokens.length c7, .slice A8 x.keys.length c8, .bool x.base64], rfl, rfl, ⟨[.string x.verb], [.int .i64 x.code, .int .u32 x.opq, .bool x.quiet, .bool x.withcas, .string x.flags, .slice A7 x.tokens.length c7, .slice A8 x.keys.length c8, .bool x.base64], rfl, rfl, ⟨[.int .i64 x.code], [.int .u32 x.opq, .bool x.quiet, .bool x.withcas, .string x.flags, .slice A7 x.tokens.length c7, .slice A8 x.keys.length c8, .bool x.base64], rfl, rfl, ⟨[.int .u32 x.opq], [.bool x.quiet, .bool x.withcas, .string x.flags, .slice A7 x.tokens.length c7, .slice A8 x.keys.length c8, .bool x.base64], rfl, rfl, ⟨[.bool x.quiet], [.bool x.withcas, .string x.flags, .slice A7 x.tokens.length c7, .slice A8 x.keys.length c8, .bool x.base64], rfl, rfl, ⟨[.bool x.withcas], [.string x.flags, .slice A7 x.tokens.length c7, .slice A8 x.keys.length c8, .bool x.base64], rfl, rfl, ⟨[.string x.flags], [.slice A7 x.tokens.length c7, .slice A8 x.keys.length c8, .bool x.base64], rfl, rfl, ⟨[.slice A7 x.tokens.length c7], [.slice A8 x.keys.length c8, .bool x.base64], rfl, ⟨A7, c7, rfl, l7, g7⟩, ⟨[.slice A8 x.keys.length c8], [.bool x.base64], rfl, ⟨A8, c8, rfl, l8, g8⟩, rfl⟩⟩⟩⟩⟩⟩⟩⟩⟩
theorem kForm_mkM (w : World) (base : Nat) (ok : Nat → Prop) (x : Form) {v7 : Value} (g7 : Kd.string.R 9 w base ok v7 x.tokens) {v8 : Value} (g8 : Kd.string.R 9 w base ok v8 x.keys) : kForm.M w base ok x [.int .i64 x.dialect, .string x.verb, .int .i64 x.code, .int .u32 x.opq, .bool x.quiet, .bool x.withcas, .string x.flags, v7, v8, .bool x.base64] := ⟨[.int .i64 x.dialect], [.string x.verb, .int .i64 x.code, .int .u32 x.opq, .bool x.quiet, .bool x.withcas, .string x.flags, v7, v8, .bool x.base64], rfl, rfl, ⟨[.string x.verb], [.int .i64 x.code, .int .u32 x.opq, .bool x.quiet, .bool x.withcas, .string x.flags, v7, v8, .bool x.base64], rfl, rfl, ⟨[.int .i64 x.code], [.int .u32 x.opq, .bool x.quiet, .bool x.withcas, .string x.flags, v7, v8, .bool x.base64], rfl, rfl, ⟨[.int .u32 x.opq], [.bool x.quiet, .bool x.withcas, .string x.flags, v7, v8, .bool x.base64], rfl, rfl, ⟨[.bool x.quiet], [.bool x.withcas, .string x.flags, v7, v8, .bool x.base64], rfl, rfl, ⟨[.bool x.withcas], [.string x.flags, v7, v8, .bool x.base64], rfl, rfl, ⟨[.string x.flags], [v7, v8, .bool x.base64], rfl, rfl, ⟨[v7], [v8, .bool x.base64], rfl, ⟨v7, rfl, g7⟩, ⟨[v8], [.bool x.base64], rfl, ⟨v8, rfl, g8⟩, rfl⟩⟩⟩⟩⟩⟩⟩⟩⟩
def rd_Form (xs : List Form) (i : Int) : Form := xs.getD i.toNat zForm
theorem at_Form {w : World} {A : Option Addr} {n : Nat} {xs : List Form} (h : Kd.C kForm w A n xs) (i : Int) (h0 : 0 ≤ i) (h1 : i < n) : ∃ ad A7 c7 A8 c8, A = some ad ∧ w.cell? (ad.add (i.toNat * 10)) = some (.int .i64 (rd_Form xs i).dialect) ∧ w.cell? ⟨(ad.add (i.toNat * 10)).block, (ad.add (i.toNat * 10)).off + 1, none⟩ = some (.string (rd_Form xs i).verb) ∧ w.cell? ⟨(ad.add (i.toNat * 10)).block, (ad.add (i.toNat * 10)).off + 2, none⟩ = some (.int .i64 (rd_Form xs i).code) ∧ w.cell? ⟨(ad.add (i.toNat * 10)).block, (ad.add (i.toNat * 10)).off + 3, none⟩ = some (.int .u32 (rd_Form xs i).opq) ∧ w.cell? ⟨(ad.add (i.toNat * 10)).block, (ad.add (i.toNat * 10)).off + 4, none⟩ = some (.bool (rd_Form xs i).quiet) ∧ w.cell? ⟨(ad.add (i.toNat * 10)).block, (ad.add (i.toNat * 10)).off + 5, none⟩ = some (.bool (rd_Form xs i).withcas) ∧ w.cell? ⟨(ad.add (i.toNat * 10)).block, (ad.add (i.toNat * 10)).off + 6, none⟩ = some (.string (rd_Form xs i).flags) ∧ w.cell? ⟨(ad.add (i.toNat * 10)).block, (ad.add (i.toNat * 10)).off + 7, none⟩ = some (.slice A7 (rd_Form xs i).tokens.length c7) ∧ w.cell? ⟨(ad.add (i.toNat * 10)).block, (ad.add (i.toNat * 10)).off + 8, none⟩ = some (.slice A8 (rd_Form xs i).keys.length c8) ∧ w.cell? ⟨(ad.add (i.toNat * 10)).block, (ad.add (i.toNat * 10)).off + 9, none⟩ = some (.bool (rd_Form xs i).base64) ∧ (rd_Form xs i).tokens.length ≤ c7 ∧ Kd.string.C w A7 (rd_Form xs i).tokens.length (rd_Form xs i).tokens ∧ (rd_Form xs i).keys.length ≤ c8 ∧ Kd.string.C w A8 (rd_Form xs i).keys.length (rd_Form xs i).keys := by
  obtain ⟨ad, c, e, _, hK, hc0⟩ := Kd.C_get h zForm i h0 h1
  have hc : ∀ j u, c[j]? = some u → w.cell? (ad.add (i.toNat * 10 + j)) = some u := hc0
  obtain ⟨A7, c7, A8, c8, rfl, l7, g7, l8, g8⟩ := kForm_open hK
  exact ⟨ad, A7, c7, A8, c8, e, hc 0 _ rfl, by rw [← add_field _ _ 1 (by omega)]; exact hc 1 _ rfl, by rw [← add_field _ _ 2 (by omega)]; exact hc 2 _ rfl, by rw [← add_field _ _ 3 (by omega)]; exact hc 3 _ rfl, by rw [← add_field _ _ 4 (by omega)]; exact hc 4 _ rfl, by rw [← add_field _ _ 5 (by omega)]; exact hc 5 _ rfl, by rw [← add_field _ _ 6 (by omega)]; exact hc 6 _ rfl, by rw [← add_field _ _ 7 (by omega)]; exact hc 7 _ rfl, by rw [← add_field _ _ 8 (by omega)]; exact hc 8 _ rfl, by rw [← add_field _ _ 9 (by omega)]; exact hc 9 _ rfl, l7, g7, l8, g8⟩


/-! #### struct type 34 -/
def zRequest : Request := ⟨([] : List Cmd), zForm⟩
def kRequest : Kd Request := Kd.iso (Kd.pair (Kd.slice 57 kCmd) kForm) (fun x : Request => (x.cmds, x.form))
theorem kRequest_open {w : World} {x : Request} {cs : List Value} (h : kRequest.K w x cs) : ∃ A0 c0 A8 c8 A9 c9, cs = [.slice A0 x.cmds.length c0, .int .i64 x.form.dialect, .string x.form.verb, .int .i64 x.form.code, .int .u32 x.form.opq, .bool x.form.quiet, .bool x.form.withcas, .string x.form.flags, .slice A8 x.form.tokens.length c8, .slice A9 x.form.keys.length c9, .bool x.form.base64] ∧ x.cmds.length ≤ c0 ∧ kCmd.C w A0 x.cmds.length x.cmds ∧ x.form.tokens.length ≤ c8 ∧ Kd.string.C w A8 x.form.tokens.length x.form.tokens ∧ x.form.keys.length ≤ c9 ∧ Kd.string.C w A9 x.form.keys.length x.form.keys := by
  obtain ⟨_, _, rfl, ⟨A0, c0, rfl, l0, g0⟩, s1⟩ := h
  obtain ⟨A8, c8, A9, c9, rfl, l8, g8, l9, g9⟩ := kForm_open s1
  exact ⟨A0, c0, A8, c8, A9, c9, rfl, l0, g0, l8, g8, l9, g9⟩
theorem kRequest_openM {w : World} {base : Nat} {ok : Nat → Prop} {x : Request} {cs : List Value} (h : kRequest.M w base ok x cs) : ∃ v0 v8 v9, cs = [v0, .int .i64 x.form.dialect, .string x.form.verb, .int .i64 x.form.code, .int .u32 x.form.opq, .bool x.form.quiet, .bool x.form.withcas, .string x.form.flags, v8, v9, .bool x.form.base64] ∧ kCmd.R 57 w base ok v0 x.cmds ∧ Kd.string.R 9 w base ok v8 x.form.tokens ∧ Kd.string.R 9 w base ok v9 x.form.keys := by
  obtain ⟨_, _, rfl, ⟨v0, rfl, g0⟩, s1⟩ := h
  obtain ⟨v8, v9, rfl, g8, g9⟩ := kForm_openM s1
  exact ⟨v0, v8, v9, rfl, g0, g8, g9⟩
theorem kRequest_mk (w : World) (x : Request) {A0 : Option Addr} {c0 : Nat} (l0 : x.cmds.length ≤ c0) (g0 : kCmd.C w A0 x.cmds.length x.cmds) {A8 : Option Addr} {c8 : Nat} (l8 : x.form.tokens.length ≤ c8) (g8 : Kd.string.C w A8 x.form.tokens.length x.form.tokens) {A9 : Option Addr} {c9 : Nat} (l9 : x.form.keys.length ≤ c9) (g9 : Kd.string.C w A9 x.form.keys.length x.form.keys) : kRequest.K w x [.slice A0 x.cmds.length c0, .int .i64 x.form.dialect, .string x.form.verb, .int .i64 x.form.code, .int .u32 x.form.opq, .bool x.form.quiet, .bool x.form.withcas, .string x.form.flags, .slice A8 x.form.tokens.length c8, .slice A9 x.form.keys.length c9, .bool x.form.base64] := ⟨[.slice A0 x.cmds.length c0], [.int .i64 x.form.dialect, .string x.form.verb, .int .i64 x.form.code, .int .u32 x.form.opq, .bool x.form.quiet, .bool x.form.withcas, .string x.form.flags, .slice A8 x.form.tokens.length c8, .slice A9 x.form.keys.length c9, .bool x.form.base64], rfl, ⟨A0, c0, rfl, l0, g0⟩, (kForm_mk w x.form l8 g8 l9 g9)⟩
theorem kRequest_mkM (w : World) (base : Nat) (ok : Nat → Prop) (x : Request) {v0 : Value} (g0 : kCmd.R 57 w base ok v0 x.cmds) {v8 : Value} (g8 : Kd.string.R 9 w base ok v8 x.form.tokens) {v9 : Value} (g9 : Kd.string.R 9 w base ok v9 x.form.keys) : kRequest.M w base ok x [v0, .int .i64 x.form.dialect, .string x.form.verb, .int .i64 x.form.code, .int .u32 x.form.opq, .bool x.form.quiet, .bool x.form.withcas, .string x.form.flags, v8, v9, .bool x.form.base64] := ⟨[v0], [.int .i64 x.form.dialect, .string x.form.verb, .int .i64 x.form.code, .int .u32 x.form.opq, .bool x.form.quiet, .bool x.form.withcas, .string x.form.flags, v8, v9, .bool x.form.base64], rfl, ⟨v0, rfl, g0⟩, (kForm_mkM w base ok x.form g8 g9)⟩
def rd_Request (xs : List Request) (i : Int) : Request := xs.getD i.toNat zRequest
theorem at_Request {w : World} {A : Option Addr} {n : Nat} {xs : List Request} (h : Kd.C kRequest w A n xs) (i : Int) (h0 : 0 ≤ i) (h1 : i < n) : ∃ ad A0 c0 A8 c8 A9 c9, A = some ad ∧ w.cell? (ad.add (i.toNat * 11)) = some (.slice A0 (rd_Request xs i).cmds.length c0) ∧ w.cell? ⟨(ad.add (i.toNat * 11)).block, (ad.add (i.toNat * 11)).off + 1, none⟩ = some (.int .i64 (rd_Request xs i).form.dialect) ∧ w.cell? ⟨(ad.add (i.toNat * 11)).block, (ad.add (i.toNat * 11)).off + 2, none⟩ = some (.string (rd_Request xs i).form.verb) ∧ w.cell? ⟨(ad.add (i.toNat * 11)).block, (ad.add (i.toNat * 11)).off + 3, none⟩ = some (.int .i64 (rd_Request xs i).form.code) ∧ w.cell? ⟨(ad.add (i.toNat * 11)).block, (ad.add (i.toNat * 11)).off + 4, none⟩ = some (.int .u32 (rd_Request xs i).form.opq) ∧ w.cell? ⟨(ad.add (i.toNat * 11)).block, (ad.add (i.toNat * 11)).off + 5, none⟩ = some (.bool (rd_Request xs i).form.quiet) ∧ w.cell? ⟨(ad.add (i.toNat * 11)).block, (ad.add (i.toNat * 11)).off + 6, none⟩ = some (.bool (rd_Request xs i).form.withcas) ∧ w.cell? ⟨(ad.add (i.toNat * 11)).block, (ad.add (i.toNat * 11)).off + 7, none⟩ = some (.string (rd_Request xs i).form.flags) ∧ w.cell? ⟨(ad.add (i.toNat * 11)).block, (ad.add (i.toNat * 11)).off + 8, none⟩ = some (.slice A8 (rd_Request xs i).form.tokens.length c8) ∧ w.cell? ⟨(ad.add (i.toNat * 11)).block, (ad.add (i.toNat * 11)).off + 9, none⟩ = some (.slice A9 (rd_Request xs i).form.keys.length c9) ∧ w.cell? ⟨(ad.add (i.toNat * 11)).block, (ad.add (i.toNat * 11)).off + 10, none⟩ = some (.bool (rd_Request xs i).form.base64) ∧ (rd_Request xs i).cmds.length ≤ c0 ∧ kCmd.C w A0 (rd_Request xs i).cmds.length (rd_Request xs i).cmds ∧ (rd_Request xs i).form.tokens.length ≤ c8 ∧ Kd.string.C w A8 (rd_Request xs i).form.tokens.length (rd_Request xs i).form.tokens ∧ (rd_Request xs i).form.keys.length ≤ c9 ∧ Kd.string.C w A9 (rd_Request xs i).form.keys.length (rd_Request xs i).form.keys := by
  obtain ⟨ad, c, e, _, hK, hc0⟩ := Kd.C_get h zRequest i h0 h1
  have hc : ∀ j u, c[j]? = some u → w.cell? (ad.add (i.toNat * 11 + j)) = some u := hc0
  obtain ⟨A0, c0, A8, c8, A9, c9, rfl, l0, g0, l8, g8, l9, g9⟩ := kRequest_open hK
  exact ⟨ad, A0, c0, A8, c8, A9, c9, e, hc 0 _ rfl, by rw [← add_field _ _ 1 (by omega)]; exact hc 1 _ rfl, by rw [← add_field _ _ 2 (by omega)]; exact hc 2 _ rfl, by rw [← add_field _ _ 3 (by omega)]; exact hc 3 _ rfl, by rw [← add_field _ _ 4 (by omega)]; exact hc 4 _ rfl, by rw [← add_field _ _ 5 (by omega)]; exact hc 5 _ rfl, by rw [← add_field _ _ 6 (by omega)]; exact hc 6 _ rfl, by rw [← add_field _ _ 7 (by omega)]; exact hc 7 _ rfl, by rw [← add_field _ _ 8 (by omega)]; exact hc 8 _ rfl, by rw [← add_field _ _ 9 (by omega)]; exact hc 9 _ rfl, by rw [← add_field _ _ 10 (by omega)]; exact hc 10 _ rfl, l0, g0, l8, g8, l9, g9⟩


/-! #### struct type 61 -/
def zStep : Step := ⟨zRequest, (⟨#[]⟩ : ByteArray), (0 : Int), (0 : Int), false, (0 : Int)⟩
def kStep : Kd Step := Kd.iso (Kd.pair kRequest (Kd.pair Kd.string (Kd.pair (Kd.int .i64) (Kd.pair (Kd.int .i64) (Kd.pair Kd.bool (Kd.int .i64)))))) (fun x : Step => (x.req, x.reply, x.used, x.skip, x.line, x.e))
theorem kStep_open {w : World} {x : Step} {cs : List Value} (h : kStep.K w x cs) : ∃ A0 c0 A8 c8 A9 c9, cs = [.slice A0 x.req.cmds.length c0, .int .i64 x.req.form.dialect, .string x.req.form.verb, .int .i64 x.req.form.code, .int .u32 x.req.form.opq, .bool x.req.form.quiet, .bool x.req.form.withcas, .string x.req.form.flags, .slice A8 x.req.form.tokens.length c8, .slice A9 x.req.form.keys.length c9, .bool x.req.form.base64, .string x.reply, .int .i64 x.used, .int .i64 x.skip, .bool x.line, .int .i64 x.e] ∧ x.req.cmds.length ≤ c0 ∧ kCmd.C w A0 x.req.cmds.length x.req.cmds ∧ x.req.form.tokens.length ≤ c8 ∧ Kd.string.C w A8 x.req.form.tokens.length x.req.form.tokens ∧ x.req.form.keys.length ≤ c9 ∧ Kd.string.C w A9 x.req.form.keys.length x.req.form.keys := by
  obtain ⟨_, _, rfl, s0, ⟨_, _, rfl, rfl, ⟨_, _, rfl, rfl, ⟨_, _, rfl, rfl, ⟨_, _, rfl, rfl, rfl⟩⟩⟩⟩⟩ := h
  obtain ⟨A0, c0, A8, c8, A9, c9, rfl, l0, g0, l8, g8, l9, g9⟩ := kRequest_open s0
  exact ⟨A0, c0, A8, c8, A9, c9, rfl, l0, g0, l8, g8, l9, g9⟩
theorem kStep_openM {w : World} {base : Nat} {ok : Nat → Prop} {x : Step} {cs : List Value} (h : kStep.M w base ok x cs) : ∃ v0 v8 v9, cs = [v0, .int .i64 x.req.form.dialect, .string x.req.form.verb, .int .i64 x.req.form.code, .int .u32 x.req.form.opq, .bool x.req.form.quiet, .bool x.req.form.withcas, .string x.req.form.flags, v8, v9, .bool x.req.form.base64, .string x.reply, .int .i64 x.used, .int .i64 x.skip, .bool x.line, .int .i64 x.e] ∧ kCmd.R 57 w base ok v0 x.req.cmds ∧ Kd.string.R 9 w base ok v8 x.req.form.tokens ∧ Kd.string.R 9 w base ok v9 x.req.form.keys := by
  obtain ⟨_, _, rfl, s0, ⟨_, _, rfl, rfl, ⟨_, _, rfl, rfl, ⟨_, _, rfl, rfl, ⟨_, _, rfl, rfl, rfl⟩⟩⟩⟩⟩ := h
  obtain ⟨v0, v8, v9, rfl, g0, g8, g9⟩ := kRequest_openM s0
  exact ⟨v0, v8, v9, rfl, g0, g8, g9⟩
theorem kStep_mk (w : World) (x : Step) {A0 : Option Addr} {c0 : Nat} (l0 : x.req.cmds.length ≤ c0) (g0 : kCmd.C w A0 x.req.cmds.length x.req.cmds) {A8 : Option Addr} {c8 : Nat} (l8 : x.req.form.tokens.length ≤ c8) (g8 : Kd.string.C w A8 x.req.form.tokens.length x.req.form.tokens) {A9 : Option Addr} {c9 : Nat} (l9 : x.req.form.keys.length ≤ c9) (g9 : Kd.string.C w A9 x.req.form.keys.length x.req.form.keys) : kStep.K w x [.slice A0 x.req.cmds.length c0, .int .i64 x.req.form.dialect, .string x.req.form.verb, .int .i64 x.req.form.code, .int .u32 x.req.form.opq, .bool x.req.form.quiet, .bool x.req.form.withcas, .string x.req.form.flags, .slice A8 x.req.form.tokens.length c8, .slice A9 x.req.form.keys.length c9, .bool x.req.form.base64, .string x.reply, .int .i64 x.used, .int .i64 x.skip, .bool x.line, .int .i64 x.e] := ⟨[.slice A0 x.req.cmds.length c0, .int .i64 x.req.form.dialect, .string x.req.form.verb, .int .i64 x.req.form.code, .int .u32 x.req.form.opq, .bool x.req.form.quiet, .bool x.req.form.withcas, .string x.req.form.flags, .slice A8 x.req.form.tokens.length c8, .slice A9 x.req.form.keys.length c9, .bool x.req.form.base64], [.string x.reply, .int .i64 x.used, .int .i64 x.skip, .bool x.line, .int .i64 x.e], rfl, (kRequest_mk w x.req l0 g0 l8 g8 l9 g9), ⟨[.string x.reply], [.int .i64 x.used, .int .i64 x.skip, .bool x.line, .int .i64 x.e], rfl, rfl, ⟨[.int .i64 x.used], [.int .i64 x.skip, .bool x.line, .int .i64 x.e], rfl, rfl, ⟨[.int .i64 x.skip], [.bool x.line, .int .i64 x.e], rfl, rfl, ⟨[.bool x.line], [.int .i64 x.e], rfl, rfl, rfl⟩⟩⟩⟩⟩
theorem kStep_mkM (w : World) (base : Nat) (ok : Nat → Prop) (x : Step) {v0 : Value} (g0 : kCmd.R 57 w base ok v0 x.req.cmds) {v8 : Value} (g8 : Kd.string.R 9 w base ok v8 x.req.form.tokens) {v9 : Value} (g9 : Kd.string.R 9 w base ok v9 x.req.form.keys) : kStep.M w base ok x [v0, .int .i64 x.req.form.dialect, .string x.req.form.verb, .int .i64 x.req.form.code, .int .u32 x.req.form.opq, .bool x.req.form.quiet, .bool x.req.form.withcas, .string x.req.form.flags, v8, v9, .bool x.req.form.base64, .string x.reply, .int .i64 x.used, .int .i64 x.skip, .bool x.line, .int .i64 x.e] := ⟨[v0, .int .i64 x.req.form.dialect, .string x.req.form.verb, .int .i64 x.req.form.code, .int .u32 x.req.form.opq, .bool x.req.form.quiet, .bool x.req.form.withcas, .string x.req.form.flags, v8, v9, .bool x.req.form.base64], [.string x.reply, .int .i64 x.used, .int .i64 x.skip, .bool x.line, .int .i64 x.e], rfl, (kRequest_mkM w base ok x.req g0 g8 g9), ⟨[.string x.reply], [.int .i64 x.used, .int .i64 x.skip, .bool x.line, .int .i64 x.e], rfl, rfl, ⟨[.int .i64 x.used], [.int .i64 x.skip, .bool x.line, .int .i64 x.e], rfl, rfl, ⟨[.int .i64 x.skip], [.bool x.line, .int .i64 x.e], rfl, rfl, ⟨[.bool x.line], [.int .i64 x.e], rfl, rfl, rfl⟩⟩⟩⟩⟩
def rd_Step (xs : List Step) (i : Int) : Step := xs.getD i.toNat zStep
theorem at_Step {w : World} {A : Option Addr} {n : Nat} {xs : List Step} (h : Kd.C kStep w A n xs) (i : Int) (h0 : 0 ≤ i) (h1 : i < n) : ∃ ad A0 c0 A8 c8 A9 c9, A = some ad ∧ w.cell? (ad.add (i.toNat * 16)) = some (.slice A0 (rd_Step xs i).req.cmds.length c0) ∧ w.cell? ⟨(ad.add (i.toNat * 16)).block, (ad.add (i.toNat * 16)).off + 1, none⟩ = some (.int .i64 (rd_Step xs i).req.form.dialect) ∧ w.cell? ⟨(ad.add (i.toNat * 16)).block, (ad.add (i.toNat * 16)).off + 2, none⟩ = some (.string (rd_Step xs i).req.form.verb) ∧ w.cell? ⟨(ad.add (i.toNat * 16)).block, (ad.add (i.toNat * 16)).off + 3, none⟩ = some (.int .i64 (rd_Step xs i).req.form.code) ∧ w.cell? ⟨(ad.add (i.toNat * 16)).block, (ad.add (i.toNat * 16)).off + 4, none⟩ = some (.int .u32 (rd_Step xs i).req.form.opq) ∧ w.cell? ⟨(ad.add (i.toNat * 16)).block, (ad.add (i.toNat * 16)).off + 5, none⟩ = some (.bool (rd_Step xs i).req.form.quiet) ∧ w.cell? ⟨(ad.add (i.toNat * 16)).block, (ad.add (i.toNat * 16)).off + 6, none⟩ = some (.bool (rd_Step xs i).req.form.withcas) ∧ w.cell? ⟨(ad.add (i.toNat * 16)).block, (ad.add (i.toNat * 16)).off + 7, none⟩ = some (.string (rd_Step xs i).req.form.flags) ∧ w.cell? ⟨(ad.add (i.toNat * 16)).block, (ad.add (i.toNat * 16)).off + 8, none⟩ = some (.slice A8 (rd_Step xs i).req.form.tokens.length c8) ∧ w.cell? ⟨(ad.add (i.toNat * 16)).block, (ad.add (i.toNat * 16)).off + 9, none⟩ = some (.slice A9 (rd_Step xs i).req.form.keys.length c9) ∧ w.cell? ⟨(ad.add (i.toNat * 16)).block, (ad.add (i.toNat * 16)).off + 10, none⟩ = some (.bool (rd_Step xs i).req.form.base64) ∧ w.cell? ⟨(ad.add (i.toNat * 16)).block, (ad.add (i.toNat * 16)).off + 11, none⟩ = some (.string (rd_Step xs i).reply) ∧ w.cell? ⟨(ad.add (i.toNat * 16)).block, (ad.add (i.toNat * 16)).off + 12, none⟩ = some (.int .i64 (rd_Step xs i).used) ∧ w.cell? ⟨(ad.add (i.toNat * 16)).block, (ad.add (i.toNat * 16)).off + 13, none⟩ = some (.int .i64 (rd_Step xs i).skip) ∧ w.cell? ⟨(ad.add (i.toNat * 16)).block, (ad.add (i.toNat * 16)).off + 14, none⟩ = some (.bool (rd_Step xs i).line) ∧ w.cell? ⟨(ad.add (i.toNat * 16)).block, (ad.add (i.toNat * 16)).off + 15, none⟩ = some (.int .i64 (rd_Step xs i).e) ∧ (rd_Step xs i).req.cmds.length ≤ c0 ∧ kCmd.C w A0 (rd_Step xs i).req.cmds.length (rd_Step xs i).req.cmds ∧ (rd_Step xs i).req.form.tokens.length ≤ c8 ∧ Kd.string.C w A8 (rd_Step xs i).req.form.tokens.length (rd_Step xs i).req.form.tokens ∧ (rd_Step xs i).req.form.keys.length ≤ c9 ∧ Kd.string.C w A9 (rd_Step xs i).req.form.keys.length (rd_Step xs i).req.form.keys := by
  obtain ⟨ad, c, e, _, hK, hc0⟩ := Kd.C_get h zStep i h0 h1
  have hc : ∀ j u, c[j]? = some u → w.cell? (ad.add (i.toNat * 16 + j)) = some u := hc0
  obtain ⟨A0, c0, A8, c8, A9, c9, rfl, l0, g0, l8, g8, l9, g9⟩ := kStep_open hK
  exact ⟨ad, A0, c0, A8, c8, A9, c9, e, hc 0 _ rfl, by rw [← add_field _ _ 1 (by omega)]; exact hc 1 _ rfl, by rw [← add_field _ _ 2 (by omega)]; exact hc 2 _ rfl, by rw [← add_field _ _ 3 (by omega)]; exact hc 3 _ rfl, by rw [← add_field _ _ 4 (by omega)]; exact hc 4 _ rfl, by rw [← add_field _ _ 5 (by omega)]; exact hc 5 _ rfl, by rw [← add_field _ _ 6 (by omega)]; exact hc 6 _ rfl, by rw [← add_field _ _ 7 (by omega)]; exact hc 7 _ rfl, by rw [← add_field _ _ 8 (by omega)]; exact hc 8 _ rfl, by rw [← add_field _ _ 9 (by omega)]; exact hc 9 _ rfl, by rw [← add_field _ _ 10 (by omega)]; exact hc 10 _ rfl, by rw [← add_field _ _ 11 (by omega)]; exact hc 11 _ rfl, by rw [← add_field _ _ 12 (by omega)]; exact hc 12 _ rfl, by rw [← add_field _ _ 13 (by omega)]; exact hc 13 _ rfl, by rw [← add_field _ _ 14 (by omega)]; exact hc 14 _ rfl, by rw [← add_field _ _ 15 (by omega)]; exact hc 15 _ rfl, l0, g0, l8, g8, l9, g9⟩


/-! #### struct type 90 -/
def zTextinLine : TextinLine := ⟨(⟨#[]⟩ : ByteArray), ([] : List ByteArray), false, (0 : Int), ([] : List Int)⟩
def kTextinLine : Kd TextinLine := Kd.iso (Kd.pair Kd.string (Kd.pair (Kd.slice 9 Kd.string) (Kd.pair Kd.bool (Kd.pair (Kd.int .i64) (Kd.slice 5 (Kd.int .u8)))))) (fun x : TextinLine => (x.verb, x.words, x.quiet, x.used, x.rest))
theorem kTextinLine_open {w : World} {x : TextinLine} {cs : List Value} (h : kTextinLine.K w x cs) : ∃ A1 c1 A4 c4, cs = [.string x.verb, .slice A1 x.words.length c1, .bool x.quiet, .int .i64 x.used, .slice A4 x.rest.length c4] ∧ x.words.length ≤ c1 ∧ Kd.string.C w A1 x.words.length x.words ∧ x.rest.length ≤ c4 ∧ (Kd.int .u8).C w A4 x.rest.length x.rest := by
  obtain ⟨_, _, rfl, rfl, ⟨_, _, rfl, ⟨A1, c1, rfl, l1, g1⟩, ⟨_, _, rfl, rfl, ⟨_, _, rfl, rfl, ⟨A4, c4, rfl, l4, g4⟩⟩⟩⟩⟩ := h
  exact ⟨A1, c1, A4, c4, rfl, l1, g1, l4, g4⟩
theorem kTextinLine_openM {w : World} {base : Nat} {ok : Nat → Prop} {x : TextinLine} {cs : List Value} (h : kTextinLine.M w base ok x cs) : ∃ v1 v4, cs = [.string x.verb, v1, .bool x.quiet, .int .i64 x.used, v4] ∧ Kd.string.R 9 w base ok v1 x.words ∧ (Kd.int .u8).R 5 w base ok v4 x.rest := by
  obtain ⟨_, _, rfl, rfl, ⟨_, _, rfl, ⟨v1, rfl, g1⟩, ⟨_, _, rfl, rfl, ⟨_, _, rfl, rfl, ⟨v4, rfl, g4⟩⟩⟩⟩⟩ := h
  exact ⟨v1, v4, rfl, g1, g4⟩
theorem kTextinLine_mk (w : World) (x : TextinLine) {A1 : Option Addr} {c1 : Nat} (l1 : x.words.length ≤ c1) (g1 : Kd.string.C w A1 x.words.length x.words) {A4 : Option Addr} {c4 : Nat} (l4 : x.rest.length ≤ c4) (g4 : (Kd.int .u8).C w A4 x.rest.length x.rest) : kTextinLine.K w x [.string x.verb, .slice A1 x.words.length c1, .bool x.quiet, .int .i64 x.used, .slice A4 x.rest.length c4] := ⟨[.string x.verb], [.slice A1 x.words.length c1, .bool x.quiet, .int .i64 x.used, .slice A4 x.rest.length c4], rfl, rfl, ⟨[.slice A1 x.words.length c1], [.bool x.quiet, .int .i64 x.used, .slice A4 x.rest.length c4], rfl, ⟨A1, c1, rfl, l1, g1⟩, ⟨[.bool x.quiet], [.int .i64 x.used, .slice A4 x.rest.length c4], rfl, rfl, ⟨[.int .i64 x.used], [.slice A4 x.rest.length c4], rfl, rfl, ⟨A4, c4, rfl, l4, g4⟩⟩⟩⟩⟩
theorem kTextinLine_mkM (w : World) (base : Nat) (ok : Nat → Prop) (x : TextinLine) {v1 : Value} (g1 : Kd.string.R 9 w base ok v1 x.words) {v4 : Value} (g4 : (Kd.int .u8).R 5 w base ok v4 x.rest) : kTextinLine.M w base ok x [.string x.verb, v1, .bool x.quiet, .int .i64 x.used, v4] := ⟨[.string x.verb], [v1, .bool x.quiet, .int .i64 x.used, v4], rfl, rfl, ⟨[v1], [.bool x.quiet, .int .i64 x.used, v4], rfl, ⟨v1, rfl, g1⟩, ⟨[.bool x.quiet], [.int .i64 x.used, v4], rfl, rfl, ⟨[.int .i64 x.used], [v4], rfl, rfl, ⟨v4, rfl, g4⟩⟩⟩⟩⟩
def rd_TextinLine (xs : List TextinLine) (i : Int) : TextinLine := xs.getD i.toNat zTextinLine
theorem at_TextinLine {w : World} {A : Option Addr} {n : Nat} {xs : List TextinLine} (h : Kd.C kTextinLine w A n xs) (i : Int) (h0 : 0 ≤ i) (h1 : i < n) : ∃ ad A1 c1 A4 c4, A = some ad ∧ w.cell? (ad.add (i.toNat * 5)) = some (.string (rd_TextinLine xs i).verb) ∧ w.cell? ⟨(ad.add (i.toNat * 5)).block, (ad.add (i.toNat * 5)).off + 1, none⟩ = some (.slice A1 (rd_TextinLine xs i).words.length c1) ∧ w.cell? ⟨(ad.add (i.toNat * 5)).block, (ad.add (i.toNat * 5)).off + 2, none⟩ = some (.bool (rd_TextinLine xs i).quiet) ∧ w.cell? ⟨(ad.add (i.toNat * 5)).block, (ad.add (i.toNat * 5)).off + 3, none⟩ = some (.int .i64 (rd_TextinLine xs i).used) ∧ w.cell? ⟨(ad.add (i.toNat * 5)).block, (ad.add (i.toNat * 5)).off + 4, none⟩ = some (.slice A4 (rd_TextinLine xs i).rest.length c4) ∧ (rd_TextinLine xs i).words.length ≤ c1 ∧ Kd.string.C w A1 (rd_TextinLine xs i).words.length (rd_TextinLine xs i).words ∧ (rd_TextinLine xs i).rest.length ≤ c4 ∧ (Kd.int .u8).C w A4 (rd_TextinLine xs i).rest.length (rd_TextinLine xs i).rest := by
  obtain ⟨ad, c, e, _, hK, hc0⟩ := Kd.C_get h zTextinLine i h0 h1
  have hc : ∀ j u, c[j]? = some u → w.cell? (ad.add (i.toNat * 5 + j)) = some u := hc0
  obtain ⟨A1, c1, A4, c4, rfl, l1, g1, l4, g4⟩ := kTextinLine_open hK
  exact ⟨ad, A1, c1, A4, c4, e, hc 0 _ rfl, by rw [← add_field _ _ 1 (by omega)]; exact hc 1 _ rfl, by rw [← add_field _ _ 2 (by omega)]; exact hc 2 _ rfl, by rw [← add_field _ _ 3 (by omega)]; exact hc 3 _ rfl, by rw [← add_field _ _ 4 (by omega)]; exact hc 4 _ rfl, l1, g1, l4, g4⟩

end Go.Proofs.YtdjbbncoioghfaaGreatDoor.X
namespace Go.Proofs.YtdjbbncoioghfaaGreatDoor.X
open Go.RowKit Go.Proofs.YtdjbbncoioghfaaGreatDoorW.PrintWords Go.Proofs.YtdjbbncoioghfaaGreatDoorW.PrintMore
set_option linter.unusedVariables false
set_option linter.unusedSimpArgs false
def stepF (used : Int) (reply : ByteArray) : Step := { zStep with e := 2, reply := reply ++ (⟨#[13, 10]⟩ : ByteArray), used := used }
def formT (verb : ByteArray) (quiet : Bool) (keys : List ByteArray) : Form := { zForm with dialect := 1, verb := verb, quiet := quiet, keys := keys }
def stepO (used : Int) (f : Form) (c : Cmd) : Step := { zStep with req := ⟨[c], f⟩, used := used }
/-- Φ holds in each later world in which the blocks of F are as they were. -/
def HolF (F : Nat → Prop) (w : World) (Φ : World → Prop) : Prop := ∀ w2, Below 0 w w2 → (∀ k, k < w.heap.size → F k → w2.heap[k]? = w.heap[k]?) → Φ w2
theorem below_zero {B : Nat} {w w2 : World} (h : Below B w w2) : Below 0 w w2 := ⟨h.os, h.tape, h.output, h.size, fun k hk => absurd hk (by omega)⟩
theorem HolF.now {F : Nat → Prop} {w : World} {Φ : World → Prop} (h : HolF F w Φ) : Φ w := h w (Below.refl _ _) (fun _ _ _ => rfl)
theorem HolF.kept {F : Nat → Prop} {w w1 : World} {Φ : World → Prop} (h : HolF F w Φ) (hb : Below 0 w w1) (hk : ∀ k, k < w.heap.size → F k → w1.heap[k]? = w.heap[k]?) : HolF F w1 Φ := fun w2 h2 hk2 =>
  h w2 ((below_zero hb).trans (below_zero h2)) (fun k h3 h4 => (hk2 k (by have := hb.size; omega) h4).trans (hk k h3 h4))
theorem HolF.below {F : Nat → Prop} {w w1 : World} {Φ : World → Prop} (h : HolF F w Φ) (hb : Below w.heap.size w w1) : HolF F w1 Φ := h.kept (below_zero hb) (fun k h3 _ => hb.block k h3)
theorem HolF.mono {F F' : Nat → Prop} {w : World} {Φ : World → Prop} (h : HolF F w Φ) (hF : ∀ k, F k → F' k) : HolF F' w Φ := fun w2 h2 hk => h w2 h2 (fun k h3 h4 => hk k h3 (hF k h4))
theorem HolF.imp {F : Nat → Prop} {w : World} {Φ Ψ : World → Prop} (h : HolF F w Φ) (hi : ∀ w2, Φ w2 → Ψ w2) : HolF F w Ψ := fun w2 h2 hk => hi _ (h w2 h2 hk)
theorem HolF.deep {F : Nat → Prop} {w w1 : World} {Φ : World → Prop} (h : HolF F w Φ) (hb : Below w.heap.size w w1) : HolF (fun k => k < w.heap.size ∧ F k) w1 Φ := fun w2 h2 hk =>
  h w2 ((below_zero hb).trans (below_zero h2)) (fun k h3 h4 => (hk k (by have := hb.size; omega) ⟨h3, h4⟩).trans (hb.block k h3))
/-- What held at the start, seen from the end. -/
theorem HolF.back {F : Nat → Prop} {w w1 w2 : World} {Φ : World → Prop} (h : HolF F w Φ) (hb : Below w.heap.size w w1) (h2 : Below 0 w1 w2) (hk : ∀ k, k < w1.heap.size → (k < w.heap.size → F k) → w2.heap[k]? = w1.heap[k]?) : Φ w2 :=
  h w2 ((below_zero hb).trans (below_zero h2)) (fun k h3 h4 => (hk k (by have := hb.size; omega) (fun _ => h4)).trans (hb.block k h3))
theorem HolF.ofK {α : Type} {d : Kd α} {w : World} {x : α} {cs : List Value} (h : d.K w x cs) : HolF (fun _ => True) w (fun w2 => d.K w2 x cs) := fun w2 h2 hk => d.K_below ⟨h2.os, h2.tape, h2.output, h2.size, fun k h3 => hk k h3 trivial⟩ h
theorem HolF.ofC {α : Type} {d : Kd α} {w : World} {A : Option Addr} {n : Nat} {xs : List α} (h : d.C w A n xs) : HolF (fun _ => True) w (fun w2 => d.C w2 A n xs) := fun w2 h2 hk => Kd.C_below h ⟨h2.os, h2.tape, h2.output, h2.size, fun k h3 => hk k h3 trivial⟩
def StepR (F : Nat → Prop) (w : World) (st : Step) (e : Ending) (w' : World) : Prop := (∃ cs, e = .returned (.agg cs.toArray) ∧ HolF (fun k => k < w.heap.size → F k) w' (fun w2 => kStep.K w2 st cs)) ∧ Below w.heap.size w w'
theorem blk_at_new (W : World) (o : Obj) (g : Nat) (hg : g = W.heap.size) : (W.alloc o).heap[g]? = some o := by subst hg; exact heap_alloc_new W o
theorem C_blk1 {α : Type} {d : Kd α} {W : World} {g t : Nat} {x : α} {cs : List Value} (hK : d.K W x cs) (hb : W.heap[g]? = some (.cells cs.toArray t (0, 0))) : d.C W (some ⟨g, 0, none⟩) 1 [x] := by
  refine ⟨rfl, by decide, fun _ => ⟨_, rfl, fun j p hj => ?_⟩⟩
  cases j with
  | succ j => cases hj
  | zero =>
    obtain rfl := Option.some.inj hj
    refine ⟨cs, d.K_len hK, hK, fun i u hu => ?_⟩
    have e3 : (⟨g, 0, none⟩ : Addr).add (0 * d.sz + i) = ⟨g, i, none⟩ := by
      rw [Nat.zero_mul, Nat.zero_add]
      unfold Addr.add
      split <;> simp_all
    rw [e3, blk_cell hb, List.getElem?_toArray]
    exact hu
theorem C_str1 {W : World} {g t : Nat} {k : ByteArray} (hb : W.heap[g]? = some (.cells #[.string k] t (0, 0))) : Kd.string.C W (some ⟨g, 0, none⟩) 1 [k] := C_blk1 (d := Kd.string) (cs := [.string k]) rfl hb
theorem C_nil {α : Type} (d : Kd α) (w : World) : d.C w none 0 [] := ⟨rfl, by decide, fun h => absurd h (by decide)⟩
set_option maxRecDepth 100000 in
set_option maxHeartbeats 1000000 in
theorem fault_calls (x : TextinLine) (cx : List Value) (reply : ByteArray) (F : Nat → Prop) (w : World) (hx : kTextinLine.K w x cx) (hr : reply.size ≤ 1000) :
    Calls Tryz.prog 50 #[.agg cx.toArray, .string reply] w (StepR F w (stepF x.used reply)) := by
  have HB := Aside0.mk (Below.refl w.heap.size w)
  obtain ⟨A1, c1, A4, c4, rfl, hl1, hg1, hl4, hg4⟩ := kTextinLine_open hx
  have HK : Aside0 (∀ w', kStep.K w' (stepF x.used reply) _) := ⟨fun w' => kStep_mk w' (stepF x.used reply) (Nat.le_refl _) (C_nil _ _) (Nat.le_refl _) (C_nil _ _) (Nat.le_refl _) (C_nil _ _)⟩
  clear hg1 hg4 hx
  go_enter Tryz.func50, Tryz.ntmps50
  go_wp2
  ((try simp only [Exit.inBlock, Exit.then]); refine bodyPost_ret (results_cell_row rfl _ _ (w.heap.size + 1) 61 _ (0, 0) _ rfl (by repeat (first | exact blk_at_new _ _ _ (by simp; done) | exact blk_at_new _ _ _ rfl | refine blk_alloc ?_ _ | refine blk_drew ?_ | refine blk_drewN ?_ _)) Tryz.underlying61 rfl (by kernel_rfl)) rfl ?_)
  exact ⟨⟨_, rfl, fun w2 _ _ => HK.out w2⟩, (by repeat (first | (with_reducible first | exact HB.out | apply below_alloc | apply pw_below_drewN | apply below_drew1) | exact HB.out))⟩
def keysOf (k : ByteArray) : List ByteArray := if k.size = 0 then [] else [k]
set_option maxRecDepth 100000 in
set_option maxHeartbeats 1000000 in
theorem one_calls (x : TextinLine) (y : Cmd) (cx cy : List Value) (F : Nat → Prop) (w : World) (hx : kTextinLine.K w x cx) (hy : HolF F w (fun w2 => kCmd.K w2 y cy)) :
    Calls Tryz.prog 135 #[.agg cx.toArray, .agg cy.toArray] w (StepR F w (stepO x.used (formT x.verb x.quiet (keysOf y.key)) y)) := by
  have HB := Aside0.mk (Below.refl w.heap.size w)
  obtain ⟨A1, c1, A4, c4, rfl, hl1, hg1, hl4, hg4⟩ := kTextinLine_open hx
  have HY := Aside0.mk hy
  obtain ⟨A2, c2, rfl, hl2, hg2⟩ := kCmd_open hy.now
  unfold keysOf
  clear hg1 hg4 hx hy hg2
  by_cases hk : y.key.size = 0
  · rw [if_pos hk]
    have hk0 : y.key.toList.isEmpty = true := (bs_nil _).2 (by rcases hz : y.key with ⟨⟨l⟩⟩; rw [hz] at hk; cases l with | nil => rfl | cons a b => cases hk)
    go_enter Tryz.func135, Tryz.ntmps135
    go_wp2
    (try simp only [Exit.inBlock, Exit.then])
    ((try simp only [Exit.inBlock, Exit.then]); refine bodyPost_ret (results_cell_row rfl _ _ (w.heap.size + 1 + 1) 61 _ (0, 0) _ rfl (by repeat (first | exact blk_at_new _ _ _ (by simp; done) | exact blk_at_new _ _ _ rfl | refine blk_alloc ?_ _ | refine blk_drew ?_ | refine blk_drewN ?_ _)) Tryz.underlying61 rfl (by kernel_rfl)) rfl ?_)
    refine ⟨⟨_, rfl, fun w2 hb2 hk2 => kStep_mk w2 (stepO x.used (formT x.verb x.quiet []) y) (Nat.le_refl _) (C_blk1 (t := 57) (HY.out.back (by repeat (first | (with_reducible first | exact HB.out | apply below_alloc | apply pw_below_drewN | apply below_drew1) | exact HB.out)) hb2 hk2) ((hk2 _ (by simp) (by simp; omega)).trans (by repeat (first | exact blk_at_new _ _ _ (by simp; done) | exact blk_at_new _ _ _ rfl | refine blk_alloc ?_ _ | refine blk_drew ?_ | refine blk_drewN ?_ _)))) (Nat.le_refl _) (C_nil _ _) (Nat.le_refl _) (C_nil _ _)⟩, (by repeat (first | (with_reducible first | exact HB.out | apply below_alloc | apply pw_below_drewN | apply below_drew1) | exact HB.out))⟩
  · rw [if_neg hk]
    have hk0 : y.key.toList.isEmpty = false := by
      rw [Bool.eq_false_iff]
      intro h
      rw [(bs_nil _).1 h] at hk
      exact hk rfl
    go_enter Tryz.func135, Tryz.ntmps135
    go_wp2
    ((try simp only [Exit.inBlock, Exit.then]); refine bodyPost_ret (results_cell_row rfl _ _ (w.heap.size + 1 + 1) 61 _ (0, 0) _ rfl (by repeat (first | exact blk_at_new _ _ _ (by simp; done) | exact blk_at_new _ _ _ rfl | refine blk_alloc ?_ _ | refine blk_drew ?_ | refine blk_drewN ?_ _)) Tryz.underlying61 rfl (by kernel_rfl)) rfl ?_)
    refine ⟨⟨_, rfl, fun w2 hb2 hk2 => kStep_mk w2 (stepO x.used (formT x.verb x.quiet [y.key]) y) (Nat.le_refl _) (C_blk1 (t := 57) (HY.out.back (by repeat (first | (with_reducible first | exact HB.out | apply below_alloc | apply pw_below_drewN | apply below_drew1) | exact HB.out)) hb2 hk2) ((hk2 _ (by simp) (by simp; omega)).trans (by repeat (first | exact blk_at_new _ _ _ (by simp; done) | exact blk_at_new _ _ _ rfl | refine blk_alloc ?_ _ | refine blk_drew ?_ | refine blk_drewN ?_ _)))) (Nat.le_refl _) (C_nil _ _) (Nat.le_refl _) (C_str1 (t := 9) ((hk2 _ (by simp) (by simp; omega)).trans (by repeat (first | exact blk_at_new _ _ _ (by simp; done) | exact blk_at_new _ _ _ rfl | refine blk_alloc ?_ _ | refine blk_drew ?_ | refine blk_drewN ?_ _))))⟩, (by repeat (first | (with_reducible first | exact HB.out | apply below_alloc | apply pw_below_drewN | apply below_drew1) | exact HB.out))⟩
end Go.Proofs.YtdjbbncoioghfaaGreatDoor.X
namespace Go.Proofs.YtdjbbncoioghfaaGreatDoor.X
open Go.RowKit Go.Proofs.YtdjbbncoioghfaaGreatDoorW.PrintWords Go.Proofs.YtdjbbncoioghfaaGreatDoorW.PrintMore
set_option linter.unusedVariables false
set_option linter.unusedSimpArgs false
set_option maxRecDepth 100000 in
set_option maxHeartbeats 1000000 in
theorem rfault_calls (used : Int) (reply : ByteArray) (F : Nat → Prop) (w : World) (hr : reply.size ≤ 1000) :
    Calls Tryz.prog 65 #[.int .i64 used, .string reply] w (StepR F w (stepF used reply)) := by
  have HB := Aside0.mk (Below.refl w.heap.size w)
  have HK : Aside0 (∀ w', kStep.K w' (stepF used reply) _) := ⟨fun w' => kStep_mk w' (stepF used reply) (Nat.le_refl _) (C_nil _ _) (Nat.le_refl _) (C_nil _ _) (Nat.le_refl _) (C_nil _ _)⟩
  go_enter Tryz.func65, Tryz.ntmps65
  go_wp2
  ((try simp only [Exit.inBlock, Exit.then]); refine bodyPost_ret (results_cell_row rfl _ _ (w.heap.size) 61 _ (0, 0) _ rfl (by repeat (first | exact blk_at_new _ _ _ (by simp; done) | exact blk_at_new _ _ _ rfl | refine blk_alloc ?_ _ | refine blk_drew ?_ | refine blk_drewN ?_ _)) Tryz.underlying61 rfl (by kernel_rfl)) rfl ?_)
  exact ⟨⟨_, rfl, fun w2 _ _ => HK.out w2⟩, (by repeat (first | (with_reducible first | exact HB.out | apply below_alloc | apply pw_below_drewN | apply below_drew1) | exact HB.out))⟩
set_option maxRecDepth 100000 in
set_option maxHeartbeats 1000000 in
theorem rone_calls (used : Int) (y : Cmd) (f : Form) (cy cf : List Value) (F : Nat → Prop) (w : World) (hy : HolF F w (fun w2 => kCmd.K w2 y cy)) (hf : HolF F w (fun w2 => kForm.K w2 f cf)) :
    Calls Tryz.prog 109 #[.int .i64 used, .agg cy.toArray, .agg cf.toArray] w (StepR F w (stepO used f y)) := by
  have HB := Aside0.mk (Below.refl w.heap.size w)
  have HY := Aside0.mk hy
  have HF := Aside0.mk hf
  obtain ⟨A2, c2, rfl, hl2, hg2⟩ := kCmd_open hy.now
  obtain ⟨A7, c7, A8, c8, rfl, hl7, hg7, hl8, hg8⟩ := kForm_open hf.now
  clear hy hf hg2 hg7 hg8
  go_enter Tryz.func109, Tryz.ntmps109
  go_wp2
  ((try simp only [Exit.inBlock, Exit.then]); refine bodyPost_ret (results_cell_row rfl _ _ (w.heap.size + 1 + 1) 61 _ (0, 0) _ rfl (by repeat (first | exact blk_at_new _ _ _ (by simp; done) | exact blk_at_new _ _ _ rfl | refine blk_alloc ?_ _ | refine blk_drew ?_ | refine blk_drewN ?_ _)) Tryz.underlying61 rfl (by kernel_rfl)) rfl ?_)
  refine ⟨⟨_, rfl, fun w2 hb2 hk2 => ?_⟩, (by repeat (first | (with_reducible first | exact HB.out | apply below_alloc | apply pw_below_drewN | apply below_drew1) | exact HB.out))⟩
  obtain ⟨A7', c7', A8', c8', e, hl7', hg7', hl8', hg8'⟩ := kForm_open (HF.out.back (by repeat (first | (with_reducible first | exact HB.out | apply below_alloc | apply pw_below_drewN | apply below_drew1) | exact HB.out)) hb2 hk2)
  simp only [List.cons.injEq, Value.slice.injEq, and_true, true_and] at e
  obtain ⟨⟨rfl, rfl⟩, rfl, rfl⟩ := e
  exact kStep_mk w2 (stepO used f y) (Nat.le_refl _) (C_blk1 (t := 57) (HY.out.back (by repeat (first | (with_reducible first | exact HB.out | apply below_alloc | apply pw_below_drewN | apply below_drew1) | exact HB.out)) hb2 hk2) ((hk2 _ (by simp) (by simp; omega)).trans (by repeat (first | exact blk_at_new _ _ _ (by simp; done) | exact blk_at_new _ _ _ rfl | refine blk_alloc ?_ _ | refine blk_drew ?_ | refine blk_drewN ?_ _)))) hl7 hg7' hl8 hg8'
theorem wpList_store_K {P : Program} {ops : Array Oper} {rest : List Oper} {o : Oper} {a : Act} {w : World} {Q : Exit → Act → World → Prop} {α : Type} {d : Kd α} {x0 : α} {cs : List Value} (hK : d.K w x0 cs)
    (hgd : o.guard = none) (ty : TypeId) (x y : Operand) (ho : o.op = .store ty x y)
    (g : Nat) (hx : a.eval x = .pointer (some ⟨g, 0, none⟩)) (hy : a.eval y = .agg cs.toArray)
    (t : TypeId) (old : Array Value) (hg : w.heap[g]? = some (.cells old t (0, 0))) (hi : (P.info? ty).map (·.size) = some d.sz) (hold : old.size = d.sz)
    (h : ∀ w', w'.heap[g]? = some (.cells cs.toArray t (0, 0)) → (∀ B, B ≤ g → Below B w w') → (∀ (F : Nat → Prop) (Φ : World → Prop), ¬ F g → HolF F w Φ → HolF F w' Φ) → wpList P ops Q rest (a.put o.dst undef) w') : wpList P ops Q (o :: rest) a w := by
  have hl := d.K_len hK
  refine wpList_store_row hgd ty x y ho g cs.toArray hx hy t old hg (by rw [hi, List.size_toArray, hl]) (by rw [hold, List.size_toArray, hl]) (by rw [Array.all_eq_true_iff_forall_mem]; intro u hu; exact d.K_one hK u (by simpa using hu)) ?_
  exact h _ (setRow_heap w g old _ t _ hg) (fun B hB => below_setRow (Below.refl _ _) hB _) (fun F Φ hF hh => hh.kept (below_setRow (Below.refl _ _) (Nat.zero_le _) _) (fun k hk hFk => setRow_other _ _ _ _ (fun e => hF (e ▸ hFk))))
theorem S_cell {W : World} {A : Option Addr} {l : List ByteArray} (h : Kd.string.C W A l.length l) (i : Nat) (hi : i < l.length) : ∃ b o, A = some ⟨b, o, none⟩ ∧ b < W.heap.size ∧ W.cell? ⟨b, o + i, none⟩ = some (.string (l.getD i ⟨#[]⟩)) := by
  obtain ⟨ad, rfl, hc⟩ := h.2.2 (by omega)
  obtain ⟨cs, hlen, hK, hcell⟩ := hc 0 _ (List.getElem?_eq_getElem (show 0 < l.length by omega))
  have h0 := hcell 0 _ (List.getElem?_eq_getElem (show 0 < cs.length by rw [hlen]; decide))
  rw [Nat.zero_mul, Nat.zero_add, Addr.add_zero'] at h0
  obtain ⟨b, o, rfl, hb⟩ := addr_plain h0
  obtain ⟨cs2, hlen2, hK2, hcell2⟩ := hc i _ (List.getElem?_eq_getElem hi)
  obtain rfl : cs2 = [Value.string l[i]] := hK2
  have h1 := hcell2 0 _ rfl
  refine ⟨b, o, rfl, hb, ?_⟩
  have e : (⟨b, o, none⟩ : Addr).add (i * Kd.string.sz + 0) = ⟨b, o + i, none⟩ := by
    rw [show i * Kd.string.sz + 0 = i from by show i * 1 + 0 = i; omega]
    unfold Addr.add
    split <;> simp_all
  rw [e] at h1
  rw [h1, List.getD_eq_getElem?_getD, List.getElem?_eq_getElem hi]
  rfl
def cmdB (op : Int) : Cmd := { zCmd with op := op }
theorem keysOf_cmdB (op : Int) : keysOf (cmdB op).key = [] := by
  unfold keysOf
  exact if_pos rfl
/-- version and quit: n is how many words are behind the verb. -/
def bareS (verb : ByteArray) (n : Nat) (used op : Int) : Step := if n = 0 then stepO used (formT verb false []) (cmdB op) else stepF used (⟨#[69, 82, 82, 79, 82]⟩ : ByteArray)
set_option maxRecDepth 100000 in
set_option maxHeartbeats 1000000 in
theorem bare_calls (x : TextinLine) (cx : List Value) (op : Int) (F : Nat → Prop) (w : World) (hx : kTextinLine.K w x cx) (hq : x.quiet = false) :
    Calls Tryz.prog 91 #[.agg cx.toArray, .int .i64 op] w (StepR F w (bareS x.verb x.words.length x.used op)) := by
  have HB := Aside0.mk (Below.refl w.heap.size w)
  have HX := Aside0.mk hx
  obtain ⟨A1, c1, A4, c4, rfl, hl1, hg1, hl4, hg4⟩ := kTextinLine_open hx
  obtain ⟨r, hr⟩ : ∃ r, bareS x.verb x.words.length x.used op = r := ⟨_, rfl⟩
  rw [hr]
  unfold bareS at hr
  have HQ := Aside0.mk hq
  clear hx hg1 hg4 hq
  by_cases hn : x.words.length = 0
  · rw [if_pos hn] at hr
    subst hr
    have hn0 : (x.words.length : Int) = 0 := by omega
    go_enter Tryz.func91, Tryz.ntmps91
    have HC : Aside0 (∀ w', kCmd.K w' (cmdB op) [.int .i64 op, .string ⟨#[]⟩, .slice none 0 0, .int .u32 0, .int .i64 0, .int .u64 0, .int .u64 0, .int .u64 0, .bool false, .bool false]) := ⟨fun w' => kCmd_mk w' (cmdB op) (Nat.le_refl _) (C_nil _ _)⟩
    have HO : Aside0 (∀ w', Below w.heap.size w w' → Calls Tryz.prog 135 #[.agg #[.string x.verb, .slice A1 0 c1, .bool x.quiet, .int .i64 x.used, .slice A4 x.rest.length c4], .agg #[.int .i64 op, .string ⟨#[]⟩, .slice none 0 0, .int .u32 0, .int .i64 0, .int .u64 0, .int .u64 0, .int .u64 0, .bool false, .bool false]] w' (StepR (fun k => k < w.heap.size ∧ F k) w' (stepO x.used (formT x.verb false []) (cmdB op)))) := ⟨fun w' hb => by
      have := one_calls x (cmdB op) _ _ (fun k => k < w.heap.size ∧ F k) w' (kTextinLine.K_below hb HX.out) (fun w2 _ _ => HC.out w2)
      rw [keysOf_cmdB, show formT x.verb x.quiet [] = formT x.verb false [] from by rw [HQ.out], hn] at this
      exact this⟩
    go_wp2_with (first | (refine wpList_store_K HK.out.now rfl 61 _ _ rfl (w.heap.size + 1) rfl rfl 61 _ BK.out (by kernel_rfl) rfl ?_; intro w2 hbk hlow hfar; have HK2 := Aside0.mk (hfar _ _ (fun h => absurd (h (by simp)).1 (by simp)) HK.out); clear BK; have BK := Aside0.mk hbk; have HL := Aside0.mk hlow; clear hbk hlow hfar) | go_at_call 135; (with_reducible refine (HO.out _ (by repeat (first | (with_reducible first | exact HB.out | apply below_alloc | apply pw_below_drewN | apply below_drew1) | exact HB.out))).mono ?_); rintro e w1 ⟨⟨cs, rfl, hk⟩, hb⟩; have BK := Aside0.mk (blk_below (g := w.heap.size + 1) (by repeat (first | exact blk_at_new _ _ _ (by simp; done) | exact blk_at_new _ _ _ rfl | refine blk_alloc ?_ _ | refine blk_drew ?_ | refine blk_drewN ?_ _)) hb); have HBn := Aside0.mk (below_step (by repeat (first | (with_reducible first | exact HB.out | apply below_alloc | apply pw_below_drewN | apply below_drew1) | exact HB.out)) hb); clear HB; have HB := HBn; clear HBn; have HK := Aside0.mk hk; clear hb hk)
    ((try simp only [Exit.inBlock, Exit.then]); refine bodyPost_ret (results_cell_row rfl _ _ (w.heap.size + 1) 61 _ (0, 0) _ rfl BK.out Tryz.underlying61 rfl (by rw [List.size_toArray, kStep.K_len HK.out.now]; kernel_rfl)) rfl ?_)
    exact ⟨⟨_, rfl, HK2.out.mono (fun k hk h3 => (hk (by simp; omega)).2)⟩, HB.out.trans (HL.out _ (by omega))⟩
  · rw [if_neg hn] at hr
    subst hr
    have hn0 : 0 < (x.words.length : Int) := by omega
    go_enter Tryz.func91, Tryz.ntmps91
    have HO : Aside0 (∀ w', Below w.heap.size w w' → Calls Tryz.prog 50 #[.agg #[.string x.verb, .slice A1 x.words.length c1, .bool x.quiet, .int .i64 x.used, .slice A4 x.rest.length c4], .string (⟨#[69, 82, 82, 79, 82]⟩ : ByteArray)] w' (StepR (fun k => k < w.heap.size ∧ F k) w' (stepF x.used (⟨#[69, 82, 82, 79, 82]⟩ : ByteArray)))) := ⟨fun w' hb => fault_calls x _ _ _ w' (kTextinLine.K_below hb HX.out) (by decide)⟩
    go_wp2_with (first | (refine wpList_store_K HK.out.now rfl 61 _ _ rfl (w.heap.size + 1) rfl rfl 61 _ BK.out (by kernel_rfl) rfl ?_; intro w2 hbk hlow hfar; have HK2 := Aside0.mk (hfar _ _ (fun h => absurd (h (by simp)).1 (by simp)) HK.out); clear BK; have BK := Aside0.mk hbk; have HL := Aside0.mk hlow; clear hbk hlow hfar) | go_at_call 50; (with_reducible refine (HO.out _ (by repeat (first | (with_reducible first | exact HB.out | apply below_alloc | apply pw_below_drewN | apply below_drew1) | exact HB.out))).mono ?_); rintro e w1 ⟨⟨cs, rfl, hk⟩, hb⟩; have BK := Aside0.mk (blk_below (g := w.heap.size + 1) (by repeat (first | exact blk_at_new _ _ _ (by simp; done) | exact blk_at_new _ _ _ rfl | refine blk_alloc ?_ _ | refine blk_drew ?_ | refine blk_drewN ?_ _)) hb); have HBn := Aside0.mk (below_step (by repeat (first | (with_reducible first | exact HB.out | apply below_alloc | apply pw_below_drewN | apply below_drew1) | exact HB.out)) hb); clear HB; have HB := HBn; clear HBn; have HK := Aside0.mk hk; clear hb hk)
    ((try simp only [Exit.inBlock, Exit.then]); refine bodyPost_ret (results_cell_row rfl _ _ (w.heap.size + 1) 61 _ (0, 0) _ rfl BK.out Tryz.underlying61 rfl (by rw [List.size_toArray, kStep.K_len HK.out.now]; kernel_rfl)) rfl ?_)
    exact ⟨⟨_, rfl, HK2.out.mono (fun k hk h3 => (hk (by simp; omega)).2)⟩, HB.out.trans (HL.out _ (by omega))⟩
end Go.Proofs.YtdjbbncoioghfaaGreatDoor.X
namespace Go.Proofs.YtdjbbncoioghfaaGreatDoor.X
open Go.RowKit Go.Proofs.YtdjbbncoioghfaaGreatDoorW.PrintWords Go.Proofs.YtdjbbncoioghfaaGreatDoorW.PrintMore
set_option linter.unusedVariables false
set_option linter.unusedSimpArgs false
def badK (k : ByteArray) : Bool := !keyS k
theorem gets1_calls (k : ByteArray) (w : World) (hs : k.size ≤ 1000000) : Calls Tryz.prog 132 #[.string k] w fun e w' => e = .returned (.bool (badK k)) ∧ Below w.heap.size w w' := by
  have HB := Aside0.mk (Below.refl w.heap.size w)
  have HK := Aside0.mk (fkey_calls k w hs)
  unfold badK
  obtain ⟨b, hb⟩ : ∃ b, keyS k = b := ⟨_, rfl⟩
  rw [hb] at HK ⊢
  clear hb
  go_enter Tryz.func132, Tryz.ntmps132
  go_wp2_with (go_at_call 129; (with_reducible refine HK.out.mono ?_); rintro e w1 ⟨rfl, hb⟩; have HBn := Aside0.mk (below_step (by repeat (first | (with_reducible first | exact HB.out | apply below_alloc | apply pw_below_drewN | apply below_drew1) | exact HB.out)) hb); clear HB; have HB := HBn; clear HBn; clear hb)
  go_ret
  exact ⟨rfl, HB.out⟩
set_option maxRecDepth 100000 in
set_option maxHeartbeats 1000000 in
theorem ifnS_calls (l : List ByteArray) (A : Option Addr) (c : Nat) (w : World) (hC : Kd.string.C w A l.length l) (hc : l.length ≤ c) (hl : l.length ≤ 1000000) (hs : ∀ k ∈ l, k.size ≤ 1000000) :
    Calls Tryz.prog 160 #[.slice A l.length c, .func (.func 132) #[] #[]] w fun e w' => IfnP (l.any badK) e ∧ Below w.heap.size w w' := by
  have HC := Aside0.mk hC
  have HS := Aside0.mk hs
  clear hC hs
  go_enter Tryz.func160, Tryz.ntmps160
  go_wp2
  go_loopw [8] (fun v wr => ∃ k : Nat, v = .int .i64 k ∧ k ≤ l.length ∧ Aside0 ((l.take k).any badK = false) ∧ Aside0 (Below w.heap.size w wr)) (fun v _ => l.length - (intOf v).toNat)
  case atStart => exact ⟨0, rfl, by omega, ⟨by simp⟩, ⟨Below.refl _ _⟩⟩
  case round =>
    obtain ⟨k, rfl, hk, hn, HB⟩ := hrel
    by_cases hlt : k < l.length
    · obtain ⟨b, o, rfl, hb0, hcell⟩ := S_cell (Kd.C_below HC.out HB.out) k hlt
      have h8k := HS.out (l.getD k ⟨#[]⟩) (by rw [List.getD_eq_getElem?_getD, List.getElem?_eq_getElem hlt]; exact List.getElem_mem hlt)
      have htk : l.take (k + 1) = l.take k ++ [l.getD k ⟨#[]⟩] := by
        rw [List.take_succ_eq_append_getElem hlt, List.getD_eq_getElem?_getD, List.getElem?_eq_getElem hlt]; rfl
      have hmem : l.getD k ⟨#[]⟩ ∈ l := by rw [List.getD_eq_getElem?_getD, List.getElem?_eq_getElem hlt]; exact List.getElem_mem hlt
      obtain ⟨v, hv⟩ : ∃ v, l.getD k ⟨#[]⟩ = v := ⟨_, rfl⟩
      rw [hv] at hcell h8k htk hmem
      obtain ⟨bo, hbo⟩ : ∃ bo, badK v = bo := ⟨_, rfl⟩
      have HBO := Aside0.mk hbo
      have HTK := Aside0.mk htk
      have HM := Aside0.mk hmem
      have H8 := Aside0.mk h8k
      clear htk hv hbo hmem h8k
      cases bo
      · go_wp2_with (go_at_call 132; (with_reducible refine (gets1_calls v _ H8.out).mono ?_); rintro e w' ⟨rfl, hb⟩; rw [HBO.out]; have HBn := Aside0.mk (below_step (by repeat (first | (with_reducible first | exact HB.out | apply below_alloc | apply pw_below_drewN | apply below_drew1) | exact HB.out)) hb); clear HB; have HB := HBn; clear HBn; clear hb)
        go_round
        case rel => exact ⟨k + 1, by first | rfl | simp, by omega, ⟨by rw [HTK.out, List.any_append, hn.out]; simp [HBO.out]⟩, ⟨HB.out⟩⟩
        case measure => simp [intOf]; omega
      · go_wp2_with (go_at_call 132; (with_reducible refine (gets1_calls v _ H8.out).mono ?_); rintro e w' ⟨rfl, hb⟩; rw [HBO.out]; have HBn := Aside0.mk (below_step (by repeat (first | (with_reducible first | exact HB.out | apply below_alloc | apply pw_below_drewN | apply below_drew1) | exact HB.out)) hb); clear HB; have HB := HBn; clear HBn; clear hb)
        go_ret
        refine ⟨⟨_, rfl, ?_⟩, HB.out⟩
        rw [if_pos (List.any_eq_true.2 ⟨v, HM.out, HBO.out⟩)]
        omega
    · have hkl : k = l.length := by omega
      go_wp2
      go_ret
      refine ⟨⟨_, rfl, ?_⟩, HB.out⟩
      have := hn.out
      rw [List.take_of_length_le (by omega)] at this
      rw [if_neg (by rw [this]; decide)]
set_option maxRecDepth 100000 in
set_option maxHeartbeats 1000000 in
theorem cfnS_calls (l : List ByteArray) (A : Option Addr) (c : Nat) (w : World) (hC : Kd.string.C w A l.length l) (hc : l.length ≤ c) (hl : l.length ≤ 1000000) (hs : ∀ k ∈ l, k.size ≤ 1000000) :
    Calls Tryz.prog 131 #[.slice A l.length c, .func (.func 132) #[] #[]] w fun e w' => e = .returned (.bool (l.any badK)) ∧ Below w.heap.size w w' := by
  have HI := Aside0.mk (ifnS_calls l A c w hC hc hl hs)
  have HB := Aside0.mk (Below.refl w.heap.size w)
  clear hC hs
  obtain ⟨b, hb⟩ : ∃ b, l.any badK = b := ⟨_, rfl⟩
  rw [hb] at HI ⊢
  clear hb
  cases b
  · go_enter Tryz.func131, Tryz.ntmps131
    go_wp2_with (go_at_call 160; (with_reducible refine HI.out.mono ?_); rintro e w' ⟨⟨z, rfl, hz⟩, hb⟩; rw [if_neg (by decide)] at hz; subst hz; have HBn := Aside0.mk (below_step (by repeat (first | (with_reducible first | exact HB.out | apply below_alloc | apply pw_below_drewN | apply below_drew1) | exact HB.out)) hb); clear HB; have HB := HBn; clear HBn; clear hb)
    go_ret
    exact ⟨rfl, HB.out⟩
  · go_enter Tryz.func131, Tryz.ntmps131
    go_wp2_with (go_at_call 160; (with_reducible refine HI.out.mono ?_); rintro e w' ⟨⟨z, rfl, hz⟩, hb⟩; rw [if_pos rfl] at hz; have HBn := Aside0.mk (below_step (by repeat (first | (with_reducible first | exact HB.out | apply below_alloc | apply pw_below_drewN | apply below_drew1) | exact HB.out)) hb); clear HB; have HB := HBn; clear HBn; clear hb)
    go_ret
    exact ⟨rfl, HB.out⟩
def keysS (l : List ByteArray) : Bool := decide (l.length ≤ 16) && !l.any badK
set_option maxRecDepth 100000 in
set_option maxHeartbeats 1000000 in
theorem rkeys_calls (l : List ByteArray) (A : Option Addr) (c : Nat) (w : World) (hC : Kd.string.C w A l.length l) (hc : l.length ≤ c) (hl : l.length ≤ 1000000) (hs : ∀ k ∈ l, k.size ≤ 1000000) :
    Calls Tryz.prog 106 #[.slice A l.length c] w fun e w' => e = .returned (.bool (keysS l)) ∧ Below w.heap.size w w' := by
  have HC := Aside0.mk hC
  have HS := Aside0.mk hs
  have HB := Aside0.mk (Below.refl w.heap.size w)
  clear hC hs
  obtain ⟨r, hr⟩ : ∃ r, keysS l = r := ⟨_, rfl⟩
  rw [hr]
  have HR := Aside0.mk hr
  clear hr
  by_cases hlt : 16 < l.length
  · obtain rfl : r = false := by rw [← HR.out]; unfold keysS; rw [decide_eq_false (by omega), Bool.false_and]
    go_enter Tryz.func106, Tryz.ntmps106
    go_wp2
    go_ret
    exact ⟨rfl, HB.out⟩
  · have HR2 : Aside0 (r = !l.any badK) := ⟨by rw [← HR.out]; unfold keysS; rw [decide_eq_true (by omega), Bool.true_and]⟩
    clear HB
    go_enter Tryz.func106, Tryz.ntmps106
    go_wp2
    go_loopw [3] (fun v wr => ∃ k : Nat, v = .int .i64 k ∧ k ≤ l.length ∧ Aside0 ((l.take k).any badK = false) ∧ Aside0 (Below w.heap.size w wr)) (fun v _ => l.length - (intOf v).toNat)
    case atStart => exact ⟨0, rfl, by omega, ⟨by simp⟩, ⟨Below.refl _ _⟩⟩
    case round =>
      obtain ⟨k, rfl, hk, hn, HB⟩ := hrel
      by_cases hlt : k < l.length
      · obtain ⟨b, o, rfl, hb0, hcell⟩ := S_cell (Kd.C_below HC.out HB.out) k hlt
        have h8k := HS.out (l.getD k ⟨#[]⟩) (by rw [List.getD_eq_getElem?_getD, List.getElem?_eq_getElem hlt]; exact List.getElem_mem hlt)
        have htk : l.take (k + 1) = l.take k ++ [l.getD k ⟨#[]⟩] := by
          rw [List.take_succ_eq_append_getElem hlt, List.getD_eq_getElem?_getD, List.getElem?_eq_getElem hlt]; rfl
        have hmem : l.getD k ⟨#[]⟩ ∈ l := by rw [List.getD_eq_getElem?_getD, List.getElem?_eq_getElem hlt]; exact List.getElem_mem hlt
        obtain ⟨v, hv⟩ : ∃ v, l.getD k ⟨#[]⟩ = v := ⟨_, rfl⟩
        rw [hv] at hcell h8k htk hmem
        obtain ⟨bo, hbo⟩ : ∃ bo, keyS v = bo := ⟨_, rfl⟩
        have HBO := Aside0.mk hbo
        have HTK := Aside0.mk htk
        have HM := Aside0.mk hmem
        have H8 := Aside0.mk h8k
        clear htk hv hbo hmem h8k
        cases bo
        · go_wp2_with (go_at_call 110; (with_reducible refine (rkey_calls v _ H8.out).mono ?_); rintro e w' ⟨rfl, hb⟩; rw [HBO.out]; have HBn := Aside0.mk (below_step (by repeat (first | (with_reducible first | exact HB.out | apply below_alloc | apply pw_below_drewN | apply below_drew1) | exact HB.out)) hb); clear HB; have HB := HBn; clear HBn; clear hb)
          go_ret
          refine ⟨?_, HB.out⟩
          rw [HR2.out, List.any_eq_true.2 ⟨v, HM.out, by unfold badK; rw [HBO.out]; rfl⟩]
          rfl
        · go_wp2_with (go_at_call 110; (with_reducible refine (rkey_calls v _ H8.out).mono ?_); rintro e w' ⟨rfl, hb⟩; rw [HBO.out]; have HBn := Aside0.mk (below_step (by repeat (first | (with_reducible first | exact HB.out | apply below_alloc | apply pw_below_drewN | apply below_drew1) | exact HB.out)) hb); clear HB; have HB := HBn; clear HBn; clear hb)
          go_round
          case rel => exact ⟨k + 1, by first | rfl | simp, by omega, ⟨by rw [HTK.out, List.any_append, hn.out]; simp [badK, HBO.out]⟩, ⟨HB.out⟩⟩
          case measure => simp [intOf]; omega
      · have hkl : k = l.length := by omega
        go_wp2
        go_ret
        refine ⟨?_, HB.out⟩
        have := hn.out
        rw [List.take_of_length_le (by omega)] at this
        rw [HR2.out, this]
        rfl
end Go.Proofs.YtdjbbncoioghfaaGreatDoor.X
namespace Go.Proofs.YtdjbbncoioghfaaGreatDoor.X
open Go.RowKit Go.Proofs.YtdjbbncoioghfaaGreatDoorW.PrintWords Go.Proofs.YtdjbbncoioghfaaGreatDoorW.PrintMore
set_option linter.unusedVariables false
theorem dec_w (s : ByteArray) (w : World) (hT : Tabs w) : Calls Tryz.prog 84 #[.string s] w fun e w' => e = .returned (.tuple #[.int .u64 ((decS s).1 : Int), .bool (decS s).2]) ∧ Below w.heap.size w w' :=
  num_Decimal.calls s _ _ w hT rfl
theorem sgn_w (s : ByteArray) (w : World) (hT : Tabs w) : Calls Tryz.prog 134 #[.string s] w fun e w' => e = .returned (.tuple #[.int .i64 (sgnS s).1, .bool (sgnS s).2]) ∧ Below w.heap.size w w' := by
  obtain ⟨K, hK⟩ := sgn_f s
  exact num_Signed.calls K s _ _ w hT (hK K (Nat.le_refl _))
theorem rdec_w (s : ByteArray) (w : World) : Calls Tryz.prog 101 #[.string s] w fun e w' => e = .returned (.tuple #[.int .u64 ((decS s).1 : Int), .bool (decS s).2]) ∧ Below w.heap.size w w' := by
  obtain ⟨K, hK⟩ := rdec_f s
  exact (butteryref01_Decimal.calls K s _ _ w (hK K (Nat.le_refl _))).mono fun e w' ⟨he, hd⟩ => ⟨he, hd.below⟩
theorem rsgn_w (s : ByteArray) (w : World) (hs : s.size ≤ 1000000) : Calls Tryz.prog 108 #[.string s] w fun e w' => e = .returned (.tuple #[.int .i64 (sgnS s).1, .bool (sgnS s).2]) ∧ Below w.heap.size w w' := by
  obtain ⟨K, hK⟩ := rsgn_f s (by omega)
  exact (butteryref01_Signed.calls K s _ _ w (hK K (Nat.le_refl _))).mono fun e w' ⟨he, hd⟩ => ⟨he, hd.below⟩
/-- How many words a verb asks for that may be quiet. -/
def asksS (v : ByteArray) : Int := if v = (⟨#[115, 101, 116]⟩ : ByteArray) ∨ v = (⟨#[97, 100, 100]⟩ : ByteArray) ∨ v = (⟨#[114, 101, 112, 108, 97, 99, 101]⟩ : ByteArray) ∨ v = (⟨#[97, 112, 112, 101, 110, 100]⟩ : ByteArray) ∨ v = (⟨#[112, 114, 101, 112, 101, 110, 100]⟩ : ByteArray) then 4 else if v = (⟨#[99, 97, 115]⟩ : ByteArray) then 5 else if v = (⟨#[100, 101, 108, 101, 116, 101]⟩ : ByteArray) then 1 else if v = (⟨#[105, 110, 99, 114]⟩ : ByteArray) ∨ v = (⟨#[100, 101, 99, 114]⟩ : ByteArray) ∨ v = (⟨#[116, 111, 117, 99, 104]⟩ : ByteArray) then 2 else -1
end Go.Proofs.YtdjbbncoioghfaaGreatDoor.X
namespace Go.Proofs.YtdjbbncoioghfaaGreatDoor.X
open Go.RowKit Go.Proofs.YtdjbbncoioghfaaGreatDoorW.PrintWords Go.Proofs.YtdjbbncoioghfaaGreatDoorW.PrintMore
set_option linter.unusedVariables false
def asksL (l : List UInt8) : Int :=
  if l = [115, 101, 116] then 4 else if l = [97, 100, 100] then 4 else if l = [114, 101, 112, 108, 97, 99, 101] then 4 else if l = [97, 112, 112, 101, 110, 100] then 4 else if l = [112, 114, 101, 112, 101, 110, 100] then 4 else if l = [99, 97, 115] then 5
  else if l = [100, 101, 108, 101, 116, 101] then 1 else if l = [105, 110, 99, 114] then 2 else if l = [100, 101, 99, 114] then 2 else if l = [116, 111, 117, 99, 104] then 2 else -1
theorem asks_f1 (v : ByteArray) : textin_asks.f 1 v = some (asksL v.toList) := by
  unfold textin_asks.f asksL
  simp only [textin_asks.j0]
  generalize v.toList = l
  by_cases h1 : l = [115, 101, 116]
  · simp [h1]
  by_cases h2 : l = [97, 100, 100]
  · simp [h2]
  by_cases h3 : l = [114, 101, 112, 108, 97, 99, 101]
  · simp [h3]
  by_cases h4 : l = [97, 112, 112, 101, 110, 100]
  · simp [h4]
  by_cases h5 : l = [112, 114, 101, 112, 101, 110, 100]
  · simp [h5]
  by_cases h6 : l = [99, 97, 115]
  · simp [h6]
  by_cases h7 : l = [100, 101, 108, 101, 116, 101]
  · simp [h7]
  by_cases h8 : l = [105, 110, 99, 114]
  · simp [h8]
  by_cases h9 : l = [100, 101, 99, 114]
  · simp [h9]
  by_cases h10 : l = [116, 111, 117, 99, 104]
  · simp [h10]
  simp [h1, h2, h3, h4, h5, h6, h7, h8, h9, h10]
theorem asks_w (v : ByteArray) (w : World) : Calls Tryz.prog 92 #[.string v] w fun e w' => e = .returned (.int .i64 (asksL v.toList)) ∧ Below w.heap.size w w' :=
  (textin_asks.calls 1 v _ w (asks_f1 v)).mono fun e w' ⟨he, hd⟩ => ⟨he, hd.below⟩
def manyL (l : List UInt8) : Int := if asksL l = -1 then 0 else asksL l + 1
theorem many_f1 (v : ByteArray) : butteryref14_many.f 1 v = some (manyL v.toList) := by
  unfold butteryref14_many.f manyL asksL
  simp only [butteryref14_many.j0]
  generalize v.toList = l
  by_cases h1 : l = [115, 101, 116]
  · simp [h1]
  by_cases h2 : l = [97, 100, 100]
  · simp [h2]
  by_cases h3 : l = [114, 101, 112, 108, 97, 99, 101]
  · simp [h3]
  by_cases h4 : l = [97, 112, 112, 101, 110, 100]
  · simp [h4]
  by_cases h5 : l = [112, 114, 101, 112, 101, 110, 100]
  · simp [h5]
  by_cases h6 : l = [99, 97, 115]
  · simp [h6]
  by_cases h7 : l = [100, 101, 108, 101, 116, 101]
  · simp [h7]
  by_cases h8 : l = [105, 110, 99, 114]
  · simp [h8]
  by_cases h9 : l = [100, 101, 99, 114]
  · simp [h9]
  by_cases h10 : l = [116, 111, 117, 99, 104]
  · simp [h10]
  simp [h1, h2, h3, h4, h5, h6, h7, h8, h9, h10]
theorem many_w (v : ByteArray) (w : World) : Calls Tryz.prog 68 #[.string v] w fun e w' => e = .returned (.int .i64 (manyL v.toList)) ∧ Below w.heap.size w w' :=
  (butteryref14_many.calls 1 v _ w (many_f1 v)).mono fun e w' ⟨he, hd⟩ => ⟨he, hd.below⟩
def opL (l : List UInt8) : Int :=
  if l = [115, 101, 116] then 3 else if l = [97, 100, 100] then 4 else if l = [114, 101, 112, 108, 97, 99, 101] then 5 else if l = [97, 112, 112, 101, 110, 100] then 6 else if l = [112, 114, 101, 112, 101, 110, 100] then 7 else if l = [99, 97, 115] then 3 else -1
theorem op_f8 (v : ByteArray) : butteryref14_op.f 8 v = some (opL v.toList) := by
  unfold butteryref14_op.f opL
  have hl : ∀ (s t : ByteArray), (s.toList = t.toList) ↔ (t.toList = s.toList) := fun s t => ⟨Eq.symm, Eq.symm⟩
  have w : ∀ n : Int, 0 ≤ n → n < 10 → wrap64 n = n := fun n h0 h1 => w64 n (by omega) (by omega)
  have e0 : (rdOf ByteArray.empty ([(⟨#[115, 101, 116]⟩ : ByteArray), (⟨#[97, 100, 100]⟩ : ByteArray), (⟨#[114, 101, 112, 108, 97, 99, 101]⟩ : ByteArray), (⟨#[97, 112, 112, 101, 110, 100]⟩ : ByteArray), (⟨#[112, 114, 101, 112, 101, 110, 100]⟩ : ByteArray), (⟨#[99, 97, 115]⟩ : ByteArray)] : List ByteArray) 0).toList = [115, 101, 116] := by rw [ByteArray.toList_eq]; rfl
  have e1 : (rdOf ByteArray.empty ([(⟨#[115, 101, 116]⟩ : ByteArray), (⟨#[97, 100, 100]⟩ : ByteArray), (⟨#[114, 101, 112, 108, 97, 99, 101]⟩ : ByteArray), (⟨#[97, 112, 112, 101, 110, 100]⟩ : ByteArray), (⟨#[112, 114, 101, 112, 101, 110, 100]⟩ : ByteArray), (⟨#[99, 97, 115]⟩ : ByteArray)] : List ByteArray) 1).toList = [97, 100, 100] := by rw [ByteArray.toList_eq]; rfl
  have e2 : (rdOf ByteArray.empty ([(⟨#[115, 101, 116]⟩ : ByteArray), (⟨#[97, 100, 100]⟩ : ByteArray), (⟨#[114, 101, 112, 108, 97, 99, 101]⟩ : ByteArray), (⟨#[97, 112, 112, 101, 110, 100]⟩ : ByteArray), (⟨#[112, 114, 101, 112, 101, 110, 100]⟩ : ByteArray), (⟨#[99, 97, 115]⟩ : ByteArray)] : List ByteArray) 2).toList = [114, 101, 112, 108, 97, 99, 101] := by rw [ByteArray.toList_eq]; rfl
  have e3 : (rdOf ByteArray.empty ([(⟨#[115, 101, 116]⟩ : ByteArray), (⟨#[97, 100, 100]⟩ : ByteArray), (⟨#[114, 101, 112, 108, 97, 99, 101]⟩ : ByteArray), (⟨#[97, 112, 112, 101, 110, 100]⟩ : ByteArray), (⟨#[112, 114, 101, 112, 101, 110, 100]⟩ : ByteArray), (⟨#[99, 97, 115]⟩ : ByteArray)] : List ByteArray) 3).toList = [97, 112, 112, 101, 110, 100] := by rw [ByteArray.toList_eq]; rfl
  have e4 : (rdOf ByteArray.empty ([(⟨#[115, 101, 116]⟩ : ByteArray), (⟨#[97, 100, 100]⟩ : ByteArray), (⟨#[114, 101, 112, 108, 97, 99, 101]⟩ : ByteArray), (⟨#[97, 112, 112, 101, 110, 100]⟩ : ByteArray), (⟨#[112, 114, 101, 112, 101, 110, 100]⟩ : ByteArray), (⟨#[99, 97, 115]⟩ : ByteArray)] : List ByteArray) 4).toList = [112, 114, 101, 112, 101, 110, 100] := by rw [ByteArray.toList_eq]; rfl
  have e5 : (rdOf ByteArray.empty ([(⟨#[115, 101, 116]⟩ : ByteArray), (⟨#[97, 100, 100]⟩ : ByteArray), (⟨#[114, 101, 112, 108, 97, 99, 101]⟩ : ByteArray), (⟨#[97, 112, 112, 101, 110, 100]⟩ : ByteArray), (⟨#[112, 114, 101, 112, 101, 110, 100]⟩ : ByteArray), (⟨#[99, 97, 115]⟩ : ByteArray)] : List ByteArray) 5).toList = [99, 97, 115] := by rw [ByteArray.toList_eq]; rfl
  simp only [butteryref14_op.l0, show wrap64 (0 + 1) = 1 from (w64 (0 + 1) (by decide) (by decide)).trans rfl, show wrap64 (1 + 1) = 2 from (w64 (1 + 1) (by decide) (by decide)).trans rfl, show wrap64 (2 + 1) = 3 from (w64 (2 + 1) (by decide) (by decide)).trans rfl, show wrap64 (3 + 1) = 4 from (w64 (3 + 1) (by decide) (by decide)).trans rfl, show wrap64 (4 + 1) = 5 from (w64 (4 + 1) (by decide) (by decide)).trans rfl, show wrap64 (5 + 1) = 6 from (w64 (5 + 1) (by decide) (by decide)).trans rfl, e0, e1, e2, e3, e4, e5]
  generalize v.toList = l
  by_cases h1 : [115, 101, 116] = l
  · subst h1; simp [rd]
  by_cases h2 : [97, 100, 100] = l
  · subst h2; simp [rd]
  by_cases h3 : [114, 101, 112, 108, 97, 99, 101] = l
  · subst h3; simp [rd]
  by_cases h4 : [97, 112, 112, 101, 110, 100] = l
  · subst h4; simp [rd]
  by_cases h5 : [112, 114, 101, 112, 101, 110, 100] = l
  · subst h5; simp [rd]
  by_cases h6 : [99, 97, 115] = l
  · subst h6; simp [rd]
  simp [h1, h2, h3, h4, h5, h6, Ne.symm h1, Ne.symm h2, Ne.symm h3, Ne.symm h4, Ne.symm h5, Ne.symm h6]
theorem op_w (v : ByteArray) (w : World) : Calls Tryz.prog 69 #[.string v] w fun e w' => e = .returned (.int .i64 (opL v.toList)) ∧ Below w.heap.size w w' :=
  (butteryref14_op.calls 8 v _ w (op_f8 v)).mono fun e w' h => h
end Go.Proofs.YtdjbbncoioghfaaGreatDoor.X
namespace Go.Proofs.YtdjbbncoioghfaaGreatDoor.X
open Go.RowKit Go.Proofs.YtdjbbncoioghfaaGreatDoorW.PrintWords Go.Proofs.YtdjbbncoioghfaaGreatDoorW.PrintMore
set_option linter.unusedVariables false
set_option linter.unusedSimpArgs false
def badT : ByteArray := (⟨#[67, 76, 73, 69, 78, 84, 95, 69, 82, 82, 79, 82, 32, 98, 97, 100, 32, 99, 111, 109, 109, 97, 110, 100, 32, 108, 105, 110, 101, 32, 102, 111, 114, 109, 97, 116]⟩ : ByteArray)
def cmdF (exp : Int) : Cmd := { zCmd with op := 13, exp := exp }
theorem keysOf_cmdF (exp : Int) : keysOf (cmdF exp).key = [] := by
  unfold keysOf
  exact if_pos rfl
def expF (words : List ByteArray) : Int × Bool := if words.length = 0 then (0, true) else sgnS (words.getD 0 ⟨#[]⟩)
def flushS (verb : ByteArray) (quiet : Bool) (words : List ByteArray) (used : Int) : Step :=
  if 1 < words.length then stepF used (⟨#[69, 82, 82, 79, 82]⟩ : ByteArray) else if (expF words).2 = true then stepO used (formT verb quiet []) (cmdF (expF words).1) else stepF used badT
set_option maxRecDepth 100000 in
set_option maxHeartbeats 1000000 in
theorem flush_calls (x : TextinLine) (cx : List Value) (F : Nat → Prop) (w : World) (hx : kTextinLine.K w x cx) (hT : Tabs w) :
    Calls Tryz.prog 98 #[.agg cx.toArray] w (StepR F w (flushS x.verb x.quiet x.words x.used)) := by
  have HB := Aside0.mk (Below.refl w.heap.size w)
  have HX := Aside0.mk hx
  have HT := Aside0.mk hT
  obtain ⟨A1, c1, A4, c4, rfl, hl1, hg1, hl4, hg4⟩ := kTextinLine_open hx
  have HG := Aside0.mk hg1
  obtain ⟨r, hr⟩ : ∃ r, flushS x.verb x.quiet x.words x.used = r := ⟨_, rfl⟩
  rw [hr]
  unfold flushS at hr
  clear hx hg1 hg4 hT
  have HO1 : Aside0 (∀ w', Below w.heap.size w w' → Calls Tryz.prog 50 #[.agg #[.string x.verb, .slice A1 x.words.length c1, .bool x.quiet, .int .i64 x.used, .slice A4 x.rest.length c4], .string (⟨#[69, 82, 82, 79, 82]⟩ : ByteArray)] w' (StepR (fun k => k < w.heap.size ∧ F k) w' (stepF x.used (⟨#[69, 82, 82, 79, 82]⟩ : ByteArray)))) := ⟨fun w' hb => fault_calls x _ _ _ w' (kTextinLine.K_below hb HX.out) (by decide)⟩
  have HO2 : Aside0 (∀ w', Below w.heap.size w w' → Calls Tryz.prog 50 #[.agg #[.string x.verb, .slice A1 x.words.length c1, .bool x.quiet, .int .i64 x.used, .slice A4 x.rest.length c4], .string (⟨#[67, 76, 73, 69, 78, 84, 95, 69, 82, 82, 79, 82, 32, 98, 97, 100, 32, 99, 111, 109, 109, 97, 110, 100, 32, 108, 105, 110, 101, 32, 102, 111, 114, 109, 97, 116]⟩ : ByteArray)] w' (StepR (fun k => k < w.heap.size ∧ F k) w' (stepF x.used badT))) := ⟨fun w' hb => fault_calls x _ _ _ w' (kTextinLine.K_below hb HX.out) (by decide)⟩
  have HC : Aside0 (∀ w' v, kCmd.K w' (cmdF v) [.int .i64 13, .string ⟨#[]⟩, .slice none 0 0, .int .u32 0, .int .i64 v, .int .u64 0, .int .u64 0, .int .u64 0, .bool false, .bool false]) := ⟨fun w' v => kCmd_mk w' (cmdF v) (Nat.le_refl _) (C_nil _ _)⟩
  have HO3 : Aside0 (∀ v w', Below w.heap.size w w' → Calls Tryz.prog 135 #[.agg #[.string x.verb, .slice A1 x.words.length c1, .bool x.quiet, .int .i64 x.used, .slice A4 x.rest.length c4], .agg #[.int .i64 13, .string ⟨#[]⟩, .slice none 0 0, .int .u32 0, .int .i64 v, .int .u64 0, .int .u64 0, .int .u64 0, .bool false, .bool false]] w' (StepR (fun k => k < w.heap.size ∧ F k) w' (stepO x.used (formT x.verb x.quiet []) (cmdF v)))) := ⟨fun v w' hb => by
    have := one_calls x (cmdF v) _ _ (fun k => k < w.heap.size ∧ F k) w' (kTextinLine.K_below hb HX.out) (fun w2 _ _ => HC.out w2 v)
    rw [keysOf_cmdF] at this
    exact this⟩
  by_cases hn : x.words.length = 0
  · have HO4 : Aside0 (∀ v w', Below w.heap.size w w' → Calls Tryz.prog 135 #[.agg #[.string x.verb, .slice A1 0 c1, .bool x.quiet, .int .i64 x.used, .slice A4 x.rest.length c4], .agg #[.int .i64 13, .string ⟨#[]⟩, .slice none 0 0, .int .u32 0, .int .i64 v, .int .u64 0, .int .u64 0, .int .u64 0, .bool false, .bool false]] w' (StepR (fun k => k < w.heap.size ∧ F k) w' (stepO x.used (formT x.verb x.quiet []) (cmdF v)))) := ⟨fun v w' hb => by
      have := HO3.out v w' hb
      rw [hn] at this
      exact this⟩
    unfold expF at hr
    rw [if_neg (by omega), if_pos hn] at hr
    dsimp only at hr
    rw [if_pos rfl] at hr
    subst hr
    have hn0 : (x.words.length : Int) = 0 := by omega
    go_enter Tryz.func98, Tryz.ntmps98
    go_wp2_with (first | (refine wpList_store_K HK.out.now rfl 61 _ _ rfl (w.heap.size + 1) rfl rfl 61 _ BK.out (by kernel_rfl) rfl ?_; intro w2 hbk hlow hfar; have HK2 := Aside0.mk (hfar _ _ (fun h => absurd (h (by simp)).1 (by simp)) HK.out); clear BK; have BK := Aside0.mk hbk; have HL := Aside0.mk hlow; clear hbk hlow hfar) | go_at_call 135; (with_reducible refine (HO4.out _ _ (by repeat (first | (with_reducible first | exact HB.out | apply below_alloc | apply pw_below_drewN | apply below_drew1) | exact HB.out))).mono ?_); rintro e w1 ⟨⟨cs, rfl, hk⟩, hb⟩; have BK := Aside0.mk (blk_below (g := w.heap.size + 1) (by repeat (first | exact blk_at_new _ _ _ (by simp; done) | exact blk_at_new _ _ _ rfl | refine blk_alloc ?_ _ | refine blk_drew ?_ | refine blk_drewN ?_ _)) hb); have HBn := Aside0.mk (below_step (by repeat (first | (with_reducible first | exact HB.out | apply below_alloc | apply pw_below_drewN | apply below_drew1) | exact HB.out)) hb); clear HB; have HB := HBn; clear HBn; have HK := Aside0.mk hk; clear hb hk)
    ((try simp only [Exit.inBlock, Exit.then]); refine bodyPost_ret (results_cell_row rfl _ _ (w.heap.size + 1) 61 _ (0, 0) _ rfl BK.out Tryz.underlying61 rfl (by rw [List.size_toArray, kStep.K_len HK.out.now]; kernel_rfl)) rfl ?_)
    exact ⟨⟨_, rfl, HK2.out.mono (fun k hk h3 => (hk (by simp; omega)).2)⟩, HB.out.trans (HL.out _ (by omega))⟩
  by_cases hn2 : 1 < x.words.length
  · rw [if_pos hn2] at hr
    subst hr
    obtain ⟨b, o, rfl, hb0, hcell⟩ := S_cell HG.out 0 (by omega)
    have hn0 : 0 < (x.words.length : Int) := by omega
    have hn1 : 1 < (x.words.length : Int) := by omega
    obtain ⟨v, hv⟩ : ∃ v, x.words.getD 0 ⟨#[]⟩ = v := ⟨_, rfl⟩
    rw [hv, Nat.add_zero] at hcell
    clear hv
    obtain ⟨z, hz⟩ : ∃ z, (sgnS v).1 = z := ⟨_, rfl⟩
    obtain ⟨q, hq⟩ : ∃ q, (sgnS v).2 = q := ⟨_, rfl⟩
    have HSG := Aside0.mk (fun w => sgn_w v w)
    rw [hz, hq] at HSG
    clear hz hq
    go_enter Tryz.func98, Tryz.ntmps98
    go_wp2_with (first | (go_at_call 134; (with_reducible refine (HSG.out _ (Tabs.below HT.out (by repeat (first | (with_reducible first | exact HB.out | apply below_alloc | apply pw_below_drewN | apply below_drew1) | exact HB.out)))).mono ?_); rintro e w1 ⟨rfl, hb⟩; have BX := Aside0.mk (blk_below (g := w.heap.size) (o := .cells #[.string x.verb, .slice (some ⟨b, o, none⟩) x.words.length c1, .bool x.quiet, .int .i64 x.used, .slice A4 x.rest.length c4] 90 (0, 0)) (by repeat (first | exact blk_at_new _ _ _ (by simp; done) | exact blk_at_new _ _ _ rfl | refine blk_alloc ?_ _ | refine blk_drew ?_ | refine blk_drewN ?_ _)) hb); have BR := Aside0.mk (blk_below (g := w.heap.size + 1) (by repeat (first | exact blk_at_new _ _ _ (by simp; done) | exact blk_at_new _ _ _ rfl | refine blk_alloc ?_ _ | refine blk_drew ?_ | refine blk_drewN ?_ _)) hb); have GLT := Aside0.mk (blk_lt BR.out); have HBn := Aside0.mk (below_step (by repeat (first | (with_reducible first | exact HB.out | apply below_alloc | apply pw_below_drewN | apply below_drew1) | exact HB.out)) hb); clear HB; have HB := HBn; clear HBn; clear hb; have t0 : w1.cell? ⟨w.heap.size, 0, none⟩ = some (.string x.verb) := (blk_cell BX.out 0).trans rfl; have t1 : w1.cell? ⟨w.heap.size, 1, none⟩ = some (.slice (some ⟨b, o, none⟩) x.words.length c1) := (blk_cell BX.out 1).trans rfl; have t2 : w1.cell? ⟨w.heap.size, 2, none⟩ = some (.bool x.quiet) := (blk_cell BX.out 2).trans rfl; have t3 : w1.cell? ⟨w.heap.size, 3, none⟩ = some (.int .i64 x.used) := (blk_cell BX.out 3).trans rfl; have t4 : w1.cell? ⟨w.heap.size, 4, none⟩ = some (.slice A4 x.rest.length c4) := (blk_cell BX.out 4).trans rfl) | (refine wpList_store_K HK.out.now rfl 61 _ _ rfl (w.heap.size + 1) rfl rfl 61 _ BK.out (by kernel_rfl) rfl ?_; intro w2 hbk hlow hfar; have HK2 := Aside0.mk (hfar _ _ (fun h => absurd (h GLT.out).1 (by omega)) HK.out); clear BK; have BK := Aside0.mk hbk; have HL := Aside0.mk hlow; clear hbk hlow hfar) | go_at_call 50; (with_reducible refine (HO1.out _ (by repeat (first | (with_reducible first | exact HB.out | apply below_alloc | apply pw_below_drewN | apply below_drew1) | exact HB.out))).mono ?_); rintro e w1 ⟨⟨cs, rfl, hk⟩, hb⟩; have BK := Aside0.mk (blk_below BR.out hb); have HBn := Aside0.mk (below_step (by repeat (first | (with_reducible first | exact HB.out | apply below_alloc | apply pw_below_drewN | apply below_drew1) | exact HB.out)) hb); clear HB; have HB := HBn; clear HBn; have HK := Aside0.mk hk; clear hb hk)
    ((try simp only [Exit.inBlock, Exit.then]); refine bodyPost_ret (results_cell_row rfl _ _ (w.heap.size + 1) 61 _ (0, 0) _ rfl BK.out Tryz.underlying61 rfl (by rw [List.size_toArray, kStep.K_len HK.out.now]; kernel_rfl)) rfl ?_)
    exact ⟨⟨_, rfl, HK2.out.mono (fun k hk h3 => (hk (by have := GLT.out; omega)).2)⟩, HB.out.trans (HL.out _ (by omega))⟩
  have hn1 : x.words.length = 1 := by omega
  rw [if_neg hn2] at hr
  unfold expF at hr
  rw [if_neg hn] at hr
  obtain ⟨b, o, rfl, hb0, hcell⟩ := S_cell HG.out 0 (by omega)
  obtain ⟨v, hv⟩ : ∃ v, x.words.getD 0 ⟨#[]⟩ = v := ⟨_, rfl⟩
  rw [hv, Nat.add_zero] at hcell
  rw [hv] at hr
  clear hv hn hn2
  have hd0 : decide (0 < (x.words.length : Int)) = true := decide_eq_true (by omega)
  have hd1 : decide ((x.words.length : Int) > 1) = false := decide_eq_false (by omega)
  have hd2 : (0 : Int) < x.words.length := by omega
  have hd3 : (x.words.length : Int) ≤ 1 := by omega
  clear hn1
  obtain ⟨z, hz⟩ : ∃ z, (sgnS v).1 = z := ⟨_, rfl⟩
  obtain ⟨q, hq⟩ : ∃ q, (sgnS v).2 = q := ⟨_, rfl⟩
  have HSG := Aside0.mk (fun w => sgn_w v w)
  rw [hz, hq] at HSG
  rw [hz, hq] at hr
  clear hz hq
  cases q
  · rw [if_neg (by decide)] at hr
    subst hr
    go_enter Tryz.func98, Tryz.ntmps98
    go_wp2_with (first | (go_at_call 134; (with_reducible refine (HSG.out _ (Tabs.below HT.out (by repeat (first | (with_reducible first | exact HB.out | apply below_alloc | apply pw_below_drewN | apply below_drew1) | exact HB.out)))).mono ?_); rintro e w1 ⟨rfl, hb⟩; have BX := Aside0.mk (blk_below (g := w.heap.size) (o := .cells #[.string x.verb, .slice (some ⟨b, o, none⟩) x.words.length c1, .bool x.quiet, .int .i64 x.used, .slice A4 x.rest.length c4] 90 (0, 0)) (by repeat (first | exact blk_at_new _ _ _ (by simp; done) | exact blk_at_new _ _ _ rfl | refine blk_alloc ?_ _ | refine blk_drew ?_ | refine blk_drewN ?_ _)) hb); have BR := Aside0.mk (blk_below (g := w.heap.size + 1) (by repeat (first | exact blk_at_new _ _ _ (by simp; done) | exact blk_at_new _ _ _ rfl | refine blk_alloc ?_ _ | refine blk_drew ?_ | refine blk_drewN ?_ _)) hb); have GLT := Aside0.mk (blk_lt BR.out); have HBn := Aside0.mk (below_step (by repeat (first | (with_reducible first | exact HB.out | apply below_alloc | apply pw_below_drewN | apply below_drew1) | exact HB.out)) hb); clear HB; have HB := HBn; clear HBn; clear hb; have t0 : w1.cell? ⟨w.heap.size, 0, none⟩ = some (.string x.verb) := (blk_cell BX.out 0).trans rfl; have t1 : w1.cell? ⟨w.heap.size, 1, none⟩ = some (.slice (some ⟨b, o, none⟩) x.words.length c1) := (blk_cell BX.out 1).trans rfl; have t2 : w1.cell? ⟨w.heap.size, 2, none⟩ = some (.bool x.quiet) := (blk_cell BX.out 2).trans rfl; have t3 : w1.cell? ⟨w.heap.size, 3, none⟩ = some (.int .i64 x.used) := (blk_cell BX.out 3).trans rfl; have t4 : w1.cell? ⟨w.heap.size, 4, none⟩ = some (.slice A4 x.rest.length c4) := (blk_cell BX.out 4).trans rfl) | (refine wpList_store_K HK.out.now rfl 61 _ _ rfl (w.heap.size + 1) rfl rfl 61 _ BK.out (by kernel_rfl) rfl ?_; intro w2 hbk hlow hfar; have HK2 := Aside0.mk (hfar _ _ (fun h => absurd (h GLT.out).1 (by omega)) HK.out); clear BK; have BK := Aside0.mk hbk; have HL := Aside0.mk hlow; clear hbk hlow hfar) | go_at_call 50; (with_reducible refine (HO2.out _ (by repeat (first | (with_reducible first | exact HB.out | apply below_alloc | apply pw_below_drewN | apply below_drew1) | exact HB.out))).mono ?_); rintro e w1 ⟨⟨cs, rfl, hk⟩, hb⟩; have BK := Aside0.mk (blk_below BR.out hb); have HBn := Aside0.mk (below_step (by repeat (first | (with_reducible first | exact HB.out | apply below_alloc | apply pw_below_drewN | apply below_drew1) | exact HB.out)) hb); clear HB; have HB := HBn; clear HBn; have HK := Aside0.mk hk; clear hb hk)
    ((try simp only [Exit.inBlock, Exit.then]); refine bodyPost_ret (results_cell_row rfl _ _ (w.heap.size + 1) 61 _ (0, 0) _ rfl BK.out Tryz.underlying61 rfl (by rw [List.size_toArray, kStep.K_len HK.out.now]; kernel_rfl)) rfl ?_)
    exact ⟨⟨_, rfl, HK2.out.mono (fun k hk h3 => (hk (by have := GLT.out; omega)).2)⟩, HB.out.trans (HL.out _ (by omega))⟩
  · rw [if_pos rfl] at hr
    subst hr
    go_enter Tryz.func98, Tryz.ntmps98
    go_wp2_with (first | (go_at_call 134; (with_reducible refine (HSG.out _ (Tabs.below HT.out (by repeat (first | (with_reducible first | exact HB.out | apply below_alloc | apply pw_below_drewN | apply below_drew1) | exact HB.out)))).mono ?_); rintro e w1 ⟨rfl, hb⟩; have BX := Aside0.mk (blk_below (g := w.heap.size) (o := .cells #[.string x.verb, .slice (some ⟨b, o, none⟩) x.words.length c1, .bool x.quiet, .int .i64 x.used, .slice A4 x.rest.length c4] 90 (0, 0)) (by repeat (first | exact blk_at_new _ _ _ (by simp; done) | exact blk_at_new _ _ _ rfl | refine blk_alloc ?_ _ | refine blk_drew ?_ | refine blk_drewN ?_ _)) hb); have BR := Aside0.mk (blk_below (g := w.heap.size + 1) (by repeat (first | exact blk_at_new _ _ _ (by simp; done) | exact blk_at_new _ _ _ rfl | refine blk_alloc ?_ _ | refine blk_drew ?_ | refine blk_drewN ?_ _)) hb); have GLT := Aside0.mk (blk_lt BR.out); have HBn := Aside0.mk (below_step (by repeat (first | (with_reducible first | exact HB.out | apply below_alloc | apply pw_below_drewN | apply below_drew1) | exact HB.out)) hb); clear HB; have HB := HBn; clear HBn; clear hb; have t0 : w1.cell? ⟨w.heap.size, 0, none⟩ = some (.string x.verb) := (blk_cell BX.out 0).trans rfl; have t1 : w1.cell? ⟨w.heap.size, 1, none⟩ = some (.slice (some ⟨b, o, none⟩) x.words.length c1) := (blk_cell BX.out 1).trans rfl; have t2 : w1.cell? ⟨w.heap.size, 2, none⟩ = some (.bool x.quiet) := (blk_cell BX.out 2).trans rfl; have t3 : w1.cell? ⟨w.heap.size, 3, none⟩ = some (.int .i64 x.used) := (blk_cell BX.out 3).trans rfl; have t4 : w1.cell? ⟨w.heap.size, 4, none⟩ = some (.slice A4 x.rest.length c4) := (blk_cell BX.out 4).trans rfl) | (refine wpList_store_K HK.out.now rfl 61 _ _ rfl (w.heap.size + 1) rfl rfl 61 _ BK.out (by kernel_rfl) rfl ?_; intro w2 hbk hlow hfar; have HK2 := Aside0.mk (hfar _ _ (fun h => absurd (h GLT.out).1 (by omega)) HK.out); clear BK; have BK := Aside0.mk hbk; have HL := Aside0.mk hlow; clear hbk hlow hfar) | go_at_call 135; (with_reducible refine (HO3.out _ _ (by repeat (first | (with_reducible first | exact HB.out | apply below_alloc | apply pw_below_drewN | apply below_drew1) | exact HB.out))).mono ?_); rintro e w1 ⟨⟨cs, rfl, hk⟩, hb⟩; have BK := Aside0.mk (blk_below BR.out hb); have HBn := Aside0.mk (below_step (by repeat (first | (with_reducible first | exact HB.out | apply below_alloc | apply pw_below_drewN | apply below_drew1) | exact HB.out)) hb); clear HB; have HB := HBn; clear HBn; have HK := Aside0.mk hk; clear hb hk)
    ((try simp only [Exit.inBlock, Exit.then]); refine bodyPost_ret (results_cell_row rfl _ _ (w.heap.size + 1) 61 _ (0, 0) _ rfl BK.out Tryz.underlying61 rfl (by rw [List.size_toArray, kStep.K_len HK.out.now]; kernel_rfl)) rfl ?_)
    exact ⟨⟨_, rfl, HK2.out.mono (fun k hk h3 => (hk (by have := GLT.out; omega)).2)⟩, HB.out.trans (HL.out _ (by omega))⟩
end Go.Proofs.YtdjbbncoioghfaaGreatDoor.X
namespace Go.Proofs.YtdjbbncoioghfaaGreatDoor.X
open Go.RowKit Go.Proofs.YtdjbbncoioghfaaGreatDoorW.PrintWords Go.Proofs.YtdjbbncoioghfaaGreatDoorW.PrintMore
set_option linter.unusedVariables false
set_option linter.unusedSimpArgs false
/-- A command without a key, and the reply if it is wrong. -/
def cloV (op exp delta : Int) (reply : ByteArray) : Value := .tuple #[.agg #[.int .i64 op, .string ⟨#[]⟩, .slice none 0 0, .int .u32 0, .int .i64 exp, .int .u64 0, .int .u64 delta, .int .u64 0, .bool false, .bool false], .string reply]
set_option maxRecDepth 100000 in
theorem other1_calls (word : ByteArray) (w : World) : Calls Tryz.prog 95 #[.string word] w fun e w' => e = .returned (cloV 8 0 0 ⟨#[]⟩) ∧ Below w.heap.size w w' := by
  have HB := Aside0.mk (Below.refl w.heap.size w)
  go_enter Tryz.func95, Tryz.ntmps95
  go_wp2
  ((try simp only [Exit.inBlock, Exit.then]); refine bodyPost_ret (results_ct rfl _ _ (w.heap.size) 57 _ (0, 0) _ rfl (by repeat (first | exact blk_at_new _ _ _ (by simp; done) | exact blk_at_new _ _ _ rfl | refine blk_alloc ?_ _ | refine blk_drew ?_ | refine blk_drewN ?_ _)) Tryz.underlying57 rfl (by kernel_rfl)) rfl ?_)
  exact ⟨rfl, (by repeat (first | (with_reducible first | exact HB.out | apply below_alloc | apply pw_below_drewN | apply below_drew1) | exact HB.out))⟩
theorem wpList_store_A {P : Program} {ops : Array Oper} {rest : List Oper} {o : Oper} {a : Act} {w : World} {Q : Exit → Act → World → Prop}
    (hgd : o.guard = none) (ty : TypeId) (x y : Operand) (ho : o.op = .store ty x y)
    (g : Nat) (cells : Array Value) (hx : a.eval x = .pointer (some ⟨g, 0, none⟩)) (hy : a.eval y = .agg cells)
    (t : TypeId) (old : Array Value) (hg : w.heap[g]? = some (.cells old t (0, 0))) (hi : (P.info? ty).map (·.size) = some cells.size) (hold : old.size = cells.size) (h1 : cells.all (·.oneCell') = true)
    (h : ∀ w', w'.heap[g]? = some (.cells cells t (0, 0)) → (∀ B, B ≤ g → Below B w w') → wpList P ops Q rest (a.put o.dst undef) w') : wpList P ops Q (o :: rest) a w :=
  wpList_store_row hgd ty x y ho g cells hx hy t old hg hi hold h1 (h _ (setRow_heap w g old _ t _ hg) (fun B hB => below_setRow (Below.refl _ _) hB _))
def touchV (z : Int × Bool) : Value := if z.2 = true then cloV 2 z.1 0 ⟨#[]⟩ else cloV 0 0 0 badT
set_option maxRecDepth 100000 in
set_option maxHeartbeats 1000000 in
theorem touch_calls (x : TextinLine) (cx : List Value) (word : ByteArray) (w : World) (hx : kTextinLine.K w x cx) (hT : Tabs w) :
    Calls Tryz.prog 97 #[.agg cx.toArray, .string word] w fun e w' => e = .returned (touchV (sgnS word)) ∧ Below w.heap.size w w' := by
  have HB := Aside0.mk (Below.refl w.heap.size w)
  obtain ⟨A1, c1, A4, c4, rfl, -, -, -, -⟩ := kTextinLine_open hx
  have HT := Aside0.mk hT
  clear hT hx
  have HSG := Aside0.mk (fun w => sgn_w word w)
  unfold touchV
  obtain ⟨z, hz⟩ : ∃ z, sgnS word = z := ⟨_, rfl⟩
  rw [hz] at HSG ⊢
  clear hz
  obtain ⟨z, q⟩ := z
  cases q
  · rw [if_neg (show ¬ (false = true) by decide)]
    go_enter Tryz.func97, Tryz.ntmps97
    go_wp2_with (first | (go_at_call 134; (with_reducible refine (HSG.out _ (Tabs.below HT.out (by repeat (first | (with_reducible first | exact HB.out | apply below_alloc | apply pw_below_drewN | apply below_drew1) | exact HB.out)))).mono ?_); rintro e w1 ⟨rfl, hb⟩; have BR := Aside0.mk (blk_below (g := w.heap.size + 1) (by repeat (first | exact blk_at_new _ _ _ (by simp; done) | exact blk_at_new _ _ _ rfl | refine blk_alloc ?_ _ | refine blk_drew ?_ | refine blk_drewN ?_ _)) hb); have HBn := Aside0.mk (below_step (by repeat (first | (with_reducible first | exact HB.out | apply below_alloc | apply pw_below_drewN | apply below_drew1) | exact HB.out)) hb); clear HB; have HB := HBn; clear HBn; clear hb) | (refine wpList_store_A rfl 57 _ _ rfl (w.heap.size + 1) _ rfl rfl 57 _ BR.out (by kernel_rfl) rfl (by first | kernel_rfl | simp [Value.oneCell']) ?_; intro w2 hbk hlow; clear BR; have BR := Aside0.mk hbk; have HL := Aside0.mk hlow; clear hbk hlow))
    ((try simp only [Exit.inBlock, Exit.then]); refine bodyPost_ret (results_ct rfl _ _ (w.heap.size + 1) 57 _ (0, 0) _ rfl BR.out Tryz.underlying57 rfl (by kernel_rfl)) rfl ?_)
    exact ⟨rfl, HB.out.trans (HL.out _ (by omega))⟩
  · rw [if_pos rfl]
    go_enter Tryz.func97, Tryz.ntmps97
    go_wp2_with (first | (go_at_call 134; (with_reducible refine (HSG.out _ (Tabs.below HT.out (by repeat (first | (with_reducible first | exact HB.out | apply below_alloc | apply pw_below_drewN | apply below_drew1) | exact HB.out)))).mono ?_); rintro e w1 ⟨rfl, hb⟩; have BR := Aside0.mk (blk_below (g := w.heap.size + 1) (by repeat (first | exact blk_at_new _ _ _ (by simp; done) | exact blk_at_new _ _ _ rfl | refine blk_alloc ?_ _ | refine blk_drew ?_ | refine blk_drewN ?_ _)) hb); have HBn := Aside0.mk (below_step (by repeat (first | (with_reducible first | exact HB.out | apply below_alloc | apply pw_below_drewN | apply below_drew1) | exact HB.out)) hb); clear HB; have HB := HBn; clear HBn; clear hb) | (refine wpList_store_A rfl 57 _ _ rfl (w.heap.size + 1) _ rfl rfl 57 _ BR.out (by kernel_rfl) rfl (by first | kernel_rfl | simp [Value.oneCell']) ?_; intro w2 hbk hlow; clear BR; have BR := Aside0.mk hbk; have HL := Aside0.mk hlow; clear hbk hlow))
    ((try simp only [Exit.inBlock, Exit.then]); refine bodyPost_ret (results_ct rfl _ _ (w.heap.size + 1) 57 _ (0, 0) _ rfl BR.out Tryz.underlying57 rfl (by kernel_rfl)) rfl ?_)
    exact ⟨rfl, HB.out.trans (HL.out _ (by omega))⟩
def deltaT : ByteArray := (⟨#[67, 76, 73, 69, 78, 84, 95, 69, 82, 82, 79, 82, 32, 105, 110, 118, 97, 108, 105, 100, 32, 110, 117, 109, 101, 114, 105, 99, 32, 100, 101, 108, 116, 97, 32, 97, 114, 103, 117, 109, 101, 110, 116]⟩ : ByteArray)
def sumV (op : Int) (z : Nat × Bool) : Value := if z.2 = true then cloV op 0 z.1 ⟨#[]⟩ else cloV 0 0 0 deltaT
set_option maxRecDepth 100000 in
set_option maxHeartbeats 1000000 in
theorem sum1_calls (g : Nat) (op : Int) (word : ByteArray) (w : World) (hT : Tabs w) (hop : w.heap[g]? = some (.cells #[.int .i64 op] 3 (0, 0))) :
    Calls Tryz.prog 137 #[.string word, .pointer (some ⟨g, 0, none⟩)] w fun e w' => e = .returned (sumV op (decS word)) ∧ Below w.heap.size w w' := by
  have HB := Aside0.mk (Below.refl w.heap.size w)
  have HT := Aside0.mk hT
  have HOP := Aside0.mk hop
  clear hT hop
  have HSG := Aside0.mk (fun w => dec_w word w)
  unfold sumV
  obtain ⟨z, hz⟩ : ∃ z, decS word = z := ⟨_, rfl⟩
  rw [hz] at HSG ⊢
  clear hz
  obtain ⟨z, q⟩ := z
  cases q
  · rw [if_neg (show ¬ (false = true) by decide)]
    go_enter Tryz.func137, Tryz.ntmps137
    go_wp2_with (first | (go_at_call 84; (with_reducible refine (HSG.out _ (Tabs.below HT.out (by repeat (first | (with_reducible first | exact HB.out | apply below_alloc | apply pw_below_drewN | apply below_drew1) | exact HB.out)))).mono ?_); rintro e w1 ⟨rfl, hb⟩; have BO := blk_below (blk_alloc HOP.out _) hb; have hop1 : w1.cell? ⟨g, 0, none⟩ = some (.int .i64 op) := (blk_cell BO 0).trans rfl; clear BO; have BR := Aside0.mk (blk_below (g := w.heap.size) (by repeat (first | exact blk_at_new _ _ _ (by simp; done) | exact blk_at_new _ _ _ rfl | refine blk_alloc ?_ _ | refine blk_drew ?_ | refine blk_drewN ?_ _)) hb); have HBn := Aside0.mk (below_step (by repeat (first | (with_reducible first | exact HB.out | apply below_alloc | apply pw_below_drewN | apply below_drew1) | exact HB.out)) hb); clear HB; have HB := HBn; clear HBn; clear hb) | (refine wpList_store_A rfl 57 _ _ rfl (w.heap.size) _ rfl rfl 57 _ BR.out (by kernel_rfl) rfl (by first | kernel_rfl | simp [Value.oneCell']) ?_; intro w2 hbk hlow; clear BR; have BR := Aside0.mk hbk; have HL := Aside0.mk hlow; clear hbk hlow))
    ((try simp only [Exit.inBlock, Exit.then]); refine bodyPost_ret (results_ct rfl _ _ (w.heap.size) 57 _ (0, 0) _ rfl BR.out Tryz.underlying57 rfl (by kernel_rfl)) rfl ?_)
    exact ⟨rfl, HB.out.trans (HL.out _ (by omega))⟩
  · rw [if_pos rfl]
    go_enter Tryz.func137, Tryz.ntmps137
    go_wp2_with (first | (go_at_call 84; (with_reducible refine (HSG.out _ (Tabs.below HT.out (by repeat (first | (with_reducible first | exact HB.out | apply below_alloc | apply pw_below_drewN | apply below_drew1) | exact HB.out)))).mono ?_); rintro e w1 ⟨rfl, hb⟩; have BO := blk_below (blk_alloc HOP.out _) hb; have hop1 : w1.cell? ⟨g, 0, none⟩ = some (.int .i64 op) := (blk_cell BO 0).trans rfl; clear BO; have BR := Aside0.mk (blk_below (g := w.heap.size) (by repeat (first | exact blk_at_new _ _ _ (by simp; done) | exact blk_at_new _ _ _ rfl | refine blk_alloc ?_ _ | refine blk_drew ?_ | refine blk_drewN ?_ _)) hb); have HBn := Aside0.mk (below_step (by repeat (first | (with_reducible first | exact HB.out | apply below_alloc | apply pw_below_drewN | apply below_drew1) | exact HB.out)) hb); clear HB; have HB := HBn; clear HBn; clear hb) | (refine wpList_store_A rfl 57 _ _ rfl (w.heap.size) _ rfl rfl 57 _ BR.out (by kernel_rfl) rfl (by first | kernel_rfl | simp [Value.oneCell']) ?_; intro w2 hbk hlow; clear BR; have BR := Aside0.mk hbk; have HL := Aside0.mk hlow; clear hbk hlow))
    ((try simp only [Exit.inBlock, Exit.then]); refine bodyPost_ret (results_ct rfl _ _ (w.heap.size) 57 _ (0, 0) _ rfl BR.out Tryz.underlying57 rfl (by kernel_rfl)) rfl ?_)
    exact ⟨rfl, HB.out.trans (HL.out _ (by omega))⟩
end Go.Proofs.YtdjbbncoioghfaaGreatDoor.X
