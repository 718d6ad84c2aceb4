/- Functions of this seat and their contracts, printed by wip/tools/xprint.py (a program of this work, over the kit's printer). -/
import Derived.Test.YtkolleohenjhmaaDoorProg
import Derived.Below
import Derived.Deep.Draws
import Derived.Deep.AppendLies
import Derived.Maps.AppendAt
import Derived.OwnWalk
import Derived.Laws.BytesArg
import Derived.Laws.MakeOwn
import Derived.Laws.OwnMore
import Derived.Deep.OwnRows
import Derived.Tactics
import Derived.Lib.ConvBytes
import Derived.Laws.Slices
import Derived.WalkKit
import Derived.KernelRfl
import Derived.RowKit3
import Derived.Deep.LoopGhost
import Derived.Deep.QuietTactic
import Derived.BigQuiet
import Derived.WideLaws
import Derived.Deep.DeepCutAuto
import Derived.Deep.CutBlock
import Derived.Deep.RegionHeld3
import Derived.Laws.Rows
import Derived.Lib.AppendStr
import Derived.ArgAppend
import Derived.Laws.IdiomCopy
import Derived.OrdersHeld
import Derived.Laws.BitsLemmas
import Derived.RowKit
import Derived.Test.YtkolleohenjhmaaDoorWWords
import Derived.Test.YtkolleohenjhmaaDoorWLast
import Derived.Test.YtkolleohenjhmaaDoorWTab
import Derived.Test.YtkolleohenjhmaaDoorWFour
import Derived.Test.YtkolleohenjhmaaDoorWQPut
import Derived.Test.YtkolleohenjhmaaDoorWApart
import Derived.Test.YtkolleohenjhmaaDoorWArr
import Derived.Test.YtkolleohenjhmaaDoorWZeros
import Derived.Test.YtkolleohenjhmaaDoorWFoot
import Derived.Test.YtkolleohenjhmaaDoorWKept
import Derived.Test.YtkolleohenjhmaaDoorWShare
import Derived.Test.YtkolleohenjhmaaDoorWN
import Derived.Test.YtkolleohenjhmaaDoorWFootNe
import Derived.Test.YtkolleohenjhmaaDoorWAt
import Derived.Test.YtkolleohenjhmaaDoorWEqStruct
import Derived.Test.YtkolleohenjhmaaDoorWRepsOne
import Derived.Test.YtkolleohenjhmaaDoorWInv
import Derived.Test.YtkolleohenjhmaaDoorWInvWords
import Derived.Test.YtkolleohenjhmaaDoorWGuard
import Derived.Test.YtkolleohenjhmaaDoorWNEv
import Derived.Test.YtkolleohenjhmaaDoorWMore
import Derived.Test.YtkolleohenjhmaaDoorx0
namespace Go.Proofs.YtkolleohenjhmaaDoor.X
open Go.RowKit Go.Proofs.YtkolleohenjhmaaDoorW.PrintWords Go.Proofs.YtkolleohenjhmaaDoorW.PrintLast Go.Proofs.YtkolleohenjhmaaDoorW.PrintMore
attribute [local go_sem] max2_int min2_int max_two min_two max_three min_three max_four min_four
set_option linter.unusedVariables false
set_option linter.unusedSimpArgs false

/-! ### butteryref15_Word -/
def butteryref15_Word.f (a0 : Int) : Option (ByteArray) := if a0 = 1 then (some (⟨#[78, 79, 84, 95, 70, 79, 85, 78, 68]⟩ : ByteArray)) else (if a0 = 2 then (some (⟨#[83, 84, 79, 82, 69, 68]⟩ : ByteArray)) else (if a0 = 3 then (some (⟨#[78, 79, 84, 95, 83, 84, 79, 82, 69, 68]⟩ : ByteArray)) else (if a0 = 4 then (some (⟨#[69, 88, 73, 83, 84, 83]⟩ : ByteArray)) else (if a0 = 5 then (some (⟨#[68, 69, 76, 69, 84, 69, 68]⟩ : ByteArray)) else (if a0 = 6 then (some (⟨#[84, 79, 85, 67, 72, 69, 68]⟩ : ByteArray)) else (if a0 = 8 then (some (⟨#[67, 76, 73, 69, 78, 84, 95, 69, 82, 82, 79, 82, 32, 99, 97, 110, 110, 111, 116, 32, 105, 110, 99, 114, 101, 109, 101, 110, 116, 32, 111, 114, 32, 100, 101, 99, 114, 101, 109, 101, 110, 116, 32, 110, 111, 110, 45, 110, 117, 109, 101, 114, 105, 99, 32, 118, 97, 108, 117, 101]⟩ : ByteArray)) else (if a0 = 9 then (some (⟨#[83, 69, 82, 86, 69, 82, 95, 69, 82, 82, 79, 82, 32, 111, 117, 116, 32, 111, 102, 32, 109, 101, 109, 111, 114, 121, 32, 115, 116, 111, 114, 105, 110, 103, 32, 111, 98, 106, 101, 99, 116]⟩ : ByteArray)) else (if a0 = 10 then (some (⟨#[79, 75]⟩ : ByteArray)) else (if a0 = 11 then (some (⟨#[86, 69, 82, 83, 73, 79, 78, 32, 49]⟩ : ByteArray)) else (some (⟨#[]⟩ : ByteArray)))))))))))
set_option maxHeartbeats 8000000 in
set_option maxRecDepth 100000 in
theorem butteryref15_Word.calls (a0 : Int) (r : ByteArray) (w : World) (h : butteryref15_Word.f a0 = some r) :
    Calls Tryd.prog 13 #[.int .i64 a0] w fun e w' => e = .returned (.string r) ∧ Drawn0 w w' := by
  have H : (if a0 = 1 then (some (⟨#[78, 79, 84, 95, 70, 79, 85, 78, 68]⟩ : ByteArray)) else (if a0 = 2 then (some (⟨#[83, 84, 79, 82, 69, 68]⟩ : ByteArray)) else (if a0 = 3 then (some (⟨#[78, 79, 84, 95, 83, 84, 79, 82, 69, 68]⟩ : ByteArray)) else (if a0 = 4 then (some (⟨#[69, 88, 73, 83, 84, 83]⟩ : ByteArray)) else (if a0 = 5 then (some (⟨#[68, 69, 76, 69, 84, 69, 68]⟩ : ByteArray)) else (if a0 = 6 then (some (⟨#[84, 79, 85, 67, 72, 69, 68]⟩ : ByteArray)) else (if a0 = 8 then (some (⟨#[67, 76, 73, 69, 78, 84, 95, 69, 82, 82, 79, 82, 32, 99, 97, 110, 110, 111, 116, 32, 105, 110, 99, 114, 101, 109, 101, 110, 116, 32, 111, 114, 32, 100, 101, 99, 114, 101, 109, 101, 110, 116, 32, 110, 111, 110, 45, 110, 117, 109, 101, 114, 105, 99, 32, 118, 97, 108, 117, 101]⟩ : ByteArray)) else (if a0 = 9 then (some (⟨#[83, 69, 82, 86, 69, 82, 95, 69, 82, 82, 79, 82, 32, 111, 117, 116, 32, 111, 102, 32, 109, 101, 109, 111, 114, 121, 32, 115, 116, 111, 114, 105, 110, 103, 32, 111, 98, 106, 101, 99, 116]⟩ : ByteArray)) else (if a0 = 10 then (some (⟨#[79, 75]⟩ : ByteArray)) else (if a0 = 11 then (some (⟨#[86, 69, 82, 83, 73, 79, 78, 32, 49]⟩ : ByteArray)) else (some (⟨#[]⟩ : ByteArray)))))))))))) = some r := h
  clear h
  by_cases c2 : a0 = 1
  · rw [if_pos c2] at H
    have c2b0 : (a0 == 1) = true := beq_iff_eq.mpr c2
    have c2b1 : (a0 != 1) = false := bne_eq_false_iff_eq.mpr c2
    clear c2
    obtain rfl := Option.some.inj H
    go_enter Tryd.func13, Tryd.ntmps13
    go_wp2
    go_ret
    exact ⟨by first | rfl | (simp; done) | (simp [*]; done), by repeat (first | exact Drawn0.refl _ | apply Drawn0.step)⟩
  · rw [if_neg c2] at H
    have c2b0 : (a0 == 1) = false := beq_eq_false_iff_ne.mpr c2
    have c2b1 : (a0 != 1) = true := bne_iff_ne.mpr c2
    by_cases c3 : a0 = 2
    · rw [if_pos c3] at H
      have c3b0 : (a0 == 2) = true := beq_iff_eq.mpr c3
      have c3b1 : (a0 != 2) = false := bne_eq_false_iff_eq.mpr c3
      clear c3
      obtain rfl := Option.some.inj H
      go_enter Tryd.func13, Tryd.ntmps13
      go_wp2
      go_ret
      exact ⟨by first | rfl | (simp; done) | (simp [*]; done), by repeat (first | exact Drawn0.refl _ | apply Drawn0.step)⟩
    · rw [if_neg c3] at H
      have c3b0 : (a0 == 2) = false := beq_eq_false_iff_ne.mpr c3
      have c3b1 : (a0 != 2) = true := bne_iff_ne.mpr c3
      by_cases c4 : a0 = 3
      · rw [if_pos c4] at H
        have c4b0 : (a0 == 3) = true := beq_iff_eq.mpr c4
        have c4b1 : (a0 != 3) = false := bne_eq_false_iff_eq.mpr c4
        clear c4
        obtain rfl := Option.some.inj H
        go_enter Tryd.func13, Tryd.ntmps13
        go_wp2
        go_ret
        exact ⟨by first | rfl | (simp; done) | (simp [*]; done), by repeat (first | exact Drawn0.refl _ | apply Drawn0.step)⟩
      · rw [if_neg c4] at H
        have c4b0 : (a0 == 3) = false := beq_eq_false_iff_ne.mpr c4
        have c4b1 : (a0 != 3) = true := bne_iff_ne.mpr c4
        by_cases c5 : a0 = 4
        · rw [if_pos c5] at H
          have c5b0 : (a0 == 4) = true := beq_iff_eq.mpr c5
          have c5b1 : (a0 != 4) = false := bne_eq_false_iff_eq.mpr c5
          clear c5
          obtain rfl := Option.some.inj H
          go_enter Tryd.func13, Tryd.ntmps13
          go_wp2
          go_ret
          exact ⟨by first | rfl | (simp; done) | (simp [*]; done), by repeat (first | exact Drawn0.refl _ | apply Drawn0.step)⟩
        · rw [if_neg c5] at H
          have c5b0 : (a0 == 4) = false := beq_eq_false_iff_ne.mpr c5
          have c5b1 : (a0 != 4) = true := bne_iff_ne.mpr c5
          by_cases c6 : a0 = 5
          · rw [if_pos c6] at H
            have c6b0 : (a0 == 5) = true := beq_iff_eq.mpr c6
            have c6b1 : (a0 != 5) = false := bne_eq_false_iff_eq.mpr c6
            clear c6
            obtain rfl := Option.some.inj H
            go_enter Tryd.func13, Tryd.ntmps13
            go_wp2
            go_ret
            exact ⟨by first | rfl | (simp; done) | (simp [*]; done), by repeat (first | exact Drawn0.refl _ | apply Drawn0.step)⟩
          · rw [if_neg c6] at H
            have c6b0 : (a0 == 5) = false := beq_eq_false_iff_ne.mpr c6
            have c6b1 : (a0 != 5) = true := bne_iff_ne.mpr c6
            by_cases c7 : a0 = 6
            · rw [if_pos c7] at H
              have c7b0 : (a0 == 6) = true := beq_iff_eq.mpr c7
              have c7b1 : (a0 != 6) = false := bne_eq_false_iff_eq.mpr c7
              clear c7
              obtain rfl := Option.some.inj H
              go_enter Tryd.func13, Tryd.ntmps13
              go_wp2
              go_ret
              exact ⟨by first | rfl | (simp; done) | (simp [*]; done), by repeat (first | exact Drawn0.refl _ | apply Drawn0.step)⟩
            · rw [if_neg c7] at H
              have c7b0 : (a0 == 6) = false := beq_eq_false_iff_ne.mpr c7
              have c7b1 : (a0 != 6) = true := bne_iff_ne.mpr c7
              by_cases c8 : a0 = 8
              · rw [if_pos c8] at H
                have c8b0 : (a0 == 8) = true := beq_iff_eq.mpr c8
                have c8b1 : (a0 != 8) = false := bne_eq_false_iff_eq.mpr c8
                clear c8
                obtain rfl := Option.some.inj H
                go_enter Tryd.func13, Tryd.ntmps13
                go_wp2
                go_ret
                exact ⟨by first | rfl | (simp; done) | (simp [*]; done), by repeat (first | exact Drawn0.refl _ | apply Drawn0.step)⟩
              · rw [if_neg c8] at H
                have c8b0 : (a0 == 8) = false := beq_eq_false_iff_ne.mpr c8
                have c8b1 : (a0 != 8) = true := bne_iff_ne.mpr c8
                by_cases c9 : a0 = 9
                · rw [if_pos c9] at H
                  have c9b0 : (a0 == 9) = true := beq_iff_eq.mpr c9
                  have c9b1 : (a0 != 9) = false := bne_eq_false_iff_eq.mpr c9
                  clear c9
                  obtain rfl := Option.some.inj H
                  go_enter Tryd.func13, Tryd.ntmps13
                  go_wp2
                  go_ret
                  exact ⟨by first | rfl | (simp; done) | (simp [*]; done), by repeat (first | exact Drawn0.refl _ | apply Drawn0.step)⟩
                · rw [if_neg c9] at H
                  have c9b0 : (a0 == 9) = false := beq_eq_false_iff_ne.mpr c9
                  have c9b1 : (a0 != 9) = true := bne_iff_ne.mpr c9
                  by_cases c10 : a0 = 10
                  · rw [if_pos c10] at H
                    have c10b0 : (a0 == 10) = true := beq_iff_eq.mpr c10
                    have c10b1 : (a0 != 10) = false := bne_eq_false_iff_eq.mpr c10
                    clear c10
                    obtain rfl := Option.some.inj H
                    go_enter Tryd.func13, Tryd.ntmps13
                    go_wp2
                    go_ret
                    exact ⟨by first | rfl | (simp; done) | (simp [*]; done), by repeat (first | exact Drawn0.refl _ | apply Drawn0.step)⟩
                  · rw [if_neg c10] at H
                    have c10b0 : (a0 == 10) = false := beq_eq_false_iff_ne.mpr c10
                    have c10b1 : (a0 != 10) = true := bne_iff_ne.mpr c10
                    by_cases c11 : a0 = 11
                    · rw [if_pos c11] at H
                      have c11b0 : (a0 == 11) = true := beq_iff_eq.mpr c11
                      have c11b1 : (a0 != 11) = false := bne_eq_false_iff_eq.mpr c11
                      clear c11
                      obtain rfl := Option.some.inj H
                      go_enter Tryd.func13, Tryd.ntmps13
                      go_wp2
                      go_ret
                      exact ⟨by first | rfl | (simp; done) | (simp [*]; done), by repeat (first | exact Drawn0.refl _ | apply Drawn0.step)⟩
                    · rw [if_neg c11] at H
                      have c11b0 : (a0 == 11) = false := beq_eq_false_iff_ne.mpr c11
                      have c11b1 : (a0 != 11) = true := bne_iff_ne.mpr c11
                      obtain rfl := Option.some.inj H
                      go_enter Tryd.func13, Tryd.ntmps13
                      go_wp2
                      go_ret
                      exact ⟨by first | rfl | (simp; done) | (simp [*]; done), by repeat (first | exact Drawn0.refl _ | apply Drawn0.step)⟩

end Go.Proofs.YtkolleohenjhmaaDoor.X
