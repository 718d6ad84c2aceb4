/- Functions of this seat and their contracts, printed by wip/tools/xprint.py (a program of this work, over the kit's printer). -/
import Derived.Test.YtkolleohenjhmaaDoorProg
import Derived.Below
import Derived.Deep.Draws
import Derived.Deep.AppendLies
import Derived.Maps.AppendAt
import Derived.OwnWalk
import Derived.Laws.BytesArg
import Derived.Laws.MakeOwn
import Derived.Laws.OwnMore
import Derived.Deep.OwnRows
import Derived.Tactics
import Derived.Lib.ConvBytes
import Derived.Laws.Slices
import Derived.WalkKit
import Derived.KernelRfl
import Derived.RowKit3
import Derived.Deep.LoopGhost
import Derived.Deep.QuietTactic
import Derived.BigQuiet
import Derived.WideLaws
import Derived.Deep.DeepCutAuto
import Derived.Deep.CutBlock
import Derived.Deep.RegionHeld3
import Derived.Laws.Rows
import Derived.Lib.AppendStr
import Derived.ArgAppend
import Derived.Laws.IdiomCopy
import Derived.OrdersHeld
import Derived.Laws.BitsLemmas
import Derived.RowKit
import Derived.Test.YtkolleohenjhmaaDoorWWords
import Derived.Test.YtkolleohenjhmaaDoorWLast
import Derived.Test.YtkolleohenjhmaaDoorWTab
import Derived.Test.YtkolleohenjhmaaDoorWFour
import Derived.Test.YtkolleohenjhmaaDoorWQPut
import Derived.Test.YtkolleohenjhmaaDoorWApart
import Derived.Test.YtkolleohenjhmaaDoorWArr
import Derived.Test.YtkolleohenjhmaaDoorWZeros
import Derived.Test.YtkolleohenjhmaaDoorWFoot
import Derived.Test.YtkolleohenjhmaaDoorWKept
import Derived.Test.YtkolleohenjhmaaDoorWShare
import Derived.Test.YtkolleohenjhmaaDoorWN
import Derived.Test.YtkolleohenjhmaaDoorWFootNe
import Derived.Test.YtkolleohenjhmaaDoorWAt
import Derived.Test.YtkolleohenjhmaaDoorWEqStruct
import Derived.Test.YtkolleohenjhmaaDoorWRepsOne
import Derived.Test.YtkolleohenjhmaaDoorWInv
import Derived.Test.YtkolleohenjhmaaDoorWInvWords
import Derived.Test.YtkolleohenjhmaaDoorWGuard
import Derived.Test.YtkolleohenjhmaaDoorWNEv
import Derived.Test.YtkolleohenjhmaaDoorWMore
import Derived.Test.YtkolleohenjhmaaDoorAw
import Derived.Test.YtkolleohenjhmaaDoorRefW
namespace Go.Proofs.YtkolleohenjhmaaDoor.X
open Go.RowKit Go.Proofs.YtkolleohenjhmaaDoorW.PrintWords Go.Proofs.YtkolleohenjhmaaDoorW.PrintLast Go.Proofs.YtkolleohenjhmaaDoorW.PrintMore
attribute [local go_sem] max2_int min2_int max_two min_two max_three min_three max_four min_four
set_option linter.unusedVariables false
set_option linter.unusedSimpArgs false

/-! ### butterylaw15_TextoutWords -/
def butterylaw15_TextoutWords.f (k : Nat) (a0 : Int) (a1 : Int) : Option (Bool) := (butterylaw15_awake.f k).bind fun t282 => ((textout_Word.f a0).bind fun t283 => ((textout_Word.f a1).bind fun t284 => (if t282 = true then (if t283.toList = t284.toList then (if t283.toList = ([] : List UInt8) then ((butteryref15_Word.f a0).bind fun t285 => (some ((t283.toList == ([] : List UInt8)) == (t285.toList == ([] : List UInt8))))) else (if a0 = a1 then ((butteryref15_Word.f a0).bind fun t286 => (some ((t283.toList == ([] : List UInt8)) == (t286.toList == ([] : List UInt8))))) else (some false))) else ((butteryref15_Word.f a0).bind fun t287 => (some ((t283.toList == ([] : List UInt8)) == (t287.toList == ([] : List UInt8)))))) else (some false))))
theorem butterylaw15_TextoutWords.mono : ∀ a0 a1 k, LeO (butterylaw15_TextoutWords.f k a0 a1) (butterylaw15_TextoutWords.f (k + 1) a0 a1) := by
  intro a0 a1 k
  unfold butterylaw15_TextoutWords.f
  repeat' first
      | (with_reducible exact butterylaw15_awake.mono _)
      | (with_reducible exact LeO.refl _)
      | (with_reducible exact LeO.none _)
      | (with_reducible refine LeO.ite ?_ ?_)
      | (with_reducible refine LeO.bind ?_ (fun _ => ?_))
      | exact butterylaw15_awake.mono _
      | exact LeO.none _
      | refine LeO.ite ?_ ?_
      | refine LeO.bind ?_ (fun _ => ?_)
set_option maxHeartbeats 8000000 in
set_option maxRecDepth 100000 in
theorem butterylaw15_TextoutWords.calls (k : Nat) (a0 : Int) (a1 : Int) (r : Bool) (w : World) (hT : Tabs w) (h : butterylaw15_TextoutWords.f k a0 a1 = some r) :
    Calls Tryd.prog 7 #[.int .i64 a0, .int .i64 a1] w fun e w' => e = .returned (.bool r) ∧ Below w.heap.size w w' := by
  have HT := Aside0.mk hT
  clear hT
  have HB := Aside0.mk (Below.refl w.heap.size w)
  have H : ((butterylaw15_awake.f k).bind fun t282 => ((textout_Word.f a0).bind fun t283 => ((textout_Word.f a1).bind fun t284 => (if t282 = true then (if t283.toList = t284.toList then (if t283.toList = ([] : List UInt8) then ((butteryref15_Word.f a0).bind fun t285 => (some ((t283.toList == ([] : List UInt8)) == (t285.toList == ([] : List UInt8))))) else (if a0 = a1 then ((butteryref15_Word.f a0).bind fun t286 => (some ((t283.toList == ([] : List UInt8)) == (t286.toList == ([] : List UInt8))))) else (some false))) else ((butteryref15_Word.f a0).bind fun t287 => (some ((t283.toList == ([] : List UInt8)) == (t287.toList == ([] : List UInt8)))))) else (some false))))) = some r := h
  clear h
  replace H := Option.bind_eq_some_iff.mp H
  obtain ⟨t282, A30, H⟩ := H
  replace H : ((textout_Word.f a0).bind fun t283 => ((textout_Word.f a1).bind fun t284 => (if t282 = true then (if t283.toList = t284.toList then (if t283.toList = ([] : List UInt8) then ((butteryref15_Word.f a0).bind fun t285 => (some ((t283.toList == ([] : List UInt8)) == (t285.toList == ([] : List UInt8))))) else (if a0 = a1 then ((butteryref15_Word.f a0).bind fun t286 => (some ((t283.toList == ([] : List UInt8)) == (t286.toList == ([] : List UInt8))))) else (some false))) else ((butteryref15_Word.f a0).bind fun t287 => (some ((t283.toList == ([] : List UInt8)) == (t287.toList == ([] : List UInt8)))))) else (some false)))) = some r := H
  have A3 := Aside0.mk A30
  clear A30
  replace H := Option.bind_eq_some_iff.mp H
  obtain ⟨t283, A40, H⟩ := H
  replace H : ((textout_Word.f a1).bind fun t284 => (if t282 = true then (if t283.toList = t284.toList then (if t283.toList = ([] : List UInt8) then ((butteryref15_Word.f a0).bind fun t285 => (some ((t283.toList == ([] : List UInt8)) == (t285.toList == ([] : List UInt8))))) else (if a0 = a1 then ((butteryref15_Word.f a0).bind fun t286 => (some ((t283.toList == ([] : List UInt8)) == (t286.toList == ([] : List UInt8))))) else (some false))) else ((butteryref15_Word.f a0).bind fun t287 => (some ((t283.toList == ([] : List UInt8)) == (t287.toList == ([] : List UInt8)))))) else (some false))) = some r := H
  have A4 := Aside0.mk A40
  clear A40
  replace H := Option.bind_eq_some_iff.mp H
  obtain ⟨t284, A50, H⟩ := H
  replace H : (if t282 = true then (if t283.toList = t284.toList then (if t283.toList = ([] : List UInt8) then ((butteryref15_Word.f a0).bind fun t285 => (some ((t283.toList == ([] : List UInt8)) == (t285.toList == ([] : List UInt8))))) else (if a0 = a1 then ((butteryref15_Word.f a0).bind fun t286 => (some ((t283.toList == ([] : List UInt8)) == (t286.toList == ([] : List UInt8))))) else (some false))) else ((butteryref15_Word.f a0).bind fun t287 => (some ((t283.toList == ([] : List UInt8)) == (t287.toList == ([] : List UInt8)))))) else (some false)) = some r := H
  have A5 := Aside0.mk A50
  clear A50
  by_cases c6 : t282 = true
  · subst c6
    have H1 : (if t283.toList = t284.toList then (if t283.toList = ([] : List UInt8) then ((butteryref15_Word.f a0).bind fun t285 => (some ((t283.toList == ([] : List UInt8)) == (t285.toList == ([] : List UInt8))))) else (if a0 = a1 then ((butteryref15_Word.f a0).bind fun t286 => (some ((t283.toList == ([] : List UInt8)) == (t286.toList == ([] : List UInt8))))) else (some false))) else ((butteryref15_Word.f a0).bind fun t287 => (some ((t283.toList == ([] : List UInt8)) == (t287.toList == ([] : List UInt8)))))) = some r := by rw [if_pos rfl] at H; exact H
    clear H
    have H := H1
    clear H1
    by_cases c7 : t283.toList = t284.toList
    · rw [if_pos c7] at H
      have c7b0 : (t283.toList == t284.toList) = true := beq_iff_eq.mpr c7
      have c7b1 : (t283.toList != t284.toList) = false := bne_eq_false_iff_eq.mpr c7
      clear c7
      by_cases c8 : t283.toList = ([] : List UInt8)
      · rw [if_pos c8] at H
        have c8b0 : (t283.toList == ([] : List UInt8)) = true := beq_iff_eq.mpr c8
        have c8b1 : (t283.toList != ([] : List UInt8)) = false := bne_eq_false_iff_eq.mpr c8
        clear c8
        replace H := Option.bind_eq_some_iff.mp H
        obtain ⟨t285, A90, H⟩ := H
        replace H : (some ((t283.toList == ([] : List UInt8)) == (t285.toList == ([] : List UInt8)))) = some r := H
        have A9 := Aside0.mk A90
        clear A90
        obtain rfl := Option.some.inj H
        go_enter Tryd.func7, Tryd.ntmps7
        go_wp2_with (first | ((with_reducible refine gate_callee (f := 8) rfl ?_); refine goesL_ (some 8) rfl rfl Tryd.func8 (by kernel_rfl) rfl #[] rfl (by (try simp only [List.map_toArray, List.map_cons, List.map_nil]); first | done | rfl | (simp only [List.length_drop, List.length_take]; rfl)) ?_; (with_reducible refine (butterylaw15_awake.calls k  true _ ?side1 A3.out).mono ?_); (case side1 => exact Tabs.below HT.out (by repeat (first | (with_reducible first | exact HB.out | apply below_alloc | apply pw_below_drewN | apply below_drew1) | exact HB.out))); rintro e w10 ⟨rfl, hb⟩; refine ⟨_, rfl, ?_⟩; have n0_ := Aside0.mk (below_step (by repeat (first | (with_reducible first | exact HB.out | apply below_alloc | apply pw_below_drewN | apply below_drew1) | exact HB.out)) hb); clear HB; have HB := n0_; clear n0_; (try clear hb); (try clear hb2); (try clear hk); (try clear hi)) | ((with_reducible refine gate_callee (f := 12) rfl ?_); refine goesL_ (some 10) rfl rfl Tryd.func12 (by kernel_rfl) rfl #[.int .i64 a0] rfl (by (try simp only [List.map_toArray, List.map_cons, List.map_nil]); first | done | rfl | (simp only [List.length_drop, List.length_take]; rfl)) ?_; (with_reducible refine (textout_Word.calls a0 t283 _ A4.out).mono ?_); rintro e w' ⟨rfl, ⟨nd, rfl⟩⟩; refine ⟨_, rfl, ?_⟩) | ((with_reducible refine gate_callee (f := 12) rfl ?_); refine goesL_ (some 12) rfl rfl Tryd.func12 (by kernel_rfl) rfl #[.int .i64 a1] rfl (by (try simp only [List.map_toArray, List.map_cons, List.map_nil]); first | done | rfl | (simp only [List.length_drop, List.length_take]; rfl)) ?_; (with_reducible refine (textout_Word.calls a1 t284 _ A5.out).mono ?_); rintro e w' ⟨rfl, ⟨nd, rfl⟩⟩; refine ⟨_, rfl, ?_⟩) | (go_at_call 13; (with_reducible refine (butteryref15_Word.calls a0 t285 _ A9.out).mono ?_); rintro e w' ⟨rfl, ⟨nd, rfl⟩⟩))
        go_ret
        exact ⟨by first | rfl | (simp <;> rfl) | (simp [*] <;> rfl), by repeat (first | (with_reducible first | exact HB.out | apply below_alloc | apply pw_below_drewN | apply below_drew1) | exact HB.out)⟩
      · rw [if_neg c8] at H
        have c8b0 : (t283.toList == ([] : List UInt8)) = false := beq_eq_false_iff_ne.mpr c8
        have c8b1 : (t283.toList != ([] : List UInt8)) = true := bne_iff_ne.mpr c8
        by_cases c11 : a0 = a1
        · rw [if_pos c11] at H
          have c11b0 : (a0 == a1) = true := beq_iff_eq.mpr c11
          have c11b1 : (a0 != a1) = false := bne_eq_false_iff_eq.mpr c11
          clear c11
          replace H := Option.bind_eq_some_iff.mp H
          obtain ⟨t286, A120, H⟩ := H
          replace H : (some ((t283.toList == ([] : List UInt8)) == (t286.toList == ([] : List UInt8)))) = some r := H
          have A12 := Aside0.mk A120
          clear A120
          obtain rfl := Option.some.inj H
          go_enter Tryd.func7, Tryd.ntmps7
          go_wp2_with (first | ((with_reducible refine gate_callee (f := 8) rfl ?_); refine goesL_ (some 8) rfl rfl Tryd.func8 (by kernel_rfl) rfl #[] rfl (by (try simp only [List.map_toArray, List.map_cons, List.map_nil]); first | done | rfl | (simp only [List.length_drop, List.length_take]; rfl)) ?_; (with_reducible refine (butterylaw15_awake.calls k  true _ ?side1 A3.out).mono ?_); (case side1 => exact Tabs.below HT.out (by repeat (first | (with_reducible first | exact HB.out | apply below_alloc | apply pw_below_drewN | apply below_drew1) | exact HB.out))); rintro e w13 ⟨rfl, hb⟩; refine ⟨_, rfl, ?_⟩; have n0_ := Aside0.mk (below_step (by repeat (first | (with_reducible first | exact HB.out | apply below_alloc | apply pw_below_drewN | apply below_drew1) | exact HB.out)) hb); clear HB; have HB := n0_; clear n0_; (try clear hb); (try clear hb2); (try clear hk); (try clear hi)) | ((with_reducible refine gate_callee (f := 12) rfl ?_); refine goesL_ (some 10) rfl rfl Tryd.func12 (by kernel_rfl) rfl #[.int .i64 a0] rfl (by (try simp only [List.map_toArray, List.map_cons, List.map_nil]); first | done | rfl | (simp only [List.length_drop, List.length_take]; rfl)) ?_; (with_reducible refine (textout_Word.calls a0 t283 _ A4.out).mono ?_); rintro e w' ⟨rfl, ⟨nd, rfl⟩⟩; refine ⟨_, rfl, ?_⟩) | ((with_reducible refine gate_callee (f := 12) rfl ?_); refine goesL_ (some 12) rfl rfl Tryd.func12 (by kernel_rfl) rfl #[.int .i64 a1] rfl (by (try simp only [List.map_toArray, List.map_cons, List.map_nil]); first | done | rfl | (simp only [List.length_drop, List.length_take]; rfl)) ?_; (with_reducible refine (textout_Word.calls a1 t284 _ A5.out).mono ?_); rintro e w' ⟨rfl, ⟨nd, rfl⟩⟩; refine ⟨_, rfl, ?_⟩) | (go_at_call 13; (with_reducible refine (butteryref15_Word.calls a0 t286 _ A12.out).mono ?_); rintro e w' ⟨rfl, ⟨nd, rfl⟩⟩))
          go_ret
          exact ⟨by first | rfl | (simp <;> rfl) | (simp [*] <;> rfl), by repeat (first | (with_reducible first | exact HB.out | apply below_alloc | apply pw_below_drewN | apply below_drew1) | exact HB.out)⟩
        · rw [if_neg c11] at H
          have c11b0 : (a0 == a1) = false := beq_eq_false_iff_ne.mpr c11
          have c11b1 : (a0 != a1) = true := bne_iff_ne.mpr c11
          obtain rfl := Option.some.inj H
          go_enter Tryd.func7, Tryd.ntmps7
          go_wp2_with (first | ((with_reducible refine gate_callee (f := 8) rfl ?_); refine goesL_ (some 8) rfl rfl Tryd.func8 (by kernel_rfl) rfl #[] rfl (by (try simp only [List.map_toArray, List.map_cons, List.map_nil]); first | done | rfl | (simp only [List.length_drop, List.length_take]; rfl)) ?_; (with_reducible refine (butterylaw15_awake.calls k  true _ ?side1 A3.out).mono ?_); (case side1 => exact Tabs.below HT.out (by repeat (first | (with_reducible first | exact HB.out | apply below_alloc | apply pw_below_drewN | apply below_drew1) | exact HB.out))); rintro e w14 ⟨rfl, hb⟩; refine ⟨_, rfl, ?_⟩; have n0_ := Aside0.mk (below_step (by repeat (first | (with_reducible first | exact HB.out | apply below_alloc | apply pw_below_drewN | apply below_drew1) | exact HB.out)) hb); clear HB; have HB := n0_; clear n0_; (try clear hb); (try clear hb2); (try clear hk); (try clear hi)) | ((with_reducible refine gate_callee (f := 12) rfl ?_); refine goesL_ (some 10) rfl rfl Tryd.func12 (by kernel_rfl) rfl #[.int .i64 a0] rfl (by (try simp only [List.map_toArray, List.map_cons, List.map_nil]); first | done | rfl | (simp only [List.length_drop, List.length_take]; rfl)) ?_; (with_reducible refine (textout_Word.calls a0 t283 _ A4.out).mono ?_); rintro e w' ⟨rfl, ⟨nd, rfl⟩⟩; refine ⟨_, rfl, ?_⟩) | ((with_reducible refine gate_callee (f := 12) rfl ?_); refine goesL_ (some 12) rfl rfl Tryd.func12 (by kernel_rfl) rfl #[.int .i64 a1] rfl (by (try simp only [List.map_toArray, List.map_cons, List.map_nil]); first | done | rfl | (simp only [List.length_drop, List.length_take]; rfl)) ?_; (with_reducible refine (textout_Word.calls a1 t284 _ A5.out).mono ?_); rintro e w' ⟨rfl, ⟨nd, rfl⟩⟩; refine ⟨_, rfl, ?_⟩))
          go_ret
          exact ⟨by first | rfl | (simp <;> rfl) | (simp [*] <;> rfl), by repeat (first | (with_reducible first | exact HB.out | apply below_alloc | apply pw_below_drewN | apply below_drew1) | exact HB.out)⟩
    · rw [if_neg c7] at H
      have c7b0 : (t283.toList == t284.toList) = false := beq_eq_false_iff_ne.mpr c7
      have c7b1 : (t283.toList != t284.toList) = true := bne_iff_ne.mpr c7
      replace H := Option.bind_eq_some_iff.mp H
      obtain ⟨t287, A150, H⟩ := H
      replace H : (some ((t283.toList == ([] : List UInt8)) == (t287.toList == ([] : List UInt8)))) = some r := H
      have A15 := Aside0.mk A150
      clear A150
      obtain rfl := Option.some.inj H
      go_enter Tryd.func7, Tryd.ntmps7
      go_wp2_with (first | ((with_reducible refine gate_callee (f := 8) rfl ?_); refine goesL_ (some 8) rfl rfl Tryd.func8 (by kernel_rfl) rfl #[] rfl (by (try simp only [List.map_toArray, List.map_cons, List.map_nil]); first | done | rfl | (simp only [List.length_drop, List.length_take]; rfl)) ?_; (with_reducible refine (butterylaw15_awake.calls k  true _ ?side1 A3.out).mono ?_); (case side1 => exact Tabs.below HT.out (by repeat (first | (with_reducible first | exact HB.out | apply below_alloc | apply pw_below_drewN | apply below_drew1) | exact HB.out))); rintro e w16 ⟨rfl, hb⟩; refine ⟨_, rfl, ?_⟩; have n0_ := Aside0.mk (below_step (by repeat (first | (with_reducible first | exact HB.out | apply below_alloc | apply pw_below_drewN | apply below_drew1) | exact HB.out)) hb); clear HB; have HB := n0_; clear n0_; (try clear hb); (try clear hb2); (try clear hk); (try clear hi)) | ((with_reducible refine gate_callee (f := 12) rfl ?_); refine goesL_ (some 10) rfl rfl Tryd.func12 (by kernel_rfl) rfl #[.int .i64 a0] rfl (by (try simp only [List.map_toArray, List.map_cons, List.map_nil]); first | done | rfl | (simp only [List.length_drop, List.length_take]; rfl)) ?_; (with_reducible refine (textout_Word.calls a0 t283 _ A4.out).mono ?_); rintro e w' ⟨rfl, ⟨nd, rfl⟩⟩; refine ⟨_, rfl, ?_⟩) | ((with_reducible refine gate_callee (f := 12) rfl ?_); refine goesL_ (some 12) rfl rfl Tryd.func12 (by kernel_rfl) rfl #[.int .i64 a1] rfl (by (try simp only [List.map_toArray, List.map_cons, List.map_nil]); first | done | rfl | (simp only [List.length_drop, List.length_take]; rfl)) ?_; (with_reducible refine (textout_Word.calls a1 t284 _ A5.out).mono ?_); rintro e w' ⟨rfl, ⟨nd, rfl⟩⟩; refine ⟨_, rfl, ?_⟩) | (go_at_call 13; (with_reducible refine (butteryref15_Word.calls a0 t287 _ A15.out).mono ?_); rintro e w' ⟨rfl, ⟨nd, rfl⟩⟩))
      go_ret
      exact ⟨by first | rfl | (simp <;> rfl) | (simp [*] <;> rfl), by repeat (first | (with_reducible first | exact HB.out | apply below_alloc | apply pw_below_drewN | apply below_drew1) | exact HB.out)⟩
  · replace c6 := Bool.eq_false_iff.mpr c6
    subst c6
    have H1 : (some false) = some r := by rw [if_neg (show ¬ (false = true) by decide)] at H; exact H
    clear H
    have H := H1
    clear H1
    obtain rfl := Option.some.inj H
    go_enter Tryd.func7, Tryd.ntmps7
    go_wp2_with (first | ((with_reducible refine gate_callee (f := 8) rfl ?_); refine goesL_ (some 8) rfl rfl Tryd.func8 (by kernel_rfl) rfl #[] rfl (by (try simp only [List.map_toArray, List.map_cons, List.map_nil]); first | done | rfl | (simp only [List.length_drop, List.length_take]; rfl)) ?_; (with_reducible refine (butterylaw15_awake.calls k  false _ ?side1 A3.out).mono ?_); (case side1 => exact Tabs.below HT.out (by repeat (first | (with_reducible first | exact HB.out | apply below_alloc | apply pw_below_drewN | apply below_drew1) | exact HB.out))); rintro e w17 ⟨rfl, hb⟩; refine ⟨_, rfl, ?_⟩; have n0_ := Aside0.mk (below_step (by repeat (first | (with_reducible first | exact HB.out | apply below_alloc | apply pw_below_drewN | apply below_drew1) | exact HB.out)) hb); clear HB; have HB := n0_; clear n0_; (try clear hb); (try clear hb2); (try clear hk); (try clear hi)) | ((with_reducible refine gate_callee (f := 12) rfl ?_); refine goesL_ (some 10) rfl rfl Tryd.func12 (by kernel_rfl) rfl #[.int .i64 a0] rfl (by (try simp only [List.map_toArray, List.map_cons, List.map_nil]); first | done | rfl | (simp only [List.length_drop, List.length_take]; rfl)) ?_; (with_reducible refine (textout_Word.calls a0 t283 _ A4.out).mono ?_); rintro e w' ⟨rfl, ⟨nd, rfl⟩⟩; refine ⟨_, rfl, ?_⟩) | ((with_reducible refine gate_callee (f := 12) rfl ?_); refine goesL_ (some 12) rfl rfl Tryd.func12 (by kernel_rfl) rfl #[.int .i64 a1] rfl (by (try simp only [List.map_toArray, List.map_cons, List.map_nil]); first | done | rfl | (simp only [List.length_drop, List.length_take]; rfl)) ?_; (with_reducible refine (textout_Word.calls a1 t284 _ A5.out).mono ?_); rintro e w' ⟨rfl, ⟨nd, rfl⟩⟩; refine ⟨_, rfl, ?_⟩))
    go_ret
    exact ⟨by first | rfl | (simp <;> rfl) | (simp [*] <;> rfl), by repeat (first | (with_reducible first | exact HB.out | apply below_alloc | apply pw_below_drewN | apply below_drew1) | exact HB.out)⟩

end Go.Proofs.YtkolleohenjhmaaDoor.X
