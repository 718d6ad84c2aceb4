/- Chapter 15's example: what it computes, and its walk. -/
import Derived.Test.YtkolleohenjhmaaDoorEnc
namespace Go.Proofs.YtkolleohenjhmaaDoor.X
open Go.RowKit Go.Proofs.YtkolleohenjhmaaDoorW.PrintWords Go.Proofs.YtkolleohenjhmaaDoorW.PrintMore
set_option linter.unusedVariables false
set_option linter.unusedSimpArgs false

def butterylaw15_awake.f (k : Nat)  : Option (Bool) := (textout_Encode.f k (([(⟨0, (⟨#[97]⟩ : ByteArray), ([] : List Int), 0, 0, 0, 0, 0, false, false⟩ : S38)] : List (S38))) 0 (⟨#[]⟩ : ByteArray) 0 0 false false (⟨#[]⟩ : ByteArray) ([] : List ByteArray) ([] : List ByteArray) false (([(⟨0, (([120, 121] : List Int)), 1, 0, 0, 0, false, false, false⟩ : S40)] : List (S40)))).bind fun t143 => (if (strOfNums t143).toList = ([86, 65, 76, 85, 69, 32, 97, 32, 49, 32, 50, 13, 10, 120, 121, 13, 10, 69, 78, 68, 13, 10] : List UInt8) then ((textout_Word.f 10).bind fun t146 => (some (t146.toList == ([79, 75] : List UInt8)))) else (some false))
theorem butterylaw15_awake.mono : ∀ k, LeO (butterylaw15_awake.f k ) (butterylaw15_awake.f (k + 1) ) := by
  intro  k
  unfold butterylaw15_awake.f
  repeat' first
      | (with_reducible exact textout_Encode.mono _ _ _ _ _ _ _ _ _ _ _ _ _)
      | (with_reducible exact LeO.refl _)
      | (with_reducible exact LeO.none _)
      | (with_reducible refine LeO.ite ?_ ?_)
      | (with_reducible refine LeO.bind ?_ (fun _ => ?_))
      | exact textout_Encode.mono _ _ _ _ _ _ _ _ _ _ _ _ _
      | exact LeO.none _
      | refine LeO.ite ?_ ?_
      | refine LeO.bind ?_ (fun _ => ?_)
def awC : S38 := ⟨0, (⟨#[97]⟩ : ByteArray), [], 0, 0, 0, 0, 0, false, false⟩
def awX : S40 := ⟨0, [120, 121], 1, 0, 0, 0, false, false, false⟩
theorem reps_one {α : Type} {K : α → List Value → Prop} {k : Nat} {x : α} {cs : List Value} (hl : cs.length = k) (h : K x cs) : Reps K k [x] cs := by
  refine ⟨by simp [hl], fun j p hj => ?_⟩
  cases j with
  | zero =>
    obtain rfl := Option.some.inj hj
    rw [Nat.zero_mul, List.drop_zero, List.take_of_length_le (by omega)]
    exact h
  | succ j => simp at hj
set_option maxHeartbeats 2000000 in
set_option maxRecDepth 100000 in
theorem butterylaw15_awake.calls (k : Nat)  (r : Bool) (w : World) (hT : Tabs w) (h : butterylaw15_awake.f k  = some r) :
    Calls Tryd.prog 8 #[] w fun e w' => e = .returned (.bool r) ∧ Below w.heap.size w w' := by
  have HT := Aside0.mk hT
  have HB := Aside0.mk (Below.refl w.heap.size w)
  clear hT
  obtain ⟨t, hE, h2⟩ := Option.bind_eq_some_iff.mp h
  have HE : Aside0 (textout_Encode.f k [awC] 0 (⟨#[]⟩ : ByteArray) 0 0 false false (⟨#[]⟩ : ByteArray) ([] : List ByteArray) ([] : List ByteArray) false [awX] = some t) := ⟨hE⟩
  have H2 : Aside0 ((if (strOfNums t).toList = ([86, 65, 76, 85, 69, 32, 97, 32, 49, 32, 50, 13, 10, 120, 121, 13, 10, 69, 78, 68, 13, 10] : List UInt8) then ((textout_Word.f 10).bind fun t146 => (some (t146.toList == ([79, 75] : List UInt8)))) else (some false)) = some r) := ⟨h2⟩
  clear h h2 hE
  go_enter Tryd.func8, Tryd.ntmps8
  go_wp2_with (first
    | ((with_reducible refine gate_dst (N := 8) rfl ?_); (first | (refine wp_const_drew rfl _ _ _ rfl _ _ _ _ rfl ?_ Tryd.underlying32 Tryd.underlying5 ?_) | (refine wp_const rfl _ _ _ rfl _ _ _ _ rfl ?_ Tryd.underlying32 Tryd.underlying5 ?_)); (case _ => simp)))
  go_at_call 10
  refine (textout_Encode.calls k _ _ [awC] _ _ _ _ _ _ _ _ _ [] _ _ [] _ _ _ [awX] t _ ?hr0 (Nat.le_refl 1) (Kd.C_nil _ _) (Nat.le_refl 0) (Kd.C_nil _ _) (Nat.le_refl 0) ?hr1 (Nat.le_refl 1) ?hT HE.out).mono ?_
  case hr0 => exact C_at_blk k38 (by repeat first | (apply ha_at; (simp; done)) | apply ha_old) [awC] (by decide) (reps_one rfl (k38_mk _ awC (A2 := none) (c2 := 0) (by decide) (Kd.C_nil _ _)))
  case hr1 => exact C_at_blk k40 (by repeat first | (apply ha_at; (simp; done)) | apply ha_old) [awX] (by decide) (reps_one rfl (k40_mk _ awX (c1 := 2) (by decide) (Bytes_at (by repeat first | (apply ha_at; (simp; done)) | apply ha_old) [120, 121] (by decide) rfl)))
  case hT => exact (Tabs.below HT.out (by repeat (first | (with_reducible first | exact HB.out | apply below_alloc | apply pw_below_drewN | apply below_drew1) | exact HB.out)))
  rintro e w1 ⟨v, rfl, hV, hb⟩
  have HBn := Aside0.mk (below_step (by repeat (first | (with_reducible first | exact HB.out | apply below_alloc | apply pw_below_drewN | apply below_drew1) | exact HB.out)) hb); clear HB; have HB := HBn; clear HBn
  obtain ⟨A, c, rfl, hl, hf⟩ := hV
  have HC := Aside0.mk (Kd.F_now hf)
  clear hf hb hl
  by_cases c2 : (strOfNums t).toList = ([86, 65, 76, 85, 69, 32, 97, 32, 49, 32, 50, 13, 10, 120, 121, 13, 10, 69, 78, 68, 13, 10] : List UInt8)
  · have h2 := H2.out
    rw [if_pos c2] at h2
    obtain ⟨u, hu, h3⟩ := Option.bind_eq_some_iff.mp h2
    have HU := Aside0.mk hu
    obtain rfl := Option.some.inj h3
    have c2b0 : ((strOfNums t).toList == ([86, 65, 76, 85, 69, 32, 97, 32, 49, 32, 50, 13, 10, 120, 121, 13, 10, 69, 78, 68, 13, 10] : List UInt8)) = true := beq_iff_eq.mpr c2
    clear h2 h3 hu c2 H2
    go_wp2_with (first
      | ((with_reducible refine gate_dst (N := 13) rfl ?_); refine wp_strof rfl _ _ _ _ rfl _ _ _ _ rfl Tryd.underlying32 Tryd.underlying5 Tryd.underlying9 HC.out ?_)
      | (go_at_call 12; (with_reducible refine (textout_Word.calls _ _ _ HU.out).mono ?_); rintro e w1 ⟨rfl, ⟨nd, rfl⟩⟩))
    go_ret
    exact ⟨rfl, (by repeat (first | (with_reducible first | exact HB.out | apply below_alloc | apply pw_below_drewN | apply below_drew1) | exact HB.out))⟩
  · have h2 := H2.out
    rw [if_neg c2] at h2
    obtain rfl := Option.some.inj h2
    have c2b0 : ((strOfNums t).toList == ([86, 65, 76, 85, 69, 32, 97, 32, 49, 32, 50, 13, 10, 120, 121, 13, 10, 69, 78, 68, 13, 10] : List UInt8)) = false := beq_eq_false_iff_ne.mpr c2
    clear h2 c2 H2
    go_wp2_with (first
      | ((with_reducible refine gate_dst (N := 13) rfl ?_); refine wp_strof rfl _ _ _ _ rfl _ _ _ _ rfl Tryd.underlying32 Tryd.underlying5 Tryd.underlying9 HC.out ?_))
    go_ret
    exact ⟨rfl, (by repeat (first | (with_reducible first | exact HB.out | apply below_alloc | apply pw_below_drewN | apply below_drew1) | exact HB.out))⟩
section
variable {P : Program}
theorem V_string {w : World} {t e s base : Nat} {ok : Nat → Prop} {v : Value} {xs : List Int} (hs : P.underlying t = some (.slice e)) (he : P.underlying e = some (.int .u8)) (hd : P.underlying s = some .string)
    (h : Kd.V (Kd.int .u8) e w base ok v xs) : (convert t s v).run P w = .ok (.string (strOfNums xs)) w := by
  obtain ⟨A, c, rfl, hl, hf⟩ := h
  exact Kd.C_string hs he hd (Kd.F_now hf)
end
end Go.Proofs.YtkolleohenjhmaaDoor.X
