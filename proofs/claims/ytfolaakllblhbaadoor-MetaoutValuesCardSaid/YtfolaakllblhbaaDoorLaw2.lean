/- Chapter 19's example: 'awake' says yes. -/
import Derived.Test.YtfolaakllblhbaaDoorMeta4
namespace Go.Proofs.YtfolaakllblhbaaDoor.X
open Go.RowKit Go.Proofs.YtfolaakllblhbaaDoorW.PrintWords
set_option linter.unusedVariables false
set_option linter.unusedSimpArgs false

def awC : Cmd := { zCmd with op := 12, key := (⟨#[107]⟩ : ByteArray) }
def awQ : Request := { zRequest with cmds := [awC], form := { zForm with flags := (⟨#[116, 118]⟩ : ByteArray), tokens := [(⟨#[]⟩ : ByteArray), (⟨#[]⟩ : ByteArray)] } }
def awX : Result := { zResult with status := 0, value := [120, 121], ttl := -1 }
theorem awEnc : mEncode awQ [awX] = [86, 65, 32, 50, 32, 116, 45, 49, 13, 10, 120, 121, 13, 10] := by
  have h1 : showI 2 = (⟨#[50]⟩ : ByteArray) := by unfold showI; rw [show (2 : Int).toNat = 2 from rfl, Lib.decDigits, dif_pos (by omega)]; rfl
  have hv : mValue awX = (⟨#[120, 121]⟩ : ByteArray) := by rfl
  have hf : mFlags awQ awX = (⟨#[32, 116, 45, 49]⟩ : ByteArray) := by rfl
  show mOne awQ 12 awX = _
  unfold mOne
  rw [if_neg (by decide), if_neg (by decide), if_pos ⟨Or.inl rfl, by rfl⟩]
  unfold mFull
  rw [hv, hf]
  show bytesOf ((⟨#[86, 65, 32]⟩ : ByteArray) ++ showI 2 ++ (⟨#[32, 116, 45, 49]⟩ : ByteArray) ++ (⟨#[13, 10]⟩ : ByteArray) ++ (⟨#[120, 121]⟩ : ByteArray) ++ (⟨#[13, 10]⟩ : ByteArray)) = _
  rw [h1]
  rfl
theorem reps_one {α : Type} {K : α → List Value → Prop} {k : Nat} {x : α} {cs : List Value} (hl : cs.length = k) (h : K x cs) : Reps K k [x] cs := by
  refine ⟨by simp [hl], fun j p hj => ?_⟩
  cases j with
  | zero =>
    obtain rfl := Option.some.inj hj
    rw [Nat.zero_mul, List.drop_zero, List.take_of_length_le (by omega)]
    exact h
  | succ j => simp at hj
theorem Tabs.old {w w2 : World} (h : Tabs w) (hb : Below w.heap.size w w2) : Tabs w2 := h.below hb
theorem aw_told (c i : Int) : (mTold awQ awX c i).1.size ≤ 1000 := by
  have h0 : ∀ l : List ByteArray, (∀ t ∈ l, t.size ≤ 20) → (atS l i).size ≤ 1000 ∧ (atS l 0).size ≤ 1000 := fun l hl => by
    have g : ∀ j : Int, (atS l j).size ≤ 1000 := fun j => by
      unfold atS
      rw [List.getD_eq_getElem?_getD]
      cases he : l[j.toNat]? with
      | none => decide
      | some t =>
        have := hl t (List.mem_of_getElem? he)
        show t.size ≤ 1000
        omega
    exact ⟨g i, g 0⟩
  have s0 := showI_size 0 (by omega)
  have s1 := showI_size ((mValue awX).size : Int) (by decide)
  have k1 := (h0 [] (by simp)).2
  have k2 := (h0 [(⟨#[]⟩ : ByteArray), (⟨#[]⟩ : ByteArray)] (by decide)).1
  unfold mTold
  repeat' split
  all_goals first | exact Nat.le_trans s0 (by omega) | exact Nat.le_trans s1 (by omega) | exact k1 | exact k2 | decide | (exfalso; next h => exact absurd (show (-1 : Int) < 0 by omega) h)
set_option maxHeartbeats 1000000 in
set_option maxRecDepth 100000 in
theorem awake_calls (w : World) (hT : Tabs w) :
    Calls Tryd.prog 7 #[] w fun e w' => e = .returned (.bool true) ∧ Below w.heap.size w w' := by
  have HT := Aside0.mk hT
  have HE := Aside0.mk awEnc
  have HB := Aside0.mk (Below.refl w.heap.size w)
  clear hT
  go_enter Tryd.func7, Tryd.ntmps7
  go_wp2_with (first
    | ((with_reducible refine gate_dst (N := 10) rfl ?_); (first | (refine wp_const_drew rfl _ _ _ rfl _ _ _ _ rfl ?_ Tryd.underlying30 Tryd.underlying5 ?_) | (refine wp_const rfl _ _ _ rfl _ _ _ _ rfl ?_ Tryd.underlying30 Tryd.underlying5 ?_)); (case _ => simp)))
  go_at_call 10
  refine (mEncode_calls awQ [awX] _ _ _ _ (kRequest_mk _ awQ (A0 := some ⟨w.heap.size, 0, none⟩) (c0 := 1) (by decide) (C_at_blk kCmd (by repeat first | (apply ha_at; (simp; done)) | apply ha_old) [awC] (by decide) (reps_one rfl (kCmd_mk _ awC (A2 := none) (c2 := 0) (by decide) (bytes_none _)))) (A8 := some ⟨w.heap.size + 1, 0, none⟩) (c8 := 2) (by decide) (C_at_blk Kd.string (by repeat first | (apply ha_at; (simp; done)) | apply ha_old) [(⟨#[]⟩ : ByteArray), (⟨#[]⟩ : ByteArray)] (by decide) ?hr8) (A9 := none) (c9 := 0) (by decide) ⟨rfl, by decide, fun h => absurd h (by decide)⟩) (by decide) (C_at_blk kResult (by repeat first | (apply ha_at; (simp; done)) | apply ha_old) [awX] (by decide) (reps_one rfl (kResult_mk _ awX (A1 := some ⟨w.heap.size + 1 + 1 + 1, 0, none⟩) (c1 := 2) (by decide) ?hrx))) ?hw ?hT ?hp (by decide) ?ht ?hv).mono ?_
  case hr8 => exact ⟨rfl, fun j p hj => by
    match j with
    | 0 => obtain rfl := Option.some.inj hj; rfl
    | 1 => obtain rfl := Option.some.inj hj; rfl
    | j + 2 => simp at hj⟩
  case hrx => exact Bytes_at (by repeat first | (apply ha_at; (simp; done)) | apply ha_old) _ (by decide) rfl
  case hw =>
    intro x hx
    obtain rfl := List.mem_singleton.1 hx
    exact ⟨by decide, ⟨by decide, by decide⟩, by decide, by decide, by decide, by decide⟩
  case hT => exact (Tabs.below HT.out (by repeat (first | (with_reducible first | exact HB.out | apply below_alloc | apply pw_below_drewN | apply below_drew1) | exact HB.out)))
  case hp => decide
  case ht =>
    intro x hx c i
    obtain rfl := List.mem_singleton.1 hx
    exact aw_told c i
  case hv =>
    intro x hx
    obtain rfl := List.mem_singleton.1 hx
    decide
  rintro e w1 ⟨A, c, rfl, hc, hbs, hb⟩
  have HBn := Aside0.mk (below_step (by repeat (first | (with_reducible first | exact HB.out | apply below_alloc | apply pw_below_drewN | apply below_drew1) | exact HB.out)) hb); clear HB; have HB := HBn; clear HBn
  rw [awEnc] at hbs hc ⊢
  have HBS := Aside0.mk hbs
  clear hbs hb
  have hstr : strOfNums [86, 65, 32, 50, 32, 116, 45, 49, 13, 10, 120, 121, 13, 10] = (⟨#[86, 65, 32, 50, 32, 116, 45, 49, 13, 10, 120, 121, 13, 10]⟩ : ByteArray) := by rfl
  go_wp2_with (first
    | ((with_reducible refine gate_dst (N := 15) rfl ?_); refine wp_strof rfl _ _ _ _ rfl _ _ _ _ rfl Tryd.underlying30 Tryd.underlying5 Tryd.underlying9 HBS.out ?_; rw [hstr])
    | (go_at_call 14; (with_reducible refine (mWord_calls _ _).mono ?_); rintro e w1 ⟨rfl, rfl⟩; rw [show mWord 1 = (⟨#[78, 70]⟩ : ByteArray) from rfl]))
  go_ret
  exact ⟨rfl, HB.out⟩
end Go.Proofs.YtfolaakllblhbaaDoor.X
