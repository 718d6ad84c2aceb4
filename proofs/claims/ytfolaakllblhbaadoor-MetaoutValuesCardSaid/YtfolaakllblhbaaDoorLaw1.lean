/- Chapter 19's own guard: 'few'. -/
import Derived.Test.YtfolaakllblhbaaDoorFew
import Derived.Test.YtfolaakllblhbaaDoorRNum
namespace Go.Proofs.YtfolaakllblhbaaDoor.X
open Go.RowKit Go.Proofs.YtfolaakllblhbaaDoorW.PrintWords
set_option linter.unusedVariables false
set_option linter.unusedSimpArgs false

structure Few19 (q : Request) (l : List Result) : Prop extends FewOk q l where
  keys : q.form.keys.length ≤ 3
  keyS : ∀ j, j < q.form.keys.length → (rdS q.form.keys j).size ≤ 400
set_option maxHeartbeats 1000000 in
set_option maxRecDepth 100000 in
theorem few19_calls (q : Request) (l : List Result) (cq : List Value) (A1 : Option Addr) (n1 : Nat) (w : World) (hq : kRequest.K w q cq) (hn1 : l.length ≤ n1) (hL : kResult.C w A1 l.length l) (hfs : q.form.flags.size ≤ 9223372036854775807) (htk : ∀ t ∈ q.form.tokens, t.size ≤ 9223372036854775807) :
    Calls Tryd.prog 8 #[.agg cq.toArray, .slice A1 l.length n1] w fun e w' => ∃ b, e = .returned (.bool b) ∧ (b = true → Few19 q l) ∧ Below w.heap.size w w' := by
  obtain ⟨A0, c0, A8, c8, A9, c9, rfl, hl0, hC0, hl8, hC8, hl9, hC9⟩ := kRequest_open hq
  have HQ := Aside0.mk (kRequest_mk w q hl0 hC0 hl8 hC8 hl9 hC9); have HTK := Aside0.mk htk
  have HC9 := Aside0.mk hC9; have HCL := Aside0.mk hL
  have hm9 := hC9.2.1
  have HB := Aside0.mk (Below.refl w.heap.size w)
  clear hq hC0 hC8 hC9 hL htk
  go_enter Tryd.func8, Tryd.ntmps8
  go_upto_region 2 with (go_at_call 17; (with_reducible refine (few_calls q l _ _ _ _ (kRequest.K_below (by repeat (first | (with_reducible first | exact HB.out | apply below_alloc | apply pw_below_drewN | apply below_drew1) | exact HB.out)) HQ.out) hn1 (Kd.C_below HCL.out (by repeat (first | (with_reducible first | exact HB.out | apply below_alloc | apply pw_below_drewN | apply below_drew1) | exact HB.out))) hfs HTK.out).mono ?_); rintro e w1 ⟨b, rfl, hfew, hb⟩; have HF := Aside0.mk hfew; have HQ1 := Aside0.mk ((hb.block w.heap.size (by simp)).trans (ha_at rfl)); have HBn := Aside0.mk (below_step (by repeat (first | (with_reducible first | exact HB.out | apply below_alloc | apply pw_below_drewN | apply below_drew1) | exact HB.out)) hb); clear HB; have HB := HBn; clear HBn; clear hfew hb)
  have hbw := HB.out
  have hwsz := hbw.size
  have q0 := fun j v => blk_cells HQ1.out j v
  have a9 := q0 9 _ rfl
  have HC9' := Aside0.mk (Kd.C_below HC9.out hbw)
  clear q0 hbw
  by_cases hb2 : b = true ∧ q.form.keys.length ≤ 3
  · obtain ⟨rfl, hk3⟩ := hb2
    have hk3i : ¬ (3 : Int) < q.form.keys.length := by omega
    go_wp2
    go_loopw [6] (fun v6 wr => ∃ (pos : Nat), v6 = .int .i64 pos ∧ pos ≤ q.form.keys.length ∧ wr = w1 ∧ Aside0 (∀ j, j < pos → (rdS q.form.keys j).size ≤ 400)) (fun v6 _ => q.form.keys.length - (intOf v6).toNat)
    case atStart => exact ⟨0, rfl, by omega, rfl, ⟨fun j hj => by omega⟩⟩
    case round =>
      obtain ⟨pos, rfl, hps, rfl, hall⟩ := hrel
      by_cases hp : pos < q.form.keys.length
      · obtain ⟨ad, hA9, hc⟩ := at_S HC9'.out pos hp
        have hpi : (pos : Int) < q.form.keys.length := by omega
        subst hA9
        by_cases hs : (400 : Int) < (rdS q.form.keys pos).size
        · go_wp2
          go_ret
          first | exact ⟨false, rfl, (fun h => by cases h), HB.out.trans (Below.refl _ _)⟩ | exact Or.inl ⟨rfl, HB.out.trans (Below.refl _ _)⟩
        · have HS : Aside0 ((rdS q.form.keys pos).size ≤ 400) := ⟨by omega⟩
          go_wp2
          go_roundw
          case rel => exact ⟨pos + 1, by simp, by omega, by first | rfl | trivial, ⟨upto_step hall.out HS.out⟩⟩
          case measure => simp [intOf]; omega
      · have HT : Aside0 (∀ j, j < q.form.keys.length → (rdS q.form.keys j).size ≤ 400) := ⟨fun j hj => hall.out j (by omega)⟩
        have hpi : ¬ (pos : Int) < q.form.keys.length := by omega
        clear hall
        go_wp2
        go_ret
        exact Or.inr ⟨rfl, { toFewOk := HF.out (by first | rfl | trivial), keys := hk3, keyS := HT.out }, HB.out.trans (Below.refl _ _)⟩
  · by_cases hbt : b = true
    · have hk3 : (3 : Int) < q.form.keys.length := by
        have : ¬ q.form.keys.length ≤ 3 := fun h => hb2 ⟨hbt, h⟩
        omega
      subst hbt
      clear hb2
      go_wp2
      go_ret
      first | exact ⟨false, rfl, (fun h => by cases h), HB.out.trans (Below.refl _ _)⟩ | exact Or.inl ⟨rfl, HB.out.trans (Below.refl _ _)⟩
    · have hbf : b = false := by simpa using hbt
      subst hbf
      clear hb2 hbt
      go_wp2
      go_ret
      first | exact ⟨false, rfl, (fun h => by cases h), HB.out.trans (Below.refl _ _)⟩ | exact Or.inl ⟨rfl, HB.out.trans (Below.refl _ _)⟩
end Go.Proofs.YtfolaakllblhbaaDoor.X
