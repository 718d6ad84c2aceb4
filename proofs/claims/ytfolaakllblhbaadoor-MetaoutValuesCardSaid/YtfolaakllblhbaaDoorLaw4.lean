/- Chapter 19's second law, MetaoutSilent: the walk. -/
import Derived.Test.YtfolaakllblhbaaDoorLaw1
import Derived.Test.YtfolaakllblhbaaDoorLaw2
import Derived.Test.YtfolaakllblhbaaDoorPure5
namespace Go.Proofs.YtfolaakllblhbaaDoor.X
open Go.RowKit Go.Proofs.YtfolaakllblhbaaDoorW.PrintWords
set_option linter.unusedVariables false
set_option linter.unusedSimpArgs false

theorem rdS_atS4 (l : List ByteArray) (m : Nat) (h : ∀ j, j < l.length → (rdS l j).size ≤ m) (i : Int) : (atS l i).size ≤ m := by
  by_cases hi : i.toNat < l.length
  · exact h _ hi
  · unfold atS
    rw [List.getD_eq_getElem?_getD, List.getElem?_eq_none (by omega)]
    exact Nat.zero_le _
theorem told_le4 {q : Request} {l : List Result} (h : Few19 q l) (y : Result) (hw : y.Wf) (hv : y.value.length ≤ 2000) (c i : Int) : (mTold q y c i).1.size ≤ 1000 := by
  have hsz : (mValue y).size ≤ 2020 := by
    unfold mValue
    split
    · have := showI_size y.number hw.number.2; omega
    · rw [strOfNums_size]; omega
  have s1 := showI_size y.cas hw.cas.2
  have s2 := showI_size y.flags (by have := hw.flags; omega)
  have s3 := showI_size ((mValue y).size : Int) (by omega)
  have s4 := showI_size y.ttl (by have := hw.ttl; omega)
  have k1 := rdS_atS4 q.form.keys 400 h.keyS 0
  have k2 := rdS_atS4 q.form.tokens 300 h.token i
  unfold mTold
  repeat' split
  all_goals first | exact Nat.le_trans s1 (by omega) | exact Nat.le_trans s2 (by omega) | exact Nat.le_trans s3 (by omega) | exact Nat.le_trans s4 (by omega) | exact Nat.le_trans k1 (by omega) | exact Nat.le_trans k2 (by omega) | exact (show (0 : Nat) ≤ 1000 by omega) | decide
theorem told_le' {q : Request} {l : List Result} (h : Few19 q l) (hw : ∀ y ∈ l, y.Wf) : (∀ y ∈ l, ∀ c i, (mTold q y c i).1.size ≤ 1000) ∧ (∀ y ∈ l, y.value.length ≤ 1000000) := by
  have hval : ∀ y ∈ l, y.value.length ≤ 2000 := fun y hy => by
    obtain ⟨j, hj, rfl⟩ := List.mem_iff_getElem.1 hy
    have := h.value j hj
    unfold rd_Result at this
    rw [Int.toNat_natCast, List.getD_eq_getElem?_getD, List.getElem?_eq_getElem hj] at this
    exact this
  exact ⟨fun y hy => told_le4 h y (hw y hy) (hval y hy), fun y hy => Nat.le_trans (hval y hy) (by omega)⟩
set_option maxHeartbeats 4000000 in
set_option maxRecDepth 100000 in
theorem silent_calls (q : Request) (l : List Result) (cq : List Value) (A1 : Option Addr) (n1 : Nat) (w : World) (hq : kRequest.K w q cq) (hn1 : l.length ≤ n1) (hL : kResult.C w A1 l.length l) (hqw : q.Wf) (hlw : ∀ y ∈ l, y.Wf) (hT : Tabs w) :
    Calls Tryd.prog 4 #[.agg cq.toArray, .slice A1 l.length n1] w fun e w' => e = .returned (.bool true) ∧ Below w.heap.size w w' := by
  obtain ⟨A0, c0, A8, c8, A9, c9, rfl, hl0, hC0, hl8, hC8, hl9, hC9⟩ := kRequest_open hq
  have HQ := Aside0.mk (kRequest_mk w q hl0 hC0 hl8 hC8 hl9 hC9)
  have HT := Aside0.mk hT; have HLW := Aside0.mk hlw; have HCL := Aside0.mk hL; have HC0 := Aside0.mk hC0
  have hfs := hqw.form.flags
  have htk := Aside0.mk hqw.form.tokens
  have HB := Aside0.mk (Below.refl w.heap.size w)
  clear hq hC0 hC8 hC9 hL hT hqw hlw
  go_enter Tryd.func4, Tryd.ntmps4
  go_upto_region 4 with (first
    | (go_at_call 7; (with_reducible refine (awake_calls _ (Tabs.below HT.out (by repeat (first | (with_reducible first | exact HB.out | apply below_alloc | apply pw_below_drewN | apply below_drew1) | exact HB.out)))).mono ?_); rintro e w1 ⟨rfl, hb⟩; have HQ1 := Aside0.mk ((hb.block w.heap.size (by simp)).trans (ha_at rfl)); have HBn := Aside0.mk (below_step (by repeat (first | (with_reducible first | exact HB.out | apply below_alloc | apply pw_below_drewN | apply below_drew1) | exact HB.out)) hb); clear HB; have HB := HBn; clear HBn; clear hb; have hw1 := HB.out.size; have q0 := fun j v => blk_cells HQ1.out j v; have a0 := q0 0 _ rfl; have a1 := q0 1 _ rfl; have a2 := q0 2 _ rfl; have a3 := q0 3 _ rfl; have a4 := q0 4 _ rfl; have a5 := q0 5 _ rfl; have a6 := q0 6 _ rfl; have a7 := q0 7 _ rfl; have a8 := q0 8 _ rfl; have a9 := q0 9 _ rfl; have a10 := q0 10 _ rfl; clear q0)
    | (go_at_call 8; (with_reducible refine (few19_calls q l _ _ _ _ (kRequest.K_below (by repeat (first | (with_reducible first | exact HB.out | apply below_alloc | apply pw_below_drewN | apply below_drew1) | exact HB.out)) HQ.out) hn1 (Kd.C_below HCL.out (by repeat (first | (with_reducible first | exact HB.out | apply below_alloc | apply pw_below_drewN | apply below_drew1) | exact HB.out))) hfs (htk.out.2)).mono ?_); rintro e w2 ⟨bf, rfl, hfew, hb⟩; have HF := Aside0.mk hfew; have HQ2 := Aside0.mk ((hb.block w.heap.size (Array.getElem?_eq_some_iff.1 HQ1.out).1).trans HQ1.out); have HBn := Aside0.mk (below_step (by repeat (first | (with_reducible first | exact HB.out | apply below_alloc | apply pw_below_drewN | apply below_drew1) | exact HB.out)) hb); clear HB; have HB := HBn; clear HBn; clear hfew hb; have q0 := fun j v => blk_cells HQ2.out j v; have a0 := q0 0 _ rfl; have a1 := q0 1 _ rfl; have a2 := q0 2 _ rfl; have a3 := q0 3 _ rfl; have a4 := q0 4 _ rfl; have a5 := q0 5 _ rfl; have a6 := q0 6 _ rfl; have a7 := q0 7 _ rfl; have a8 := q0 8 _ rfl; have a9 := q0 9 _ rfl; have a10 := q0 10 _ rfl; clear q0)
    | (go_at_call 9; (with_reducible refine (plain_calls q.form.flags _ hfs).mono ?_); rintro e w3 ⟨bp, rfl, hpl, hb⟩; have HP := Aside0.mk hpl; have HQ3 := Aside0.mk ((hb.block w.heap.size (Array.getElem?_eq_some_iff.1 HQ2.out).1).trans HQ2.out); have HBn := Aside0.mk (below_step (by repeat (first | (with_reducible first | exact HB.out | apply below_alloc | apply pw_below_drewN | apply below_drew1) | exact HB.out)) hb); clear HB; have HB := HBn; clear HBn; clear hpl hb; have q0 := fun j v => blk_cells HQ3.out j v; have a0 := q0 0 _ rfl; have a1 := q0 1 _ rfl; have a2 := q0 2 _ rfl; have a3 := q0 3 _ rfl; have a4 := q0 4 _ rfl; have a5 := q0 5 _ rfl; have a6 := q0 6 _ rfl; have a7 := q0 7 _ rfl; have a8 := q0 8 _ rfl; have a9 := q0 9 _ rfl; have a10 := q0 10 _ rfl; clear q0))
  have hm0 := HC0.out.2.1; have hmL := HCL.out.2.1
  cases bf <;> cases bp
  · go_wp2
    go_ret
    exact ⟨rfl, HB.out.trans (Below.refl _ _)⟩
  · go_wp2
    go_ret
    exact ⟨rfl, HB.out.trans (Below.refl _ _)⟩
  · go_wp2
    go_ret
    exact ⟨rfl, HB.out.trans (Below.refl _ _)⟩
  · cases hz : decide ((q.cmds.length : Int) = 0) <;> cases hy : decide ((l.length : Int) = 0)
    · have hz0 : q.cmds.length ≠ 0 := fun h => of_decide_eq_false hz (by omega)
      have hy0 : l.length ≠ 0 := fun h => of_decide_eq_false hy (by omega)
      clear hz hy
      have hz1 : (q.cmds.length == 0) = false := beq_eq_false_iff_ne.2 hz0
      have hz2 : ((q.cmds.length : Int) == 0) = false := beq_eq_false_iff_ne.2 (by omega)
      have hy1 : (l.length == 0) = false := beq_eq_false_iff_ne.2 hy0
      have hy2 : ((l.length : Int) == 0) = false := beq_eq_false_iff_ne.2 (by omega)
      go_upto_region 6 with (fail)
      have hF := HF.out rfl
      have hf1000 : q.form.flags.size ≤ 1000 := by have := hF.flags; omega
      have HPL := Aside0.mk (HP.out rfl)
      have htv := told_le' hF HLW.out
      have HTL := Aside0.mk htv.1
      have HVL := Aside0.mk htv.2
      clear hF htv
      obtain ⟨cm, cs, hc⟩ : ∃ cm cs, q.cmds = cm :: cs := by
        cases h : q.cmds with
        | nil => rw [h] at hz0; exact absurd rfl hz0
        | cons a b => exact ⟨a, b, rfl⟩
      obtain ⟨x, xs, hl⟩ : ∃ x xs, l = x :: xs := by
        cases h : l with
        | nil => rw [h] at hy0; exact absurd rfl hy0
        | cons a b => exact ⟨a, b, rfl⟩
      have hE : mEncode q l = mOne q cm.op x := by unfold mEncode; rw [hc, hl]
      have hsays := mOne_says q cm.op x
      rw [← hE] at hsays
      have hrc : rd_Cmd q.cmds 0 = cm := by unfold rd_Cmd; rw [hc]; rfl
      have hrx : rd_Result l 0 = x := by rw [hl]; rfl
      obtain ⟨B, hB⟩ : ∃ B, strOfNums (mEncode q l) = B := ⟨_, rfl⟩
      have h3 : (mWord x.status = (⟨#[]⟩ : ByteArray) ∧ B = (⟨#[]⟩ : ByteArray)) ∨ (¬ mWord x.status = (⟨#[]⟩ : ByteArray) ∧ (q.form.quiet && lawSilent cm.op x.status) = true ∧ B = (⟨#[]⟩ : ByteArray)) ∨ (¬ mWord x.status = (⟨#[]⟩ : ByteArray) ∧ (q.form.quiet && lawSilent cm.op x.status) = false ∧ ∃ p : ByteArray, 0 < p.size ∧ B = p ++ crlf) := by
        by_cases hw : mWord x.status = (⟨#[]⟩ : ByteArray)
        · exact Or.inl ⟨hw, by rw [← hB, hsays.1 hw]; rfl⟩
        · cases hs : (q.form.quiet && lawSilent cm.op x.status)
          · obtain ⟨p, hp, he⟩ := hsays.2.2 hw hs
            exact Or.inr (Or.inr ⟨hw, rfl, p, hp, by rw [← hB, he, strOfNums_bytesOf]⟩)
          · exact Or.inr (Or.inl ⟨hw, rfl, by rw [← hB, hsays.2.1 hs]; rfl⟩)
      have H3 := Aside0.mk h3
      have HLS := Aside0.mk (show lawSilent cm.op x.status = _ from rfl)
      unfold lawSilent at HLS
      clear hsays hE h3 hc hl
      go_upto_region 7 with (first
        | (go_at_call 10; (with_reducible refine (mEncode_calls q l _ _ _ _ (kRequest.K_below (by repeat (first | (with_reducible first | exact HB.out | apply below_alloc | apply pw_below_drewN | apply below_drew1) | exact HB.out)) HQ.out) hn1 (Kd.C_below HCL.out (by repeat (first | (with_reducible first | exact HB.out | apply below_alloc | apply pw_below_drewN | apply below_drew1) | exact HB.out))) HLW.out (Tabs.below HT.out (by repeat (first | (with_reducible first | exact HB.out | apply below_alloc | apply pw_below_drewN | apply below_drew1) | exact HB.out))) HPL.out hf1000 HTL.out HVL.out).mono ?_); rintro e w4 ⟨E1, k1, rfl, hk1, hbs, hb⟩; have HBS := Aside0.mk hbs; have HQ4 := Aside0.mk ((hb.block w.heap.size (Array.getElem?_eq_some_iff.1 HQ3.out).1).trans HQ3.out); have HBn := Aside0.mk (below_step (by repeat (first | (with_reducible first | exact HB.out | apply below_alloc | apply pw_below_drewN | apply below_drew1) | exact HB.out)) hb); clear HB; have HB := HBn; clear HBn; clear hbs hb; have q0 := fun j v => blk_cells HQ4.out j v; have a0 := q0 0 _ rfl; have a1 := q0 1 _ rfl; have a2 := q0 2 _ rfl; have a3 := q0 3 _ rfl; have a4 := q0 4 _ rfl; have a5 := q0 5 _ rfl; have a6 := q0 6 _ rfl; have a7 := q0 7 _ rfl; have a8 := q0 8 _ rfl; have a9 := q0 9 _ rfl; have a10 := q0 10 _ rfl; clear q0)
        | ((with_reducible refine gate_dst (N := 48) rfl ?_); refine wp_strof rfl _ _ _ _ rfl _ _ _ _ rfl Tryd.underlying30 Tryd.underlying5 Tryd.underlying9 HBS.out ?_; rw [hB]))
      have hC4 := Kd.C_below HC0.out HB.out
      have hL4 := Kd.C_below HCL.out HB.out
      obtain ⟨ad, B2, d2, rfl, k0, _⟩ := at_Cmd hC4 0 (by omega) (by omega)
      obtain ⟨bd, B3, d3, rfl, r0, _⟩ := at_Result hL4 0 (by omega) (by omega)
      have z0 : (0 : Int).toNat = 0 := rfl
      rw [hrc] at k0
      rw [hrx] at r0
      simp only [z0, Nat.zero_mul, Addr.add_zero'] at k0 r0
      obtain ⟨ab, ao, rfl, hab⟩ := addr_plain k0
      obtain ⟨bb, bo, rfl, hbb⟩ := addr_plain r0
      clear hC4 hL4 hrc hrx z0
      go_upto_region 9 with (go_at_call 14; (with_reducible refine (mWord_calls _ _).mono ?_); rintro e w5 ⟨rfl, rfl⟩)
      rcases H3.out with ⟨hW, hBe⟩ | ⟨hW, hS, hBe⟩ | ⟨hW, hS, p, hp, hBe⟩
      · rw [hW, hBe]
        go_wp2
        go_ret
        exact ⟨rfl, HB.out⟩
      · have hWe : (mWord x.status).toList.isEmpty = false := Bool.eq_false_iff.2 (fun h => hW ((bs_nil _).1 h))
        rw [hBe]
        go_upto_region 14 with (fail)
        go_cut [9, 10, 13, 14] (fun v9 v10 v13 v14 wc => v14 = .bool (lawSilent cm.op x.status) ∧ wc = w4)
        case first =>
          cases h1 : (mWord x.status == (⟨#[72, 68]⟩ : ByteArray)) <;> cases h2 : (cm.op == 12)
          all_goals
            have h1' := (list_beq (mWord x.status) [72, 68]).trans h1
            have h2' : (cm.op != 12) = _ := congrArg (fun b => !b) h2
            simp only [Bool.not_true, Bool.not_false] at h2'
            have HL1 := Aside0.mk h1
            clear h1
          · cases h3 : (x.status == 1)
            · go_wp2; go_meet; exact ⟨by unfold lawSilent; rw [HL1.out, h2, h3]; rfl, rfl⟩
            · cases h4 : (cm.op == 8)
              · cases h5 : (cm.op == 9)
                · go_wp2; go_meet; exact ⟨by unfold lawSilent; rw [HL1.out, h2, h3, h4, h5]; rfl, rfl⟩
                · go_wp2; go_meet; exact ⟨by unfold lawSilent; rw [HL1.out, h2, h3, h4, h5]; rfl, rfl⟩
              · go_wp2; go_meet; exact ⟨by unfold lawSilent; rw [HL1.out, h2, h3, h4]; rfl, rfl⟩
          · cases h3 : (x.status == 1)
            · go_wp2; go_meet; exact ⟨by unfold lawSilent; rw [HL1.out, h2, h3]; rfl, rfl⟩
            · go_wp2; go_meet; exact ⟨by unfold lawSilent; rw [HL1.out, h2, h3]; rfl, rfl⟩
          · go_wp2; go_meet; exact ⟨by unfold lawSilent; rw [HL1.out, h2]; rfl, rfl⟩
          · cases h3 : (x.status == 1)
            · go_wp2; go_meet; exact ⟨by unfold lawSilent; rw [HL1.out, h2, h3]; rfl, rfl⟩
            · go_wp2; go_meet; exact ⟨by unfold lawSilent; rw [HL1.out, h2, h3]; rfl, rfl⟩
        case rest =>
          obtain ⟨rfl, rfl⟩ := hcut
          rw [Bool.and_eq_true] at hS
          rw [hS.2]
          have hq5 := hS.1
          go_wp2
          go_ret
          exact ⟨rfl, HB.out⟩
      · have hWe : (mWord x.status).toList.isEmpty = false := Bool.eq_false_iff.2 (fun h => hW ((bs_nil _).1 h))
        have hBs : B.size = p.size + 2 := by rw [hBe, ByteArray.size_append]; rfl
        have hBx : B.extract p.size (p.size + 2) = crlf := by rw [hBe]; exact ends_crlf p
        have hBm : B.size ≤ 9223372036854775807 := by rw [← hB, strOfNums_size]; exact HBS.out.2.1
        have hcr := crlf_list
        clear hBe
        go_upto_region 14 with (fail)
        go_cut [9, 10, 13, 14] (fun v9 v10 v13 v14 wc => v14 = .bool (lawSilent cm.op x.status) ∧ wc = w4)
        case first =>
          cases h1 : (mWord x.status == (⟨#[72, 68]⟩ : ByteArray)) <;> cases h2 : (cm.op == 12)
          all_goals
            have h1' := (list_beq (mWord x.status) [72, 68]).trans h1
            have h2' : (cm.op != 12) = _ := congrArg (fun b => !b) h2
            simp only [Bool.not_true, Bool.not_false] at h2'
            have HL1 := Aside0.mk h1
            clear h1
          · cases h3 : (x.status == 1)
            · go_wp2; go_meet; exact ⟨by unfold lawSilent; rw [HL1.out, h2, h3]; rfl, rfl⟩
            · cases h4 : (cm.op == 8)
              · cases h5 : (cm.op == 9)
                · go_wp2; go_meet; exact ⟨by unfold lawSilent; rw [HL1.out, h2, h3, h4, h5]; rfl, rfl⟩
                · go_wp2; go_meet; exact ⟨by unfold lawSilent; rw [HL1.out, h2, h3, h4, h5]; rfl, rfl⟩
              · go_wp2; go_meet; exact ⟨by unfold lawSilent; rw [HL1.out, h2, h3, h4]; rfl, rfl⟩
          · cases h3 : (x.status == 1)
            · go_wp2; go_meet; exact ⟨by unfold lawSilent; rw [HL1.out, h2, h3]; rfl, rfl⟩
            · go_wp2; go_meet; exact ⟨by unfold lawSilent; rw [HL1.out, h2, h3]; rfl, rfl⟩
          · go_wp2; go_meet; exact ⟨by unfold lawSilent; rw [HL1.out, h2]; rfl, rfl⟩
          · cases h3 : (x.status == 1)
            · go_wp2; go_meet; exact ⟨by unfold lawSilent; rw [HL1.out, h2, h3]; rfl, rfl⟩
            · go_wp2; go_meet; exact ⟨by unfold lawSilent; rw [HL1.out, h2, h3]; rfl, rfl⟩
        case rest =>
          obtain ⟨rfl, rfl⟩ := hcut
          cases hb1 : q.form.quiet <;> cases hb2 : lawSilent cm.op x.status
          all_goals rw [hb1, hb2] at hS
          all_goals first
            | (exact absurd hS (by decide))
            | skip
          all_goals
            rw [hb1] at a5
            go_wp2
            go_ret
            exact ⟨rfl, HB.out⟩
    · have hy2 : ((l.length : Int) == 0) = true := beq_iff_eq.2 (of_decide_eq_true hy)
      have hy0 : l.length = 0 := by have := of_decide_eq_true hy; omega
      have hy1 : (l.length == 0) = true := beq_iff_eq.2 hy0
      have hz0 : q.cmds.length ≠ 0 := fun h => of_decide_eq_false hz (by omega)
      have hz1 : (q.cmds.length == 0) = false := beq_eq_false_iff_ne.2 hz0
      have hz2 : ((q.cmds.length : Int) == 0) = false := beq_eq_false_iff_ne.2 (by omega)
      clear hz hy hy0
      go_wp2
      go_ret
      exact ⟨rfl, HB.out.trans (Below.refl _ _)⟩
    all_goals
      have hz2 : ((q.cmds.length : Int) == 0) = true := beq_iff_eq.2 (of_decide_eq_true hz)
      have hz0 : q.cmds.length = 0 := by have := of_decide_eq_true hz; omega
      have hz1 : (q.cmds.length == 0) = true := beq_iff_eq.2 hz0
      clear hz hy hz0
      go_wp2
      go_ret
      exact ⟨rfl, HB.out.trans (Below.refl _ _)⟩
end Go.Proofs.YtfolaakllblhbaaDoor.X
