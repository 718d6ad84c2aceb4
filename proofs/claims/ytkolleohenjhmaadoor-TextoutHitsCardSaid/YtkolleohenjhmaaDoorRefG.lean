/- The reference's Encode (chapter 15): its walk. -/
import Derived.Test.YtkolleohenjhmaaDoorRefE
namespace Go.Proofs.YtkolleohenjhmaaDoor.X
open Go.RowKit Go.Proofs.YtkolleohenjhmaaDoorW.PrintWords Go.Proofs.YtkolleohenjhmaaDoorW.PrintMore
set_option linter.unusedVariables false
set_option linter.unusedSimpArgs false
theorem wpAnyH_imp {P : Program} {md : Region.Mode} {ops : Array Oper} {Q : Exit → Act → World → Prop} {S S' : World → Prop} (h : ∀ w, S' w → S w) : ∀ (fuel : Nat) (listed : Array Bool) (a : Act) (w : World), wpAnyH P md ops Q S' fuel listed a w → wpAnyH P md ops Q S fuel listed a w
  | 0, _, _, _, h0 => h0
  | fuel + 1, _, _, _, h0 => ⟨h0.1, fun i hi => wpOp_mono (fun a' w' h' => ⟨h _ h'.1, wpAnyH_imp h fuel _ a' w' h'.2⟩) (h0.2 i hi)⟩
set_option maxHeartbeats 4000000 in
set_option maxRecDepth 100000 in
theorem renc_get (A0 : Option Addr) (c0 : Nat) (l0 : List S38) (a1 : Int) (a2 : ByteArray) (a3 a4 : Int) (a5 a6 : Bool) (a7 : ByteArray) (A8 : Option Addr) (c8 : Nat) (l8 : List ByteArray) (A9 : Option Addr) (c9 : Nat) (l9 : List ByteArray) (a10 : Bool) (A1 : Option Addr) (k1 : Nat) (l1 : List S40) (w : World) (h : Args A0 c0 l0 A8 c8 l8 A9 c9 l9 A1 k1 l1 w) (ho : Okl l0 l1) (hn : 0 < l0.length) (hc : (rd_T38 l0 0).f0 = 0 ∨ (rd_T38 l0 0).f0 = 1) :
    Calls Tryd.prog 11 #[.agg #[.slice A0 l0.length c0, .int .i64 a1, .string a2, .int .i64 a3, .int .u32 a4, .bool a5, .bool a6, .string a7, .slice A8 l8.length c8, .slice A9 l9.length c9, .bool a10], .slice A1 l1.length k1] w (RB w (bytesOf (strOfNums (valP a6 l0 l1) ++ (⟨#[69, 78, 68, 13, 10]⟩ : ByteArray)))) := by
  obtain ⟨o1, o2, o3⟩ := okV_at ho.1
  have hm0 := h.h0.2.1
  have hm1 := h.h1.2.1
  obtain ⟨ad, C2, d2, hA0, q0, -⟩ := at_T38 h.h0 0 (by omega) (by omega)
  rw [show ad.add ((0 : Int).toNat * 10) = ad from Addr.add_zero' _] at q0
  obtain ⟨eb, eo, rfl, heb⟩ := addr_plain q0
  subst hA0
  generalize (rd_T38 l0 0).f0 = op at q0 hc
  have HA := Aside0.mk h; have HO := Aside0.mk ho; have HK0 := Aside0.mk o2; have HK1 := Aside0.mk o3
  have hni : (0 : Int) < (l0.length : Int) := by omega
  clear h ho o2 o3
  by_cases hlt : l0.length < l1.length
  · have hcmp : decide (l0.length < l1.length) = true := decide_eq_true hlt
    rcases hc with rfl | rfl
    all_goals
      clear hcmp
      have hcmp : decide (l0.length < l1.length) = true := by simp; omega
      go_enter Tryd.func11, Tryd.ntmps11
      go_wp2
      go_loopw [6, 7] (fun v6 v7 wr => ∃ (pos : Nat) (acc : ByteArray), v7 = .int .i64 pos ∧ v6 = .string acc ∧ pos ≤ l0.length ∧ wr.heap[w.heap.size]? = some (.cells #[.slice (some ⟨eb, eo, none⟩) l0.length c0, .int .i64 a1, .string a2, .int .i64 a3, .int .u32 a4, .bool a5, .bool a6, .string a7, .slice A8 l8.length c8, .slice A9 l9.length c9, .bool a10] 28 (0, 0)) ∧ Below w.heap.size w wr ∧ Aside0 (acc ++ strOfNums (valP a6 (l0.drop pos) (l1.drop pos)) = strOfNums (valP a6 l0 l1)) ∧ Aside0 (acc.size ≤ capB pos)) (fun _ v7 _ => l0.length - (intOf v7).toNat)
      case atStart => exact ⟨0, ⟨#[]⟩, rfl, rfl, by omega, ha_at rfl, below_alloc (Below.refl _ _) _, ⟨by rw [List.drop_zero, List.drop_zero, bs_nil_add]⟩, ⟨Nat.zero_le _⟩⟩
      case round =>
        obtain ⟨pos, acc, rfl, rfl, hps, hqb, hbw, hacc, hal⟩ := hrel
        have HB := Aside0.mk hbw; have HQ := Aside0.mk hqb
        have hwsz := hbw.size
        have hlt0 : w.heap.size < wr.heap.size := (Array.getElem?_eq_some_iff.1 HQ.out).1
        have a0 := blk_cells hqb 0 _ rfl; have a6' := blk_cells hqb 6 _ rfl
        have hal2 : acc.size ≤ 6000000 := by have h1 := hal.out; have h2 := capB_le pos (by omega); omega
        clear hqb hbw
        by_cases hp : pos < l0.length
        · obtain ⟨ad, B3, d3, hA1, r0, r1, r2, r3, r4, r5, r6, r7, r8, hl3, hC3⟩ := at_T40 HA.out.h1 (pos : Int) (by omega) (by omega)
          obtain ⟨x, hx⟩ : ∃ x, rd_T40 l1 (pos : Int) = x := ⟨_, rfl⟩
          have hxm : x ∈ l1 := by
            rw [← hx]
            unfold rd_T40
            rw [Int.toNat_natCast, List.getD_eq_getElem?_getD, List.getElem?_eq_getElem (show pos < l1.length by omega)]
            exact List.getElem_mem _
          have hxb := HK1.out x hxm
          rw [hx] at r0 r1 r2 r3 r4 r5 r6 r7 r8 hl3 hC3
          rw [Int.toNat_natCast] at r0 r1 r2 r3 r4 r5 r6 r7 r8
          obtain ⟨bb, bo, hpl, hbb⟩ := addr_plain r0
          rw [hpl] at r0 r1 r2 r3 r4 r5 r6 r7 r8
          dsimp only at r1 r2 r3 r4 r5 r6 r7 r8
          have up := fun (o : Nat) => HB.out.cell (p := ⟨bb, o, none⟩) hbb
          replace r0 := (up _).trans r0; replace r1 := (up _).trans r1; replace r2 := (up _).trans r2; replace r3 := (up _).trans r3; replace r4 := (up _).trans r4; replace r5 := (up _).trans r5; replace r6 := (up _).trans r6; replace r7 := (up _).trans r7; replace r8 := (up _).trans r8
          obtain ⟨ac, C4, d4, hA2, t0, t1, -⟩ := at_T38 HA.out.h0 (pos : Int) (by omega) (by omega)
          obtain rfl := Option.some.inj hA2
          obtain ⟨cm, hcm⟩ : ∃ cm, rd_T38 l0 (pos : Int) = cm := ⟨_, rfl⟩
          have hcmm : cm ∈ l0 := by
            rw [← hcm]
            unfold rd_T38
            rw [Int.toNat_natCast, List.getD_eq_getElem?_getD, List.getElem?_eq_getElem (show pos < l0.length by omega)]
            exact List.getElem_mem _
          have hck := HK0.out cm hcmm
          rw [hcm] at t0 t1
          rw [Int.toNat_natCast] at t0 t1
          have hadd : (⟨eb, eo, none⟩ : Addr).add (pos * 10) = ⟨eb, eo + pos * 10, none⟩ := by unfold Addr.add; split <;> simp_all
          rw [hadd] at t0 t1
          dsimp only at t1
          replace t1 := (HB.out.cell (p := ⟨eb, _, none⟩) heb).trans t1
          clear hadd
          have hstep := valP_step a6 l0 l1 pos (by omega) (by omega)
          rw [hx, hcm] at hstep
          have HC3 := Aside0.mk hC3
          clear up t0 hC3 hxm hcmm
          subst hA1
          by_cases hs : x.f0 = 0
          · have hs1 : (x.f0 == 0) = true := beq_iff_eq.2 hs
            rw [if_pos hs] at hstep
            have HST : Aside0 (strOfNums (valP a6 (l0.drop pos) (l1.drop pos)) = strOfNums (pieceI a6 cm x) ++ strOfNums (valP a6 (l0.drop (pos + 1)) (l1.drop (pos + 1)))) := ⟨by rw [hstep, strOfNums_app]⟩
            have hvs := valB_size a6 cm x hck hxb
            have hcat : (9223372036854775807 < acc.size + (valB a6 cm x).size) = False := by simp; omega
            have h1b : bb < wr.heap.size := by omega
            have hp0 : pos < l0.length := by omega
            have hp1 : pos < l1.length := by omega
            have h2b : eb < wr.heap.size := by omega
            clear hstep hs
            go_upto_region 10 with (fail)
            (refine wp_region_noPanic ?_; refine wp_region_held_drew (S := (fun w' => Aside0 (Below wr.heap.size wr w'))) (by kernel_rfl) ⟨below_drew1 (Below.refl _ _)⟩ ?_; intro hHeld)
            (refine wpAnyH_take (i := 0) (v := ?_) (by simp only [List.getElem?_toArray, List.getElem?_cons_succ, List.getElem?_cons_zero]; rfl) (by kernel_rfl) (by kernel_rfl) (by kernel_rfl) (fun _ _ _ h => h) (Or.inl ⟨by rfl, ?_⟩) (by exact hHeld) ?_; rotate_left; (focus (intro w' hSw; obtain ⟨hc_, hf_⟩ := bcell (Aside0.out (show Aside0 _ from hSw)); clear hSw; go_simp; (try with_reducible rfl); done)); (try simp only [Act.put, List.setIfInBounds_toArray, List.set_cons_zero, List.set_cons_succ]))
            (refine wpAnyH_take (i := 1) (v := ?_) (by simp only [List.getElem?_toArray, List.getElem?_cons_succ, List.getElem?_cons_zero]; rfl) (by kernel_rfl) (by kernel_rfl) (by kernel_rfl) (fun _ _ _ h => h) (Or.inl ⟨by rfl, ?_⟩) (by exact hHeld) ?_; rotate_left; (focus (intro w' hSw; obtain ⟨hc_, hf_⟩ := bcell (Aside0.out (show Aside0 _ from hSw)); clear hSw; go_simp; (try with_reducible rfl); done)); (try simp only [Act.put, List.setIfInBounds_toArray, List.set_cons_zero, List.set_cons_succ]))
            (refine wpAnyH_take (i := 2) (v := ?_) (by simp only [List.getElem?_toArray, List.getElem?_cons_succ, List.getElem?_cons_zero]; rfl) (by kernel_rfl) (by kernel_rfl) (by kernel_rfl) (fun _ _ _ h => h) (Or.inl ⟨by rfl, ?_⟩) (by exact hHeld) ?_; rotate_left; (focus (intro w' hSw; obtain ⟨hc_, hf_⟩ := bcell (Aside0.out (show Aside0 _ from hSw)); clear hSw; go_simp; (try with_reducible rfl); done)); (try simp only [Act.put, List.setIfInBounds_toArray, List.set_cons_zero, List.set_cons_succ]))
            (refine wpAnyH_take (i := 3) (v := ?_) (by simp only [List.getElem?_toArray, List.getElem?_cons_succ, List.getElem?_cons_zero]; rfl) (by kernel_rfl) (by kernel_rfl) (by kernel_rfl) (fun _ _ _ h => h) (Or.inl ⟨by rfl, ?_⟩) (by exact hHeld) ?_; rotate_left; (focus (intro w' hSw; obtain ⟨hc_, hf_⟩ := bcell (Aside0.out (show Aside0 _ from hSw)); clear hSw; go_simp; (try with_reducible rfl); done)); (try simp only [Act.put, List.setIfInBounds_toArray, List.set_cons_zero, List.set_cons_succ]))
            (refine wpAnyH_take (i := 4) (v := ?_) (by simp only [List.getElem?_toArray, List.getElem?_cons_succ, List.getElem?_cons_zero]; rfl) (by kernel_rfl) (by kernel_rfl) (by kernel_rfl) (fun _ _ _ h => h) (Or.inl ⟨by rfl, ?_⟩) (by exact hHeld) ?_; rotate_left; (focus (intro w' hSw; obtain ⟨hc_, hf_⟩ := bcell (Aside0.out (show Aside0 _ from hSw)); clear hSw; go_simp; (try with_reducible rfl); done)); (try simp only [Act.put, List.setIfInBounds_toArray, List.set_cons_zero, List.set_cons_succ]))
            (refine wpAnyH_take (i := 5) (v := ?_) (by simp only [List.getElem?_toArray, List.getElem?_cons_succ, List.getElem?_cons_zero]; rfl) (by kernel_rfl) (by kernel_rfl) (by kernel_rfl) (fun _ _ _ h => h) (Or.inl ⟨by rfl, ?_⟩) (by exact hHeld) ?_; rotate_left; (focus (intro w' hSw; obtain ⟨hc_, hf_⟩ := bcell (Aside0.out (show Aside0 _ from hSw)); clear hSw; go_simp; (try with_reducible rfl); done)); (try simp only [Act.put, List.setIfInBounds_toArray, List.set_cons_zero, List.set_cons_succ]))
            (refine wpAnyH_take (i := 6) (v := ?_) (by simp only [List.getElem?_toArray, List.getElem?_cons_succ, List.getElem?_cons_zero]; rfl) (by kernel_rfl) (by kernel_rfl) (by kernel_rfl) (fun _ _ _ h => h) (Or.inl ⟨by rfl, ?_⟩) (by exact hHeld) ?_; rotate_left; (focus (intro w' hSw; obtain ⟨hc_, hf_⟩ := bcell (Aside0.out (show Aside0 _ from hSw)); clear hSw; go_simp; (try with_reducible rfl); done)); (try simp only [Act.put, List.setIfInBounds_toArray, List.set_cons_zero, List.set_cons_succ]))
            (refine wpAnyH_take (i := 7) (v := ?_) (by simp only [List.getElem?_toArray, List.getElem?_cons_succ, List.getElem?_cons_zero]; rfl) (by kernel_rfl) (by kernel_rfl) (by kernel_rfl) (fun _ _ _ h => h) (Or.inl ⟨by rfl, ?_⟩) (by exact hHeld) ?_; rotate_left; (focus (intro w' hSw; obtain ⟨hc_, hf_⟩ := bcell (Aside0.out (show Aside0 _ from hSw)); clear hSw; go_simp; (try with_reducible rfl); done)); (try simp only [Act.put, List.setIfInBounds_toArray, List.set_cons_zero, List.set_cons_succ]))
            (refine wpAnyH_take (i := 8) (v := ?_) (by simp only [List.getElem?_toArray, List.getElem?_cons_succ, List.getElem?_cons_zero]; rfl) (by kernel_rfl) (by kernel_rfl) (by kernel_rfl) (fun _ _ _ h => h) (Or.inl ⟨by rfl, ?_⟩) (by exact hHeld) ?_; rotate_left; (focus (intro w' hSw; obtain ⟨hc_, hf_⟩ := bcell (Aside0.out (show Aside0 _ from hSw)); clear hSw; go_simp; (try with_reducible rfl); done)); (try simp only [Act.put, List.setIfInBounds_toArray, List.set_cons_zero, List.set_cons_succ]))
            (refine wpAnyH_take (i := 9) (v := ?_) (by simp only [List.getElem?_toArray, List.getElem?_cons_succ, List.getElem?_cons_zero]; rfl) (by kernel_rfl) (by kernel_rfl) (by kernel_rfl) (fun _ _ _ h => h) (Or.inl ⟨by rfl, ?_⟩) (by exact hHeld) ?_; rotate_left; (focus (intro w' hSw; obtain ⟨hc_, hf_⟩ := bcell (Aside0.out (show Aside0 _ from hSw)); clear hSw; go_simp; (try with_reducible rfl); done)); (try simp only [Act.put, List.setIfInBounds_toArray, List.set_cons_zero, List.set_cons_succ]))
            (refine wpAnyH_take (i := 10) (v := ?_) (by simp only [List.getElem?_toArray, List.getElem?_cons_succ, List.getElem?_cons_zero]; rfl) (by kernel_rfl) (by kernel_rfl) (by kernel_rfl) (fun _ _ _ h => h) (Or.inl ⟨by rfl, ?_⟩) (by exact hHeld) ?_; rotate_left; (focus (intro w' hSw; obtain ⟨hc_, hf_⟩ := bcell (Aside0.out (show Aside0 _ from hSw)); clear hSw; go_simp; (try with_reducible rfl); done)); (try simp only [Act.put, List.setIfInBounds_toArray, List.set_cons_zero, List.set_cons_succ]))
            (refine wpAnyH_take (i := 11) (v := ?_) (by simp only [List.getElem?_toArray, List.getElem?_cons_succ, List.getElem?_cons_zero]; rfl) (by kernel_rfl) (by kernel_rfl) (by kernel_rfl) (fun _ _ _ h => h) (Or.inl ⟨by rfl, ?_⟩) (by exact hHeld) ?_; rotate_left; (focus (intro w' hSw; obtain ⟨hc_, hf_⟩ := bcell (Aside0.out (show Aside0 _ from hSw)); clear hSw; go_simp; (try with_reducible rfl); done)); (try simp only [Act.put, List.setIfInBounds_toArray, List.set_cons_zero, List.set_cons_succ]))
            (refine wpAnyH_take (i := 12) (v := ?_) (by simp only [List.getElem?_toArray, List.getElem?_cons_succ, List.getElem?_cons_zero]; rfl) (by kernel_rfl) (by kernel_rfl) (by kernel_rfl) (fun _ _ _ h => h) (Or.inl ⟨by rfl, ?_⟩) (by exact hHeld) ?_; rotate_left; (focus (intro w' hSw; obtain ⟨hc_, hf_⟩ := bcell (Aside0.out (show Aside0 _ from hSw)); clear hSw; go_simp; (try with_reducible rfl); done)); (try simp only [Act.put, List.setIfInBounds_toArray, List.set_cons_zero, List.set_cons_succ]))
            (refine wpAnyH_take (i := 13) (v := ?_) (by simp only [List.getElem?_toArray, List.getElem?_cons_succ, List.getElem?_cons_zero]; rfl) (by kernel_rfl) (by kernel_rfl) (by kernel_rfl) (fun _ _ _ h => h) (Or.inl ⟨by rfl, ?_⟩) (by exact hHeld) ?_; rotate_left; (focus (intro w' hSw; obtain ⟨hc_, hf_⟩ := bcell (Aside0.out (show Aside0 _ from hSw)); clear hSw; go_simp; (try with_reducible rfl); done)); (try simp only [Act.put, List.setIfInBounds_toArray, List.set_cons_zero, List.set_cons_succ]))
            (refine wpAnyH_ready (rs := [14]) (by kernel_rfl) (by simp) ?_; refine (AllReadyH.cons (by simp only [List.getElem?_toArray, List.getElem?_cons_succ, List.getElem?_cons_zero]; rfl) (fun K hK => ?_) AllReadyH.nil); go_simp; (go_at_call 17; (refine (rvalue_w a6 cm x B3 d3 _ (Kd.C_below HC3.out (below_step HB.out hHeld.out)) hl3 hck hxb).mono ?_); rintro e wv ⟨rfl, hb⟩); refine hK.out _ _ (by (try dsimp only); exact ⟨below_step hHeld.out hb⟩) ?_; clear hK K hHeld; intro hHeld; (try simp only [Act.put, List.setIfInBounds_toArray, List.set_cons_zero, List.set_cons_succ]))
            (refine wpAnyH_take (i := 15) (v := ?_) (by simp only [List.getElem?_toArray, List.getElem?_cons_succ, List.getElem?_cons_zero]; rfl) (by kernel_rfl) (by kernel_rfl) (by kernel_rfl) (fun _ _ _ h => h) (Or.inl ⟨by rfl, ?_⟩) (by exact hHeld) ?_; rotate_left; (focus (intro w' hSw; obtain ⟨hc_, hf_⟩ := bcell (Aside0.out (show Aside0 _ from hSw)); clear hSw; go_simp; (try with_reducible rfl); done)); (try simp only [Act.put, List.setIfInBounds_toArray, List.set_cons_zero, List.set_cons_succ]))
            (refine wpAnyH_take (i := 16) (v := ?_) (by simp only [List.getElem?_toArray, List.getElem?_cons_succ, List.getElem?_cons_zero]; rfl) (by kernel_rfl) (by kernel_rfl) (by kernel_rfl) (fun _ _ _ h => h) (Or.inl ⟨by rfl, ?_⟩) (by exact hHeld) ?_; rotate_left; (focus (intro w' hSw; obtain ⟨hc_, hf_⟩ := bcell (Aside0.out (show Aside0 _ from hSw)); clear hSw; go_simp; (try with_reducible rfl); done)); (try simp only [Act.put, List.setIfInBounds_toArray, List.set_cons_zero, List.set_cons_succ]))
            (refine wpAnyH_done (by kernel_rfl) ?_ _; refine NoPanic.normal ?_)
            have sb := hHeld
            go_wp2
            go_roundw
            case rel =>
              refine ⟨pos + 1, acc ++ valB a6 cm x, by first | rfl | simp, rfl, by omega, (sb.out.block _ hlt0).trans HQ.out, below_step HB.out sb.out, ⟨?_⟩, ⟨?_⟩⟩
              · rw [← hacc.out, HST.out]
                unfold valB
                rw [ByteArray.append_assoc]
              · have h1 := hal.out
                have h2 := capB_step pos
                rw [ByteArray.size_append]
                omega
            case measure => simp [intOf]; omega
          · have hs1 : (x.f0 == 0) = false := beq_eq_false_iff_ne.2 hs
            rw [if_neg hs, List.nil_append] at hstep
            have HST := Aside0.mk hstep
            clear hstep hs
            go_wp2
            go_roundw
            case rel => exact ⟨pos + 1, acc, by first | rfl | simp, rfl, by omega, HQ.out, HB.out, ⟨by rw [← hacc.out, HST.out]⟩, ⟨by have h1 := hal.out; have h2 := capB_step pos; omega⟩⟩
            case measure => simp [intOf]; omega
        · have hfin : acc = strOfNums (valP a6 l0 l1) := by
            have := hacc.out
            rwa [valP_end a6 l0 l1 pos (by omega), show strOfNums [] = (⟨#[]⟩ : ByteArray) from rfl, bs_add_nil] at this
          have HFIN := Aside0.mk hfin
          have e5 : ((⟨#[69, 78, 68, 13, 10]⟩ : ByteArray) : ByteArray).size = 5 := rfl
          have hz : (acc ++ (⟨#[69, 78, 68, 13, 10]⟩ : ByteArray)).size ≤ 9223372036854775807 := by rw [ByteArray.size_append, e5]; omega
          have hcat : (9223372036854775807 < acc.size + 5) = False := by simp; omega
          clear hfin hacc hal a0 a6' e5
          go_wp2_with ((with_reducible refine gate_dst (N := 68) rfl ?_); refine wp_bytes2 rfl _ _ _ _ rfl _ rfl Tryd.underlying9 Tryd.underlying32 Tryd.underlying5 hz ?_; intro b c w4 hb4 hc4 hC4 hb; have HC4 := Aside0.mk hC4; have HBn := Aside0.mk (below_step (by repeat (first | (with_reducible first | exact HB.out | apply below_alloc | apply pw_below_drewN | apply below_drew1) | exact HB.out)) hb); clear HB; have HB := HBn; clear HBn; clear hb hC4)
          go_ret
          rw [← HFIN.out]
          exact ⟨_, c, rfl, hc4, HC4.out, HB.out⟩
  · have hcmp : decide (l0.length < l1.length) = false := decide_eq_false hlt
    rcases hc with rfl | rfl
    all_goals
      clear hcmp
      have hcmp : decide (l0.length < l1.length) = false := by simp; omega
      go_enter Tryd.func11, Tryd.ntmps11
      go_wp2
      go_loopw [6, 7] (fun v6 v7 wr => ∃ (pos : Nat) (acc : ByteArray), v7 = .int .i64 pos ∧ v6 = .string acc ∧ pos ≤ l1.length ∧ wr.heap[w.heap.size]? = some (.cells #[.slice (some ⟨eb, eo, none⟩) l0.length c0, .int .i64 a1, .string a2, .int .i64 a3, .int .u32 a4, .bool a5, .bool a6, .string a7, .slice A8 l8.length c8, .slice A9 l9.length c9, .bool a10] 28 (0, 0)) ∧ Below w.heap.size w wr ∧ Aside0 (acc ++ strOfNums (valP a6 (l0.drop pos) (l1.drop pos)) = strOfNums (valP a6 l0 l1)) ∧ Aside0 (acc.size ≤ capB pos)) (fun _ v7 _ => l1.length - (intOf v7).toNat)
      case atStart => exact ⟨0, ⟨#[]⟩, rfl, rfl, by omega, ha_at rfl, below_alloc (Below.refl _ _) _, ⟨by rw [List.drop_zero, List.drop_zero, bs_nil_add]⟩, ⟨Nat.zero_le _⟩⟩
      case round =>
        obtain ⟨pos, acc, rfl, rfl, hps, hqb, hbw, hacc, hal⟩ := hrel
        have HB := Aside0.mk hbw; have HQ := Aside0.mk hqb
        have hwsz := hbw.size
        have hlt0 : w.heap.size < wr.heap.size := (Array.getElem?_eq_some_iff.1 HQ.out).1
        have a0 := blk_cells hqb 0 _ rfl; have a6' := blk_cells hqb 6 _ rfl
        have hal2 : acc.size ≤ 6000000 := by have h1 := hal.out; have h2 := capB_le pos (by omega); omega
        clear hqb hbw
        by_cases hp : pos < l1.length
        · obtain ⟨ad, B3, d3, hA1, r0, r1, r2, r3, r4, r5, r6, r7, r8, hl3, hC3⟩ := at_T40 HA.out.h1 (pos : Int) (by omega) (by omega)
          obtain ⟨x, hx⟩ : ∃ x, rd_T40 l1 (pos : Int) = x := ⟨_, rfl⟩
          have hxm : x ∈ l1 := by
            rw [← hx]
            unfold rd_T40
            rw [Int.toNat_natCast, List.getD_eq_getElem?_getD, List.getElem?_eq_getElem (show pos < l1.length by omega)]
            exact List.getElem_mem _
          have hxb := HK1.out x hxm
          rw [hx] at r0 r1 r2 r3 r4 r5 r6 r7 r8 hl3 hC3
          rw [Int.toNat_natCast] at r0 r1 r2 r3 r4 r5 r6 r7 r8
          obtain ⟨bb, bo, hpl, hbb⟩ := addr_plain r0
          rw [hpl] at r0 r1 r2 r3 r4 r5 r6 r7 r8
          dsimp only at r1 r2 r3 r4 r5 r6 r7 r8
          have up := fun (o : Nat) => HB.out.cell (p := ⟨bb, o, none⟩) hbb
          replace r0 := (up _).trans r0; replace r1 := (up _).trans r1; replace r2 := (up _).trans r2; replace r3 := (up _).trans r3; replace r4 := (up _).trans r4; replace r5 := (up _).trans r5; replace r6 := (up _).trans r6; replace r7 := (up _).trans r7; replace r8 := (up _).trans r8
          obtain ⟨ac, C4, d4, hA2, t0, t1, -⟩ := at_T38 HA.out.h0 (pos : Int) (by omega) (by omega)
          obtain rfl := Option.some.inj hA2
          obtain ⟨cm, hcm⟩ : ∃ cm, rd_T38 l0 (pos : Int) = cm := ⟨_, rfl⟩
          have hcmm : cm ∈ l0 := by
            rw [← hcm]
            unfold rd_T38
            rw [Int.toNat_natCast, List.getD_eq_getElem?_getD, List.getElem?_eq_getElem (show pos < l0.length by omega)]
            exact List.getElem_mem _
          have hck := HK0.out cm hcmm
          rw [hcm] at t0 t1
          rw [Int.toNat_natCast] at t0 t1
          have hadd : (⟨eb, eo, none⟩ : Addr).add (pos * 10) = ⟨eb, eo + pos * 10, none⟩ := by unfold Addr.add; split <;> simp_all
          rw [hadd] at t0 t1
          dsimp only at t1
          replace t1 := (HB.out.cell (p := ⟨eb, _, none⟩) heb).trans t1
          clear hadd
          have hstep := valP_step a6 l0 l1 pos (by omega) (by omega)
          rw [hx, hcm] at hstep
          have HC3 := Aside0.mk hC3
          clear up t0 hC3 hxm hcmm
          subst hA1
          by_cases hs : x.f0 = 0
          · have hs1 : (x.f0 == 0) = true := beq_iff_eq.2 hs
            rw [if_pos hs] at hstep
            have HST : Aside0 (strOfNums (valP a6 (l0.drop pos) (l1.drop pos)) = strOfNums (pieceI a6 cm x) ++ strOfNums (valP a6 (l0.drop (pos + 1)) (l1.drop (pos + 1)))) := ⟨by rw [hstep, strOfNums_app]⟩
            have hvs := valB_size a6 cm x hck hxb
            have hcat : (9223372036854775807 < acc.size + (valB a6 cm x).size) = False := by simp; omega
            have h1b : bb < wr.heap.size := by omega
            have hp0 : pos < l0.length := by omega
            have hp1 : pos < l1.length := by omega
            have h2b : eb < wr.heap.size := by omega
            clear hstep hs
            go_upto_region 10 with (fail)
            (refine wp_region_noPanic ?_; refine wp_region_held_drew (S := (fun w' => Aside0 (Below wr.heap.size wr w'))) (by kernel_rfl) ⟨below_drew1 (Below.refl _ _)⟩ ?_; intro hHeld)
            (refine wpAnyH_take (i := 0) (v := ?_) (by simp only [List.getElem?_toArray, List.getElem?_cons_succ, List.getElem?_cons_zero]; rfl) (by kernel_rfl) (by kernel_rfl) (by kernel_rfl) (fun _ _ _ h => h) (Or.inl ⟨by rfl, ?_⟩) (by exact hHeld) ?_; rotate_left; (focus (intro w' hSw; obtain ⟨hc_, hf_⟩ := bcell (Aside0.out (show Aside0 _ from hSw)); clear hSw; go_simp; (try with_reducible rfl); done)); (try simp only [Act.put, List.setIfInBounds_toArray, List.set_cons_zero, List.set_cons_succ]))
            (refine wpAnyH_take (i := 1) (v := ?_) (by simp only [List.getElem?_toArray, List.getElem?_cons_succ, List.getElem?_cons_zero]; rfl) (by kernel_rfl) (by kernel_rfl) (by kernel_rfl) (fun _ _ _ h => h) (Or.inl ⟨by rfl, ?_⟩) (by exact hHeld) ?_; rotate_left; (focus (intro w' hSw; obtain ⟨hc_, hf_⟩ := bcell (Aside0.out (show Aside0 _ from hSw)); clear hSw; go_simp; (try with_reducible rfl); done)); (try simp only [Act.put, List.setIfInBounds_toArray, List.set_cons_zero, List.set_cons_succ]))
            (refine wpAnyH_take (i := 2) (v := ?_) (by simp only [List.getElem?_toArray, List.getElem?_cons_succ, List.getElem?_cons_zero]; rfl) (by kernel_rfl) (by kernel_rfl) (by kernel_rfl) (fun _ _ _ h => h) (Or.inl ⟨by rfl, ?_⟩) (by exact hHeld) ?_; rotate_left; (focus (intro w' hSw; obtain ⟨hc_, hf_⟩ := bcell (Aside0.out (show Aside0 _ from hSw)); clear hSw; go_simp; (try with_reducible rfl); done)); (try simp only [Act.put, List.setIfInBounds_toArray, List.set_cons_zero, List.set_cons_succ]))
            (refine wpAnyH_take (i := 3) (v := ?_) (by simp only [List.getElem?_toArray, List.getElem?_cons_succ, List.getElem?_cons_zero]; rfl) (by kernel_rfl) (by kernel_rfl) (by kernel_rfl) (fun _ _ _ h => h) (Or.inl ⟨by rfl, ?_⟩) (by exact hHeld) ?_; rotate_left; (focus (intro w' hSw; obtain ⟨hc_, hf_⟩ := bcell (Aside0.out (show Aside0 _ from hSw)); clear hSw; go_simp; (try with_reducible rfl); done)); (try simp only [Act.put, List.setIfInBounds_toArray, List.set_cons_zero, List.set_cons_succ]))
            (refine wpAnyH_take (i := 4) (v := ?_) (by simp only [List.getElem?_toArray, List.getElem?_cons_succ, List.getElem?_cons_zero]; rfl) (by kernel_rfl) (by kernel_rfl) (by kernel_rfl) (fun _ _ _ h => h) (Or.inl ⟨by rfl, ?_⟩) (by exact hHeld) ?_; rotate_left; (focus (intro w' hSw; obtain ⟨hc_, hf_⟩ := bcell (Aside0.out (show Aside0 _ from hSw)); clear hSw; go_simp; (try with_reducible rfl); done)); (try simp only [Act.put, List.setIfInBounds_toArray, List.set_cons_zero, List.set_cons_succ]))
            (refine wpAnyH_take (i := 5) (v := ?_) (by simp only [List.getElem?_toArray, List.getElem?_cons_succ, List.getElem?_cons_zero]; rfl) (by kernel_rfl) (by kernel_rfl) (by kernel_rfl) (fun _ _ _ h => h) (Or.inl ⟨by rfl, ?_⟩) (by exact hHeld) ?_; rotate_left; (focus (intro w' hSw; obtain ⟨hc_, hf_⟩ := bcell (Aside0.out (show Aside0 _ from hSw)); clear hSw; go_simp; (try with_reducible rfl); done)); (try simp only [Act.put, List.setIfInBounds_toArray, List.set_cons_zero, List.set_cons_succ]))
            (refine wpAnyH_take (i := 6) (v := ?_) (by simp only [List.getElem?_toArray, List.getElem?_cons_succ, List.getElem?_cons_zero]; rfl) (by kernel_rfl) (by kernel_rfl) (by kernel_rfl) (fun _ _ _ h => h) (Or.inl ⟨by rfl, ?_⟩) (by exact hHeld) ?_; rotate_left; (focus (intro w' hSw; obtain ⟨hc_, hf_⟩ := bcell (Aside0.out (show Aside0 _ from hSw)); clear hSw; go_simp; (try with_reducible rfl); done)); (try simp only [Act.put, List.setIfInBounds_toArray, List.set_cons_zero, List.set_cons_succ]))
            (refine wpAnyH_take (i := 7) (v := ?_) (by simp only [List.getElem?_toArray, List.getElem?_cons_succ, List.getElem?_cons_zero]; rfl) (by kernel_rfl) (by kernel_rfl) (by kernel_rfl) (fun _ _ _ h => h) (Or.inl ⟨by rfl, ?_⟩) (by exact hHeld) ?_; rotate_left; (focus (intro w' hSw; obtain ⟨hc_, hf_⟩ := bcell (Aside0.out (show Aside0 _ from hSw)); clear hSw; go_simp; (try with_reducible rfl); done)); (try simp only [Act.put, List.setIfInBounds_toArray, List.set_cons_zero, List.set_cons_succ]))
            (refine wpAnyH_take (i := 8) (v := ?_) (by simp only [List.getElem?_toArray, List.getElem?_cons_succ, List.getElem?_cons_zero]; rfl) (by kernel_rfl) (by kernel_rfl) (by kernel_rfl) (fun _ _ _ h => h) (Or.inl ⟨by rfl, ?_⟩) (by exact hHeld) ?_; rotate_left; (focus (intro w' hSw; obtain ⟨hc_, hf_⟩ := bcell (Aside0.out (show Aside0 _ from hSw)); clear hSw; go_simp; (try with_reducible rfl); done)); (try simp only [Act.put, List.setIfInBounds_toArray, List.set_cons_zero, List.set_cons_succ]))
            (refine wpAnyH_take (i := 9) (v := ?_) (by simp only [List.getElem?_toArray, List.getElem?_cons_succ, List.getElem?_cons_zero]; rfl) (by kernel_rfl) (by kernel_rfl) (by kernel_rfl) (fun _ _ _ h => h) (Or.inl ⟨by rfl, ?_⟩) (by exact hHeld) ?_; rotate_left; (focus (intro w' hSw; obtain ⟨hc_, hf_⟩ := bcell (Aside0.out (show Aside0 _ from hSw)); clear hSw; go_simp; (try with_reducible rfl); done)); (try simp only [Act.put, List.setIfInBounds_toArray, List.set_cons_zero, List.set_cons_succ]))
            (refine wpAnyH_take (i := 10) (v := ?_) (by simp only [List.getElem?_toArray, List.getElem?_cons_succ, List.getElem?_cons_zero]; rfl) (by kernel_rfl) (by kernel_rfl) (by kernel_rfl) (fun _ _ _ h => h) (Or.inl ⟨by rfl, ?_⟩) (by exact hHeld) ?_; rotate_left; (focus (intro w' hSw; obtain ⟨hc_, hf_⟩ := bcell (Aside0.out (show Aside0 _ from hSw)); clear hSw; go_simp; (try with_reducible rfl); done)); (try simp only [Act.put, List.setIfInBounds_toArray, List.set_cons_zero, List.set_cons_succ]))
            (refine wpAnyH_take (i := 11) (v := ?_) (by simp only [List.getElem?_toArray, List.getElem?_cons_succ, List.getElem?_cons_zero]; rfl) (by kernel_rfl) (by kernel_rfl) (by kernel_rfl) (fun _ _ _ h => h) (Or.inl ⟨by rfl, ?_⟩) (by exact hHeld) ?_; rotate_left; (focus (intro w' hSw; obtain ⟨hc_, hf_⟩ := bcell (Aside0.out (show Aside0 _ from hSw)); clear hSw; go_simp; (try with_reducible rfl); done)); (try simp only [Act.put, List.setIfInBounds_toArray, List.set_cons_zero, List.set_cons_succ]))
            (refine wpAnyH_take (i := 12) (v := ?_) (by simp only [List.getElem?_toArray, List.getElem?_cons_succ, List.getElem?_cons_zero]; rfl) (by kernel_rfl) (by kernel_rfl) (by kernel_rfl) (fun _ _ _ h => h) (Or.inl ⟨by rfl, ?_⟩) (by exact hHeld) ?_; rotate_left; (focus (intro w' hSw; obtain ⟨hc_, hf_⟩ := bcell (Aside0.out (show Aside0 _ from hSw)); clear hSw; go_simp; (try with_reducible rfl); done)); (try simp only [Act.put, List.setIfInBounds_toArray, List.set_cons_zero, List.set_cons_succ]))
            (refine wpAnyH_take (i := 13) (v := ?_) (by simp only [List.getElem?_toArray, List.getElem?_cons_succ, List.getElem?_cons_zero]; rfl) (by kernel_rfl) (by kernel_rfl) (by kernel_rfl) (fun _ _ _ h => h) (Or.inl ⟨by rfl, ?_⟩) (by exact hHeld) ?_; rotate_left; (focus (intro w' hSw; obtain ⟨hc_, hf_⟩ := bcell (Aside0.out (show Aside0 _ from hSw)); clear hSw; go_simp; (try with_reducible rfl); done)); (try simp only [Act.put, List.setIfInBounds_toArray, List.set_cons_zero, List.set_cons_succ]))
            (refine wpAnyH_ready (rs := [14]) (by kernel_rfl) (by simp) ?_; refine (AllReadyH.cons (by simp only [List.getElem?_toArray, List.getElem?_cons_succ, List.getElem?_cons_zero]; rfl) (fun K hK => ?_) AllReadyH.nil); go_simp; (go_at_call 17; (refine (rvalue_w a6 cm x B3 d3 _ (Kd.C_below HC3.out (below_step HB.out hHeld.out)) hl3 hck hxb).mono ?_); rintro e wv ⟨rfl, hb⟩); refine hK.out _ _ (by (try dsimp only); exact ⟨below_step hHeld.out hb⟩) ?_; clear hK K hHeld; intro hHeld; (try simp only [Act.put, List.setIfInBounds_toArray, List.set_cons_zero, List.set_cons_succ]))
            (refine wpAnyH_take (i := 15) (v := ?_) (by simp only [List.getElem?_toArray, List.getElem?_cons_succ, List.getElem?_cons_zero]; rfl) (by kernel_rfl) (by kernel_rfl) (by kernel_rfl) (fun _ _ _ h => h) (Or.inl ⟨by rfl, ?_⟩) (by exact hHeld) ?_; rotate_left; (focus (intro w' hSw; obtain ⟨hc_, hf_⟩ := bcell (Aside0.out (show Aside0 _ from hSw)); clear hSw; go_simp; (try with_reducible rfl); done)); (try simp only [Act.put, List.setIfInBounds_toArray, List.set_cons_zero, List.set_cons_succ]))
            (refine wpAnyH_take (i := 16) (v := ?_) (by simp only [List.getElem?_toArray, List.getElem?_cons_succ, List.getElem?_cons_zero]; rfl) (by kernel_rfl) (by kernel_rfl) (by kernel_rfl) (fun _ _ _ h => h) (Or.inl ⟨by rfl, ?_⟩) (by exact hHeld) ?_; rotate_left; (focus (intro w' hSw; obtain ⟨hc_, hf_⟩ := bcell (Aside0.out (show Aside0 _ from hSw)); clear hSw; go_simp; (try with_reducible rfl); done)); (try simp only [Act.put, List.setIfInBounds_toArray, List.set_cons_zero, List.set_cons_succ]))
            (refine wpAnyH_done (by kernel_rfl) ?_ _; refine NoPanic.normal ?_)
            have sb := hHeld
            go_wp2
            go_roundw
            case rel =>
              refine ⟨pos + 1, acc ++ valB a6 cm x, by first | rfl | simp, rfl, by omega, (sb.out.block _ hlt0).trans HQ.out, below_step HB.out sb.out, ⟨?_⟩, ⟨?_⟩⟩
              · rw [← hacc.out, HST.out]
                unfold valB
                rw [ByteArray.append_assoc]
              · have h1 := hal.out
                have h2 := capB_step pos
                rw [ByteArray.size_append]
                omega
            case measure => simp [intOf]; omega
          · have hs1 : (x.f0 == 0) = false := beq_eq_false_iff_ne.2 hs
            rw [if_neg hs, List.nil_append] at hstep
            have HST := Aside0.mk hstep
            clear hstep hs
            go_wp2
            go_roundw
            case rel => exact ⟨pos + 1, acc, by first | rfl | simp, rfl, by omega, HQ.out, HB.out, ⟨by rw [← hacc.out, HST.out]⟩, ⟨by have h1 := hal.out; have h2 := capB_step pos; omega⟩⟩
            case measure => simp [intOf]; omega
        · have hfin : acc = strOfNums (valP a6 l0 l1) := by
            have := hacc.out
            rwa [valP_end a6 l0 l1 pos (by omega), show strOfNums [] = (⟨#[]⟩ : ByteArray) from rfl, bs_add_nil] at this
          have HFIN := Aside0.mk hfin
          have e5 : ((⟨#[69, 78, 68, 13, 10]⟩ : ByteArray) : ByteArray).size = 5 := rfl
          have hz : (acc ++ (⟨#[69, 78, 68, 13, 10]⟩ : ByteArray)).size ≤ 9223372036854775807 := by rw [ByteArray.size_append, e5]; omega
          have hcat : (9223372036854775807 < acc.size + 5) = False := by simp; omega
          clear hfin hacc hal a0 a6' e5
          go_wp2_with ((with_reducible refine gate_dst (N := 68) rfl ?_); refine wp_bytes2 rfl _ _ _ _ rfl _ rfl Tryd.underlying9 Tryd.underlying32 Tryd.underlying5 hz ?_; intro b c w4 hb4 hc4 hC4 hb; have HC4 := Aside0.mk hC4; have HBn := Aside0.mk (below_step (by repeat (first | (with_reducible first | exact HB.out | apply below_alloc | apply pw_below_drewN | apply below_drew1) | exact HB.out)) hb); clear HB; have HB := HBn; clear HBn; clear hb hC4)
          go_ret
          rw [← HFIN.out]
          exact ⟨_, c, rfl, hc4, HC4.out, HB.out⟩
theorem rshow_w (n : Int) (h0 : 0 ≤ n) (h1 : n ≤ 18446744073709551615) (w : World) : Calls Tryd.prog 14 #[.int .u64 n] w fun e w' => e = .returned (.string (showI n)) ∧ Below w.heap.size w w' := rShow_calls n w h0 h1
theorem rWord_w (s : Int) (w : World) : Calls Tryd.prog 13 #[.int .i64 s] w fun e w' => e = .returned (.string (tWord s)) ∧ Below w.heap.size w w' :=
  (butteryref15_Word.calls s _ w (rword_f s)).mono fun e w' ⟨he, hd⟩ => ⟨he, hd.below⟩
theorem encT_x (c : S38) (x : S40) (xs : List S40) (h16 : c.f0 ≠ 16) : encT c false (x :: xs) = oneI x.f0 x.f5 := by
  unfold encT
  rw [if_neg h16]
  simp
theorem encT_nil (c : S38) (a5 : Bool) (l1 : List S40) (h : a5 = true ∨ c.f0 = 16 ∨ l1 = []) : encT c a5 l1 = [] := by
  unfold encT
  split
  · rfl
  · split
    · rfl
    · next h1 h2 =>
      rcases h with h | h | h
      · exact absurd h h2
      · exact absurd h h1
      · subst h; rfl
set_option maxHeartbeats 4000000 in
set_option maxRecDepth 100000 in
theorem renc_oth (A0 : Option Addr) (c0 : Nat) (c : S38) (cs : List S38) (a1 : Int) (a2 : ByteArray) (a3 a4 : Int) (a5 a6 : Bool) (a7 : ByteArray) (A8 : Option Addr) (c8 : Nat) (l8 : List ByteArray) (A9 : Option Addr) (c9 : Nat) (l9 : List ByteArray) (a10 : Bool) (A1 : Option Addr) (k1 : Nat) (l1 : List S40) (w : World) (h : Args A0 c0 (c :: cs) A8 c8 l8 A9 c9 l9 A1 k1 l1 w) (ho : Okl (c :: cs) l1) (hc0 : c.f0 ≠ 0) (hc1 : c.f0 ≠ 1) :
    Calls Tryd.prog 11 #[.agg #[.slice A0 (c :: cs).length c0, .int .i64 a1, .string a2, .int .i64 a3, .int .u32 a4, .bool a5, .bool a6, .string a7, .slice A8 l8.length c8, .slice A9 l9.length c9, .bool a10], .slice A1 l1.length k1] w (RB w (encT c a5 l1)) := by
  obtain ⟨o1, o2, o3⟩ := okV_at ho.1
  have hm0 := h.h0.2.1
  have hn : 0 < (c :: cs).length := by simp
  obtain ⟨ad, C2, d2, hA0, q0, -⟩ := at_T38 h.h0 0 (by omega) (by omega)
  rw [show ad.add ((0 : Int).toNat * 10) = ad from Addr.add_zero' _, show rd_T38 (c :: cs) 0 = c from rfl] at q0
  obtain ⟨eb, eo, rfl, heb⟩ := addr_plain q0
  subst hA0
  obtain ⟨op, hop⟩ : ∃ op, c.f0 = op := ⟨_, rfl⟩
  rw [hop] at q0 hc0 hc1
  have h01 : (op == 0) = false := beq_eq_false_iff_ne.2 hc0
  have h11 : (op == 1) = false := beq_eq_false_iff_ne.2 hc1
  have HOP := Aside0.mk hop
  generalize hN : (c :: cs).length = N at *
  have hni : (0 : Int) < (N : Int) := by omega
  have H1 := Aside0.mk h.h1; have HO2 := Aside0.mk ho.2
  clear h ho o2 o3 hc0 hc1 hop hN
  cases a5 with
  | true =>
    rw [encT_nil c true l1 (Or.inl rfl)]
    by_cases hlt : N < l1.length
    all_goals
      have hcmp : decide (N < l1.length) = decide (N < l1.length) := rfl
      first | rw [decide_eq_true hlt] at hcmp | rw [decide_eq_false hlt] at hcmp
      clear hcmp
      go_enter Tryd.func11, Tryd.ntmps11
      go_wp2
      go_ret
      exact RB_nil (by repeat (first | exact Below.refl _ _ | apply below_drew1 | apply pw_below_drewN | apply below_alloc))
  | false =>
    cases l1 with
    | nil =>
      rw [encT_nil c false [] (Or.inr (Or.inr rfl))]
      go_enter Tryd.func11, Tryd.ntmps11
      go_wp2
      go_ret
      exact RB_nil (by repeat (first | exact Below.refl _ _ | apply below_drew1 | apply pw_below_drewN | apply below_alloc))
    | cons x xs =>
      have hm1 := H1.out.2.1
      have hl1 : 0 < (x :: xs).length := by simp
      obtain ⟨ae, B3, d3, hA1, r0, r1, r2, r3, r4, r5, -⟩ := at_T40 H1.out 0 (by omega) (by omega)
      rw [show ae.add ((0 : Int).toNat * 9) = ae from Addr.add_zero' _, show rd_T40 (x :: xs) 0 = x from rfl] at r0 r1 r2 r3 r4 r5
      obtain ⟨bb, bo, rfl, hbb⟩ := addr_plain r0
      dsimp only at r5
      subst hA1
      have hx5 := HO2.out x (by simp)
      generalize hM : (x :: xs).length = M at *
      have hnj : (0 : Int) < (M : Int) := by omega
      have hN0 : ((N : Int) == 0) = false := beq_eq_false_iff_ne.2 (by omega)
      have hM0 : ((M : Int) == 0) = false := beq_eq_false_iff_ne.2 (by omega)
      by_cases h16 : op = 16
      · rw [encT_nil c false (x :: xs) (Or.inr (Or.inl (by rw [HOP.out, h16])))]
        have h161 : (op == 16) = true := beq_iff_eq.2 h16
        clear h16 r1 r2 r3 r4 hM H1
        by_cases hlt : N < M
        all_goals
          go_enter Tryd.func11, Tryd.ntmps11
          go_wp2
          go_ret
          exact RB_nil (by repeat (first | exact Below.refl _ _ | apply below_drew1 | apply pw_below_drewN | apply below_alloc))
      · rw [encT_x c x xs (by rw [HOP.out]; exact h16)]
        have h161 : (op == 16) = false := beq_eq_false_iff_ne.2 h16
        obtain ⟨st, hst⟩ : ∃ st, x.f0 = st := ⟨_, rfl⟩
        obtain ⟨nu, hnu⟩ : ∃ nu, x.f5 = nu := ⟨_, rfl⟩
        rw [hst] at r0 ⊢
        rw [hnu] at r5 hx5 ⊢
        have HB := Aside0.mk (Below.refl w.heap.size w)
        have e2 : ((⟨#[13, 10]⟩ : ByteArray) : ByteArray).size = 2 := rfl
        clear h16 r1 r2 r3 r4 hM H1 hst hnu HO2
        by_cases h7 : st = 7
        · have h71 : (st == 7) = true := beq_iff_eq.2 h7
          have s3 := showI_size nu hx5.2
          have hz : (showI nu ++ (⟨#[13, 10]⟩ : ByteArray)).size ≤ 9223372036854775807 := by rw [ByteArray.size_append, e2]; omega
          have hcat : (9223372036854775807 < (showI nu).size + 2) = False := by simp; omega
          have hfin : oneI st nu = bytesOf (showI nu ++ (⟨#[13, 10]⟩ : ByteArray)) := by
            unfold oneI
            rw [if_pos h7]
            unfold lineB
            rw [joinB_one]
          rw [hfin]
          clear h7 hfin e2
          by_cases hlt : N < M
          all_goals
            go_enter Tryd.func11, Tryd.ntmps11
            go_wp2_with (first
              | (go_at_call 14; (with_reducible refine (rshow_w _ hx5.1 hx5.2 _).mono ?_); rintro e w1 ⟨rfl, hb⟩; have HBn := Aside0.mk (below_step (by repeat (first | (with_reducible first | exact HB.out | apply below_alloc | apply pw_below_drewN | apply below_drew1) | exact HB.out)) hb); clear HB; have HB := HBn; clear HBn; clear hb)
              | ((with_reducible refine gate_dst (N := 95) rfl ?_); refine wp_bytes2 rfl _ _ _ _ rfl _ rfl Tryd.underlying9 Tryd.underlying32 Tryd.underlying5 hz ?_; intro b c w4 hb4 hc4 hC4 hb; have HC4 := Aside0.mk hC4; have HBn := Aside0.mk (below_step (by repeat (first | (with_reducible first | exact HB.out | apply below_alloc | apply pw_below_drewN | apply below_drew1) | exact HB.out)) hb); clear HB; have HB := HBn; clear HBn; clear hb hC4))
            go_ret
            exact ⟨_, _, rfl, hc4, HC4.out, HB.out⟩
        · have h71 : (st == 7) = false := beq_eq_false_iff_ne.2 h7
          have s3 := tWord_size st
          obtain ⟨T, hT⟩ : ∃ T, tWord st = T := ⟨_, rfl⟩
          have HTT := Aside0.mk hT
          have hfin : oneI st nu = if T = (⟨#[]⟩ : ByteArray) then [] else bytesOf (T ++ (⟨#[13, 10]⟩ : ByteArray)) := by
            unfold oneI
            rw [if_neg h7, hT]
            unfold lineB
            rw [joinB_one]
          rw [hfin]
          rw [hT] at s3
          clear h7 hfin hT
          by_cases hw : T = (⟨#[]⟩ : ByteArray)
          · rw [if_pos hw]
            subst hw
            clear e2 s3
            by_cases hlt : N < M
            all_goals
              go_enter Tryd.func11, Tryd.ntmps11
              go_wp2_with (go_at_call 13; (with_reducible refine (rWord_w _ _).mono ?_); rintro e w1 ⟨rfl, hb⟩; rw [HTT.out]; have HBn := Aside0.mk (below_step (by repeat (first | (with_reducible first | exact HB.out | apply below_alloc | apply pw_below_drewN | apply below_drew1) | exact HB.out)) hb); clear HB; have HB := HBn; clear HBn; clear hb)
              go_ret
              exact RB_nil HB.out
          · rw [if_neg hw]
            have hne : T.toList.isEmpty = false := Bool.eq_false_iff.2 (fun h => hw ((bs_nil _).1 h))
            have hz : (T ++ (⟨#[13, 10]⟩ : ByteArray)).size ≤ 9223372036854775807 := by rw [ByteArray.size_append, e2]; omega
            have hcat : (9223372036854775807 < T.size + 2) = False := by simp; omega
            clear hw e2
            by_cases hlt : N < M
            all_goals
              go_enter Tryd.func11, Tryd.ntmps11
              go_wp2_with (first
                | (go_at_call 13; (with_reducible refine (rWord_w _ _).mono ?_); rintro e w1 ⟨rfl, hb⟩; rw [HTT.out]; have HBn := Aside0.mk (below_step (by repeat (first | (with_reducible first | exact HB.out | apply below_alloc | apply pw_below_drewN | apply below_drew1) | exact HB.out)) hb); clear HB; have HB := HBn; clear HBn; clear hb)
                | ((with_reducible refine gate_dst (N := 105) rfl ?_); refine wp_bytes2 rfl _ _ _ _ rfl _ rfl Tryd.underlying9 Tryd.underlying32 Tryd.underlying5 hz ?_; intro b c w4 hb4 hc4 hC4 hb; have HC4 := Aside0.mk hC4; have HBn := Aside0.mk (below_step (by repeat (first | (with_reducible first | exact HB.out | apply below_alloc | apply pw_below_drewN | apply below_drew1) | exact HB.out)) hb); clear HB; have HB := HBn; clear HBn; clear hb hC4))
              go_ret
              exact ⟨_, _, rfl, hc4, HC4.out, HB.out⟩
theorem renc_w (A0 : Option Addr) (c0 : Nat) (l0 : List S38) (a1 : Int) (a2 : ByteArray) (a3 a4 : Int) (a5 a6 : Bool) (a7 : ByteArray) (A8 : Option Addr) (c8 : Nat) (l8 : List ByteArray) (A9 : Option Addr) (c9 : Nat) (l9 : List ByteArray) (a10 : Bool) (A1 : Option Addr) (k1 : Nat) (l1 : List S40) (w : World) (h : Args A0 c0 l0 A8 c8 l8 A9 c9 l9 A1 k1 l1 w) (ho : Okl l0 l1) :
    Calls Tryd.prog 11 #[.agg #[.slice A0 l0.length c0, .int .i64 a1, .string a2, .int .i64 a3, .int .u32 a4, .bool a5, .bool a6, .string a7, .slice A8 l8.length c8, .slice A9 l9.length c9, .bool a10], .slice A1 l1.length k1] w (RB w (rencI l0 a5 a6 l1)) := by
  cases l0 with
  | nil => exact renc_nil A0 c0 0 a1 a2 a3 a4 a5 a6 a7 A8 c8 l8 A9 c9 l9 a10 A1 k1 l1 w
  | cons c cs =>
    rw [rencI_cons]
    by_cases hg : c.f0 = 0 ∨ c.f0 = 1
    · rw [if_pos hg]
      exact renc_get A0 c0 (c :: cs) a1 a2 a3 a4 a5 a6 a7 A8 c8 l8 A9 c9 l9 a10 A1 k1 l1 w h ho (by simp) hg
    · rw [if_neg hg]
      exact renc_oth A0 c0 c cs a1 a2 a3 a4 a5 a6 a7 A8 c8 l8 A9 c9 l9 a10 A1 k1 l1 w h ho (fun e => hg (Or.inl e)) (fun e => hg (Or.inr e))
end Go.Proofs.YtkolleohenjhmaaDoor.X
