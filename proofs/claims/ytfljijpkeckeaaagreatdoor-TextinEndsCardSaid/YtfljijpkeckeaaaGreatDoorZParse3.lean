/- textin's Parse where there is a line, with the blocks that its answer may rest on: its walk. -/
import Derived.Test.YtfljijpkeckeaaaGreatDoorZ5
import Derived.Laws.CopyOwn
import Derived.Deep.DeepCutAuto
namespace Go.Proofs.YtfljijpkeckeaaaGreatDoor.X
open Go.RowKit Go.Shelf Go.Proofs.YtfljijpkeckeaaaGreatDoorW.PrintWords Go.Proofs.YtfljijpkeckeaaaGreatDoorW.PrintMore
set_option linter.unusedVariables false
set_option linter.unusedSimpArgs false
attribute [local go_sem] Oper.semAt_some
theorem C_blk {w w2 : World} {b o n : Nat} {l : List Int} (h : (Kd.int .u8).C w (some ⟨b, o, none⟩) n l) (hb : w2.heap[b]? = w.heap[b]?) : (Kd.int .u8).C w2 (some ⟨b, o, none⟩) n l := by
  obtain ⟨h1, h2, h3⟩ := h
  refine ⟨h1, h2, fun h0 => ⟨_, rfl, fun j p hj => ?_⟩⟩
  obtain ⟨ad, ha, hc⟩ := h3 h0
  obtain rfl := Option.some.inj ha
  obtain ⟨cs, hlen, hK, hcell⟩ := hc j p hj
  refine ⟨cs, hlen, hK, fun i u hu => ?_⟩
  rw [← hcell i u hu, add_plain]
  exact World.cell?_of_block hb
set_option maxRecDepth 100000 in
set_option maxHeartbeats 2000000 in
theorem parse_goF (l : List Int) (A : Option Addr) (F : Nat → Prop) (hF0 : ∀ b o, A = some ⟨b, o, none⟩ → F b) (c m : Nat) (t : ByteArray) (w : World) (hC : (Kd.int .u8).C w A l.length l) (hc : l.length ≤ c) (hl : l.length ≤ 1000000) (h8 : B8 l) (he : lineS l = (t, (m : Int) + 1, 0)) (hm : m < l.length) (ht : t.size ≤ 1000000) (hT : Tabs w) :
    Calls Tryz.prog 12 #[.slice A l.length c] w (StepR F w (parseW ((m : Int) + 1) (l.drop (m + 1)) (wordsB t))) := by
  have HB := Aside0.mk (Below.refl w.heap.size w)
  have HC := Aside0.mk hC
  have HT := Aside0.mk hT
  have H8 := Aside0.mk h8
  have HLN : Aside0 (∀ w', Below w.heap.size w w' → Calls Tryz.prog 17 #[.slice A l.length c] w' fun e w'' => e = .returned (.tuple #[.string t, .int .i64 ((m : Int) + 1), .int .i64 0]) ∧ Below w'.heap.size w' w'') := ⟨fun w' hb => by
    have := fline_calls l A c w' (Kd.C_below HC.out hb) hc hl h8
    rw [he] at this
    exact this⟩
  obtain ⟨b, o, rfl, hb0, -⟩ := C_cell hC m hm
  have hFb : Aside0 (F b) := ⟨hF0 b o rfl⟩
  have HB0 := Aside0.mk (show b < w.heap.size from hb0)
  clear hF0
  have hlen := words_len t
  obtain ⟨lr, hlr⟩ : ∃ lr, l.drop (m + 1) = lr := ⟨_, rfl⟩
  have hlrn : l.length - (m + 1) = lr.length := by rw [← hlr, List.length_drop]
  have HLR := Aside0.mk hlr
  rw [hlr]
  have HSZ : Aside0 (∀ x ∈ wordsB t, x.size ≤ 1000000) := ⟨fun x hx => Nat.le_trans (wordsB_size t x hx) ht⟩
  have h8r : B8 lr := fun z hz => h8 z (by rw [← hlr] at hz; exact List.mem_of_mem_drop hz)
  have HR8 := Aside0.mk h8r
  have hlrl : lr.length ≤ 1000000 := by omega
  obtain ⟨R, hR⟩ : ∃ R, parseW ((m : Int) + 1) lr (wordsB t) = R := ⟨_, rfl⟩
  rw [hR]
  have HRR := Aside0.mk hR
  clear hR h8r
  clear hC h8 he hT hlr
  have hi0 : (0 : Int) ≤ (m : Int) + 1 := by omega
  have hi1 : (m : Int) + 1 ≤ ↑l.length := by omega
  have hi2 : (m : Int) < ↑l.length := by omega
  have hi3 : (l.length : Int) ≤ ↑c := by omega
  have hi4 : (0 : Int) ≤ ↑m := by omega
  refine (callsIn_wide (n := 6)).1 ?_
  refine callsIn_of_wp_marks Tryz.func12 rfl trivial ?_ rfl
  simp only [Tryz.ntmps12, List.size_toArray, List.length_cons, List.length_nil, Nat.reduceAdd, Nat.reduceSub, Array.replicate_succ, Array.replicate_zero, List.push_toArray, List.append_toArray, List.nil_append, List.cons_append]
  refine wpIn_wide.2 ?_
  go_upto_region 2 with (first | (go_at_call 17; (with_reducible refine (HLN.out _ (by repeat (first | (with_reducible first | exact HB.out | apply below_alloc | apply pw_below_drewN | apply below_drew1) | exact HB.out))).mono ?_); rintro e w1 ⟨rfl, hb⟩; have BR := Aside0.mk (blk_below (g := w.heap.size) (o := .cells zStepC 34 (0, 0)) (by repeat (first | exact blk_at_new _ _ _ (by simp; done) | exact blk_at_new _ _ _ rfl | refine blk_alloc ?_ _ | refine blk_drew ?_ | refine blk_drewN ?_ _)) hb); have HBn := Aside0.mk (below_step (by repeat (first | (with_reducible first | exact HB.out | apply below_alloc | apply pw_below_drewN | apply below_drew1) | exact HB.out)) hb); clear HB; have HB := HBn; clear HBn; clear hb; have hr1 : w.heap.size < w1.heap.size := blk_lt BR.out))
  go_cut [6] from 17 to 21 (fun s6 wx => s6 = .pointer (some ⟨w1.heap.size, 0, none⟩) ∧ Aside0 (∃ A4 c4, wx.heap[w1.heap.size]? = some (.cells (lineC ⟨#[]⟩ (.slice none 0 0) false ((m : Int) + 1) A4 lr.length c4) 50 (0, 0)) ∧ lr.length ≤ c4 ∧ HolF (fun k => k = b) w (fun w2 => (Kd.int .u8).C w2 A4 lr.length lr) ∧ wx.heap[w.heap.size]? = some (.cells zStepC 34 (0, 0)) ∧ Below w.heap.size w wx ∧ wx.heap.size = w1.heap.size + 1))
  case first =>
    go_wp2
    · have hcm : c = m + 1 := by omega
      subst hcm
      have hnil : lr = [] := List.eq_nil_of_length_eq_zero (by omega)
      go_meet
      case rel => exact ⟨rfl, ⟨⟨_, _, blk_at_new _ _ _ rfl, by omega, fun w2 _ _ => by rw [hnil]; exact C_zero _ _ _, blk_alloc BR.out _, (by repeat (first | (with_reducible first | exact HB.out | apply below_alloc | apply pw_below_drewN | apply below_drew1) | exact HB.out)), by simp⟩⟩⟩
    · go_meet
      case rel => exact ⟨rfl, ⟨⟨_, _, blk_at_new _ _ _ rfl, by omega, fun w2 _ g2 => by have := C_dropk (C_blk HC.out (g2 b HB0.out rfl)) (m + 1); rw [HLR.out] at this; exact this, blk_alloc BR.out _, (by repeat (first | (with_reducible first | exact HB.out | apply below_alloc | apply pw_below_drewN | apply below_drew1) | exact HB.out)), by simp⟩⟩⟩
  case rest =>
    obtain ⟨rfl, HI⟩ := hcut
    obtain ⟨A4, c4, hx, hl4, hC4, hr, hB, hsz⟩ := HI.out
    obtain ⟨gl, hgl⟩ : ∃ g, w1.heap.size = g := ⟨_, rfl⟩
    rw [hgl] at hx hsz hr1
    rw [hgl]
    have BX := Aside0.mk hx
    have BRc := Aside0.mk hr
    have HBc := Aside0.mk hB
    have HC4 := Aside0.mk hC4
    clear hx hr hB hC4 HI BR HB hgl HLN HLR HC
    go_wp2_with (go_at_call 19; (with_reducible refine (mkWords_calls t _).mono ?_); rintro e w' ⟨rfl, rfl⟩)
    obtain ⟨W0, hW0⟩ : ∃ W0, wc.alloc (.cells #[.string t] 9) = W0 := ⟨_, rfl⟩
    have BX0 := Aside0.mk (show W0.heap[gl]? = _ from hW0 ▸ blk_alloc BX.out _)
    have BR0 := Aside0.mk (show W0.heap[w.heap.size]? = _ from hW0 ▸ blk_alloc BRc.out _)
    have hbel : Below w.heap.size w W0 := hW0 ▸ below_alloc HBc.out _
    have bS : Boxed W0 wc.heap.size 9 (.string t) := hW0 ▸ Boxed.new wc 9 (.string t)
    have hsz0 : W0.heap.size = wc.heap.size + 1 := by rw [← hW0]; simp
    rw [hW0]
    rw [hsz] at bS hsz0
    obtain ⟨qs, hqs⟩ : ∃ q, gl + 1 = q := ⟨_, rfl⟩
    rw [hqs] at bS hsz0
    rw [hqs]
    have hql : gl < qs := by omega
    have hql2 : qs ≤ gl + 1 := by omega
    clear hW0 hqs BX BRc HBc hsz
    obtain ⟨i0, hi, hz0, hz1, hz2⟩ := info_parts info9
    refine (wpIn_wide (n := 6)).1 ?_
    refine wpIn_rangeFunc_ownG rfl (by omega) (gf := 38) (lb := #[.pointer (some ⟨qs, 0, none⟩)]) rfl trivial (enters_of Tryz.func38 (by kernel_rfl) rfl)
      (words_stops 5 (by omega) qs w.heap.size t (by omega) W0 bS.lt bS.cell) belowK_t (belowK_b hbel.size) (Below.refl _ _) (fun _ => rfl)
      (fun pre W => ((∃ V, W.heap[gl]? = some (.cells (lineC ⟨#[]⟩ V false ((m : Int) + 1) A4 lr.length c4) 50 (0, 0)) ∧ W.ownsRow (qs + 1) 9 1 V pre.length (pre.map Value.string)) ∧ W.heap[w.heap.size]? = some (.cells zStepC 34 (0, 0))) ∧ Below w.heap.size w W)
      (fun _ _ _ => False)
      (OwnFrom.and (OwnFrom.and (Own.from (own_blkRow gl 50 (fun V => lineC ⟨#[]⟩ V false ((m : Int) + 1) A4 lr.length c4) (qs + 1) 9 (fun (pre : List ByteArray) => pre.length) (fun pre => pre.map Value.string)) _) (Own.from (own_blk _ _ _) _)) (ownFrom_below (Nat.le_refl _) hbel.size))
      (fun _ _ _ _ _ hs _ _ => hs) ⟨⟨⟨_, BX0.out, World.ownsRow_nil _ _ _ _⟩, BR0.out⟩, hbel⟩ ?a1 ?assign ?body ?done ?stop
    case assign =>
      intro l x W K hK
      gi_wp2
      exact hK
    case stop =>
      rintro D c pre W _ _ h _
      exact h.elim
    case body =>
      rintro l pre x W ⟨⟨⟨V, hv, hrow⟩, hr0⟩, hB⟩ hlt2
      have hgW : gl < W.heap.size := blk_lt hv
      have e1 : W.cell? ⟨gl, 1, none⟩ = some V := (blk_cell hv 1).trans rfl
      have hne : some gl ≠ V.ownBlock := own_apart hrow (by omega)
      have hner : some w.heap.size ≠ V.ownBlock := own_apart hrow (by omega)
      have hrg : w.heap.size < gl := hr1
      gi_wp2_with (gi_at_builtin; (refine wpListIn_append_own _ rfl _ _ 27 rfl (qs + 1) 9 i0 (.string ⟨#[]⟩) 1 16 Tryz.underlying27 hi hz0 hz1 hz2 rfl (by decide) _ _ _ rfl (hrow.alloc _) ⟨W.heap.size, 0, none⟩ 1 1 [.string x] rfl rfl (cell_one_new _ _ _) (by simp [Value.oneCell']) (by unfold maxLen; omega) (by omega) (by rw [World.size_alloc]; omega) ?_); intro v' w2 hown' hgrow _; obtain ⟨g', cap', rfl⟩ := ownsRow_succ hown'; have hv2 := blk_grown (blk_alloc hv _) hgrow hne; have hr2 := blk_grown (blk_alloc hr0 _) hgrow hner; have e2 : w2.cell? ⟨gl, 1, none⟩ = some V := (blk_cell hv2 1).trans rfl; have f2 : w2.frozen? ⟨gl, 1, none⟩ = false := blk_frozen hv2 1)
      have hK2 : KeepsOthers W w2 := (KeepsOthers.alloc W _).trans (KeepsOthers.of_grownBy hgrow (fun j o' hj ho' => by
        obtain ⟨cs, hcs⟩ := own_typed (hrow.alloc _) j hj
        rw [hcs] at ho'
        cases ho'
        rfl))
      have hb2 : Below w.heap.size W w2 := ((Below.refl w.heap.size W).alloc (by omega) _).grown hgrow (by rw [World.size_alloc]; omega) (fun k hk => by have := own_base hrow k hk; omega)
      refine ⟨(hK2.trans (KeepsOthers.setCell _ _ _)).from _, hb2.setCell (p := ⟨gl, 1, none⟩) (by show w.heap.size ≤ gl; omega) _, ⟨⟨⟨_, blk_set hv2 1 _, ?_⟩, blk_far hr2 (by show w.heap.size ≠ gl; omega) _⟩, (hB.trans hb2).setCell (p := ⟨gl, 1, none⟩) (by show w.heap.size ≤ gl; omega) _⟩⟩
      rw [List.map_append, List.length_append]
      exact own_setCell hown' (own_apart hown' (show gl < qs + 1 by omega)) _
    case done =>
      rintro D ys W hD rfl ⟨⟨⟨V, hv, hrow⟩, hr0⟩, hB⟩ hK
      obtain ⟨A1, c1, rfl, hc1, hCw⟩ := own_Cs hrow (by omega)
      have hgW : gl < W.heap.size := blk_lt hv
      have BX1 := Aside0.mk hv
      have BR1 := Aside0.mk hr0
      have HBn := Aside0.mk hB
      have HCW := Aside0.mk hCw
      have HROW := Aside0.mk hrow
      have HKD := Aside0.mk hK
      have HB := HBn
      clear HBn hv hr0 hB hCw hrow hK BX0 BR0
      have hDW : D < W.heap.size := (Array.getElem?_eq_some_iff.1 HKD.out).1
      obtain ⟨ws, hws⟩ : ∃ ws, wordsB t = ws := ⟨_, rfl⟩
      rw [hws] at BX1 HCW HROW hlen hc1 HSZ HRR
      clear hws
      cases ws with
      | nil =>
        have HOE : Aside0 (∀ w', Calls Tryz.prog 18 #[.agg #[.string ⟨#[]⟩, .slice A1 0 c1, .bool false, .int .i64 ((m : Int) + 1), .slice A4 lr.length c4], .string (⟨#[69, 82, 82, 79, 82]⟩ : ByteArray)] w' fun e w'' => e = .returned (.agg (stepFC ((m : Int) + 1) (⟨#[69, 82, 82, 79, 82]⟩ : ByteArray) 0 false).toArray) ∧ Below w'.heap.size w' w'') := ⟨fun w' => fault_raw ⟨#[]⟩ A1 A4 0 c1 lr.length c4 false ((m : Int) + 1) _ w' (by decide)⟩
        have s0 : W.cell? ⟨gl, 0, none⟩ = some (.string ⟨#[]⟩) := (blk_cell BX1.out 0).trans rfl
        have s1 : W.cell? ⟨gl, 1, none⟩ = some (.slice A1 0 c1) := (blk_cell BX1.out 1).trans rfl
        have s2 : W.cell? ⟨gl, 2, none⟩ = some (.bool false) := (blk_cell BX1.out 2).trans rfl
        have s3 : W.cell? ⟨gl, 3, none⟩ = some (.int .i64 ((m : Int) + 1)) := (blk_cell BX1.out 3).trans rfl
        have s4 : W.cell? ⟨gl, 4, none⟩ = some (.slice A4 lr.length c4) := (blk_cell BX1.out 4).trans rfl
        have hRr := HRR.out
        unfold parseW at hRr
        subst hRr
        go_wp2_with (first | (go_at_call 18; (with_reducible refine (HOE.out _).mono ?_); rintro e w3 ⟨rfl, hb⟩; unfold stepFC; have BR3 := Aside0.mk (blk_below BR1.out hb); have HK3 := Aside0.mk (blk_below HKD.out hb); have HBn := Aside0.mk (below_step (by repeat (first | (with_reducible first | exact HB.out | apply below_alloc | apply pw_below_drewN | apply below_drew1) | exact HB.out)) hb); clear HB; have HB := HBn; clear HBn; clear hb) | (refine wpList_store_F rfl 34 _ _ rfl w.heap.size 0 _ rfl rfl (by simp [Value.oneCell']) 34 _ _ BR3.out (by simp [zStepC]) (by kernel_rfl) rfl ?_; intro w8 hbk hst; have BR8 := Aside0.mk hbk; have HK8 := Aside0.mk (hst.blk HK3.out (by have := hbel.size; omega)); have HB8 := Aside0.mk (hst.up HB.out (Nat.le_refl _)); clear hbk hst))
        refine ⟨by simp, .inl ⟨_, _, rfl, run_takeDeferred HK8.out, ?_⟩⟩; refine ⟨_, results_cell_row rfl _ _ w.heap.size 34 _ (0, 0) _ rfl ((World.putObj_heap_other (by have := hbel.size; omega)).trans BR8.out) Tryz.underlying34 rfl (by kernel_rfl), ?_⟩
        exact ⟨⟨_, rfl, fun w2 _ _ => stepFS_K w2 ((m : Int) + 1) (⟨#[69, 82, 82, 79, 82]⟩ : ByteArray) 0 false⟩, HB8.out.trans (belowK_b (w := w) (Nat.le_refl _) w8 D _ _ (by have := hbel.size; omega) HK8.out rfl rfl)⟩
      | cons v vs =>
        obtain ⟨b1, o1, rfl, hb1, hcv⟩ := S_cell HCW.out 0 (by simp)
        have hcv : W.cell? ⟨b1, o1, none⟩ = some (.string v) := hcv
        have HCV := Aside0.mk hcv
        have HDn := Aside0.mk (show W0.heap.size ≤ D from hD)
        have hDr : Aside0 (D ≠ w.heap.size) := ⟨by have := hbel.size; omega⟩
        have hDg : Aside0 (D ≠ gl) := ⟨by have := blk_lt BX1.out; have h2 := BX1.out; have h3 := HKD.out; intro e; rw [e, h2] at h3; cases h3⟩
        have hgr : Aside0 (w.heap.size ≠ gl) := ⟨by omega⟩
        have hle : Aside0 (w.heap.size ≤ gl) := ⟨by omega⟩
        have t1 : W.cell? ⟨gl, 1, none⟩ = some (.slice (some ⟨b1, o1, none⟩) (vs.length + 1) c1) := (blk_cell BX1.out 1).trans rfl
        have hv0 : (0 : Int) < ↑vs.length + 1 := by omega
        have hv1 : (1 : Int) ≤ ↑vs.length + 1 := by omega
        have hvc : vs.length + 1 ≤ c1 := hc1
        have hv2 : (vs.length : Int) + 1 ≤ ↑c1 := by omega
        have hb1g : b1 ≠ gl := by
          intro e
          have h2 := own_typed HROW.out b1 rfl
          obtain ⟨cs, hcs⟩ := h2
          rw [e, BX1.out] at hcs
          simp at hcs
        have BX1d := Aside0.mk (show W.drew.heap[gl]? = _ from blk_drew BX1.out)
        go_upto_region 15 with fail
        refine wp_region_noPanic ?_
        refine wp_region_L (S := (fun w' => w'.cell? ⟨gl, 1, none⟩ = some (.slice (some ⟨b1, o1, none⟩) (vs.length + 1) c1) ∧ w'.cell? ⟨b1, o1, none⟩ = some (.string v))) 10 (by kernel_rfl) ⟨t1, hcv⟩ ?_
        intro hHeld
        (refine wpAnyL_take (i := 0) (v := ?_) (by simp only [List.getElem?_toArray, List.getElem?_cons_succ, List.getElem?_cons_zero]; rfl) (by kernel_rfl) (by kernel_rfl) (by kernel_rfl) (by kernel_rfl) (fun _ _ _ h => h) (Or.inl ⟨by rfl, ?_⟩) (by exact hHeld) ?_; rotate_left; (focus (intro w' hSw; obtain ⟨s0, s1⟩ := hSw; go_simp; (try with_reducible rfl); done)); (try simp only [Act.put, List.setIfInBounds_toArray, List.set_cons_zero, List.set_cons_succ]))
        (refine wpAnyL_take (i := 1) (v := ?_) (by simp only [List.getElem?_toArray, List.getElem?_cons_succ, List.getElem?_cons_zero]; rfl) (by kernel_rfl) (by kernel_rfl) (by kernel_rfl) (by kernel_rfl) (fun _ _ _ h => h) (Or.inl ⟨by rfl, ?_⟩) (by exact hHeld) ?_; rotate_left; (focus (intro w' hSw; obtain ⟨s0, s1⟩ := hSw; go_simp; (try with_reducible rfl); done)); (try simp only [Act.put, List.setIfInBounds_toArray, List.set_cons_zero, List.set_cons_succ]))
        (refine wpAnyL_take (i := 2) (v := ?_) (by simp only [List.getElem?_toArray, List.getElem?_cons_succ, List.getElem?_cons_zero]; rfl) (by kernel_rfl) (by kernel_rfl) (by kernel_rfl) (by kernel_rfl) (fun _ _ _ h => h) (Or.inl ⟨by rfl, ?_⟩) (by exact hHeld) ?_; rotate_left; (focus (intro w' hSw; obtain ⟨s0, s1⟩ := hSw; go_simp; (try with_reducible rfl); done)); (try simp only [Act.put, List.setIfInBounds_toArray, List.set_cons_zero, List.set_cons_succ]))
        (refine wpAnyL_take (i := 3) (v := ?_) (by simp only [List.getElem?_toArray, List.getElem?_cons_succ, List.getElem?_cons_zero]; rfl) (by kernel_rfl) (by kernel_rfl) (by kernel_rfl) (by kernel_rfl) (fun _ _ _ h => h) (Or.inl ⟨by rfl, ?_⟩) (by exact hHeld) ?_; rotate_left; (focus (intro w' hSw; obtain ⟨s0, s1⟩ := hSw; go_simp; (try with_reducible rfl); done)); (try simp only [Act.put, List.setIfInBounds_toArray, List.set_cons_zero, List.set_cons_succ]))
        (refine wpAnyL_take (i := 4) (v := ?_) (by simp only [List.getElem?_toArray, List.getElem?_cons_succ, List.getElem?_cons_zero]; rfl) (by kernel_rfl) (by kernel_rfl) (by kernel_rfl) (by kernel_rfl) (fun _ _ _ h => h) (Or.inl ⟨by rfl, ?_⟩) (by exact hHeld) ?_; rotate_left; (focus (intro w' hSw; obtain ⟨s0, s1⟩ := hSw; go_simp; (try with_reducible rfl); done)); (try simp only [Act.put, List.setIfInBounds_toArray, List.set_cons_zero, List.set_cons_succ]))
        (refine wpAnyL_take (i := 5) (v := ?_) (by simp only [List.getElem?_toArray, List.getElem?_cons_succ, List.getElem?_cons_zero]; rfl) (by kernel_rfl) (by kernel_rfl) (by kernel_rfl) (by kernel_rfl) (fun _ _ _ h => h) (Or.inl ⟨by rfl, ?_⟩) (by exact hHeld) ?_; rotate_left; (focus (intro w' hSw; obtain ⟨s0, s1⟩ := hSw; go_simp; (try with_reducible rfl); done)); (try simp only [Act.put, List.setIfInBounds_toArray, List.set_cons_zero, List.set_cons_succ]))
        (refine wpAnyL_take (i := 6) (v := ?_) (by simp only [List.getElem?_toArray, List.getElem?_cons_succ, List.getElem?_cons_zero]; rfl) (by kernel_rfl) (by kernel_rfl) (by kernel_rfl) (by kernel_rfl) (fun _ _ _ h => h) (Or.inl ⟨by rfl, ?_⟩) (by exact hHeld) ?_; rotate_left; (focus (intro w' hSw; obtain ⟨s0, s1⟩ := hSw; go_simp; (try with_reducible rfl); done)); (try simp only [Act.put, List.setIfInBounds_toArray, List.set_cons_zero, List.set_cons_succ]))
        (refine wpAnyL_take (i := 7) (v := ?_) (by simp only [List.getElem?_toArray, List.getElem?_cons_succ, List.getElem?_cons_zero]; rfl) (by kernel_rfl) (by kernel_rfl) (by kernel_rfl) (by kernel_rfl) (fun _ _ _ h => h) (Or.inl ⟨by rfl, ?_⟩) (by exact hHeld) ?_; rotate_left; (focus (intro w' hSw; obtain ⟨s0, s1⟩ := hSw; go_simp; (try with_reducible rfl); done)); (try simp only [Act.put, List.setIfInBounds_toArray, List.set_cons_zero, List.set_cons_succ]))
        refine wpAnyL_one (i := 8) (by kernel_rfl) (by simp only [List.getElem?_toArray, List.getElem?_cons_succ, List.getElem?_cons_zero]; rfl) (fun K hK => ?_)
        refine step_store_F rfl 9 _ _ rfl gl 0 [.string v] rfl rfl (by intro u hu; simp only [List.mem_singleton] at hu; subst hu; rfl) 50 _ (lineC v (.slice (some ⟨b1, o1, none⟩) (vs.length + 1) c1) false ((m : Int) + 1) A4 lr.length c4) BX1d.out (by simp [lineC]) (by kernel_rfl) rfl ?_
        intro w3 hbk hst3
        have BX3 := Aside0.mk hbk
        have HST3 := Aside0.mk hst3
        have hbw : b1 ≠ gl := hb1g
        refine hK.out _ _ (fun _ => ⟨(blk_cell BX3.out 1).trans rfl, (by
          have h1 : w3.cell? ⟨b1, o1, none⟩ = W.drew.cell? ⟨b1, o1, none⟩ := World.cell?_of_block (hst3.block b1 hbw)
          exact h1.trans hcv)⟩) ?_
        clear hK K hHeld hbk hst3
        intro hHeld
        have hHeld := hHeld (by decide)
        (try simp only [Act.put, List.setIfInBounds_toArray, List.set_cons_zero, List.set_cons_succ])
        (refine wpAnyL_take (i := 9) (v := ?_) (by simp only [List.getElem?_toArray, List.getElem?_cons_succ, List.getElem?_cons_zero]; rfl) (by kernel_rfl) (by kernel_rfl) (by kernel_rfl) (by kernel_rfl) (fun _ _ _ h => h) (Or.inl ⟨by rfl, ?_⟩) (by exact hHeld) ?_; rotate_left; (focus (intro w' hSw; obtain ⟨s0, s1⟩ := hSw; go_simp; (try with_reducible rfl); done)); (try simp only [Act.put, List.setIfInBounds_toArray, List.set_cons_zero, List.set_cons_succ]))
        refine wpAnyL_one (i := 10) (by kernel_rfl) (by simp only [List.getElem?_toArray, List.getElem?_cons_succ, List.getElem?_cons_zero]; rfl) (fun K hK => ?_)
        refine step_store_F rfl 27 _ _ rfl gl 1 [.slice (if c1 = 1 then some ⟨b1, o1, none⟩ else some ⟨b1, o1 + 1, none⟩) vs.length (c1 - 1)] rfl rfl (by intro u hu; simp only [List.mem_singleton] at hu; subst hu; rfl) 50 _ (lineC v (.slice (if c1 = 1 then some ⟨b1, o1, none⟩ else some ⟨b1, o1 + 1, none⟩) vs.length (c1 - 1)) false ((m : Int) + 1) A4 lr.length c4) BX3.out (by simp [lineC]) (by kernel_rfl) rfl ?_
        intro w4 hbk hst4
        have BX4 := Aside0.mk hbk
        have HST4 := Aside0.mk hst4
        refine hK.out _ _ (fun h => absurd rfl h) ?_
        clear hK K hHeld hbk hst4
        intro _
        (try simp only [Act.put, List.setIfInBounds_toArray, List.set_cons_zero, List.set_cons_succ])
        refine wpAnyL_done (by kernel_rfl) ?_ _
        refine NoPanic.normal ?_
        have hB4 : Below w.heap.size w w4 := HST4.out.up (HST3.out.up (below_drew1 HB.out) hle.out) hle.out
        have BR4 := Aside0.mk (HST4.out.blk (HST3.out.blk (show W.drew.heap[w.heap.size]? = _ from blk_drew BR1.out) hgr.out) hgr.out)
        have HK4 := Aside0.mk (HST4.out.blk (HST3.out.blk (show W.drew.heap[D]? = _ from HKD.out) hDg.out) hDg.out)
        have hr4 := Aside0.mk (blk_lt BR4.out)
        have hD4 := Aside0.mk ((Array.getElem?_eq_some_iff.1 HK4.out).1)
        have hsz4 : w4.heap.size = W.heap.size := HST4.out.size.trans HST3.out.size
        have hob := own_base HROW.out b1 rfl
        have hbD : b1 ≠ D := by
          intro e
          obtain ⟨cs, hcs⟩ := own_typed HROW.out b1 rfl
          rw [e, HKD.out] at hcs
          cases hcs
        have HWD : Aside0 (HolF (fun k => (k < w.heap.size → F k) ∧ k ≠ w.heap.size ∧ k ≠ D ∧ k ≠ gl) w4 (fun w2 => Kd.string.C w2 (if c1 = 1 then some ⟨b1, o1, none⟩ else some ⟨b1, o1 + 1, none⟩) vs.length vs)) := ⟨fun w2 hb2 hk2 => C_tailI (own_CsA (l := v :: vs) (own_move HROW.out (fun k hk => by
          have hk : b1 = k := by simpa [Value.ownBlock] using hk
          subst hk
          exact (hk2 b1 (by rw [hsz4]; exact hb1) ⟨fun hx => absurd hx (by omega), by omega, hbD, hb1g⟩).trans ((HST4.out.block b1 hb1g).trans (HST3.out.block b1 hb1g)))) (by omega)) rfl (by omega)⟩
        have HRS : Aside0 (HolF (fun k => (k < w.heap.size → F k) ∧ k ≠ w.heap.size ∧ k ≠ D ∧ k ≠ gl) w4 (fun w2 => (Kd.int .u8).C w2 A4 lr.length lr)) := ⟨fun w2 hb2 hk2 => HC4.out w2 ((below_zero hB4).trans hb2) (fun k hk hkb => (hk2 k (by have := hB4.size; omega) ⟨fun _ => by rw [hkb]; exact hFb.out, by omega, by have := hbel.size; omega, by omega⟩).trans (hB4.block k hk))⟩
        obtain ⟨A1', hA1⟩ : ∃ A1' : Option Addr, (if c1 = 1 then some (⟨b1, o1, none⟩ : Addr) else some ⟨b1, o1 + 1, none⟩) = A1' := ⟨_, rfl⟩
        rw [hA1] at BX4 HWD ⊢
        clear hA1
        have HBn := Aside0.mk hB4
        clear HB hB4
        have HB := HBn
        clear HBn
        have hcc : vs.length ≤ c1 - 1 := by omega
        have hRr := HRR.out
        unfold parseW at hRr
        dsimp only at hRr
        have HLO : Aside0 (Calls Tryz.prog 20 #[.agg #[.string v, .slice A1' vs.length (c1 - 1), .bool false, .int .i64 ((m : Int) + 1), .slice A4 lr.length c4]] w4 (LoudR (fun k => (k < w.heap.size → F k) ∧ k ≠ w.heap.size ∧ k ≠ D ∧ k ≠ gl) w4 (loudS v ((m : Int) + 1) vs).1 (loudS v ((m : Int) + 1) vs).2)) := ⟨loud_calls ⟨v, vs, false, (m : Int) + 1, lr⟩ _ (fun k => (k < w.heap.size → F k) ∧ k ≠ w.heap.size ∧ k ≠ D ∧ k ≠ gl) w4 (fun w2 h1 h2 => kTextinLine_mk w2 ⟨v, vs, false, (m : Int) + 1, lr⟩ hcc (HWD.out w2 h1 h2) hl4 (HRS.out w2 h1 h2)) (Tabs.below HT.out HB.out) (by show vs.length ≤ _; rw [List.length_cons] at hlen; omega) (fun k hk => HSZ.out k (List.mem_cons_of_mem _ hk)) (by show (0 : Int) ≤ (m : Int) + 1; omega) (by show (m : Int) + 1 ≤ 1000000; omega) HR8.out hlrl rfl⟩
        obtain ⟨st, hst⟩ : ∃ st, (loudS v ((m : Int) + 1) vs).1 = st := ⟨_, rfl⟩
        obtain ⟨bb, hbb⟩ : ∃ bb, (loudS v ((m : Int) + 1) vs).2 = bb := ⟨_, rfl⟩
        rw [hst, hbb] at HLO hRr
        clear hst hbb t1 hcv HCV BX1d BX3 HST3 HST4 hob hbD hsz4 BX1 BR1 HROW HKD HCW hb1g HRR
        have x0 : w4.cell? ⟨gl, 0, none⟩ = some (.string v) := (blk_cell BX4.out 0).trans rfl
        have x1 : w4.cell? ⟨gl, 1, none⟩ = some (.slice A1' vs.length (c1 - 1)) := (blk_cell BX4.out 1).trans rfl
        have x2 : w4.cell? ⟨gl, 2, none⟩ = some (.bool false) := (blk_cell BX4.out 2).trans rfl
        have x3 : w4.cell? ⟨gl, 3, none⟩ = some (.int .i64 ((m : Int) + 1)) := (blk_cell BX4.out 3).trans rfl
        have x4 : w4.cell? ⟨gl, 4, none⟩ = some (.slice A4 lr.length c4) := (blk_cell BX4.out 4).trans rfl
        cases bb
        · rw [if_neg (by decide)] at hRr
          obtain ⟨ws7, n7, q7, hn7, hn7l, hC7, hs7, hR7, hU⟩ : ∃ ws7 n7 q7, ws7.length = n7 ∧ ws7.length ≤ vs.length ∧ (∀ w2, Kd.string.C w2 A1' vs.length vs → Kd.string.C w2 A1' ws7.length ws7) ∧ (∀ x ∈ ws7, x ∈ vs) ∧ otherS v q7 ((m : Int) + 1) ws7 lr = R ∧ (if hushB v vs = true then #[.string v, .slice A1' (vs.length - 1) (c1 - 1), .bool true, .int .i64 ((m : Int) + 1), .slice A4 lr.length c4] else #[.string v, .slice A1' vs.length (c1 - 1), .bool false, .int .i64 ((m : Int) + 1), .slice A4 lr.length c4]) = lineC v (.slice A1' n7 (c1 - 1)) q7 ((m : Int) + 1) A4 lr.length c4 := by
            by_cases hh : hushB v vs = true
            · rw [if_pos hh] at hRr ⊢
              exact ⟨vs.take (vs.length - 1), vs.length - 1, true, by rw [List.length_take]; omega, by rw [List.length_take]; omega, fun w2 h => Kd.C_take h (by omega), fun x hx => List.mem_of_mem_take hx, hRr, rfl⟩
            · rw [if_neg hh] at hRr ⊢
              exact ⟨vs, vs.length, false, rfl, Nat.le_refl _, fun w2 h => h, fun x hx => hx, hRr, rfl⟩
          have HU : Aside0 (∀ w' : World, w'.heap[gl]? = some (.cells (lineC v (.slice A1' vs.length (c1 - 1)) false ((m : Int) + 1) A4 lr.length c4) 50 (0, 0)) → Kd.string.C w' A1' vs.length vs → Calls Tryz.prog 21 #[.pointer (some ⟨gl, 0, none⟩)] w' (HushP gl (lineC v (.slice A1' n7 (c1 - 1)) q7 ((m : Int) + 1) A4 lr.length c4) w')) := ⟨fun w' h1 h2 => by
            have := hush_calls gl v A1' (c1 - 1) vs false ((m : Int) + 1) (.slice A4 lr.length c4) w' h1 h2 hcc (by rw [List.length_cons] at hlen; omega)
            rw [hU] at this
            exact this⟩
          have HOT : Aside0 (∀ w', HolF (fun k => (k < w.heap.size → F k) ∧ k ≠ w.heap.size ∧ k ≠ D ∧ k ≠ gl) w' (fun w2 => Kd.string.C w2 A1' vs.length vs) → HolF (fun k => (k < w.heap.size → F k) ∧ k ≠ w.heap.size ∧ k ≠ D ∧ k ≠ gl) w' (fun w2 => (Kd.int .u8).C w2 A4 lr.length lr) → Tabs w' → Calls Tryz.prog 22 #[.agg #[.string v, .slice A1' n7 (c1 - 1), .bool q7, .int .i64 ((m : Int) + 1), .slice A4 lr.length c4]] w' (StepR (fun k => (k < w.heap.size → F k) ∧ k ≠ w.heap.size ∧ k ≠ D ∧ k ≠ gl) w' R)) := ⟨fun w' h1 h2 h3 => by
            rw [← hn7, ← hR7]
            exact other_calls ⟨v, ws7, q7, (m : Int) + 1, lr⟩ _ (fun k => (k < w.heap.size → F k) ∧ k ≠ w.heap.size ∧ k ≠ D ∧ k ≠ gl) w' (fun w2 a1 a2 => kTextinLine_mk w2 ⟨v, ws7, q7, (m : Int) + 1, lr⟩ (show ws7.length ≤ c1 - 1 by omega) (hC7 w2 (h1 w2 a1 a2)) hl4 (h2 w2 a1 a2)) h3 (show ws7.length ≤ 1000000 by rw [List.length_cons] at hlen; omega) (fun k hk => HSZ.out k (List.mem_cons_of_mem _ (hs7 k hk))) (show (0 : Int) ≤ (m : Int) + 1 by omega) (show (m : Int) + 1 ≤ 1000000 by omega) HR8.out hlrl⟩
          clear hU hR7 hC7 hs7 hRr hn7 hn7l HSZ
          go_wp2_with (first | (go_at_call 20; (with_reducible refine (HLO.out).mono ?_); rintro e w5 ⟨⟨cs, rfl, hk⟩, hb⟩; have BX5 := Aside0.mk (blk_below BX4.out hb); have BR5 := Aside0.mk (blk_below BR4.out hb); have HK5 := Aside0.mk (blk_below HK4.out hb); have HWD5 := Aside0.mk (HWD.out.below hb); have HRS5 := Aside0.mk (HRS.out.below hb); have HBn := Aside0.mk (below_step (by repeat (first | (with_reducible first | exact HB.out | apply below_alloc | apply pw_below_drewN | apply below_drew1) | exact HB.out)) hb); clear HB; have HB := HBn; clear HBn; have HKS := Aside0.mk hk; clear hb hk; obtain ⟨B0, d0, B8, d8, B9, d9, rfl, -⟩ := kStep_open HKS.out.now; have hw45 : w.heap.size < w5.heap.size := blk_lt BR5.out; have hg45 : gl < w5.heap.size := blk_lt BX5.out; have hD45 : D < w5.heap.size := (Array.getElem?_eq_some_iff.1 HK5.out).1) | (go_at_call 21; (with_reducible refine (HU.out _ (blk_alloc BX5.out _) (HWD5.out.below ((Below.refl _ _).alloc (Nat.le_refl _) _)).now).mono ?_); rintro e w7 ⟨rfl, hbx, hlow, hsame⟩; have BX7 := Aside0.mk hbx; have BR7 := Aside0.mk ((hsame w.heap.size (by rw [World.size_alloc]; omega) hgr.out).trans (blk_alloc BR5.out _)); have HK7 := Aside0.mk ((hsame D (by rw [World.size_alloc]; omega) hDg.out).trans (blk_alloc HK5.out _)); have HWD7 := Aside0.mk ((HWD5.out.below ((Below.refl _ _).alloc (Nat.le_refl _) _)).kept (hlow 0 (Nat.zero_le _)) (fun k hk hF => hsame k hk hF.2.2.2)); have HRS7 := Aside0.mk ((HRS5.out.below ((Below.refl _ _).alloc (Nat.le_refl _) _)).kept (hlow 0 (Nat.zero_le _)) (fun k hk hF => hsame k hk hF.2.2.2)); have HB7 := Aside0.mk (Below.trans (below_alloc HB.out _) (hlow w.heap.size hle.out)); clear hbx hlow hsame HB; have HB := HB7; clear HB7; have y0 : w7.cell? ⟨gl, 0, none⟩ = some (.string v) := (blk_cell BX7.out 0).trans rfl; have y1 : w7.cell? ⟨gl, 1, none⟩ = some (.slice A1' n7 (c1 - 1)) := (blk_cell BX7.out 1).trans rfl; have y2 : w7.cell? ⟨gl, 2, none⟩ = some (.bool q7) := (blk_cell BX7.out 2).trans rfl; have y3 : w7.cell? ⟨gl, 3, none⟩ = some (.int .i64 ((m : Int) + 1)) := (blk_cell BX7.out 3).trans rfl; have y4 : w7.cell? ⟨gl, 4, none⟩ = some (.slice A4 lr.length c4) := (blk_cell BX7.out 4).trans rfl) | (go_at_call 22; (with_reducible refine (HOT.out _ HWD7.out HRS7.out (Tabs.below HT.out HB.out)).mono ?_); rintro e w9 ⟨⟨cs9, rfl, hk⟩, hb⟩; have BK := Aside0.mk (blk_below BR7.out hb); have HK9 := Aside0.mk (blk_below HK7.out hb); have hr9 := Aside0.mk (blk_lt BR7.out); have hD9 := Aside0.mk ((Array.getElem?_eq_some_iff.1 HK7.out).1); have HBn := Aside0.mk (below_step (by repeat (first | (with_reducible first | exact HB.out | apply below_alloc | apply pw_below_drewN | apply below_drew1) | exact HB.out)) hb); clear HB; have HB := HBn; clear HBn; have HKO := Aside0.mk hk; clear hb hk) | (refine wpList_store_K HKO.out.now rfl 34 _ _ rfl w.heap.size rfl rfl 34 _ BK.out (by kernel_rfl) rfl ?_; intro w8 hbk hlow hfar; have BR8 := Aside0.mk hbk; have HB8 := Aside0.mk (HB.out.trans (hlow w.heap.size (Nat.le_refl _))); have HK8 := Aside0.mk ((hfar (fun k => k = D) (fun w2 => w2.heap[D]? = some (.deferred (some []))) (fun e => hDr.out e.symm) (fun w2 _ hk => (hk D (Array.getElem?_eq_some_iff.1 HK9.out).1 rfl).trans HK9.out)).now); have HKS8 := Aside0.mk (hfar _ _ (fun h => (h hr9.out).2.1 rfl) HKO.out); clear hbk hlow hfar))
          refine ⟨by simp, .inl ⟨_, _, rfl, run_takeDeferred HK8.out, ?_⟩⟩; refine ⟨_, results_cell_row rfl _ _ w.heap.size 34 _ (0, 0) _ rfl ((World.putObj_heap_other (by have := hbel.size; omega)).trans BR8.out) Tryz.underlying34 rfl (by rw [List.size_toArray, kStep.K_len HKO.out.now]; kernel_rfl), ?_⟩
          exact ⟨⟨_, rfl, (HKS8.out.kept (belowK_b (w := w) (n₀ := 0) (Nat.zero_le _) w8 D _ _ (by have := hbel.size; have := HDn.out; omega) HK8.out rfl rfl) (fun k hk hF => World.putObj_heap_other (fun e => (hF (by rw [e]; exact hD9.out)).2.2.1 e))).mono (fun k hk hlt => (hk (Nat.lt_trans hlt hr9.out)).1 hlt)⟩, HB8.out.trans (belowK_b (w := w) (Nat.le_refl _) w8 D _ _ (by have := hbel.size; have := HDn.out; omega) HK8.out rfl rfl)⟩
        · rw [if_pos rfl] at hRr
          subst hRr
          clear HSZ
          go_wp2_with (first | (go_at_call 20; (with_reducible refine (HLO.out).mono ?_); rintro e w5 ⟨⟨cs, rfl, hk⟩, hb⟩; have BX5 := Aside0.mk (blk_below BX4.out hb); have BR5 := Aside0.mk (blk_below BR4.out hb); have HK5 := Aside0.mk (blk_below HK4.out hb); have HWD5 := Aside0.mk (HWD.out.below hb); have HRS5 := Aside0.mk (HRS.out.below hb); have HBn := Aside0.mk (below_step (by repeat (first | (with_reducible first | exact HB.out | apply below_alloc | apply pw_below_drewN | apply below_drew1) | exact HB.out)) hb); clear HB; have HB := HBn; clear HBn; have HKS := Aside0.mk hk; clear hb hk; obtain ⟨B0, d0, B8, d8, B9, d9, rfl, -⟩ := kStep_open HKS.out.now; have hw45 : w.heap.size < w5.heap.size := blk_lt BR5.out; have hg45 : gl < w5.heap.size := blk_lt BX5.out; have hD45 : D < w5.heap.size := (Array.getElem?_eq_some_iff.1 HK5.out).1) | (refine wpList_store_F rfl 34 _ _ rfl w.heap.size 0 _ rfl rfl (by simp [Value.oneCell']) 34 _ _ (blk_alloc BR5.out _) (by simp [zStepC]) (by kernel_rfl) rfl ?_; intro w8 hbk hst; have BR8 := Aside0.mk hbk; have HK8 := Aside0.mk (hst.blk (blk_alloc HK5.out _) hDr.out); have HB8 := Aside0.mk (hst.up (by repeat (first | (with_reducible first | exact HB.out | apply below_alloc | apply pw_below_drewN | apply below_drew1) | exact HB.out)) (Nat.le_refl _)); have HKS8 := Aside0.mk (hst.hol (HKS.out.below ((Below.refl _ _).alloc (Nat.le_refl _) _)) (fun h => (h hr4.out).2.1 rfl)); clear hbk hst))
          refine ⟨by simp, .inl ⟨_, _, rfl, run_takeDeferred HK8.out, ?_⟩⟩; refine ⟨_, results_cell_row rfl _ _ w.heap.size 34 _ (0, 0) _ rfl ((World.putObj_heap_other (by have := hbel.size; omega)).trans BR8.out) Tryz.underlying34 rfl (by kernel_rfl), ?_⟩
          exact ⟨⟨_, rfl, (HKS8.out.kept (belowK_b (w := w) (n₀ := 0) (Nat.zero_le _) w8 D _ _ (by have := hbel.size; have := HDn.out; omega) HK8.out rfl rfl) (fun k hk hF => World.putObj_heap_other (fun e => (hF (by rw [e]; exact hD4.out)).2.2.1 e))).mono (fun k hk hlt => (hk (Nat.lt_trans hlt hr4.out)).1 hlt)⟩, HB8.out.trans (belowK_b (w := w) (Nat.le_refl _) w8 D _ _ (by have := hbel.size; have := HDn.out; omega) HK8.out rfl rfl)⟩
theorem parse_callsF (l : List Int) (A : Option Addr) (F : Nat → Prop) (hF : ∀ b o, A = some ⟨b, o, none⟩ → F b) (c : Nat) (w : World) (hC : (Kd.int .u8).C w A l.length l) (hc : l.length ≤ c) (hl : l.length ≤ 1000000) (h8 : B8 l) (hT : Tabs w) :
    Calls Tryz.prog 12 #[.slice A l.length c] w (StepR F w (parseS l)) := by
  rcases lineS_cases l with h | ⟨m, hm, h⟩ | ⟨m, t, hm, h, ht⟩
  · rw [parse_M h]
    exact parse_more l A c _ w hC hc hl h8 h
  · rw [parse_L h]
    exact parse_long l A c m _ w hC hc hl h8 h hm
  · rw [parse_T h]
    exact parse_goF l A F hF c m t w hC hc hl h8 h hm (by omega) hT
end Go.Proofs.YtfljijpkeckeaaaGreatDoor.X
