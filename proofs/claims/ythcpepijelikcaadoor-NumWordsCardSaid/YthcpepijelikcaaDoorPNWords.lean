/- NumWords: the walk. -/
import Derived.Test.YthcpepijelikcaaDoorPRWords
import Derived.Deep.RegionHeld3

namespace Go.Proofs.YthcpepijelikcaaDoor.X
open Go.RowKit Go.Shelf Go.Proofs.YthcpepijelikcaaDoorW.PrintWords Go.Proofs.YthcpepijelikcaaDoorW.PrintMore
set_option linter.unusedVariables false
set_option linter.unusedSimpArgs false
attribute [local go_sem] Oper.semAt_some

theorem wpAnyH_imp {P : Program} {md : Region.Mode} {ops : Array Oper} {Q : Exit → Act → World → Prop} {S S' : World → Prop} (h : ∀ w, S' w → S w) : ∀ (fuel : Nat) (listed : Array Bool) (a : Act) (w : World), wpAnyH P md ops Q S' fuel listed a w → wpAnyH P md ops Q S fuel listed a w
  | 0, _, _, _, h0 => h0
  | fuel + 1, _, _, _, h0 => ⟨h0.1, fun i hi => wpOp_mono (fun a' w' h' => ⟨h _ h'.1, wpAnyH_imp h fuel _ a' w' h'.2⟩) (h0.2 i hi)⟩
def sumW (l : List ByteArray) : Int := l.foldl (fun k x => wrap64 (k + x.size)) 0
def subW (k : Int) (l : List ByteArray) : Int := l.foldl (fun k x => wrap64 (k - x.size)) k
theorem sumW_snoc (l : List ByteArray) (x : ByteArray) : sumW (l ++ [x]) = wrap64 (sumW l + x.size) := by simp [sumW]
theorem subW_snoc (k : Int) (l : List ByteArray) (x : ByteArray) : subW k (l ++ [x]) = wrap64 (subW k l - x.size) := by simp [subW]
theorem wr_add (a b : Int) : wrap64 (wrap64 a + b) = wrap64 (a + b) := by unfold wrap64; omega
theorem wr_sub (a b : Int) : wrap64 (wrap64 a - b) = wrap64 (a - b) := by unfold wrap64; omega
def tot (l : List ByteArray) : Int := (l.map fun x => (x.size : Int)).sum
theorem sumW_tot (l : List ByteArray) : ∀ k, l.foldl (fun k x => wrap64 (k + x.size)) (wrap64 k) = wrap64 (k + tot l) := by
  induction l with
  | nil => intro k; simp [tot]
  | cons x l ih =>
    intro k
    simp only [List.foldl_cons]
    rw [wr_add, ih]
    congr 1
    simp only [tot, List.map_cons, List.sum_cons]
    omega
theorem subW_tot (l : List ByteArray) : ∀ k, l.foldl (fun k x => wrap64 (k - x.size)) (wrap64 k) = wrap64 (k - tot l) := by
  induction l with
  | nil => intro k; simp [tot]
  | cons x l ih =>
    intro k
    simp only [List.foldl_cons]
    rw [wr_sub, ih]
    congr 1
    simp only [tot, List.map_cons, List.sum_cons]
    omega
theorem sub_sum (l : List ByteArray) : subW (sumW l) l = 0 := by
  have h1 : sumW l = wrap64 (tot l) := by
    have := sumW_tot l 0
    rw [show wrap64 0 = 0 by unfold wrap64; omega] at this
    simpa [sumW] using this
  unfold subW
  rw [h1, subW_tot]
  unfold wrap64
  omega
theorem rs_calls (s : ByteArray) (w : World) : Calls Tryd.prog 27 #[.string s] w fun e w' => e = .returned (.func (.func 33) #[] #[.pointer (some ⟨w.heap.size, 0, none⟩)]) ∧ w' = w.alloc (.cells #[.string s] 9) :=
  callsIn_wide.1 (mkWords_in 1 s w)
theorem awk_w (w : World) (hT : Tabs w) : Calls Tryd.prog 11 #[] w fun e w' => e = .returned (.bool true) ∧ Below w.heap.size w w' :=
  bool_calls awake_f (fun k r h => butterylaw01_awake.calls k r w hT h)
set_option maxHeartbeats 4000000 in
set_option maxRecDepth 100000 in
theorem nwords_big (s : ByteArray) (most : Int) (w : World) (hs : 5000 < s.size) (hT : Tabs w) :
    Calls Tryd.prog 9 #[.string s, .int .i64 most] w fun e w' => e = .returned (.bool true) ∧ Below w.heap.size w w' := by
  have HT := Aside0.mk hT
  have HB := Aside0.mk (Below.refl w.heap.size w)
  clear hT
  go_enter Tryd.func9, Tryd.ntmps9
  go_wp2_with (go_at_call 11; (with_reducible refine (awk_w _ (Tabs.below HT.out (by repeat (first | (with_reducible first | exact HB.out | apply below_alloc | apply pw_below_drewN | apply below_drew1) | exact HB.out)))).mono ?_); rintro e w1 ⟨rfl, hb⟩; have HBn := Aside0.mk (below_step (by repeat (first | (with_reducible first | exact HB.out | apply below_alloc | apply pw_below_drewN | apply below_drew1) | exact HB.out)) hb); clear HB; have HB := HBn; clear HBn; clear hb)
  go_ret
  exact ⟨rfl, HB.out⟩
set_option maxHeartbeats 8000000 in
set_option maxRecDepth 100000 in
theorem nwords_w (s : ByteArray) (most : Int) (w : World) (hs : s.size ≤ 5000) (hm1 : -9223372036854775808 ≤ most) (hm2 : most ≤ 9223372036854775807) (hT : Tabs w) :
    Calls Tryd.prog 9 #[.string s, .int .i64 most] w fun e w' => e = .returned (.bool true) ∧ Below w.heap.size w w' := by
  have HT := Aside0.mk hT
  have HB := Aside0.mk (Below.refl w.heap.size w)
  have hlen := words_len s
  clear hT
  refine (callsIn_wide (n := 6)).1 ?_
  refine callsIn_of_wp_marks Tryd.func9 rfl trivial ?_ rfl
  simp only [Tryd.ntmps9, List.size_toArray, List.length_cons, List.length_nil, Nat.reduceAdd, Nat.reduceSub, Array.replicate_succ, Array.replicate_zero, List.push_toArray, List.append_toArray, List.nil_append, List.cons_append]
  refine wpIn_wide.2 ?_
  have hw5 : (wordsB s).take ((5001 : Int).toNat) = wordsB s := List.take_of_length_le (by show _ ≤ 5001; omega)
  have H5 := Aside0.mk hw5
  clear hw5
  go_upto_region 6 with (first
    | (go_at_call 11; (with_reducible refine (awk_w _ (Tabs.below HT.out (by repeat (first | (with_reducible first | exact HB.out | apply below_alloc | apply pw_below_drewN | apply below_drew1) | exact HB.out)))).mono ?_); rintro e w1 ⟨rfl, hb⟩; have HBn := Aside0.mk (below_step (by repeat (first | (with_reducible first | exact HB.out | apply below_alloc | apply pw_below_drewN | apply below_drew1) | exact HB.out)) hb); clear HB; have HB := HBn; clear HBn; clear hb)
    | (go_at_call 24; (with_reducible refine (rwords_w s hs _).mono ?_); rintro e w2 ⟨A, c, rfl, hc, hC, hb⟩; have HBn := Aside0.mk (below_step (by repeat (first | (with_reducible first | exact HB.out | apply below_alloc | apply pw_below_drewN | apply below_drew1) | exact HB.out)) hb); clear HB; have HB := HBn; clear HBn; have HL0 := Aside0.mk hC; clear hb hC)
    | (go_at_call 26; (with_reducible refine (lwords_w s (by omega) 5001 (by omega) _).mono ?_); rintro e w3 ⟨A2, c2, rfl, hc2, hC, hb⟩; rw [H5.out] at hC hc2 ⊢; have HBn := Aside0.mk (below_step (by repeat (first | (with_reducible first | exact HB.out | apply below_alloc | apply pw_below_drewN | apply below_drew1) | exact HB.out)) hb); clear HB; have HB := HBn; clear HBn; have HL1 := Aside0.mk (Kd.C_below HL0.out hb); have HL2 := Aside0.mk hC; clear hb hC)
    | (go_at_call 25; (with_reducible refine (same_w _ _ rfl _ _ rfl rfl (by omega) _ _ _ _ _ HL2.out hc2 HL1.out hc).mono ?_); rintro e W5 ⟨rfl, hb⟩; have HBn := Aside0.mk (below_step (by repeat (first | (with_reducible first | exact HB.out | apply below_alloc | apply pw_below_drewN | apply below_drew1) | exact HB.out)) hb); clear HB; have HB := HBn; clear HBn; have HL := Aside0.mk (Kd.C_below HL1.out hb); clear hb))
  have H3 : Aside0 (∃ m : Nat, m ≤ (wordsB s).length ∧ (wordsB s).take most.toNat = (wordsB s).take m ∧ ((most < 0 ∧ 0 = m) ∨ (0 ≤ most ∧ most ≤ (wordsB s).length ∧ most.toNat = m) ∨ (((wordsB s).length : Int) < most ∧ (wordsB s).length = m))) := ⟨by
    by_cases h0 : most < 0
    · exact ⟨0, by omega, by rw [show most.toNat = 0 by omega], Or.inl ⟨h0, rfl⟩⟩
    · by_cases h1 : most ≤ (wordsB s).length
      · exact ⟨most.toNat, by omega, rfl, Or.inr (Or.inl ⟨by omega, h1, rfl⟩)⟩
      · exact ⟨(wordsB s).length, by omega, by rw [List.take_of_length_le (by omega), List.take_of_length_le (by omega)], Or.inr (Or.inr ⟨by omega, rfl⟩)⟩⟩
  obtain ⟨m, hml, hmm, hcs⟩ := H3.out
  obtain ⟨X1, hX1⟩ : ∃ X1, (wordsB s).take most.toNat = X1 := ⟨_, rfl⟩
  have hx1 : X1.length ≤ 100000 := by rw [← hX1, List.length_take]; omega
  have HX1 := Aside0.mk hX1
  rw [hX1] at hmm
  have HMM := Aside0.mk hmm
  clear hX1
  have hmc : m ≤ c := by omega
  clear H3 hmm
  rcases hcs with ⟨h0, h1⟩ | ⟨h0, h1, h2⟩ | ⟨h0, h1⟩
  · have HM := Aside0.mk h1
    clear h1
    have hc0 : 0 ≤ c := Nat.zero_le _
    go_upto_region 11 with (fail)
    (refine wp_region_noPanic ?_; refine wp_region_held_drew (S := (fun w' => Aside0 (Below W5.heap.size W5 w'))) (by kernel_rfl) ⟨below_drew1 (Below.refl _ _)⟩ ?_; intro hHeld)
    (refine wpAnyH_take (i := 0) (v := ?_) (by simp only [List.getElem?_toArray, List.getElem?_cons_succ, List.getElem?_cons_zero]; rfl) (by kernel_rfl) (by kernel_rfl) (by kernel_rfl) (fun _ _ _ h => h) (Or.inl ⟨by rfl, ?_⟩) (by exact hHeld) ?_; rotate_left; (focus (intro w' hSw; obtain ⟨hc_, hf_⟩ := bcell (Aside0.out (show Aside0 _ from hSw)); clear hSw; go_simp; (try with_reducible rfl); done)); (try simp only [Act.put, List.setIfInBounds_toArray, List.set_cons_zero, List.set_cons_succ]))
    (refine wpAnyH_take (i := 1) (v := ?_) (by simp only [List.getElem?_toArray, List.getElem?_cons_succ, List.getElem?_cons_zero]; rfl) (by kernel_rfl) (by kernel_rfl) (by kernel_rfl) (fun _ _ _ h => h) (Or.inl ⟨by rfl, ?_⟩) (by exact hHeld) ?_; rotate_left; (focus (intro w' hSw; obtain ⟨hc_, hf_⟩ := bcell (Aside0.out (show Aside0 _ from hSw)); clear hSw; go_simp; (try with_reducible rfl); done)); (try simp only [Act.put, List.setIfInBounds_toArray, List.set_cons_zero, List.set_cons_succ]))
    (refine wpAnyH_take (i := 3) (v := ?_) (by simp only [List.getElem?_toArray, List.getElem?_cons_succ, List.getElem?_cons_zero]; rfl) (by kernel_rfl) (by kernel_rfl) (by kernel_rfl) (fun _ _ _ h => h) (Or.inl ⟨by rfl, ?_⟩) (by exact hHeld) ?_; rotate_left; (focus (intro w' hSw; obtain ⟨hc_, hf_⟩ := bcell (Aside0.out (show Aside0 _ from hSw)); clear hSw; go_simp; (try with_reducible rfl); done)); (try simp only [Act.put, List.setIfInBounds_toArray, List.set_cons_zero, List.set_cons_succ]))
    (refine wpAnyH_take (i := 4) (v := ?_) (by simp only [List.getElem?_toArray, List.getElem?_cons_succ, List.getElem?_cons_zero]; rfl) (by kernel_rfl) (by kernel_rfl) (by kernel_rfl) (fun _ _ _ h => h) (Or.inl ⟨by rfl, ?_⟩) (by exact hHeld) ?_; rotate_left; (focus (intro w' hSw; obtain ⟨hc_, hf_⟩ := bcell (Aside0.out (show Aside0 _ from hSw)); clear hSw; go_simp; (try with_reducible rfl); done)); (try simp only [Act.put, List.setIfInBounds_toArray, List.set_cons_zero, List.set_cons_succ]))
    (refine wpAnyH_take (i := 5) (v := ?_) (by simp only [List.getElem?_toArray, List.getElem?_cons_succ, List.getElem?_cons_zero]; rfl) (by kernel_rfl) (by kernel_rfl) (by kernel_rfl) (fun _ _ _ h => h) (Or.inl ⟨by rfl, ?_⟩) (by exact hHeld) ?_; rotate_left; (focus (intro w' hSw; obtain ⟨hc_, hf_⟩ := bcell (Aside0.out (show Aside0 _ from hSw)); clear hSw; go_simp; (try with_reducible rfl); done)); (try simp only [Act.put, List.setIfInBounds_toArray, List.set_cons_zero, List.set_cons_succ]))
    (refine wpAnyH_ready (rs := [2]) (by kernel_rfl) (by simp) ?_; refine (AllReadyH.cons (by simp only [List.getElem?_toArray, List.getElem?_cons_succ, List.getElem?_cons_zero]; rfl) (fun K hK => ?_) AllReadyH.nil); go_simp; (go_at_call 26; (refine (lwords_w s (by omega) most hm2 _).mono ?_); rintro e x1 ⟨E1, k1, rfl, hk1, hbs, hb⟩; rw [HX1.out] at hk1 hbs ⊢; have HE1 := Aside0.mk hbs; have HB1 := Aside0.mk (below_step hHeld.out hb); clear hbs); refine hK.out _ _ (by (try dsimp only); exact ⟨below_step hHeld.out hb⟩) ?_; clear hK K hHeld; intro hHeld; (try simp only [Act.put, List.setIfInBounds_toArray, List.set_cons_zero, List.set_cons_succ]))
    (refine wpAnyH_ready (rs := [6]) (by kernel_rfl) (by simp) ?_; refine (AllReadyH.cons (by simp only [List.getElem?_toArray, List.getElem?_cons_succ, List.getElem?_cons_zero]; rfl) (fun K hK => ?_) AllReadyH.nil); go_simp; (go_at_call 25; (refine (same_w X1 ((wordsB s).take m) HMM.out _ _ rfl (by have := HM.out; rw [List.length_take]; omega) hx1 _ _ _ _ _ HE1.out hk1 (Kd.C_take (Kd.C_below HL.out hHeld.out) hml) (by rw [List.length_take]; omega)).mono ?_); rintro e x2 ⟨rfl, hb⟩); refine hK.out _ _ (by (try dsimp only); exact ⟨below_step hHeld.out hb⟩) ?_; clear hK K hHeld; intro hHeld; (try simp only [Act.put, List.setIfInBounds_toArray, List.set_cons_zero, List.set_cons_succ]))
    (refine wpAnyH_take (i := 7) (v := ?_) (by simp only [List.getElem?_toArray, List.getElem?_cons_succ, List.getElem?_cons_zero]; rfl) (by kernel_rfl) (by kernel_rfl) (by kernel_rfl) (fun _ _ _ h => h) (Or.inl ⟨by rfl, ?_⟩) (by exact hHeld) ?_; rotate_left; (focus (intro w' hSw; obtain ⟨hc_, hf_⟩ := bcell (Aside0.out (show Aside0 _ from hSw)); clear hSw; go_simp; (try with_reducible rfl); done)); (try simp only [Act.put, List.setIfInBounds_toArray, List.set_cons_zero, List.set_cons_succ]))
    (refine wpAnyH_done (by kernel_rfl) ?_ _; refine NoPanic.normal ?_)
    have HB11 := Aside0.mk (below_step HB.out hHeld.out)
    go_wp2_with (go_at_call 27; (with_reducible refine (rs_calls s _).mono ?_); rintro e w' ⟨rfl, rfl⟩)
    have bS := (Boxed.new x2 9 (.string s)).alloc (.cells #[.int .i64 0] 3)
    have bK := Boxed.new (x2.alloc (.cells #[.string s] 9)) 3 (.int .i64 0)
    rw [World.size_alloc] at bK
    have hbel : Below w.heap.size w ((x2.alloc (.cells #[.string s] 9)).alloc (.cells #[.int .i64 0] 3)) := below_alloc (below_alloc HB11.out _) _
    have hq := HB11.out.size
    generalize ((x2.alloc (.cells #[.string s] 9)).alloc (.cells #[.int .i64 0] 3)) = W0 at *
    generalize x2.heap.size = q at *
    refine (wpIn_wide (n := 6)).1 ?_
    refine wpIn_rangeFunc_ownG rfl (by omega) (gf := 33) (lb := #[.pointer (some ⟨q, 0, none⟩)]) rfl trivial (enters_of Tryd.func33 (by kernel_rfl) rfl)
      (words_stops 5 (by omega) q w.heap.size s (by omega) W0 bS.lt bS.cell) belowK_t (belowK_b hbel.size) (Below.refl _ _) (fun _ => rfl)
      (fun pre W => (Boxed W (q + 1) 3 (.int .i64 (sumW pre)) ∧ Boxed W q 9 (.string s)) ∧ Below w.heap.size w W)
      (fun _ _ _ => False)
      (OwnFrom.and (OwnFrom.and (Own.from (boxed_own _ _ (fun (pre : List ByteArray) => .int .i64 (sumW pre))) _) (Own.from (boxed_own _ _ (fun (_ : List ByteArray) => .string s)) _)) (ownFrom_below (Nat.le_refl _) hbel.size))
      (fun _ _ _ _ _ hs _ _ => hs) ⟨⟨bK, bS⟩, hbel⟩ ?a1_0 ?assign_0 ?body_0 ?done_0 ?stop_0
    case assign_0 =>
      intro l x W K hK
      gi_wp2
      exact hK
    case stop_0 =>
      rintro D c pre W _ _ h _
      exact h.elim
    case body_0 =>
      rintro l pre x W ⟨⟨hk, hs'⟩, hB⟩ _
      have hc := hk.cell
      have hf := hk.frozen
      gi_wp2
      exact ⟨(KeepsOthers.setCell _ _ _).from _, (Below.refl _ W).setCell (p := ⟨q + 1, 0, none⟩) (by show w.heap.size ≤ q + 1; omega) _, ⟨⟨by rw [sumW_snoc]; exact hk.set _, hs'.other (by omega) _⟩, hB.setCell (p := ⟨q + 1, 0, none⟩) (by show w.heap.size ≤ q + 1; omega) _⟩⟩
    case done_0 =>
      rintro D ys W hD rfl ⟨⟨hk, hs'⟩, hB⟩ hK
      have hDW : D < W.heap.size := (Array.getElem?_eq_some_iff.1 hK).1
      have hKW := Aside0.mk hK
      go_wp2
      refine (wpIn_wide (n := 6)).1 ?_
      refine wpIn_rangeFunc_ownG rfl (by omega) (gf := 33) (lb := #[.pointer (some ⟨q, 0, none⟩)]) rfl trivial (enters_of Tryd.func33 (by kernel_rfl) rfl)
        (words_stops 5 (by omega) q w.heap.size s (by omega) W hs'.lt hs'.cell) belowK_t (belowK_b hB.size) (Below.refl _ _) (fun _ => rfl)
        (fun pre V => ((Boxed V (q + 1) 3 (.int .i64 (subW (sumW (wordsB s)) pre)) ∧ Boxed V q 9 (.string s)) ∧ Below w.heap.size w V) ∧ V.heap[D]? = some (.deferred (some [])))
        (fun _ _ _ => False)
        (OwnFrom.and (OwnFrom.and (OwnFrom.and (Own.from (boxed_own _ _ (fun (pre : List ByteArray) => .int .i64 (subW (sumW (wordsB s)) pre))) _) (Own.from (boxed_own _ _ (fun (_ : List ByteArray) => .string s)) _)) (ownFrom_below (Nat.le_refl _) hB.size)) (fun _ A B row hs hg hr => (hg.block D (Array.getElem?_eq_some_iff.1 hs).1 (fun e => by have := (hr D e.symm).1; omega)).trans hs))
        (fun _ _ _ _ _ hs _ _ => hs) ⟨⟨⟨hk, hs'⟩, hB⟩, hKW.out⟩ ?a2_0 ?assign2_0 ?body2_0 ?done2_0 ?stop2_0
      case assign2_0 =>
        intro l x V K hK2
        gi_wp2
        exact hK2
      case stop2_0 =>
        rintro D c pre V _ _ h _
        exact h.elim
      case body2_0 =>
        rintro l pre x V ⟨⟨⟨hk2, hs2⟩, hB2⟩, hD2⟩ _
        have hc := hk2.cell
        have hf := hk2.frozen
        gi_wp2
        exact ⟨(KeepsOthers.setCell _ _ _).from _, (Below.refl _ V).setCell (p := ⟨q + 1, 0, none⟩) (by show w.heap.size ≤ q + 1; omega) _, ⟨⟨⟨by rw [subW_snoc]; exact hk2.set _, hs2.other (by omega) _⟩, hB2.setCell (p := ⟨q + 1, 0, none⟩) (by show w.heap.size ≤ q + 1; omega) _⟩, (KeepsOthers.setCell _ _ _).same D _ hD2 rfl⟩⟩
      case done2_0 =>
        rintro D2 zs V hD2 rfl ⟨⟨⟨hk2, hs2⟩, hB2⟩, hKD⟩ hK2
        rw [sub_sum] at hk2
        have hc := hk2.cell
        have hne : D ≠ D2 := by omega
        go_wp2
        refine ⟨by simp, .inl ⟨_, _, rfl, run_takeDeferred hK2, ⟨by simp, .inl ⟨_, _, rfl, run_takeDeferred ((World.putObj_heap_other hne).trans hKD), ?_⟩⟩⟩⟩
        refine ⟨_, results_tmp rfl _ _ _, rfl, ?_⟩
        have hb0 := hbel.size
        have hb1 := hB.size
        exact (hB2.trans (belowK_b (w := w) (Nat.le_refl _) V D2 _ _ (by omega) hK2 rfl rfl)).trans (belowK_b (w := w) (Nat.le_refl _) _ D _ _ (by omega) ((World.putObj_heap_other hne).trans hKD) rfl rfl)
  · have HM := Aside0.mk h2
    have hgt : decide (((wordsB s).length : Int) < most) = false := by simp; omega
    have hgt2 : ¬ ((wordsB s).length : Int) < most := by omega
    have hn0 : decide (most < 0) = false := by simp; omega
    have hn1 : (0 : Int) ≤ most := by omega
    have hc0 : most ≤ (c : Int) := by omega
    clear h1 h2 h0
    go_upto_region 11 with (fail)
    (refine wp_region_noPanic ?_; refine wp_region_held_drew (S := (fun w' => Aside0 (Below W5.heap.size W5 w'))) (by kernel_rfl) ⟨below_drew1 (Below.refl _ _)⟩ ?_; intro hHeld)
    (refine wpAnyH_take (i := 0) (v := ?_) (by simp only [List.getElem?_toArray, List.getElem?_cons_succ, List.getElem?_cons_zero]; rfl) (by kernel_rfl) (by kernel_rfl) (by kernel_rfl) (fun _ _ _ h => h) (Or.inl ⟨by rfl, ?_⟩) (by exact hHeld) ?_; rotate_left; (focus (intro w' hSw; obtain ⟨hc_, hf_⟩ := bcell (Aside0.out (show Aside0 _ from hSw)); clear hSw; go_simp; (try with_reducible rfl); done)); (try simp only [Act.put, List.setIfInBounds_toArray, List.set_cons_zero, List.set_cons_succ]))
    (refine wpAnyH_take (i := 1) (v := ?_) (by simp only [List.getElem?_toArray, List.getElem?_cons_succ, List.getElem?_cons_zero]; rfl) (by kernel_rfl) (by kernel_rfl) (by kernel_rfl) (fun _ _ _ h => h) (Or.inl ⟨by rfl, ?_⟩) (by exact hHeld) ?_; rotate_left; (focus (intro w' hSw; obtain ⟨hc_, hf_⟩ := bcell (Aside0.out (show Aside0 _ from hSw)); clear hSw; go_simp; (try with_reducible rfl); done)); (try simp only [Act.put, List.setIfInBounds_toArray, List.set_cons_zero, List.set_cons_succ]))
    (refine wpAnyH_take (i := 3) (v := ?_) (by simp only [List.getElem?_toArray, List.getElem?_cons_succ, List.getElem?_cons_zero]; rfl) (by kernel_rfl) (by kernel_rfl) (by kernel_rfl) (fun _ _ _ h => h) (Or.inl ⟨by rfl, ?_⟩) (by exact hHeld) ?_; rotate_left; (focus (intro w' hSw; obtain ⟨hc_, hf_⟩ := bcell (Aside0.out (show Aside0 _ from hSw)); clear hSw; go_simp; (try with_reducible rfl); done)); (try simp only [Act.put, List.setIfInBounds_toArray, List.set_cons_zero, List.set_cons_succ]))
    (refine wpAnyH_take (i := 4) (v := ?_) (by simp only [List.getElem?_toArray, List.getElem?_cons_succ, List.getElem?_cons_zero]; rfl) (by kernel_rfl) (by kernel_rfl) (by kernel_rfl) (fun _ _ _ h => h) (Or.inl ⟨by rfl, ?_⟩) (by exact hHeld) ?_; rotate_left; (focus (intro w' hSw; obtain ⟨hc_, hf_⟩ := bcell (Aside0.out (show Aside0 _ from hSw)); clear hSw; go_simp; (try with_reducible rfl); done)); (try simp only [Act.put, List.setIfInBounds_toArray, List.set_cons_zero, List.set_cons_succ]))
    (refine wpAnyH_take (i := 5) (v := ?_) (by simp only [List.getElem?_toArray, List.getElem?_cons_succ, List.getElem?_cons_zero]; rfl) (by kernel_rfl) (by kernel_rfl) (by kernel_rfl) (fun _ _ _ h => h) (Or.inl ⟨by rfl, ?_⟩) (by exact hHeld) ?_; rotate_left; (focus (intro w' hSw; obtain ⟨hc_, hf_⟩ := bcell (Aside0.out (show Aside0 _ from hSw)); clear hSw; go_simp; (try with_reducible rfl); done)); (try simp only [Act.put, List.setIfInBounds_toArray, List.set_cons_zero, List.set_cons_succ]))
    (refine wpAnyH_ready (rs := [2]) (by kernel_rfl) (by simp) ?_; refine (AllReadyH.cons (by simp only [List.getElem?_toArray, List.getElem?_cons_succ, List.getElem?_cons_zero]; rfl) (fun K hK => ?_) AllReadyH.nil); go_simp; (go_at_call 26; (refine (lwords_w s (by omega) most hm2 _).mono ?_); rintro e x1 ⟨E1, k1, rfl, hk1, hbs, hb⟩; rw [HX1.out] at hk1 hbs ⊢; have HE1 := Aside0.mk hbs; have HB1 := Aside0.mk (below_step hHeld.out hb); clear hbs); refine hK.out _ _ (by (try dsimp only); exact ⟨below_step hHeld.out hb⟩) ?_; clear hK K hHeld; intro hHeld; (try simp only [Act.put, List.setIfInBounds_toArray, List.set_cons_zero, List.set_cons_succ]))
    (refine wpAnyH_ready (rs := [6]) (by kernel_rfl) (by simp) ?_; refine (AllReadyH.cons (by simp only [List.getElem?_toArray, List.getElem?_cons_succ, List.getElem?_cons_zero]; rfl) (fun K hK => ?_) AllReadyH.nil); go_simp; (go_at_call 25; (refine (same_w X1 ((wordsB s).take m) HMM.out _ _ rfl (by have := HM.out; rw [List.length_take]; omega) hx1 _ _ _ _ _ HE1.out hk1 (Kd.C_take (Kd.C_below HL.out hHeld.out) hml) (by rw [List.length_take]; omega)).mono ?_); rintro e x2 ⟨rfl, hb⟩); refine hK.out _ _ (by (try dsimp only); exact ⟨below_step hHeld.out hb⟩) ?_; clear hK K hHeld; intro hHeld; (try simp only [Act.put, List.setIfInBounds_toArray, List.set_cons_zero, List.set_cons_succ]))
    (refine wpAnyH_take (i := 7) (v := ?_) (by simp only [List.getElem?_toArray, List.getElem?_cons_succ, List.getElem?_cons_zero]; rfl) (by kernel_rfl) (by kernel_rfl) (by kernel_rfl) (fun _ _ _ h => h) (Or.inl ⟨by rfl, ?_⟩) (by exact hHeld) ?_; rotate_left; (focus (intro w' hSw; obtain ⟨hc_, hf_⟩ := bcell (Aside0.out (show Aside0 _ from hSw)); clear hSw; go_simp; (try with_reducible rfl); done)); (try simp only [Act.put, List.setIfInBounds_toArray, List.set_cons_zero, List.set_cons_succ]))
    (refine wpAnyH_done (by kernel_rfl) ?_ _; refine NoPanic.normal ?_)
    have HB11 := Aside0.mk (below_step HB.out hHeld.out)
    go_wp2_with (go_at_call 27; (with_reducible refine (rs_calls s _).mono ?_); rintro e w' ⟨rfl, rfl⟩)
    have bS := (Boxed.new x2 9 (.string s)).alloc (.cells #[.int .i64 0] 3)
    have bK := Boxed.new (x2.alloc (.cells #[.string s] 9)) 3 (.int .i64 0)
    rw [World.size_alloc] at bK
    have hbel : Below w.heap.size w ((x2.alloc (.cells #[.string s] 9)).alloc (.cells #[.int .i64 0] 3)) := below_alloc (below_alloc HB11.out _) _
    have hq := HB11.out.size
    generalize ((x2.alloc (.cells #[.string s] 9)).alloc (.cells #[.int .i64 0] 3)) = W0 at *
    generalize x2.heap.size = q at *
    refine (wpIn_wide (n := 6)).1 ?_
    refine wpIn_rangeFunc_ownG rfl (by omega) (gf := 33) (lb := #[.pointer (some ⟨q, 0, none⟩)]) rfl trivial (enters_of Tryd.func33 (by kernel_rfl) rfl)
      (words_stops 5 (by omega) q w.heap.size s (by omega) W0 bS.lt bS.cell) belowK_t (belowK_b hbel.size) (Below.refl _ _) (fun _ => rfl)
      (fun pre W => (Boxed W (q + 1) 3 (.int .i64 (sumW pre)) ∧ Boxed W q 9 (.string s)) ∧ Below w.heap.size w W)
      (fun _ _ _ => False)
      (OwnFrom.and (OwnFrom.and (Own.from (boxed_own _ _ (fun (pre : List ByteArray) => .int .i64 (sumW pre))) _) (Own.from (boxed_own _ _ (fun (_ : List ByteArray) => .string s)) _)) (ownFrom_below (Nat.le_refl _) hbel.size))
      (fun _ _ _ _ _ hs _ _ => hs) ⟨⟨bK, bS⟩, hbel⟩ ?a1_1 ?assign_1 ?body_1 ?done_1 ?stop_1
    case assign_1 =>
      intro l x W K hK
      gi_wp2
      exact hK
    case stop_1 =>
      rintro D c pre W _ _ h _
      exact h.elim
    case body_1 =>
      rintro l pre x W ⟨⟨hk, hs'⟩, hB⟩ _
      have hc := hk.cell
      have hf := hk.frozen
      gi_wp2
      exact ⟨(KeepsOthers.setCell _ _ _).from _, (Below.refl _ W).setCell (p := ⟨q + 1, 0, none⟩) (by show w.heap.size ≤ q + 1; omega) _, ⟨⟨by rw [sumW_snoc]; exact hk.set _, hs'.other (by omega) _⟩, hB.setCell (p := ⟨q + 1, 0, none⟩) (by show w.heap.size ≤ q + 1; omega) _⟩⟩
    case done_1 =>
      rintro D ys W hD rfl ⟨⟨hk, hs'⟩, hB⟩ hK
      have hDW : D < W.heap.size := (Array.getElem?_eq_some_iff.1 hK).1
      have hKW := Aside0.mk hK
      go_wp2
      refine (wpIn_wide (n := 6)).1 ?_
      refine wpIn_rangeFunc_ownG rfl (by omega) (gf := 33) (lb := #[.pointer (some ⟨q, 0, none⟩)]) rfl trivial (enters_of Tryd.func33 (by kernel_rfl) rfl)
        (words_stops 5 (by omega) q w.heap.size s (by omega) W hs'.lt hs'.cell) belowK_t (belowK_b hB.size) (Below.refl _ _) (fun _ => rfl)
        (fun pre V => ((Boxed V (q + 1) 3 (.int .i64 (subW (sumW (wordsB s)) pre)) ∧ Boxed V q 9 (.string s)) ∧ Below w.heap.size w V) ∧ V.heap[D]? = some (.deferred (some [])))
        (fun _ _ _ => False)
        (OwnFrom.and (OwnFrom.and (OwnFrom.and (Own.from (boxed_own _ _ (fun (pre : List ByteArray) => .int .i64 (subW (sumW (wordsB s)) pre))) _) (Own.from (boxed_own _ _ (fun (_ : List ByteArray) => .string s)) _)) (ownFrom_below (Nat.le_refl _) hB.size)) (fun _ A B row hs hg hr => (hg.block D (Array.getElem?_eq_some_iff.1 hs).1 (fun e => by have := (hr D e.symm).1; omega)).trans hs))
        (fun _ _ _ _ _ hs _ _ => hs) ⟨⟨⟨hk, hs'⟩, hB⟩, hKW.out⟩ ?a2_1 ?assign2_1 ?body2_1 ?done2_1 ?stop2_1
      case assign2_1 =>
        intro l x V K hK2
        gi_wp2
        exact hK2
      case stop2_1 =>
        rintro D c pre V _ _ h _
        exact h.elim
      case body2_1 =>
        rintro l pre x V ⟨⟨⟨hk2, hs2⟩, hB2⟩, hD2⟩ _
        have hc := hk2.cell
        have hf := hk2.frozen
        gi_wp2
        exact ⟨(KeepsOthers.setCell _ _ _).from _, (Below.refl _ V).setCell (p := ⟨q + 1, 0, none⟩) (by show w.heap.size ≤ q + 1; omega) _, ⟨⟨⟨by rw [subW_snoc]; exact hk2.set _, hs2.other (by omega) _⟩, hB2.setCell (p := ⟨q + 1, 0, none⟩) (by show w.heap.size ≤ q + 1; omega) _⟩, (KeepsOthers.setCell _ _ _).same D _ hD2 rfl⟩⟩
      case done2_1 =>
        rintro D2 zs V hD2 rfl ⟨⟨⟨hk2, hs2⟩, hB2⟩, hKD⟩ hK2
        rw [sub_sum] at hk2
        have hc := hk2.cell
        have hne : D ≠ D2 := by omega
        go_wp2
        refine ⟨by simp, .inl ⟨_, _, rfl, run_takeDeferred hK2, ⟨by simp, .inl ⟨_, _, rfl, run_takeDeferred ((World.putObj_heap_other hne).trans hKD), ?_⟩⟩⟩⟩
        refine ⟨_, results_tmp rfl _ _ _, rfl, ?_⟩
        have hb0 := hbel.size
        have hb1 := hB.size
        exact (hB2.trans (belowK_b (w := w) (Nat.le_refl _) V D2 _ _ (by omega) hK2 rfl rfl)).trans (belowK_b (w := w) (Nat.le_refl _) _ D _ _ (by omega) ((World.putObj_heap_other hne).trans hKD) rfl rfl)
  · have HM := Aside0.mk h1
    have hgt : decide (((wordsB s).length : Int) < most) = true := by simp; omega
    have hn0 : decide (most < 0) = false := by simp; omega
    have hn1 : (0 : Int) ≤ most := by omega
    have hc0 : (wordsB s).length ≤ c := by omega
    clear h1
    go_upto_region 11 with (fail)
    (refine wp_region_noPanic ?_; refine wp_region_held_drew (S := (fun w' => Aside0 (Below W5.heap.size W5 w'))) (by kernel_rfl) ⟨below_drew1 (Below.refl _ _)⟩ ?_; intro hHeld)
    (refine wpAnyH_take (i := 0) (v := ?_) (by simp only [List.getElem?_toArray, List.getElem?_cons_succ, List.getElem?_cons_zero]; rfl) (by kernel_rfl) (by kernel_rfl) (by kernel_rfl) (fun _ _ _ h => h) (Or.inl ⟨by rfl, ?_⟩) (by exact hHeld) ?_; rotate_left; (focus (intro w' hSw; obtain ⟨hc_, hf_⟩ := bcell (Aside0.out (show Aside0 _ from hSw)); clear hSw; go_simp; (try with_reducible rfl); done)); (try simp only [Act.put, List.setIfInBounds_toArray, List.set_cons_zero, List.set_cons_succ]))
    (refine wpAnyH_take (i := 1) (v := ?_) (by simp only [List.getElem?_toArray, List.getElem?_cons_succ, List.getElem?_cons_zero]; rfl) (by kernel_rfl) (by kernel_rfl) (by kernel_rfl) (fun _ _ _ h => h) (Or.inl ⟨by rfl, ?_⟩) (by exact hHeld) ?_; rotate_left; (focus (intro w' hSw; obtain ⟨hc_, hf_⟩ := bcell (Aside0.out (show Aside0 _ from hSw)); clear hSw; go_simp; (try with_reducible rfl); done)); (try simp only [Act.put, List.setIfInBounds_toArray, List.set_cons_zero, List.set_cons_succ]))
    (refine wpAnyH_take (i := 3) (v := ?_) (by simp only [List.getElem?_toArray, List.getElem?_cons_succ, List.getElem?_cons_zero]; rfl) (by kernel_rfl) (by kernel_rfl) (by kernel_rfl) (fun _ _ _ h => h) (Or.inl ⟨by rfl, ?_⟩) (by exact hHeld) ?_; rotate_left; (focus (intro w' hSw; obtain ⟨hc_, hf_⟩ := bcell (Aside0.out (show Aside0 _ from hSw)); clear hSw; go_simp; (try with_reducible rfl); done)); (try simp only [Act.put, List.setIfInBounds_toArray, List.set_cons_zero, List.set_cons_succ]))
    (refine wpAnyH_take (i := 4) (v := ?_) (by simp only [List.getElem?_toArray, List.getElem?_cons_succ, List.getElem?_cons_zero]; rfl) (by kernel_rfl) (by kernel_rfl) (by kernel_rfl) (fun _ _ _ h => h) (Or.inl ⟨by rfl, ?_⟩) (by exact hHeld) ?_; rotate_left; (focus (intro w' hSw; obtain ⟨hc_, hf_⟩ := bcell (Aside0.out (show Aside0 _ from hSw)); clear hSw; go_simp; (try with_reducible rfl); done)); (try simp only [Act.put, List.setIfInBounds_toArray, List.set_cons_zero, List.set_cons_succ]))
    (refine wpAnyH_take (i := 5) (v := ?_) (by simp only [List.getElem?_toArray, List.getElem?_cons_succ, List.getElem?_cons_zero]; rfl) (by kernel_rfl) (by kernel_rfl) (by kernel_rfl) (fun _ _ _ h => h) (Or.inl ⟨by rfl, ?_⟩) (by exact hHeld) ?_; rotate_left; (focus (intro w' hSw; obtain ⟨hc_, hf_⟩ := bcell (Aside0.out (show Aside0 _ from hSw)); clear hSw; go_simp; (try with_reducible rfl); done)); (try simp only [Act.put, List.setIfInBounds_toArray, List.set_cons_zero, List.set_cons_succ]))
    (refine wpAnyH_ready (rs := [2]) (by kernel_rfl) (by simp) ?_; refine (AllReadyH.cons (by simp only [List.getElem?_toArray, List.getElem?_cons_succ, List.getElem?_cons_zero]; rfl) (fun K hK => ?_) AllReadyH.nil); go_simp; (go_at_call 26; (refine (lwords_w s (by omega) most hm2 _).mono ?_); rintro e x1 ⟨E1, k1, rfl, hk1, hbs, hb⟩; rw [HX1.out] at hk1 hbs ⊢; have HE1 := Aside0.mk hbs; have HB1 := Aside0.mk (below_step hHeld.out hb); clear hbs); refine hK.out _ _ (by (try dsimp only); exact ⟨below_step hHeld.out hb⟩) ?_; clear hK K hHeld; intro hHeld; (try simp only [Act.put, List.setIfInBounds_toArray, List.set_cons_zero, List.set_cons_succ]))
    (refine wpAnyH_ready (rs := [6]) (by kernel_rfl) (by simp) ?_; refine (AllReadyH.cons (by simp only [List.getElem?_toArray, List.getElem?_cons_succ, List.getElem?_cons_zero]; rfl) (fun K hK => ?_) AllReadyH.nil); go_simp; (go_at_call 25; (refine (same_w X1 ((wordsB s).take m) HMM.out _ _ rfl (by have := HM.out; rw [List.length_take]; omega) hx1 _ _ _ _ _ HE1.out hk1 (Kd.C_take (Kd.C_below HL.out hHeld.out) hml) (by rw [List.length_take]; omega)).mono ?_); rintro e x2 ⟨rfl, hb⟩); refine hK.out _ _ (by (try dsimp only); exact ⟨below_step hHeld.out hb⟩) ?_; clear hK K hHeld; intro hHeld; (try simp only [Act.put, List.setIfInBounds_toArray, List.set_cons_zero, List.set_cons_succ]))
    (refine wpAnyH_take (i := 7) (v := ?_) (by simp only [List.getElem?_toArray, List.getElem?_cons_succ, List.getElem?_cons_zero]; rfl) (by kernel_rfl) (by kernel_rfl) (by kernel_rfl) (fun _ _ _ h => h) (Or.inl ⟨by rfl, ?_⟩) (by exact hHeld) ?_; rotate_left; (focus (intro w' hSw; obtain ⟨hc_, hf_⟩ := bcell (Aside0.out (show Aside0 _ from hSw)); clear hSw; go_simp; (try with_reducible rfl); done)); (try simp only [Act.put, List.setIfInBounds_toArray, List.set_cons_zero, List.set_cons_succ]))
    (refine wpAnyH_done (by kernel_rfl) ?_ _; refine NoPanic.normal ?_)
    have HB11 := Aside0.mk (below_step HB.out hHeld.out)
    go_wp2_with (go_at_call 27; (with_reducible refine (rs_calls s _).mono ?_); rintro e w' ⟨rfl, rfl⟩)
    have bS := (Boxed.new x2 9 (.string s)).alloc (.cells #[.int .i64 0] 3)
    have bK := Boxed.new (x2.alloc (.cells #[.string s] 9)) 3 (.int .i64 0)
    rw [World.size_alloc] at bK
    have hbel : Below w.heap.size w ((x2.alloc (.cells #[.string s] 9)).alloc (.cells #[.int .i64 0] 3)) := below_alloc (below_alloc HB11.out _) _
    have hq := HB11.out.size
    generalize ((x2.alloc (.cells #[.string s] 9)).alloc (.cells #[.int .i64 0] 3)) = W0 at *
    generalize x2.heap.size = q at *
    refine (wpIn_wide (n := 6)).1 ?_
    refine wpIn_rangeFunc_ownG rfl (by omega) (gf := 33) (lb := #[.pointer (some ⟨q, 0, none⟩)]) rfl trivial (enters_of Tryd.func33 (by kernel_rfl) rfl)
      (words_stops 5 (by omega) q w.heap.size s (by omega) W0 bS.lt bS.cell) belowK_t (belowK_b hbel.size) (Below.refl _ _) (fun _ => rfl)
      (fun pre W => (Boxed W (q + 1) 3 (.int .i64 (sumW pre)) ∧ Boxed W q 9 (.string s)) ∧ Below w.heap.size w W)
      (fun _ _ _ => False)
      (OwnFrom.and (OwnFrom.and (Own.from (boxed_own _ _ (fun (pre : List ByteArray) => .int .i64 (sumW pre))) _) (Own.from (boxed_own _ _ (fun (_ : List ByteArray) => .string s)) _)) (ownFrom_below (Nat.le_refl _) hbel.size))
      (fun _ _ _ _ _ hs _ _ => hs) ⟨⟨bK, bS⟩, hbel⟩ ?a1_2 ?assign_2 ?body_2 ?done_2 ?stop_2
    case assign_2 =>
      intro l x W K hK
      gi_wp2
      exact hK
    case stop_2 =>
      rintro D c pre W _ _ h _
      exact h.elim
    case body_2 =>
      rintro l pre x W ⟨⟨hk, hs'⟩, hB⟩ _
      have hc := hk.cell
      have hf := hk.frozen
      gi_wp2
      exact ⟨(KeepsOthers.setCell _ _ _).from _, (Below.refl _ W).setCell (p := ⟨q + 1, 0, none⟩) (by show w.heap.size ≤ q + 1; omega) _, ⟨⟨by rw [sumW_snoc]; exact hk.set _, hs'.other (by omega) _⟩, hB.setCell (p := ⟨q + 1, 0, none⟩) (by show w.heap.size ≤ q + 1; omega) _⟩⟩
    case done_2 =>
      rintro D ys W hD rfl ⟨⟨hk, hs'⟩, hB⟩ hK
      have hDW : D < W.heap.size := (Array.getElem?_eq_some_iff.1 hK).1
      have hKW := Aside0.mk hK
      go_wp2
      refine (wpIn_wide (n := 6)).1 ?_
      refine wpIn_rangeFunc_ownG rfl (by omega) (gf := 33) (lb := #[.pointer (some ⟨q, 0, none⟩)]) rfl trivial (enters_of Tryd.func33 (by kernel_rfl) rfl)
        (words_stops 5 (by omega) q w.heap.size s (by omega) W hs'.lt hs'.cell) belowK_t (belowK_b hB.size) (Below.refl _ _) (fun _ => rfl)
        (fun pre V => ((Boxed V (q + 1) 3 (.int .i64 (subW (sumW (wordsB s)) pre)) ∧ Boxed V q 9 (.string s)) ∧ Below w.heap.size w V) ∧ V.heap[D]? = some (.deferred (some [])))
        (fun _ _ _ => False)
        (OwnFrom.and (OwnFrom.and (OwnFrom.and (Own.from (boxed_own _ _ (fun (pre : List ByteArray) => .int .i64 (subW (sumW (wordsB s)) pre))) _) (Own.from (boxed_own _ _ (fun (_ : List ByteArray) => .string s)) _)) (ownFrom_below (Nat.le_refl _) hB.size)) (fun _ A B row hs hg hr => (hg.block D (Array.getElem?_eq_some_iff.1 hs).1 (fun e => by have := (hr D e.symm).1; omega)).trans hs))
        (fun _ _ _ _ _ hs _ _ => hs) ⟨⟨⟨hk, hs'⟩, hB⟩, hKW.out⟩ ?a2_2 ?assign2_2 ?body2_2 ?done2_2 ?stop2_2
      case assign2_2 =>
        intro l x V K hK2
        gi_wp2
        exact hK2
      case stop2_2 =>
        rintro D c pre V _ _ h _
        exact h.elim
      case body2_2 =>
        rintro l pre x V ⟨⟨⟨hk2, hs2⟩, hB2⟩, hD2⟩ _
        have hc := hk2.cell
        have hf := hk2.frozen
        gi_wp2
        exact ⟨(KeepsOthers.setCell _ _ _).from _, (Below.refl _ V).setCell (p := ⟨q + 1, 0, none⟩) (by show w.heap.size ≤ q + 1; omega) _, ⟨⟨⟨by rw [subW_snoc]; exact hk2.set _, hs2.other (by omega) _⟩, hB2.setCell (p := ⟨q + 1, 0, none⟩) (by show w.heap.size ≤ q + 1; omega) _⟩, (KeepsOthers.setCell _ _ _).same D _ hD2 rfl⟩⟩
      case done2_2 =>
        rintro D2 zs V hD2 rfl ⟨⟨⟨hk2, hs2⟩, hB2⟩, hKD⟩ hK2
        rw [sub_sum] at hk2
        have hc := hk2.cell
        have hne : D ≠ D2 := by omega
        go_wp2
        refine ⟨by simp, .inl ⟨_, _, rfl, run_takeDeferred hK2, ⟨by simp, .inl ⟨_, _, rfl, run_takeDeferred ((World.putObj_heap_other hne).trans hKD), ?_⟩⟩⟩⟩
        refine ⟨_, results_tmp rfl _ _ _, rfl, ?_⟩
        have hb0 := hbel.size
        have hb1 := hB.size
        exact (hB2.trans (belowK_b (w := w) (Nat.le_refl _) V D2 _ _ (by omega) hK2 rfl rfl)).trans (belowK_b (w := w) (Nat.le_refl _) _ D _ _ (by omega) ((World.putObj_heap_other hne).trans hKD) rfl rfl)
theorem nwords_calls (s : ByteArray) (most : Int) (w : World) (hm : (Lit.int .i64 most).wf = true) (hT : Tabs w) :
    Calls Tryd.prog 9 #[.string s, .int .i64 most] w fun e w' => e = .returned (.bool true) ∧ Below w.heap.size w w' := by
  have hm2 : -9223372036854775808 ≤ most ∧ most ≤ 9223372036854775807 := by
    simp [Lit.wf, IntKind.min, IntKind.max, IntKind.signed, IntKind.bits] at hm
    omega
  by_cases hs : 5000 < s.size
  · exact nwords_big s most w hs hT
  · exact nwords_w s most w (by omega) hm2.1 hm2.2 hT
end Go.Proofs.YthcpepijelikcaaDoor.X
