/- Texts of this work, merged in build order: Other, RBare, ROth. -/
import Derived.Test.YtfljijpkeckeaaaGreatDoorY3
import Derived.Laws.CopyOwn
namespace Go.Proofs.YtfljijpkeckeaaaGreatDoor.X
open Go.RowKit Go.Proofs.YtfljijpkeckeaaaGreatDoorW.PrintWords Go.Proofs.YtfljijpkeckeaaaGreatDoorW.PrintMore
set_option linter.unusedVariables false
set_option linter.unusedSimpArgs false
set_option maxRecDepth 100000 in
set_option maxHeartbeats 1000000 in
theorem other_set (x : TextinLine) (cx : List Value) (F : Nat → Prop) (w : World) (hx : HolF F w (fun w2 => kTextinLine.K w2 x cx)) (hT : Tabs w) (hl : x.words.length ≤ 1000000) (hs : ∀ k ∈ x.words, k.size ≤ 1000000) (hu0 : 0 ≤ x.used) (hu1 : x.used ≤ 1000000) (h8 : B8 x.rest) (hrl : x.rest.length ≤ 1000000) (hv : x.verb = (⟨#[115, 101, 116]⟩ : ByteArray)) :
    Calls Tryz.prog 22 #[.agg cx.toArray] w (StepR F w (storesS x.verb x.quiet x.used x.words x.rest 3 4)) := by
  have HB := Aside0.mk (Below.refl w.heap.size w)
  have HX := Aside0.mk hx
  have HT := Aside0.mk hT
  have hvs : x.verb.size ≤ 1000000 := by rw [hv]; decide
  obtain ⟨A1, c1, A4, c4, rfl, hl1, hg1, hl4, hg4⟩ := kTextinLine_open hx.now
  obtain ⟨R, hR⟩ : ∃ R, storesS x.verb x.quiet x.used x.words x.rest 3 4 = R := ⟨_, rfl⟩
  have HO : Aside0 (∀ w', Below w.heap.size w w' → Calls Tryz.prog 45 #[.agg #[.string x.verb, .slice A1 x.words.length c1, .bool x.quiet, .int .i64 x.used, .slice A4 x.rest.length c4], .int .i64 3, .int .i64 4] w' (StepR (fun k => k < w.heap.size ∧ F k) w' R)) := ⟨fun w' hb => by rw [← hR]; exact stores_calls x _ _ w' (HX.out.deep hb) (Tabs.below HT.out hb) hl hs hu0 hu1 h8 hrl 3 4 (.inl rfl)⟩
  rw [hR]
  rw [hv] at HO ⊢
  clear hx hg1 hg4 hR hv hvs hT hs h8
  go_enter Tryz.func22, Tryz.ntmps22
  go_wp2_with (first | (refine wpList_store_K HK.out.now rfl 34 _ _ rfl (w.heap.size + 1) rfl rfl 34 _ BK.out (by kernel_rfl) rfl ?_; intro w2 hbk hlow hfar; have HK2 := Aside0.mk (hfar _ _ (fun h => absurd (h (by simp <;> omega)).1 (by omega)) HK.out); clear BK; have BK := Aside0.mk hbk; have HL := Aside0.mk hlow; clear hbk hlow hfar) | go_at_call 45; (with_reducible refine (HO.out _ (by repeat (first | (with_reducible first | exact HB.out | apply below_alloc | apply pw_below_drewN | apply below_drew1) | exact HB.out))).mono ?_); rintro e w1 ⟨⟨cs, rfl, hk⟩, hb⟩; have BK := Aside0.mk (blk_below (g := w.heap.size + 1) (by repeat (first | exact blk_at_new _ _ _ (by simp; done) | exact blk_at_new _ _ _ rfl | refine blk_alloc ?_ _ | refine blk_drew ?_ | refine blk_drewN ?_ _)) hb); have HBn := Aside0.mk (below_step (by repeat (first | (with_reducible first | exact HB.out | apply below_alloc | apply pw_below_drewN | apply below_drew1) | exact HB.out)) hb); clear HB; have HB := HBn; clear HBn; have HK := Aside0.mk hk; clear hb hk)
  ((try simp only [Exit.inBlock, Exit.then]); refine bodyPost_ret (results_cell_row rfl _ _ (w.heap.size + 1) 34 _ (0, 0) _ rfl BK.out Tryz.underlying34 rfl (by rw [List.size_toArray, kStep.K_len HK.out.now]; kernel_rfl)) rfl ?_)
  exact ⟨⟨_, rfl, HK2.out.mono (fun k hk h3 => (hk (by simp; omega)).2)⟩, HB.out.trans (HL.out _ (by omega))⟩
set_option maxRecDepth 100000 in
set_option maxHeartbeats 1000000 in
theorem other_add (x : TextinLine) (cx : List Value) (F : Nat → Prop) (w : World) (hx : HolF F w (fun w2 => kTextinLine.K w2 x cx)) (hT : Tabs w) (hl : x.words.length ≤ 1000000) (hs : ∀ k ∈ x.words, k.size ≤ 1000000) (hu0 : 0 ≤ x.used) (hu1 : x.used ≤ 1000000) (h8 : B8 x.rest) (hrl : x.rest.length ≤ 1000000) (hv : x.verb = (⟨#[97, 100, 100]⟩ : ByteArray)) :
    Calls Tryz.prog 22 #[.agg cx.toArray] w (StepR F w (storesS x.verb x.quiet x.used x.words x.rest 4 4)) := by
  have HB := Aside0.mk (Below.refl w.heap.size w)
  have HX := Aside0.mk hx
  have HT := Aside0.mk hT
  have hvs : x.verb.size ≤ 1000000 := by rw [hv]; decide
  obtain ⟨A1, c1, A4, c4, rfl, hl1, hg1, hl4, hg4⟩ := kTextinLine_open hx.now
  obtain ⟨R, hR⟩ : ∃ R, storesS x.verb x.quiet x.used x.words x.rest 4 4 = R := ⟨_, rfl⟩
  have HO : Aside0 (∀ w', Below w.heap.size w w' → Calls Tryz.prog 45 #[.agg #[.string x.verb, .slice A1 x.words.length c1, .bool x.quiet, .int .i64 x.used, .slice A4 x.rest.length c4], .int .i64 4, .int .i64 4] w' (StepR (fun k => k < w.heap.size ∧ F k) w' R)) := ⟨fun w' hb => by rw [← hR]; exact stores_calls x _ _ w' (HX.out.deep hb) (Tabs.below HT.out hb) hl hs hu0 hu1 h8 hrl 4 4 (.inl rfl)⟩
  rw [hR]
  rw [hv] at HO ⊢
  clear hx hg1 hg4 hR hv hvs hT hs h8
  go_enter Tryz.func22, Tryz.ntmps22
  go_wp2_with (first | (refine wpList_store_K HK.out.now rfl 34 _ _ rfl (w.heap.size + 1) rfl rfl 34 _ BK.out (by kernel_rfl) rfl ?_; intro w2 hbk hlow hfar; have HK2 := Aside0.mk (hfar _ _ (fun h => absurd (h (by simp <;> omega)).1 (by omega)) HK.out); clear BK; have BK := Aside0.mk hbk; have HL := Aside0.mk hlow; clear hbk hlow hfar) | go_at_call 45; (with_reducible refine (HO.out _ (by repeat (first | (with_reducible first | exact HB.out | apply below_alloc | apply pw_below_drewN | apply below_drew1) | exact HB.out))).mono ?_); rintro e w1 ⟨⟨cs, rfl, hk⟩, hb⟩; have BK := Aside0.mk (blk_below (g := w.heap.size + 1) (by repeat (first | exact blk_at_new _ _ _ (by simp; done) | exact blk_at_new _ _ _ rfl | refine blk_alloc ?_ _ | refine blk_drew ?_ | refine blk_drewN ?_ _)) hb); have HBn := Aside0.mk (below_step (by repeat (first | (with_reducible first | exact HB.out | apply below_alloc | apply pw_below_drewN | apply below_drew1) | exact HB.out)) hb); clear HB; have HB := HBn; clear HBn; have HK := Aside0.mk hk; clear hb hk)
  ((try simp only [Exit.inBlock, Exit.then]); refine bodyPost_ret (results_cell_row rfl _ _ (w.heap.size + 1) 34 _ (0, 0) _ rfl BK.out Tryz.underlying34 rfl (by rw [List.size_toArray, kStep.K_len HK.out.now]; kernel_rfl)) rfl ?_)
  exact ⟨⟨_, rfl, HK2.out.mono (fun k hk h3 => (hk (by simp; omega)).2)⟩, HB.out.trans (HL.out _ (by omega))⟩
set_option maxRecDepth 100000 in
set_option maxHeartbeats 1000000 in
theorem other_replace (x : TextinLine) (cx : List Value) (F : Nat → Prop) (w : World) (hx : HolF F w (fun w2 => kTextinLine.K w2 x cx)) (hT : Tabs w) (hl : x.words.length ≤ 1000000) (hs : ∀ k ∈ x.words, k.size ≤ 1000000) (hu0 : 0 ≤ x.used) (hu1 : x.used ≤ 1000000) (h8 : B8 x.rest) (hrl : x.rest.length ≤ 1000000) (hv : x.verb = (⟨#[114, 101, 112, 108, 97, 99, 101]⟩ : ByteArray)) :
    Calls Tryz.prog 22 #[.agg cx.toArray] w (StepR F w (storesS x.verb x.quiet x.used x.words x.rest 5 4)) := by
  have HB := Aside0.mk (Below.refl w.heap.size w)
  have HX := Aside0.mk hx
  have HT := Aside0.mk hT
  have hvs : x.verb.size ≤ 1000000 := by rw [hv]; decide
  obtain ⟨A1, c1, A4, c4, rfl, hl1, hg1, hl4, hg4⟩ := kTextinLine_open hx.now
  obtain ⟨R, hR⟩ : ∃ R, storesS x.verb x.quiet x.used x.words x.rest 5 4 = R := ⟨_, rfl⟩
  have HO : Aside0 (∀ w', Below w.heap.size w w' → Calls Tryz.prog 45 #[.agg #[.string x.verb, .slice A1 x.words.length c1, .bool x.quiet, .int .i64 x.used, .slice A4 x.rest.length c4], .int .i64 5, .int .i64 4] w' (StepR (fun k => k < w.heap.size ∧ F k) w' R)) := ⟨fun w' hb => by rw [← hR]; exact stores_calls x _ _ w' (HX.out.deep hb) (Tabs.below HT.out hb) hl hs hu0 hu1 h8 hrl 5 4 (.inl rfl)⟩
  rw [hR]
  rw [hv] at HO ⊢
  clear hx hg1 hg4 hR hv hvs hT hs h8
  go_enter Tryz.func22, Tryz.ntmps22
  go_wp2_with (first | (refine wpList_store_K HK.out.now rfl 34 _ _ rfl (w.heap.size + 1) rfl rfl 34 _ BK.out (by kernel_rfl) rfl ?_; intro w2 hbk hlow hfar; have HK2 := Aside0.mk (hfar _ _ (fun h => absurd (h (by simp <;> omega)).1 (by omega)) HK.out); clear BK; have BK := Aside0.mk hbk; have HL := Aside0.mk hlow; clear hbk hlow hfar) | go_at_call 45; (with_reducible refine (HO.out _ (by repeat (first | (with_reducible first | exact HB.out | apply below_alloc | apply pw_below_drewN | apply below_drew1) | exact HB.out))).mono ?_); rintro e w1 ⟨⟨cs, rfl, hk⟩, hb⟩; have BK := Aside0.mk (blk_below (g := w.heap.size + 1) (by repeat (first | exact blk_at_new _ _ _ (by simp; done) | exact blk_at_new _ _ _ rfl | refine blk_alloc ?_ _ | refine blk_drew ?_ | refine blk_drewN ?_ _)) hb); have HBn := Aside0.mk (below_step (by repeat (first | (with_reducible first | exact HB.out | apply below_alloc | apply pw_below_drewN | apply below_drew1) | exact HB.out)) hb); clear HB; have HB := HBn; clear HBn; have HK := Aside0.mk hk; clear hb hk)
  ((try simp only [Exit.inBlock, Exit.then]); refine bodyPost_ret (results_cell_row rfl _ _ (w.heap.size + 1) 34 _ (0, 0) _ rfl BK.out Tryz.underlying34 rfl (by rw [List.size_toArray, kStep.K_len HK.out.now]; kernel_rfl)) rfl ?_)
  exact ⟨⟨_, rfl, HK2.out.mono (fun k hk h3 => (hk (by simp; omega)).2)⟩, HB.out.trans (HL.out _ (by omega))⟩
set_option maxRecDepth 100000 in
set_option maxHeartbeats 1000000 in
theorem other_append (x : TextinLine) (cx : List Value) (F : Nat → Prop) (w : World) (hx : HolF F w (fun w2 => kTextinLine.K w2 x cx)) (hT : Tabs w) (hl : x.words.length ≤ 1000000) (hs : ∀ k ∈ x.words, k.size ≤ 1000000) (hu0 : 0 ≤ x.used) (hu1 : x.used ≤ 1000000) (h8 : B8 x.rest) (hrl : x.rest.length ≤ 1000000) (hv : x.verb = (⟨#[97, 112, 112, 101, 110, 100]⟩ : ByteArray)) :
    Calls Tryz.prog 22 #[.agg cx.toArray] w (StepR F w (storesS x.verb x.quiet x.used x.words x.rest 6 4)) := by
  have HB := Aside0.mk (Below.refl w.heap.size w)
  have HX := Aside0.mk hx
  have HT := Aside0.mk hT
  have hvs : x.verb.size ≤ 1000000 := by rw [hv]; decide
  obtain ⟨A1, c1, A4, c4, rfl, hl1, hg1, hl4, hg4⟩ := kTextinLine_open hx.now
  obtain ⟨R, hR⟩ : ∃ R, storesS x.verb x.quiet x.used x.words x.rest 6 4 = R := ⟨_, rfl⟩
  have HO : Aside0 (∀ w', Below w.heap.size w w' → Calls Tryz.prog 45 #[.agg #[.string x.verb, .slice A1 x.words.length c1, .bool x.quiet, .int .i64 x.used, .slice A4 x.rest.length c4], .int .i64 6, .int .i64 4] w' (StepR (fun k => k < w.heap.size ∧ F k) w' R)) := ⟨fun w' hb => by rw [← hR]; exact stores_calls x _ _ w' (HX.out.deep hb) (Tabs.below HT.out hb) hl hs hu0 hu1 h8 hrl 6 4 (.inl rfl)⟩
  rw [hR]
  rw [hv] at HO ⊢
  clear hx hg1 hg4 hR hv hvs hT hs h8
  go_enter Tryz.func22, Tryz.ntmps22
  go_wp2_with (first | (refine wpList_store_K HK.out.now rfl 34 _ _ rfl (w.heap.size + 1) rfl rfl 34 _ BK.out (by kernel_rfl) rfl ?_; intro w2 hbk hlow hfar; have HK2 := Aside0.mk (hfar _ _ (fun h => absurd (h (by simp <;> omega)).1 (by omega)) HK.out); clear BK; have BK := Aside0.mk hbk; have HL := Aside0.mk hlow; clear hbk hlow hfar) | go_at_call 45; (with_reducible refine (HO.out _ (by repeat (first | (with_reducible first | exact HB.out | apply below_alloc | apply pw_below_drewN | apply below_drew1) | exact HB.out))).mono ?_); rintro e w1 ⟨⟨cs, rfl, hk⟩, hb⟩; have BK := Aside0.mk (blk_below (g := w.heap.size + 1) (by repeat (first | exact blk_at_new _ _ _ (by simp; done) | exact blk_at_new _ _ _ rfl | refine blk_alloc ?_ _ | refine blk_drew ?_ | refine blk_drewN ?_ _)) hb); have HBn := Aside0.mk (below_step (by repeat (first | (with_reducible first | exact HB.out | apply below_alloc | apply pw_below_drewN | apply below_drew1) | exact HB.out)) hb); clear HB; have HB := HBn; clear HBn; have HK := Aside0.mk hk; clear hb hk)
  ((try simp only [Exit.inBlock, Exit.then]); refine bodyPost_ret (results_cell_row rfl _ _ (w.heap.size + 1) 34 _ (0, 0) _ rfl BK.out Tryz.underlying34 rfl (by rw [List.size_toArray, kStep.K_len HK.out.now]; kernel_rfl)) rfl ?_)
  exact ⟨⟨_, rfl, HK2.out.mono (fun k hk h3 => (hk (by simp; omega)).2)⟩, HB.out.trans (HL.out _ (by omega))⟩
set_option maxRecDepth 100000 in
set_option maxHeartbeats 1000000 in
theorem other_prepend (x : TextinLine) (cx : List Value) (F : Nat → Prop) (w : World) (hx : HolF F w (fun w2 => kTextinLine.K w2 x cx)) (hT : Tabs w) (hl : x.words.length ≤ 1000000) (hs : ∀ k ∈ x.words, k.size ≤ 1000000) (hu0 : 0 ≤ x.used) (hu1 : x.used ≤ 1000000) (h8 : B8 x.rest) (hrl : x.rest.length ≤ 1000000) (hv : x.verb = (⟨#[112, 114, 101, 112, 101, 110, 100]⟩ : ByteArray)) :
    Calls Tryz.prog 22 #[.agg cx.toArray] w (StepR F w (storesS x.verb x.quiet x.used x.words x.rest 7 4)) := by
  have HB := Aside0.mk (Below.refl w.heap.size w)
  have HX := Aside0.mk hx
  have HT := Aside0.mk hT
  have hvs : x.verb.size ≤ 1000000 := by rw [hv]; decide
  obtain ⟨A1, c1, A4, c4, rfl, hl1, hg1, hl4, hg4⟩ := kTextinLine_open hx.now
  obtain ⟨R, hR⟩ : ∃ R, storesS x.verb x.quiet x.used x.words x.rest 7 4 = R := ⟨_, rfl⟩
  have HO : Aside0 (∀ w', Below w.heap.size w w' → Calls Tryz.prog 45 #[.agg #[.string x.verb, .slice A1 x.words.length c1, .bool x.quiet, .int .i64 x.used, .slice A4 x.rest.length c4], .int .i64 7, .int .i64 4] w' (StepR (fun k => k < w.heap.size ∧ F k) w' R)) := ⟨fun w' hb => by rw [← hR]; exact stores_calls x _ _ w' (HX.out.deep hb) (Tabs.below HT.out hb) hl hs hu0 hu1 h8 hrl 7 4 (.inl rfl)⟩
  rw [hR]
  rw [hv] at HO ⊢
  clear hx hg1 hg4 hR hv hvs hT hs h8
  go_enter Tryz.func22, Tryz.ntmps22
  go_wp2_with (first | (refine wpList_store_K HK.out.now rfl 34 _ _ rfl (w.heap.size + 1) rfl rfl 34 _ BK.out (by kernel_rfl) rfl ?_; intro w2 hbk hlow hfar; have HK2 := Aside0.mk (hfar _ _ (fun h => absurd (h (by simp <;> omega)).1 (by omega)) HK.out); clear BK; have BK := Aside0.mk hbk; have HL := Aside0.mk hlow; clear hbk hlow hfar) | go_at_call 45; (with_reducible refine (HO.out _ (by repeat (first | (with_reducible first | exact HB.out | apply below_alloc | apply pw_below_drewN | apply below_drew1) | exact HB.out))).mono ?_); rintro e w1 ⟨⟨cs, rfl, hk⟩, hb⟩; have BK := Aside0.mk (blk_below (g := w.heap.size + 1) (by repeat (first | exact blk_at_new _ _ _ (by simp; done) | exact blk_at_new _ _ _ rfl | refine blk_alloc ?_ _ | refine blk_drew ?_ | refine blk_drewN ?_ _)) hb); have HBn := Aside0.mk (below_step (by repeat (first | (with_reducible first | exact HB.out | apply below_alloc | apply pw_below_drewN | apply below_drew1) | exact HB.out)) hb); clear HB; have HB := HBn; clear HBn; have HK := Aside0.mk hk; clear hb hk)
  ((try simp only [Exit.inBlock, Exit.then]); refine bodyPost_ret (results_cell_row rfl _ _ (w.heap.size + 1) 34 _ (0, 0) _ rfl BK.out Tryz.underlying34 rfl (by rw [List.size_toArray, kStep.K_len HK.out.now]; kernel_rfl)) rfl ?_)
  exact ⟨⟨_, rfl, HK2.out.mono (fun k hk h3 => (hk (by simp; omega)).2)⟩, HB.out.trans (HL.out _ (by omega))⟩
set_option maxRecDepth 100000 in
set_option maxHeartbeats 1000000 in
theorem other_cas (x : TextinLine) (cx : List Value) (F : Nat → Prop) (w : World) (hx : HolF F w (fun w2 => kTextinLine.K w2 x cx)) (hT : Tabs w) (hl : x.words.length ≤ 1000000) (hs : ∀ k ∈ x.words, k.size ≤ 1000000) (hu0 : 0 ≤ x.used) (hu1 : x.used ≤ 1000000) (h8 : B8 x.rest) (hrl : x.rest.length ≤ 1000000) (hv : x.verb = (⟨#[99, 97, 115]⟩ : ByteArray)) :
    Calls Tryz.prog 22 #[.agg cx.toArray] w (StepR F w (storesS x.verb x.quiet x.used x.words x.rest 3 5)) := by
  have HB := Aside0.mk (Below.refl w.heap.size w)
  have HX := Aside0.mk hx
  have HT := Aside0.mk hT
  have hvs : x.verb.size ≤ 1000000 := by rw [hv]; decide
  obtain ⟨A1, c1, A4, c4, rfl, hl1, hg1, hl4, hg4⟩ := kTextinLine_open hx.now
  obtain ⟨R, hR⟩ : ∃ R, storesS x.verb x.quiet x.used x.words x.rest 3 5 = R := ⟨_, rfl⟩
  have HO : Aside0 (∀ w', Below w.heap.size w w' → Calls Tryz.prog 45 #[.agg #[.string x.verb, .slice A1 x.words.length c1, .bool x.quiet, .int .i64 x.used, .slice A4 x.rest.length c4], .int .i64 3, .int .i64 5] w' (StepR (fun k => k < w.heap.size ∧ F k) w' R)) := ⟨fun w' hb => by rw [← hR]; exact stores_calls x _ _ w' (HX.out.deep hb) (Tabs.below HT.out hb) hl hs hu0 hu1 h8 hrl 3 5 (.inr rfl)⟩
  rw [hR]
  rw [hv] at HO ⊢
  clear hx hg1 hg4 hR hv hvs hT hs h8
  go_enter Tryz.func22, Tryz.ntmps22
  go_wp2_with (first | (refine wpList_store_K HK.out.now rfl 34 _ _ rfl (w.heap.size + 1) rfl rfl 34 _ BK.out (by kernel_rfl) rfl ?_; intro w2 hbk hlow hfar; have HK2 := Aside0.mk (hfar _ _ (fun h => absurd (h (by simp <;> omega)).1 (by omega)) HK.out); clear BK; have BK := Aside0.mk hbk; have HL := Aside0.mk hlow; clear hbk hlow hfar) | go_at_call 45; (with_reducible refine (HO.out _ (by repeat (first | (with_reducible first | exact HB.out | apply below_alloc | apply pw_below_drewN | apply below_drew1) | exact HB.out))).mono ?_); rintro e w1 ⟨⟨cs, rfl, hk⟩, hb⟩; have BK := Aside0.mk (blk_below (g := w.heap.size + 1) (by repeat (first | exact blk_at_new _ _ _ (by simp; done) | exact blk_at_new _ _ _ rfl | refine blk_alloc ?_ _ | refine blk_drew ?_ | refine blk_drewN ?_ _)) hb); have HBn := Aside0.mk (below_step (by repeat (first | (with_reducible first | exact HB.out | apply below_alloc | apply pw_below_drewN | apply below_drew1) | exact HB.out)) hb); clear HB; have HB := HBn; clear HBn; have HK := Aside0.mk hk; clear hb hk)
  ((try simp only [Exit.inBlock, Exit.then]); refine bodyPost_ret (results_cell_row rfl _ _ (w.heap.size + 1) 34 _ (0, 0) _ rfl BK.out Tryz.underlying34 rfl (by rw [List.size_toArray, kStep.K_len HK.out.now]; kernel_rfl)) rfl ?_)
  exact ⟨⟨_, rfl, HK2.out.mono (fun k hk h3 => (hk (by simp; omega)).2)⟩, HB.out.trans (HL.out _ (by omega))⟩
set_option maxRecDepth 100000 in
set_option maxHeartbeats 1000000 in
theorem other_delete (x : TextinLine) (cx : List Value) (F : Nat → Prop) (w : World) (hx : HolF F w (fun w2 => kTextinLine.K w2 x cx)) (hT : Tabs w) (hl : x.words.length ≤ 1000000) (hs : ∀ k ∈ x.words, k.size ≤ 1000000) (hu0 : 0 ≤ x.used) (hu1 : x.used ≤ 1000000) (h8 : B8 x.rest) (hrl : x.rest.length ≤ 1000000) (hv : x.verb = (⟨#[100, 101, 108, 101, 116, 101]⟩ : ByteArray)) :
    Calls Tryz.prog 22 #[.agg cx.toArray] w (StepR F w (delS x.verb x.quiet x.used x.words)) := by
  have HB := Aside0.mk (Below.refl w.heap.size w)
  have HX := Aside0.mk hx
  have HT := Aside0.mk hT
  have hvs : x.verb.size ≤ 1000000 := by rw [hv]; decide
  obtain ⟨A1, c1, A4, c4, rfl, hl1, hg1, hl4, hg4⟩ := kTextinLine_open hx.now
  obtain ⟨R, hR⟩ : ∃ R, delS x.verb x.quiet x.used x.words = R := ⟨_, rfl⟩
  have HO : Aside0 (∀ w', Below w.heap.size w w' → Calls Tryz.prog 46 #[.agg #[.string x.verb, .slice A1 x.words.length c1, .bool x.quiet, .int .i64 x.used, .slice A4 x.rest.length c4], .int .i64 1, .func (.func 47) #[] #[]] w' (StepR (fun k => k < w.heap.size ∧ F k) w' R)) := ⟨fun w' hb => by rw [← hR]; exact keyedDU x _ _ w' (kTextinLine.K_below hb HX.out.now) hs⟩
  rw [hR]
  rw [hv] at HO ⊢
  clear hx hg1 hg4 hR hv hvs hT hs h8
  go_enter Tryz.func22, Tryz.ntmps22
  go_wp2_with (first | (refine wpList_store_K HK.out.now rfl 34 _ _ rfl (w.heap.size + 1) rfl rfl 34 _ BK.out (by kernel_rfl) rfl ?_; intro w2 hbk hlow hfar; have HK2 := Aside0.mk (hfar _ _ (fun h => absurd (h (by simp <;> omega)).1 (by omega)) HK.out); clear BK; have BK := Aside0.mk hbk; have HL := Aside0.mk hlow; clear hbk hlow hfar) | go_at_call 46; (with_reducible refine (HO.out _ (by repeat (first | (with_reducible first | exact HB.out | apply below_alloc | apply pw_below_drewN | apply below_drew1) | exact HB.out))).mono ?_); rintro e w1 ⟨⟨cs, rfl, hk⟩, hb⟩; have BK := Aside0.mk (blk_below (g := w.heap.size + 1) (by repeat (first | exact blk_at_new _ _ _ (by simp; done) | exact blk_at_new _ _ _ rfl | refine blk_alloc ?_ _ | refine blk_drew ?_ | refine blk_drewN ?_ _)) hb); have HBn := Aside0.mk (below_step (by repeat (first | (with_reducible first | exact HB.out | apply below_alloc | apply pw_below_drewN | apply below_drew1) | exact HB.out)) hb); clear HB; have HB := HBn; clear HBn; have HK := Aside0.mk hk; clear hb hk)
  ((try simp only [Exit.inBlock, Exit.then]); refine bodyPost_ret (results_cell_row rfl _ _ (w.heap.size + 1) 34 _ (0, 0) _ rfl BK.out Tryz.underlying34 rfl (by rw [List.size_toArray, kStep.K_len HK.out.now]; kernel_rfl)) rfl ?_)
  exact ⟨⟨_, rfl, HK2.out.mono (fun k hk h3 => (hk (by simp; omega)).2)⟩, HB.out.trans (HL.out _ (by omega))⟩
set_option maxRecDepth 100000 in
set_option maxHeartbeats 1000000 in
theorem other_incr (x : TextinLine) (cx : List Value) (F : Nat → Prop) (w : World) (hx : HolF F w (fun w2 => kTextinLine.K w2 x cx)) (hT : Tabs w) (hl : x.words.length ≤ 1000000) (hs : ∀ k ∈ x.words, k.size ≤ 1000000) (hu0 : 0 ≤ x.used) (hu1 : x.used ≤ 1000000) (h8 : B8 x.rest) (hrl : x.rest.length ≤ 1000000) (hv : x.verb = (⟨#[105, 110, 99, 114]⟩ : ByteArray)) :
    Calls Tryz.prog 22 #[.agg cx.toArray] w (StepR F w (sumS x.verb x.quiet x.used x.words 10)) := by
  have HB := Aside0.mk (Below.refl w.heap.size w)
  have HX := Aside0.mk hx
  have HT := Aside0.mk hT
  have hvs : x.verb.size ≤ 1000000 := by rw [hv]; decide
  obtain ⟨A1, c1, A4, c4, rfl, hl1, hg1, hl4, hg4⟩ := kTextinLine_open hx.now
  obtain ⟨R, hR⟩ : ∃ R, sumS x.verb x.quiet x.used x.words 10 = R := ⟨_, rfl⟩
  have HO : Aside0 (∀ w', Below w.heap.size w w' → Calls Tryz.prog 48 #[.agg #[.string x.verb, .slice A1 x.words.length c1, .bool x.quiet, .int .i64 x.used, .slice A4 x.rest.length c4], .int .i64 10] w' (StepR (fun k => k < w.heap.size ∧ F k) w' R)) := ⟨fun w' hb => by rw [← hR]; exact sum_calls x _ 10 _ w' (kTextinLine.K_below hb HX.out.now) (Tabs.below HT.out hb) hs⟩
  rw [hR]
  rw [hv] at HO ⊢
  clear hx hg1 hg4 hR hv hvs hT hs h8
  go_enter Tryz.func22, Tryz.ntmps22
  go_wp2_with (first | (refine wpList_store_K HK.out.now rfl 34 _ _ rfl (w.heap.size + 1) rfl rfl 34 _ BK.out (by kernel_rfl) rfl ?_; intro w2 hbk hlow hfar; have HK2 := Aside0.mk (hfar _ _ (fun h => absurd (h (by simp <;> omega)).1 (by omega)) HK.out); clear BK; have BK := Aside0.mk hbk; have HL := Aside0.mk hlow; clear hbk hlow hfar) | go_at_call 48; (with_reducible refine (HO.out _ (by repeat (first | (with_reducible first | exact HB.out | apply below_alloc | apply pw_below_drewN | apply below_drew1) | exact HB.out))).mono ?_); rintro e w1 ⟨⟨cs, rfl, hk⟩, hb⟩; have BK := Aside0.mk (blk_below (g := w.heap.size + 1) (by repeat (first | exact blk_at_new _ _ _ (by simp; done) | exact blk_at_new _ _ _ rfl | refine blk_alloc ?_ _ | refine blk_drew ?_ | refine blk_drewN ?_ _)) hb); have HBn := Aside0.mk (below_step (by repeat (first | (with_reducible first | exact HB.out | apply below_alloc | apply pw_below_drewN | apply below_drew1) | exact HB.out)) hb); clear HB; have HB := HBn; clear HBn; have HK := Aside0.mk hk; clear hb hk)
  ((try simp only [Exit.inBlock, Exit.then]); refine bodyPost_ret (results_cell_row rfl _ _ (w.heap.size + 1) 34 _ (0, 0) _ rfl BK.out Tryz.underlying34 rfl (by rw [List.size_toArray, kStep.K_len HK.out.now]; kernel_rfl)) rfl ?_)
  exact ⟨⟨_, rfl, HK2.out.mono (fun k hk h3 => (hk (by simp; omega)).2)⟩, HB.out.trans (HL.out _ (by omega))⟩
set_option maxRecDepth 100000 in
set_option maxHeartbeats 1000000 in
theorem other_decr (x : TextinLine) (cx : List Value) (F : Nat → Prop) (w : World) (hx : HolF F w (fun w2 => kTextinLine.K w2 x cx)) (hT : Tabs w) (hl : x.words.length ≤ 1000000) (hs : ∀ k ∈ x.words, k.size ≤ 1000000) (hu0 : 0 ≤ x.used) (hu1 : x.used ≤ 1000000) (h8 : B8 x.rest) (hrl : x.rest.length ≤ 1000000) (hv : x.verb = (⟨#[100, 101, 99, 114]⟩ : ByteArray)) :
    Calls Tryz.prog 22 #[.agg cx.toArray] w (StepR F w (sumS x.verb x.quiet x.used x.words 11)) := by
  have HB := Aside0.mk (Below.refl w.heap.size w)
  have HX := Aside0.mk hx
  have HT := Aside0.mk hT
  have hvs : x.verb.size ≤ 1000000 := by rw [hv]; decide
  obtain ⟨A1, c1, A4, c4, rfl, hl1, hg1, hl4, hg4⟩ := kTextinLine_open hx.now
  obtain ⟨R, hR⟩ : ∃ R, sumS x.verb x.quiet x.used x.words 11 = R := ⟨_, rfl⟩
  have HO : Aside0 (∀ w', Below w.heap.size w w' → Calls Tryz.prog 48 #[.agg #[.string x.verb, .slice A1 x.words.length c1, .bool x.quiet, .int .i64 x.used, .slice A4 x.rest.length c4], .int .i64 11] w' (StepR (fun k => k < w.heap.size ∧ F k) w' R)) := ⟨fun w' hb => by rw [← hR]; exact sum_calls x _ 11 _ w' (kTextinLine.K_below hb HX.out.now) (Tabs.below HT.out hb) hs⟩
  rw [hR]
  rw [hv] at HO ⊢
  clear hx hg1 hg4 hR hv hvs hT hs h8
  go_enter Tryz.func22, Tryz.ntmps22
  go_wp2_with (first | (refine wpList_store_K HK.out.now rfl 34 _ _ rfl (w.heap.size + 1) rfl rfl 34 _ BK.out (by kernel_rfl) rfl ?_; intro w2 hbk hlow hfar; have HK2 := Aside0.mk (hfar _ _ (fun h => absurd (h (by simp <;> omega)).1 (by omega)) HK.out); clear BK; have BK := Aside0.mk hbk; have HL := Aside0.mk hlow; clear hbk hlow hfar) | go_at_call 48; (with_reducible refine (HO.out _ (by repeat (first | (with_reducible first | exact HB.out | apply below_alloc | apply pw_below_drewN | apply below_drew1) | exact HB.out))).mono ?_); rintro e w1 ⟨⟨cs, rfl, hk⟩, hb⟩; have BK := Aside0.mk (blk_below (g := w.heap.size + 1) (by repeat (first | exact blk_at_new _ _ _ (by simp; done) | exact blk_at_new _ _ _ rfl | refine blk_alloc ?_ _ | refine blk_drew ?_ | refine blk_drewN ?_ _)) hb); have HBn := Aside0.mk (below_step (by repeat (first | (with_reducible first | exact HB.out | apply below_alloc | apply pw_below_drewN | apply below_drew1) | exact HB.out)) hb); clear HB; have HB := HBn; clear HBn; have HK := Aside0.mk hk; clear hb hk)
  ((try simp only [Exit.inBlock, Exit.then]); refine bodyPost_ret (results_cell_row rfl _ _ (w.heap.size + 1) 34 _ (0, 0) _ rfl BK.out Tryz.underlying34 rfl (by rw [List.size_toArray, kStep.K_len HK.out.now]; kernel_rfl)) rfl ?_)
  exact ⟨⟨_, rfl, HK2.out.mono (fun k hk h3 => (hk (by simp; omega)).2)⟩, HB.out.trans (HL.out _ (by omega))⟩
set_option maxRecDepth 100000 in
set_option maxHeartbeats 1000000 in
theorem other_touch (x : TextinLine) (cx : List Value) (F : Nat → Prop) (w : World) (hx : HolF F w (fun w2 => kTextinLine.K w2 x cx)) (hT : Tabs w) (hl : x.words.length ≤ 1000000) (hs : ∀ k ∈ x.words, k.size ≤ 1000000) (hu0 : 0 ≤ x.used) (hu1 : x.used ≤ 1000000) (h8 : B8 x.rest) (hrl : x.rest.length ≤ 1000000) (hv : x.verb = (⟨#[116, 111, 117, 99, 104]⟩ : ByteArray)) :
    Calls Tryz.prog 22 #[.agg cx.toArray] w (StepR F w (touchS x.verb x.quiet x.used x.words)) := by
  have HB := Aside0.mk (Below.refl w.heap.size w)
  have HX := Aside0.mk hx
  have HT := Aside0.mk hT
  have hvs : x.verb.size ≤ 1000000 := by rw [hv]; decide
  obtain ⟨A1, c1, A4, c4, rfl, hl1, hg1, hl4, hg4⟩ := kTextinLine_open hx.now
  obtain ⟨R, hR⟩ : ∃ R, touchS x.verb x.quiet x.used x.words = R := ⟨_, rfl⟩
  have HO : Aside0 (∀ w', Below w.heap.size w w' → Calls Tryz.prog 46 #[.agg #[.string x.verb, .slice A1 x.words.length c1, .bool x.quiet, .int .i64 x.used, .slice A4 x.rest.length c4], .int .i64 2, .func (.func 49) #[.agg #[.string x.verb, .slice A1 x.words.length c1, .bool x.quiet, .int .i64 x.used, .slice A4 x.rest.length c4]] #[]] w' (StepR (fun k => k < w.heap.size ∧ F k) w' R)) := ⟨fun w' hb => by rw [← hR]; exact keyedTU x _ _ w' (kTextinLine.K_below hb HX.out.now) (Tabs.below HT.out hb) hs⟩
  rw [hR]
  rw [hv] at HO ⊢
  clear hx hg1 hg4 hR hv hvs hT hs h8
  go_enter Tryz.func22, Tryz.ntmps22
  go_wp2_with (first | (refine wpList_store_K HK.out.now rfl 34 _ _ rfl (w.heap.size + 1) rfl rfl 34 _ BK.out (by kernel_rfl) rfl ?_; intro w2 hbk hlow hfar; have HK2 := Aside0.mk (hfar _ _ (fun h => absurd (h (by simp <;> omega)).1 (by omega)) HK.out); clear BK; have BK := Aside0.mk hbk; have HL := Aside0.mk hlow; clear hbk hlow hfar) | go_at_call 46; (with_reducible refine (HO.out _ (by repeat (first | (with_reducible first | exact HB.out | apply below_alloc | apply pw_below_drewN | apply below_drew1) | exact HB.out))).mono ?_); rintro e w1 ⟨⟨cs, rfl, hk⟩, hb⟩; have BK := Aside0.mk (blk_below (g := w.heap.size + 1) (by repeat (first | exact blk_at_new _ _ _ (by simp; done) | exact blk_at_new _ _ _ rfl | refine blk_alloc ?_ _ | refine blk_drew ?_ | refine blk_drewN ?_ _)) hb); have HBn := Aside0.mk (below_step (by repeat (first | (with_reducible first | exact HB.out | apply below_alloc | apply pw_below_drewN | apply below_drew1) | exact HB.out)) hb); clear HB; have HB := HBn; clear HBn; have HK := Aside0.mk hk; clear hb hk)
  ((try simp only [Exit.inBlock, Exit.then]); refine bodyPost_ret (results_cell_row rfl _ _ (w.heap.size + 1) 34 _ (0, 0) _ rfl BK.out Tryz.underlying34 rfl (by rw [List.size_toArray, kStep.K_len HK.out.now]; kernel_rfl)) rfl ?_)
  exact ⟨⟨_, rfl, HK2.out.mono (fun k hk h3 => (hk (by simp; omega)).2)⟩, HB.out.trans (HL.out _ (by omega))⟩
set_option maxRecDepth 100000 in
set_option maxHeartbeats 1000000 in
theorem other_flush (x : TextinLine) (cx : List Value) (F : Nat → Prop) (w : World) (hx : HolF F w (fun w2 => kTextinLine.K w2 x cx)) (hT : Tabs w) (hl : x.words.length ≤ 1000000) (hs : ∀ k ∈ x.words, k.size ≤ 1000000) (hu0 : 0 ≤ x.used) (hu1 : x.used ≤ 1000000) (h8 : B8 x.rest) (hrl : x.rest.length ≤ 1000000) (hv : x.verb = (⟨#[102, 108, 117, 115, 104, 95, 97, 108, 108]⟩ : ByteArray)) :
    Calls Tryz.prog 22 #[.agg cx.toArray] w (StepR F w (flushS x.verb x.quiet x.words x.used)) := by
  have HB := Aside0.mk (Below.refl w.heap.size w)
  have HX := Aside0.mk hx
  have HT := Aside0.mk hT
  have hvs : x.verb.size ≤ 1000000 := by rw [hv]; decide
  obtain ⟨A1, c1, A4, c4, rfl, hl1, hg1, hl4, hg4⟩ := kTextinLine_open hx.now
  obtain ⟨R, hR⟩ : ∃ R, flushS x.verb x.quiet x.words x.used = R := ⟨_, rfl⟩
  have HO : Aside0 (∀ w', Below w.heap.size w w' → Calls Tryz.prog 50 #[.agg #[.string x.verb, .slice A1 x.words.length c1, .bool x.quiet, .int .i64 x.used, .slice A4 x.rest.length c4]] w' (StepR (fun k => k < w.heap.size ∧ F k) w' R)) := ⟨fun w' hb => by rw [← hR]; exact flush_calls x _ _ w' (kTextinLine.K_below hb HX.out.now) (Tabs.below HT.out hb)⟩
  rw [hR]
  rw [hv] at HO ⊢
  clear hx hg1 hg4 hR hv hvs hT hs h8
  go_enter Tryz.func22, Tryz.ntmps22
  go_wp2_with (first | (refine wpList_store_K HK.out.now rfl 34 _ _ rfl (w.heap.size + 1) rfl rfl 34 _ BK.out (by kernel_rfl) rfl ?_; intro w2 hbk hlow hfar; have HK2 := Aside0.mk (hfar _ _ (fun h => absurd (h (by simp <;> omega)).1 (by omega)) HK.out); clear BK; have BK := Aside0.mk hbk; have HL := Aside0.mk hlow; clear hbk hlow hfar) | go_at_call 50; (with_reducible refine (HO.out _ (by repeat (first | (with_reducible first | exact HB.out | apply below_alloc | apply pw_below_drewN | apply below_drew1) | exact HB.out))).mono ?_); rintro e w1 ⟨⟨cs, rfl, hk⟩, hb⟩; have BK := Aside0.mk (blk_below (g := w.heap.size + 1) (by repeat (first | exact blk_at_new _ _ _ (by simp; done) | exact blk_at_new _ _ _ rfl | refine blk_alloc ?_ _ | refine blk_drew ?_ | refine blk_drewN ?_ _)) hb); have HBn := Aside0.mk (below_step (by repeat (first | (with_reducible first | exact HB.out | apply below_alloc | apply pw_below_drewN | apply below_drew1) | exact HB.out)) hb); clear HB; have HB := HBn; clear HBn; have HK := Aside0.mk hk; clear hb hk)
  ((try simp only [Exit.inBlock, Exit.then]); refine bodyPost_ret (results_cell_row rfl _ _ (w.heap.size + 1) 34 _ (0, 0) _ rfl BK.out Tryz.underlying34 rfl (by rw [List.size_toArray, kStep.K_len HK.out.now]; kernel_rfl)) rfl ?_)
  exact ⟨⟨_, rfl, HK2.out.mono (fun k hk h3 => (hk (by simp; omega)).2)⟩, HB.out.trans (HL.out _ (by omega))⟩
set_option maxRecDepth 100000 in
set_option maxHeartbeats 1000000 in
theorem other_no (x : TextinLine) (cx : List Value) (F : Nat → Prop) (w : World) (hx : HolF F w (fun w2 => kTextinLine.K w2 x cx)) (hT : Tabs w) (hl : x.words.length ≤ 1000000) (hs : ∀ k ∈ x.words, k.size ≤ 1000000) (hu0 : 0 ≤ x.used) (hu1 : x.used ≤ 1000000) (h8 : B8 x.rest) (hrl : x.rest.length ≤ 1000000) (hv : x.verb ≠ (⟨#[115, 101, 116]⟩ : ByteArray) ∧ x.verb ≠ (⟨#[97, 100, 100]⟩ : ByteArray) ∧ x.verb ≠ (⟨#[114, 101, 112, 108, 97, 99, 101]⟩ : ByteArray) ∧ x.verb ≠ (⟨#[97, 112, 112, 101, 110, 100]⟩ : ByteArray) ∧ x.verb ≠ (⟨#[112, 114, 101, 112, 101, 110, 100]⟩ : ByteArray) ∧ x.verb ≠ (⟨#[99, 97, 115]⟩ : ByteArray) ∧ x.verb ≠ (⟨#[100, 101, 108, 101, 116, 101]⟩ : ByteArray) ∧ x.verb ≠ (⟨#[105, 110, 99, 114]⟩ : ByteArray) ∧ x.verb ≠ (⟨#[100, 101, 99, 114]⟩ : ByteArray) ∧ x.verb ≠ (⟨#[116, 111, 117, 99, 104]⟩ : ByteArray) ∧ x.verb ≠ (⟨#[102, 108, 117, 115, 104, 95, 97, 108, 108]⟩ : ByteArray)) :
    Calls Tryz.prog 22 #[.agg cx.toArray] w (StepR F w (stepF x.used (⟨#[69, 82, 82, 79, 82]⟩ : ByteArray))) := by
  have HB := Aside0.mk (Below.refl w.heap.size w)
  have HX := Aside0.mk hx.now
  obtain ⟨A1, c1, A4, c4, rfl, hl1, hg1, hl4, hg4⟩ := kTextinLine_open hx.now
  have HO : Aside0 (∀ w', Below w.heap.size w w' → Calls Tryz.prog 18 #[.agg #[.string x.verb, .slice A1 x.words.length c1, .bool x.quiet, .int .i64 x.used, .slice A4 x.rest.length c4], .string (⟨#[69, 82, 82, 79, 82]⟩ : ByteArray)] w' (StepR (fun k => k < w.heap.size ∧ F k) w' (stepF x.used (⟨#[69, 82, 82, 79, 82]⟩ : ByteArray)))) := ⟨fun w' hb => fault_calls x _ _ _ w' (kTextinLine.K_below hb HX.out) (by decide)⟩
  obtain ⟨n0, n1, n2, n3, n4, n5, n6, n7, n8, n9, n10⟩ := hv
  have b0 : (x.verb.toList == ([115, 101, 116] : List UInt8)) = false := lit_ne n0
  have b1 : (x.verb.toList == ([97, 100, 100] : List UInt8)) = false := lit_ne n1
  have b2 : (x.verb.toList == ([114, 101, 112, 108, 97, 99, 101] : List UInt8)) = false := lit_ne n2
  have b3 : (x.verb.toList == ([97, 112, 112, 101, 110, 100] : List UInt8)) = false := lit_ne n3
  have b4 : (x.verb.toList == ([112, 114, 101, 112, 101, 110, 100] : List UInt8)) = false := lit_ne n4
  have b5 : (x.verb.toList == ([99, 97, 115] : List UInt8)) = false := lit_ne n5
  have b6 : (x.verb.toList == ([100, 101, 108, 101, 116, 101] : List UInt8)) = false := lit_ne n6
  have b7 : (x.verb.toList == ([105, 110, 99, 114] : List UInt8)) = false := lit_ne n7
  have b8 : (x.verb.toList == ([100, 101, 99, 114] : List UInt8)) = false := lit_ne n8
  have b9 : (x.verb.toList == ([116, 111, 117, 99, 104] : List UInt8)) = false := lit_ne n9
  have b10 : (x.verb.toList == ([102, 108, 117, 115, 104, 95, 97, 108, 108] : List UInt8)) = false := lit_ne n10
  clear hx hg1 hg4 n0 n1 n2 n3 n4 n5 n6 n7 n8 n9 n10
  go_enter Tryz.func22, Tryz.ntmps22
  go_wp2_with (first | (refine wpList_store_K HK.out.now rfl 34 _ _ rfl (w.heap.size + 1) rfl rfl 34 _ BK.out (by kernel_rfl) rfl ?_; intro w2 hbk hlow hfar; have HK2 := Aside0.mk (hfar _ _ (fun h => absurd (h (by simp <;> omega)).1 (by omega)) HK.out); clear BK; have BK := Aside0.mk hbk; have HL := Aside0.mk hlow; clear hbk hlow hfar) | go_at_call 18; (with_reducible refine (HO.out _ (by repeat (first | (with_reducible first | exact HB.out | apply below_alloc | apply pw_below_drewN | apply below_drew1) | exact HB.out))).mono ?_); rintro e w1 ⟨⟨cs, rfl, hk⟩, hb⟩; have BK := Aside0.mk (blk_below (g := w.heap.size + 1) (by repeat (first | exact blk_at_new _ _ _ (by simp; done) | exact blk_at_new _ _ _ rfl | refine blk_alloc ?_ _ | refine blk_drew ?_ | refine blk_drewN ?_ _)) hb); have HBn := Aside0.mk (below_step (by repeat (first | (with_reducible first | exact HB.out | apply below_alloc | apply pw_below_drewN | apply below_drew1) | exact HB.out)) hb); clear HB; have HB := HBn; clear HBn; have HK := Aside0.mk hk; clear hb hk)
  ((try simp only [Exit.inBlock, Exit.then]); refine bodyPost_ret (results_cell_row rfl _ _ (w.heap.size + 1) 34 _ (0, 0) _ rfl BK.out Tryz.underlying34 rfl (by rw [List.size_toArray, kStep.K_len HK.out.now]; kernel_rfl)) rfl ?_)
  exact ⟨⟨_, rfl, HK2.out.mono (fun k hk h3 => (hk (by simp; omega)).2)⟩, HB.out.trans (HL.out _ (by omega))⟩
def otherS (verb : ByteArray) (quiet : Bool) (used : Int) (words : List ByteArray) (rest : List Int) : Step :=
  if verb = (⟨#[115, 101, 116]⟩ : ByteArray) then storesS verb quiet used words rest 3 4 else if verb = (⟨#[97, 100, 100]⟩ : ByteArray) then storesS verb quiet used words rest 4 4 else if verb = (⟨#[114, 101, 112, 108, 97, 99, 101]⟩ : ByteArray) then storesS verb quiet used words rest 5 4 else if verb = (⟨#[97, 112, 112, 101, 110, 100]⟩ : ByteArray) then storesS verb quiet used words rest 6 4 else if verb = (⟨#[112, 114, 101, 112, 101, 110, 100]⟩ : ByteArray) then storesS verb quiet used words rest 7 4 else if verb = (⟨#[99, 97, 115]⟩ : ByteArray) then storesS verb quiet used words rest 3 5 else if verb = (⟨#[100, 101, 108, 101, 116, 101]⟩ : ByteArray) then delS verb quiet used words else if verb = (⟨#[105, 110, 99, 114]⟩ : ByteArray) then sumS verb quiet used words 10 else if verb = (⟨#[100, 101, 99, 114]⟩ : ByteArray) then sumS verb quiet used words 11 else if verb = (⟨#[116, 111, 117, 99, 104]⟩ : ByteArray) then touchS verb quiet used words else if verb = (⟨#[102, 108, 117, 115, 104, 95, 97, 108, 108]⟩ : ByteArray) then flushS verb quiet words used else stepF used (⟨#[69, 82, 82, 79, 82]⟩ : ByteArray)
theorem other_calls (x : TextinLine) (cx : List Value) (F : Nat → Prop) (w : World) (hx : HolF F w (fun w2 => kTextinLine.K w2 x cx)) (hT : Tabs w) (hl : x.words.length ≤ 1000000) (hs : ∀ k ∈ x.words, k.size ≤ 1000000) (hu0 : 0 ≤ x.used) (hu1 : x.used ≤ 1000000) (h8 : B8 x.rest) (hrl : x.rest.length ≤ 1000000) :
    Calls Tryz.prog 22 #[.agg cx.toArray] w (StepR F w (otherS x.verb x.quiet x.used x.words x.rest)) := by
  unfold otherS
  by_cases q0 : x.verb = (⟨#[115, 101, 116]⟩ : ByteArray)
  · rw [if_pos q0]
    exact other_set x cx F w hx hT hl hs hu0 hu1 h8 hrl q0
  rw [if_neg q0]
  by_cases q1 : x.verb = (⟨#[97, 100, 100]⟩ : ByteArray)
  · rw [if_pos q1]
    exact other_add x cx F w hx hT hl hs hu0 hu1 h8 hrl q1
  rw [if_neg q1]
  by_cases q2 : x.verb = (⟨#[114, 101, 112, 108, 97, 99, 101]⟩ : ByteArray)
  · rw [if_pos q2]
    exact other_replace x cx F w hx hT hl hs hu0 hu1 h8 hrl q2
  rw [if_neg q2]
  by_cases q3 : x.verb = (⟨#[97, 112, 112, 101, 110, 100]⟩ : ByteArray)
  · rw [if_pos q3]
    exact other_append x cx F w hx hT hl hs hu0 hu1 h8 hrl q3
  rw [if_neg q3]
  by_cases q4 : x.verb = (⟨#[112, 114, 101, 112, 101, 110, 100]⟩ : ByteArray)
  · rw [if_pos q4]
    exact other_prepend x cx F w hx hT hl hs hu0 hu1 h8 hrl q4
  rw [if_neg q4]
  by_cases q5 : x.verb = (⟨#[99, 97, 115]⟩ : ByteArray)
  · rw [if_pos q5]
    exact other_cas x cx F w hx hT hl hs hu0 hu1 h8 hrl q5
  rw [if_neg q5]
  by_cases q6 : x.verb = (⟨#[100, 101, 108, 101, 116, 101]⟩ : ByteArray)
  · rw [if_pos q6]
    exact other_delete x cx F w hx hT hl hs hu0 hu1 h8 hrl q6
  rw [if_neg q6]
  by_cases q7 : x.verb = (⟨#[105, 110, 99, 114]⟩ : ByteArray)
  · rw [if_pos q7]
    exact other_incr x cx F w hx hT hl hs hu0 hu1 h8 hrl q7
  rw [if_neg q7]
  by_cases q8 : x.verb = (⟨#[100, 101, 99, 114]⟩ : ByteArray)
  · rw [if_pos q8]
    exact other_decr x cx F w hx hT hl hs hu0 hu1 h8 hrl q8
  rw [if_neg q8]
  by_cases q9 : x.verb = (⟨#[116, 111, 117, 99, 104]⟩ : ByteArray)
  · rw [if_pos q9]
    exact other_touch x cx F w hx hT hl hs hu0 hu1 h8 hrl q9
  rw [if_neg q9]
  by_cases q10 : x.verb = (⟨#[102, 108, 117, 115, 104, 95, 97, 108, 108]⟩ : ByteArray)
  · rw [if_pos q10]
    exact other_flush x cx F w hx hT hl hs hu0 hu1 h8 hrl q10
  rw [if_neg q10]
  exact other_no x cx F w hx hT hl hs hu0 hu1 h8 hrl ⟨q0, q1, q2, q3, q4, q5, q6, q7, q8, q9, q10⟩
end Go.Proofs.YtfljijpkeckeaaaGreatDoor.X
namespace Go.Proofs.YtfljijpkeckeaaaGreatDoor.X
open Go.RowKit Go.Proofs.YtfljijpkeckeaaaGreatDoorW.PrintWords Go.Proofs.YtfljijpkeckeaaaGreatDoorW.PrintMore
set_option linter.unusedVariables false
set_option linter.unusedSimpArgs false
def rbareS (used : Int) (ws : List ByteArray) : Step := if ws.length ≠ 1 then stepF used (⟨#[69, 82, 82, 79, 82]⟩ : ByteArray) else stepO used (formT (ws.getD 0 ⟨#[]⟩) false []) (cmdB (if (ws.getD 0 ⟨#[]⟩).toList == [113, 117, 105, 116] then 16 else 15))
theorem K_form0 (w : World) (v : ByteArray) (q : Bool) : kForm.K w (formT v q []) [.int .i64 1, .string v, .int .i64 0, .int .u32 0, .bool q, .bool false, .string ⟨#[]⟩, .slice none 0 0, .slice none 0 0, .bool false] := kForm_mk w (formT v q []) (Nat.le_refl _) (C_nil _ _) (Nat.le_refl _) (C_nil _ _)
theorem K_cmdB (w : World) (op : Int) : kCmd.K w (cmdB op) [.int .i64 op, .string ⟨#[]⟩, .slice none 0 0, .int .u32 0, .int .i64 0, .int .u64 0, .int .u64 0, .int .u64 0, .bool false, .bool false] := kCmd_mk w (cmdB op) (Nat.le_refl _) (C_nil _ _)
set_option maxRecDepth 100000 in
set_option maxHeartbeats 1000000 in
theorem rbare_calls (ws : List ByteArray) (A : Option Addr) (c : Nat) (used : Int) (F : Nat → Prop) (w : World) (hC : Kd.string.C w A ws.length ws) (hc : ws.length ≤ c) :
    Calls Tryz.prog 27 #[.slice A ws.length c, .int .i64 used] w (StepR F w (rbareS used ws)) := by
  have HB := Aside0.mk (Below.refl w.heap.size w)
  have HC := Aside0.mk hC
  obtain ⟨R, hR⟩ : ∃ R, rbareS used ws = R := ⟨_, rfl⟩
  rw [hR]
  unfold rbareS at hR
  clear hC
  by_cases hn : ws.length = 1
  · rw [if_neg (fun h => h hn)] at hR
    obtain ⟨b, o, rfl, hb0, hcell⟩ := S_cell HC.out 0 (by omega)
    obtain ⟨v, hv⟩ : ∃ v, ws.getD 0 ⟨#[]⟩ = v := ⟨_, rfl⟩
    rw [hv, Nat.add_zero] at hcell
    rw [hv] at hR
    have hnb : ((ws.length : Int) != 1) = false := by simp [hn]
    have hn0 : (0 : Int) < ↑ws.length := by omega
    have hnN : 0 < ws.length := by omega
    obtain ⟨q, hq⟩ : ∃ q, (v.toList == [113, 117, 105, 116]) = q := ⟨_, rfl⟩
    rw [hq] at hR
    clear hn hv HC
    cases q
    · have HO : Aside0 (∀ w', Calls Tryz.prog 55 #[.int .i64 used, .agg #[.int .i64 15, .string ⟨#[]⟩, .slice none 0 0, .int .u32 0, .int .i64 0, .int .u64 0, .int .u64 0, .int .u64 0, .bool false, .bool false], .agg #[.int .i64 1, .string v, .int .i64 0, .int .u32 0, .bool false, .bool false, .string ⟨#[]⟩, .slice none 0 0, .slice none 0 0, .bool false]] w' (StepR (fun k => k ≠ w.heap.size ∧ (k < w.heap.size → F k)) w' R)) := ⟨fun w' => hR ▸ rone_calls used (cmdB 15) (formT v false []) _ _ _ w' (fun w2 _ _ => K_cmdB w2 15) (fun w2 _ _ => K_form0 w2 v false)⟩
      clear hR
      go_enter Tryz.func27, Tryz.ntmps27
      go_upto_region 6 with fail
      (refine wp_region_noPanic ?_; refine wp_region_held_drew (S := fun w' => w'.heap[w.heap.size + 1]? = some (.cells #[.int .i64 15, .string ⟨#[]⟩, .slice none 0 0, .int .u32 0, .int .i64 0, .int .u64 0, .int .u64 0, .int .u64 0, .bool false, .bool false] 40 (0, 0)) ∧ w'.cell? ⟨b, o, none⟩ = some (.string v) ∧ Below w.heap.size w w') (by kernel_rfl) ⟨(by repeat (first | exact blk_at_new _ _ _ (by simp; done) | exact blk_at_new _ _ _ rfl | refine blk_alloc ?_ _ | refine blk_drew ?_ | refine blk_drewN ?_ _)), (Below.cell (by repeat (first | (with_reducible first | exact HB.out | apply below_alloc | apply pw_below_drewN | apply below_drew1) | exact HB.out)) (p := ⟨b, o, none⟩) hb0).trans hcell, (by repeat (first | (with_reducible first | exact HB.out | apply below_alloc | apply pw_below_drewN | apply below_drew1) | exact HB.out))⟩ ?_; intro hHeld)
      have BRd : Aside0 (((w.alloc (.cells zStepC 34 (0, 0))).alloc (.cells #[.int .i64 15, .string ⟨#[]⟩, .slice none 0 0, .int .u32 0, .int .i64 0, .int .u64 0, .int .u64 0, .int .u64 0, .bool false, .bool false] 40 (0, 0))).drew.heap[w.heap.size]? = some (.cells zStepC 34 (0, 0))) := ⟨(by repeat (first | exact blk_at_new _ _ _ (by simp; done) | exact blk_at_new _ _ _ rfl | refine blk_alloc ?_ _ | refine blk_drew ?_ | refine blk_drewN ?_ _))⟩
      (refine wpAnyH_take (i := 0) (v := ?_) (by simp only [List.getElem?_toArray, List.getElem?_cons_succ, List.getElem?_cons_zero]; rfl) (by kernel_rfl) (by kernel_rfl) (by kernel_rfl) (fun _ _ _ h => h) (Or.inl ⟨by rfl, ?_⟩) (by exact hHeld) ?_; rotate_left; (focus (intro w' hSw; have s0 : w'.cell? ⟨w.heap.size + 1, 0, none⟩ = some (.int .i64 15) := (blk_cell hSw.1 0).trans rfl; have s1 : w'.cell? ⟨w.heap.size + 1, 1, none⟩ = some (.string ⟨#[]⟩) := (blk_cell hSw.1 1).trans rfl; have s2 : w'.cell? ⟨w.heap.size + 1, 2, none⟩ = some (.slice none 0 0) := (blk_cell hSw.1 2).trans rfl; have s3 : w'.cell? ⟨w.heap.size + 1, 3, none⟩ = some (.int .u32 0) := (blk_cell hSw.1 3).trans rfl; have s4 : w'.cell? ⟨w.heap.size + 1, 4, none⟩ = some (.int .i64 0) := (blk_cell hSw.1 4).trans rfl; have s5 : w'.cell? ⟨w.heap.size + 1, 5, none⟩ = some (.int .u64 0) := (blk_cell hSw.1 5).trans rfl; have s6 : w'.cell? ⟨w.heap.size + 1, 6, none⟩ = some (.int .u64 0) := (blk_cell hSw.1 6).trans rfl; have s7 : w'.cell? ⟨w.heap.size + 1, 7, none⟩ = some (.int .u64 0) := (blk_cell hSw.1 7).trans rfl; have s8 : w'.cell? ⟨w.heap.size + 1, 8, none⟩ = some (.bool false) := (blk_cell hSw.1 8).trans rfl; have s9 : w'.cell? ⟨w.heap.size + 1, 9, none⟩ = some (.bool false) := (blk_cell hSw.1 9).trans rfl; have c0 := hSw.2.1; have bl := hSw.2.2; clear bl; go_simp; (try with_reducible rfl); done)); (try simp only [Act.put, List.setIfInBounds_toArray, List.set_cons_zero, List.set_cons_succ]))
      (refine wpAnyH_take (i := 1) (v := ?_) (by simp only [List.getElem?_toArray, List.getElem?_cons_succ, List.getElem?_cons_zero]; rfl) (by kernel_rfl) (by kernel_rfl) (by kernel_rfl) (fun _ _ _ h => h) (Or.inl ⟨by rfl, ?_⟩) (by exact hHeld) ?_; rotate_left; (focus (intro w' hSw; have s0 : w'.cell? ⟨w.heap.size + 1, 0, none⟩ = some (.int .i64 15) := (blk_cell hSw.1 0).trans rfl; have s1 : w'.cell? ⟨w.heap.size + 1, 1, none⟩ = some (.string ⟨#[]⟩) := (blk_cell hSw.1 1).trans rfl; have s2 : w'.cell? ⟨w.heap.size + 1, 2, none⟩ = some (.slice none 0 0) := (blk_cell hSw.1 2).trans rfl; have s3 : w'.cell? ⟨w.heap.size + 1, 3, none⟩ = some (.int .u32 0) := (blk_cell hSw.1 3).trans rfl; have s4 : w'.cell? ⟨w.heap.size + 1, 4, none⟩ = some (.int .i64 0) := (blk_cell hSw.1 4).trans rfl; have s5 : w'.cell? ⟨w.heap.size + 1, 5, none⟩ = some (.int .u64 0) := (blk_cell hSw.1 5).trans rfl; have s6 : w'.cell? ⟨w.heap.size + 1, 6, none⟩ = some (.int .u64 0) := (blk_cell hSw.1 6).trans rfl; have s7 : w'.cell? ⟨w.heap.size + 1, 7, none⟩ = some (.int .u64 0) := (blk_cell hSw.1 7).trans rfl; have s8 : w'.cell? ⟨w.heap.size + 1, 8, none⟩ = some (.bool false) := (blk_cell hSw.1 8).trans rfl; have s9 : w'.cell? ⟨w.heap.size + 1, 9, none⟩ = some (.bool false) := (blk_cell hSw.1 9).trans rfl; have c0 := hSw.2.1; have bl := hSw.2.2; clear bl; go_simp; (try with_reducible rfl); done)); (try simp only [Act.put, List.setIfInBounds_toArray, List.set_cons_zero, List.set_cons_succ]))
      (refine wpAnyH_take (i := 2) (v := ?_) (by simp only [List.getElem?_toArray, List.getElem?_cons_succ, List.getElem?_cons_zero]; rfl) (by kernel_rfl) (by kernel_rfl) (by kernel_rfl) (fun _ _ _ h => h) (Or.inl ⟨by rfl, ?_⟩) (by exact hHeld) ?_; rotate_left; (focus (intro w' hSw; have s0 : w'.cell? ⟨w.heap.size + 1, 0, none⟩ = some (.int .i64 15) := (blk_cell hSw.1 0).trans rfl; have s1 : w'.cell? ⟨w.heap.size + 1, 1, none⟩ = some (.string ⟨#[]⟩) := (blk_cell hSw.1 1).trans rfl; have s2 : w'.cell? ⟨w.heap.size + 1, 2, none⟩ = some (.slice none 0 0) := (blk_cell hSw.1 2).trans rfl; have s3 : w'.cell? ⟨w.heap.size + 1, 3, none⟩ = some (.int .u32 0) := (blk_cell hSw.1 3).trans rfl; have s4 : w'.cell? ⟨w.heap.size + 1, 4, none⟩ = some (.int .i64 0) := (blk_cell hSw.1 4).trans rfl; have s5 : w'.cell? ⟨w.heap.size + 1, 5, none⟩ = some (.int .u64 0) := (blk_cell hSw.1 5).trans rfl; have s6 : w'.cell? ⟨w.heap.size + 1, 6, none⟩ = some (.int .u64 0) := (blk_cell hSw.1 6).trans rfl; have s7 : w'.cell? ⟨w.heap.size + 1, 7, none⟩ = some (.int .u64 0) := (blk_cell hSw.1 7).trans rfl; have s8 : w'.cell? ⟨w.heap.size + 1, 8, none⟩ = some (.bool false) := (blk_cell hSw.1 8).trans rfl; have s9 : w'.cell? ⟨w.heap.size + 1, 9, none⟩ = some (.bool false) := (blk_cell hSw.1 9).trans rfl; have c0 := hSw.2.1; have bl := hSw.2.2; clear bl; go_simp; (try with_reducible rfl); done)); (try simp only [Act.put, List.setIfInBounds_toArray, List.set_cons_zero, List.set_cons_succ]))
      (refine wpAnyH_take (i := 3) (v := ?_) (by simp only [List.getElem?_toArray, List.getElem?_cons_succ, List.getElem?_cons_zero]; rfl) (by kernel_rfl) (by kernel_rfl) (by kernel_rfl) (fun _ _ _ h => h) (Or.inl ⟨by rfl, ?_⟩) (by exact hHeld) ?_; rotate_left; (focus (intro w' hSw; have s0 : w'.cell? ⟨w.heap.size + 1, 0, none⟩ = some (.int .i64 15) := (blk_cell hSw.1 0).trans rfl; have s1 : w'.cell? ⟨w.heap.size + 1, 1, none⟩ = some (.string ⟨#[]⟩) := (blk_cell hSw.1 1).trans rfl; have s2 : w'.cell? ⟨w.heap.size + 1, 2, none⟩ = some (.slice none 0 0) := (blk_cell hSw.1 2).trans rfl; have s3 : w'.cell? ⟨w.heap.size + 1, 3, none⟩ = some (.int .u32 0) := (blk_cell hSw.1 3).trans rfl; have s4 : w'.cell? ⟨w.heap.size + 1, 4, none⟩ = some (.int .i64 0) := (blk_cell hSw.1 4).trans rfl; have s5 : w'.cell? ⟨w.heap.size + 1, 5, none⟩ = some (.int .u64 0) := (blk_cell hSw.1 5).trans rfl; have s6 : w'.cell? ⟨w.heap.size + 1, 6, none⟩ = some (.int .u64 0) := (blk_cell hSw.1 6).trans rfl; have s7 : w'.cell? ⟨w.heap.size + 1, 7, none⟩ = some (.int .u64 0) := (blk_cell hSw.1 7).trans rfl; have s8 : w'.cell? ⟨w.heap.size + 1, 8, none⟩ = some (.bool false) := (blk_cell hSw.1 8).trans rfl; have s9 : w'.cell? ⟨w.heap.size + 1, 9, none⟩ = some (.bool false) := (blk_cell hSw.1 9).trans rfl; have c0 := hSw.2.1; have bl := hSw.2.2; clear bl; go_simp; (try with_reducible rfl); done)); (try simp only [Act.put, List.setIfInBounds_toArray, List.set_cons_zero, List.set_cons_succ]))
      (refine wpAnyH_take (i := 4) (v := ?_) (by simp only [List.getElem?_toArray, List.getElem?_cons_succ, List.getElem?_cons_zero]; rfl) (by kernel_rfl) (by kernel_rfl) (by kernel_rfl) (fun _ _ _ h => h) (Or.inl ⟨by rfl, ?_⟩) (by exact hHeld) ?_; rotate_left; (focus (intro w' hSw; have s0 : w'.cell? ⟨w.heap.size + 1, 0, none⟩ = some (.int .i64 15) := (blk_cell hSw.1 0).trans rfl; have s1 : w'.cell? ⟨w.heap.size + 1, 1, none⟩ = some (.string ⟨#[]⟩) := (blk_cell hSw.1 1).trans rfl; have s2 : w'.cell? ⟨w.heap.size + 1, 2, none⟩ = some (.slice none 0 0) := (blk_cell hSw.1 2).trans rfl; have s3 : w'.cell? ⟨w.heap.size + 1, 3, none⟩ = some (.int .u32 0) := (blk_cell hSw.1 3).trans rfl; have s4 : w'.cell? ⟨w.heap.size + 1, 4, none⟩ = some (.int .i64 0) := (blk_cell hSw.1 4).trans rfl; have s5 : w'.cell? ⟨w.heap.size + 1, 5, none⟩ = some (.int .u64 0) := (blk_cell hSw.1 5).trans rfl; have s6 : w'.cell? ⟨w.heap.size + 1, 6, none⟩ = some (.int .u64 0) := (blk_cell hSw.1 6).trans rfl; have s7 : w'.cell? ⟨w.heap.size + 1, 7, none⟩ = some (.int .u64 0) := (blk_cell hSw.1 7).trans rfl; have s8 : w'.cell? ⟨w.heap.size + 1, 8, none⟩ = some (.bool false) := (blk_cell hSw.1 8).trans rfl; have s9 : w'.cell? ⟨w.heap.size + 1, 9, none⟩ = some (.bool false) := (blk_cell hSw.1 9).trans rfl; have c0 := hSw.2.1; have bl := hSw.2.2; clear bl; go_simp; (try with_reducible rfl); done)); (try simp only [Act.put, List.setIfInBounds_toArray, List.set_cons_zero, List.set_cons_succ]))
      (refine wpAnyH_take (i := 5) (v := ?_) (by simp only [List.getElem?_toArray, List.getElem?_cons_succ, List.getElem?_cons_zero]; rfl) (by kernel_rfl) (by kernel_rfl) (by kernel_rfl) (fun _ _ _ h => h) (Or.inl ⟨by rfl, ?_⟩) (by exact hHeld) ?_; rotate_left; (focus (intro w' hSw; have s0 : w'.cell? ⟨w.heap.size + 1, 0, none⟩ = some (.int .i64 15) := (blk_cell hSw.1 0).trans rfl; have s1 : w'.cell? ⟨w.heap.size + 1, 1, none⟩ = some (.string ⟨#[]⟩) := (blk_cell hSw.1 1).trans rfl; have s2 : w'.cell? ⟨w.heap.size + 1, 2, none⟩ = some (.slice none 0 0) := (blk_cell hSw.1 2).trans rfl; have s3 : w'.cell? ⟨w.heap.size + 1, 3, none⟩ = some (.int .u32 0) := (blk_cell hSw.1 3).trans rfl; have s4 : w'.cell? ⟨w.heap.size + 1, 4, none⟩ = some (.int .i64 0) := (blk_cell hSw.1 4).trans rfl; have s5 : w'.cell? ⟨w.heap.size + 1, 5, none⟩ = some (.int .u64 0) := (blk_cell hSw.1 5).trans rfl; have s6 : w'.cell? ⟨w.heap.size + 1, 6, none⟩ = some (.int .u64 0) := (blk_cell hSw.1 6).trans rfl; have s7 : w'.cell? ⟨w.heap.size + 1, 7, none⟩ = some (.int .u64 0) := (blk_cell hSw.1 7).trans rfl; have s8 : w'.cell? ⟨w.heap.size + 1, 8, none⟩ = some (.bool false) := (blk_cell hSw.1 8).trans rfl; have s9 : w'.cell? ⟨w.heap.size + 1, 9, none⟩ = some (.bool false) := (blk_cell hSw.1 9).trans rfl; have c0 := hSw.2.1; have bl := hSw.2.2; clear bl; go_simp; (try with_reducible rfl); done)); (try simp only [Act.put, List.setIfInBounds_toArray, List.set_cons_zero, List.set_cons_succ]))
      refine wpAnyH_ready (rs := [6]) (by kernel_rfl) (by simp) ?_
      refine AllReadyH.cons (by simp only [List.getElem?_toArray, List.getElem?_cons_succ, List.getElem?_cons_zero]; rfl) (fun K hK => ?_) AllReadyH.nil
      go_simp
      (go_at_call 55; (with_reducible refine (HO.out _).mono ?_); rintro e w5 ⟨⟨cs, rfl, hk⟩, hb⟩)
      have BR5 := Aside0.mk (blk_below BRd.out hb)
      have HB5 := Aside0.mk (below_step hHeld.2.2 hb)
      have HK := Aside0.mk hk
      have hgd := Aside0.mk (blk_lt BRd.out)
      have HS5 := Aside0.mk (show w5.heap[w.heap.size + 1]? = some (.cells #[.int .i64 15, .string ⟨#[]⟩, .slice none 0 0, .int .u32 0, .int .i64 0, .int .u64 0, .int .u64 0, .int .u64 0, .bool false, .bool false] 40 (0, 0)) ∧ w5.cell? ⟨b, o, none⟩ = some (.string v) ∧ Below w.heap.size w w5 from ⟨blk_below hHeld.1 hb, (Below.cell HB5.out (p := ⟨b, o, none⟩) hb0).trans hcell, HB5.out⟩)
      refine hK.out _ _ HS5.out ?_
      clear hK K hHeld hk hb
      intro hHeld
      (try simp only [Act.put, List.setIfInBounds_toArray, List.set_cons_zero, List.set_cons_succ])
      refine wpAnyH_ready (rs := [7]) (by kernel_rfl) (by simp) ?_
      refine AllReadyH.cons (by simp only [List.getElem?_toArray, List.getElem?_cons_succ, List.getElem?_cons_zero]; rfl) (fun K hK => ?_) AllReadyH.nil
      refine step_store_F rfl 34 _ _ rfl (w.heap.size) 0 cs rfl rfl (fun u hu => kStep.K_one HK.out.now u hu) 34 _ cs.toArray BR5.out (by rw [kStep.K_len HK.out.now]; first | done | decide) (by rw [kStep.K_len HK.out.now]; kernel_rfl) (congrArg List.toArray (by rw [kStep.K_len HK.out.now]; exact List.append_nil cs)) ?_
      intro w6 hbk hst
      have BK := Aside0.mk hbk
      have HK2 := Aside0.mk (hst.hol HK.out (fun h => (h hgd.out).1 rfl))
      have HB6 := Aside0.mk (hst.up HB5.out (by omega))
      refine hK.out _ _ ⟨hst.blk (HS5.out.1) (by omega), (Below.cell HB6.out (p := ⟨b, o, none⟩) hb0).trans hcell, HB6.out⟩ ?_
      clear hK K hHeld hbk hst
      intro hHeld
      (try simp only [Act.put, List.setIfInBounds_toArray, List.set_cons_zero, List.set_cons_succ])
      (refine wpAnyH_done (by kernel_rfl) ?_ _; refine NoPanic.normal ?_)
      go_wp2
      (try simp only [Exit.inBlock, Exit.then]); refine bodyPost_ret (results_cell_row rfl _ _ (w.heap.size) 34 _ (0, 0) _ rfl BK.out Tryz.underlying34 rfl (by rw [List.size_toArray, kStep.K_len HK.out.now]; kernel_rfl)) rfl ?_
      exact ⟨⟨_, rfl, HK2.out.mono (fun k hk h3 => (hk (Nat.lt_of_lt_of_le h3 (Nat.le_of_lt (Nat.lt_of_le_of_lt (by omega) hgd.out)))).2 h3)⟩, HB6.out⟩
    · have HO : Aside0 (∀ w', Calls Tryz.prog 55 #[.int .i64 used, .agg #[.int .i64 16, .string ⟨#[]⟩, .slice none 0 0, .int .u32 0, .int .i64 0, .int .u64 0, .int .u64 0, .int .u64 0, .bool false, .bool false], .agg #[.int .i64 1, .string v, .int .i64 0, .int .u32 0, .bool false, .bool false, .string ⟨#[]⟩, .slice none 0 0, .slice none 0 0, .bool false]] w' (StepR (fun k => k ≠ w.heap.size ∧ (k < w.heap.size → F k)) w' R)) := ⟨fun w' => hR ▸ rone_calls used (cmdB 16) (formT v false []) _ _ _ w' (fun w2 _ _ => K_cmdB w2 16) (fun w2 _ _ => K_form0 w2 v false)⟩
      clear hR
      go_enter Tryz.func27, Tryz.ntmps27
      go_upto_region 6 with fail
      (refine wp_region_noPanic ?_; refine wp_region_held_drew (S := fun w' => w'.heap[w.heap.size + 1]? = some (.cells #[.int .i64 16, .string ⟨#[]⟩, .slice none 0 0, .int .u32 0, .int .i64 0, .int .u64 0, .int .u64 0, .int .u64 0, .bool false, .bool false] 40 (0, 0)) ∧ w'.cell? ⟨b, o, none⟩ = some (.string v) ∧ Below w.heap.size w w') (by kernel_rfl) ⟨(by repeat (first | exact blk_at_new _ _ _ (by simp; done) | exact blk_at_new _ _ _ rfl | refine blk_alloc ?_ _ | refine blk_drew ?_ | refine blk_drewN ?_ _)), (Below.cell (by repeat (first | (with_reducible first | exact HB.out | apply below_alloc | apply pw_below_drewN | apply below_drew1) | exact HB.out)) (p := ⟨b, o, none⟩) hb0).trans hcell, (by repeat (first | (with_reducible first | exact HB.out | apply below_alloc | apply pw_below_drewN | apply below_drew1) | exact HB.out))⟩ ?_; intro hHeld)
      have BRd : Aside0 (((w.alloc (.cells zStepC 34 (0, 0))).alloc (.cells #[.int .i64 16, .string ⟨#[]⟩, .slice none 0 0, .int .u32 0, .int .i64 0, .int .u64 0, .int .u64 0, .int .u64 0, .bool false, .bool false] 40 (0, 0))).drew.heap[w.heap.size]? = some (.cells zStepC 34 (0, 0))) := ⟨(by repeat (first | exact blk_at_new _ _ _ (by simp; done) | exact blk_at_new _ _ _ rfl | refine blk_alloc ?_ _ | refine blk_drew ?_ | refine blk_drewN ?_ _))⟩
      (refine wpAnyH_take (i := 0) (v := ?_) (by simp only [List.getElem?_toArray, List.getElem?_cons_succ, List.getElem?_cons_zero]; rfl) (by kernel_rfl) (by kernel_rfl) (by kernel_rfl) (fun _ _ _ h => h) (Or.inl ⟨by rfl, ?_⟩) (by exact hHeld) ?_; rotate_left; (focus (intro w' hSw; have s0 : w'.cell? ⟨w.heap.size + 1, 0, none⟩ = some (.int .i64 16) := (blk_cell hSw.1 0).trans rfl; have s1 : w'.cell? ⟨w.heap.size + 1, 1, none⟩ = some (.string ⟨#[]⟩) := (blk_cell hSw.1 1).trans rfl; have s2 : w'.cell? ⟨w.heap.size + 1, 2, none⟩ = some (.slice none 0 0) := (blk_cell hSw.1 2).trans rfl; have s3 : w'.cell? ⟨w.heap.size + 1, 3, none⟩ = some (.int .u32 0) := (blk_cell hSw.1 3).trans rfl; have s4 : w'.cell? ⟨w.heap.size + 1, 4, none⟩ = some (.int .i64 0) := (blk_cell hSw.1 4).trans rfl; have s5 : w'.cell? ⟨w.heap.size + 1, 5, none⟩ = some (.int .u64 0) := (blk_cell hSw.1 5).trans rfl; have s6 : w'.cell? ⟨w.heap.size + 1, 6, none⟩ = some (.int .u64 0) := (blk_cell hSw.1 6).trans rfl; have s7 : w'.cell? ⟨w.heap.size + 1, 7, none⟩ = some (.int .u64 0) := (blk_cell hSw.1 7).trans rfl; have s8 : w'.cell? ⟨w.heap.size + 1, 8, none⟩ = some (.bool false) := (blk_cell hSw.1 8).trans rfl; have s9 : w'.cell? ⟨w.heap.size + 1, 9, none⟩ = some (.bool false) := (blk_cell hSw.1 9).trans rfl; have c0 := hSw.2.1; have bl := hSw.2.2; clear bl; go_simp; (try with_reducible rfl); done)); (try simp only [Act.put, List.setIfInBounds_toArray, List.set_cons_zero, List.set_cons_succ]))
      (refine wpAnyH_take (i := 1) (v := ?_) (by simp only [List.getElem?_toArray, List.getElem?_cons_succ, List.getElem?_cons_zero]; rfl) (by kernel_rfl) (by kernel_rfl) (by kernel_rfl) (fun _ _ _ h => h) (Or.inl ⟨by rfl, ?_⟩) (by exact hHeld) ?_; rotate_left; (focus (intro w' hSw; have s0 : w'.cell? ⟨w.heap.size + 1, 0, none⟩ = some (.int .i64 16) := (blk_cell hSw.1 0).trans rfl; have s1 : w'.cell? ⟨w.heap.size + 1, 1, none⟩ = some (.string ⟨#[]⟩) := (blk_cell hSw.1 1).trans rfl; have s2 : w'.cell? ⟨w.heap.size + 1, 2, none⟩ = some (.slice none 0 0) := (blk_cell hSw.1 2).trans rfl; have s3 : w'.cell? ⟨w.heap.size + 1, 3, none⟩ = some (.int .u32 0) := (blk_cell hSw.1 3).trans rfl; have s4 : w'.cell? ⟨w.heap.size + 1, 4, none⟩ = some (.int .i64 0) := (blk_cell hSw.1 4).trans rfl; have s5 : w'.cell? ⟨w.heap.size + 1, 5, none⟩ = some (.int .u64 0) := (blk_cell hSw.1 5).trans rfl; have s6 : w'.cell? ⟨w.heap.size + 1, 6, none⟩ = some (.int .u64 0) := (blk_cell hSw.1 6).trans rfl; have s7 : w'.cell? ⟨w.heap.size + 1, 7, none⟩ = some (.int .u64 0) := (blk_cell hSw.1 7).trans rfl; have s8 : w'.cell? ⟨w.heap.size + 1, 8, none⟩ = some (.bool false) := (blk_cell hSw.1 8).trans rfl; have s9 : w'.cell? ⟨w.heap.size + 1, 9, none⟩ = some (.bool false) := (blk_cell hSw.1 9).trans rfl; have c0 := hSw.2.1; have bl := hSw.2.2; clear bl; go_simp; (try with_reducible rfl); done)); (try simp only [Act.put, List.setIfInBounds_toArray, List.set_cons_zero, List.set_cons_succ]))
      (refine wpAnyH_take (i := 2) (v := ?_) (by simp only [List.getElem?_toArray, List.getElem?_cons_succ, List.getElem?_cons_zero]; rfl) (by kernel_rfl) (by kernel_rfl) (by kernel_rfl) (fun _ _ _ h => h) (Or.inl ⟨by rfl, ?_⟩) (by exact hHeld) ?_; rotate_left; (focus (intro w' hSw; have s0 : w'.cell? ⟨w.heap.size + 1, 0, none⟩ = some (.int .i64 16) := (blk_cell hSw.1 0).trans rfl; have s1 : w'.cell? ⟨w.heap.size + 1, 1, none⟩ = some (.string ⟨#[]⟩) := (blk_cell hSw.1 1).trans rfl; have s2 : w'.cell? ⟨w.heap.size + 1, 2, none⟩ = some (.slice none 0 0) := (blk_cell hSw.1 2).trans rfl; have s3 : w'.cell? ⟨w.heap.size + 1, 3, none⟩ = some (.int .u32 0) := (blk_cell hSw.1 3).trans rfl; have s4 : w'.cell? ⟨w.heap.size + 1, 4, none⟩ = some (.int .i64 0) := (blk_cell hSw.1 4).trans rfl; have s5 : w'.cell? ⟨w.heap.size + 1, 5, none⟩ = some (.int .u64 0) := (blk_cell hSw.1 5).trans rfl; have s6 : w'.cell? ⟨w.heap.size + 1, 6, none⟩ = some (.int .u64 0) := (blk_cell hSw.1 6).trans rfl; have s7 : w'.cell? ⟨w.heap.size + 1, 7, none⟩ = some (.int .u64 0) := (blk_cell hSw.1 7).trans rfl; have s8 : w'.cell? ⟨w.heap.size + 1, 8, none⟩ = some (.bool false) := (blk_cell hSw.1 8).trans rfl; have s9 : w'.cell? ⟨w.heap.size + 1, 9, none⟩ = some (.bool false) := (blk_cell hSw.1 9).trans rfl; have c0 := hSw.2.1; have bl := hSw.2.2; clear bl; go_simp; (try with_reducible rfl); done)); (try simp only [Act.put, List.setIfInBounds_toArray, List.set_cons_zero, List.set_cons_succ]))
      (refine wpAnyH_take (i := 3) (v := ?_) (by simp only [List.getElem?_toArray, List.getElem?_cons_succ, List.getElem?_cons_zero]; rfl) (by kernel_rfl) (by kernel_rfl) (by kernel_rfl) (fun _ _ _ h => h) (Or.inl ⟨by rfl, ?_⟩) (by exact hHeld) ?_; rotate_left; (focus (intro w' hSw; have s0 : w'.cell? ⟨w.heap.size + 1, 0, none⟩ = some (.int .i64 16) := (blk_cell hSw.1 0).trans rfl; have s1 : w'.cell? ⟨w.heap.size + 1, 1, none⟩ = some (.string ⟨#[]⟩) := (blk_cell hSw.1 1).trans rfl; have s2 : w'.cell? ⟨w.heap.size + 1, 2, none⟩ = some (.slice none 0 0) := (blk_cell hSw.1 2).trans rfl; have s3 : w'.cell? ⟨w.heap.size + 1, 3, none⟩ = some (.int .u32 0) := (blk_cell hSw.1 3).trans rfl; have s4 : w'.cell? ⟨w.heap.size + 1, 4, none⟩ = some (.int .i64 0) := (blk_cell hSw.1 4).trans rfl; have s5 : w'.cell? ⟨w.heap.size + 1, 5, none⟩ = some (.int .u64 0) := (blk_cell hSw.1 5).trans rfl; have s6 : w'.cell? ⟨w.heap.size + 1, 6, none⟩ = some (.int .u64 0) := (blk_cell hSw.1 6).trans rfl; have s7 : w'.cell? ⟨w.heap.size + 1, 7, none⟩ = some (.int .u64 0) := (blk_cell hSw.1 7).trans rfl; have s8 : w'.cell? ⟨w.heap.size + 1, 8, none⟩ = some (.bool false) := (blk_cell hSw.1 8).trans rfl; have s9 : w'.cell? ⟨w.heap.size + 1, 9, none⟩ = some (.bool false) := (blk_cell hSw.1 9).trans rfl; have c0 := hSw.2.1; have bl := hSw.2.2; clear bl; go_simp; (try with_reducible rfl); done)); (try simp only [Act.put, List.setIfInBounds_toArray, List.set_cons_zero, List.set_cons_succ]))
      (refine wpAnyH_take (i := 4) (v := ?_) (by simp only [List.getElem?_toArray, List.getElem?_cons_succ, List.getElem?_cons_zero]; rfl) (by kernel_rfl) (by kernel_rfl) (by kernel_rfl) (fun _ _ _ h => h) (Or.inl ⟨by rfl, ?_⟩) (by exact hHeld) ?_; rotate_left; (focus (intro w' hSw; have s0 : w'.cell? ⟨w.heap.size + 1, 0, none⟩ = some (.int .i64 16) := (blk_cell hSw.1 0).trans rfl; have s1 : w'.cell? ⟨w.heap.size + 1, 1, none⟩ = some (.string ⟨#[]⟩) := (blk_cell hSw.1 1).trans rfl; have s2 : w'.cell? ⟨w.heap.size + 1, 2, none⟩ = some (.slice none 0 0) := (blk_cell hSw.1 2).trans rfl; have s3 : w'.cell? ⟨w.heap.size + 1, 3, none⟩ = some (.int .u32 0) := (blk_cell hSw.1 3).trans rfl; have s4 : w'.cell? ⟨w.heap.size + 1, 4, none⟩ = some (.int .i64 0) := (blk_cell hSw.1 4).trans rfl; have s5 : w'.cell? ⟨w.heap.size + 1, 5, none⟩ = some (.int .u64 0) := (blk_cell hSw.1 5).trans rfl; have s6 : w'.cell? ⟨w.heap.size + 1, 6, none⟩ = some (.int .u64 0) := (blk_cell hSw.1 6).trans rfl; have s7 : w'.cell? ⟨w.heap.size + 1, 7, none⟩ = some (.int .u64 0) := (blk_cell hSw.1 7).trans rfl; have s8 : w'.cell? ⟨w.heap.size + 1, 8, none⟩ = some (.bool false) := (blk_cell hSw.1 8).trans rfl; have s9 : w'.cell? ⟨w.heap.size + 1, 9, none⟩ = some (.bool false) := (blk_cell hSw.1 9).trans rfl; have c0 := hSw.2.1; have bl := hSw.2.2; clear bl; go_simp; (try with_reducible rfl); done)); (try simp only [Act.put, List.setIfInBounds_toArray, List.set_cons_zero, List.set_cons_succ]))
      (refine wpAnyH_take (i := 5) (v := ?_) (by simp only [List.getElem?_toArray, List.getElem?_cons_succ, List.getElem?_cons_zero]; rfl) (by kernel_rfl) (by kernel_rfl) (by kernel_rfl) (fun _ _ _ h => h) (Or.inl ⟨by rfl, ?_⟩) (by exact hHeld) ?_; rotate_left; (focus (intro w' hSw; have s0 : w'.cell? ⟨w.heap.size + 1, 0, none⟩ = some (.int .i64 16) := (blk_cell hSw.1 0).trans rfl; have s1 : w'.cell? ⟨w.heap.size + 1, 1, none⟩ = some (.string ⟨#[]⟩) := (blk_cell hSw.1 1).trans rfl; have s2 : w'.cell? ⟨w.heap.size + 1, 2, none⟩ = some (.slice none 0 0) := (blk_cell hSw.1 2).trans rfl; have s3 : w'.cell? ⟨w.heap.size + 1, 3, none⟩ = some (.int .u32 0) := (blk_cell hSw.1 3).trans rfl; have s4 : w'.cell? ⟨w.heap.size + 1, 4, none⟩ = some (.int .i64 0) := (blk_cell hSw.1 4).trans rfl; have s5 : w'.cell? ⟨w.heap.size + 1, 5, none⟩ = some (.int .u64 0) := (blk_cell hSw.1 5).trans rfl; have s6 : w'.cell? ⟨w.heap.size + 1, 6, none⟩ = some (.int .u64 0) := (blk_cell hSw.1 6).trans rfl; have s7 : w'.cell? ⟨w.heap.size + 1, 7, none⟩ = some (.int .u64 0) := (blk_cell hSw.1 7).trans rfl; have s8 : w'.cell? ⟨w.heap.size + 1, 8, none⟩ = some (.bool false) := (blk_cell hSw.1 8).trans rfl; have s9 : w'.cell? ⟨w.heap.size + 1, 9, none⟩ = some (.bool false) := (blk_cell hSw.1 9).trans rfl; have c0 := hSw.2.1; have bl := hSw.2.2; clear bl; go_simp; (try with_reducible rfl); done)); (try simp only [Act.put, List.setIfInBounds_toArray, List.set_cons_zero, List.set_cons_succ]))
      refine wpAnyH_ready (rs := [6]) (by kernel_rfl) (by simp) ?_
      refine AllReadyH.cons (by simp only [List.getElem?_toArray, List.getElem?_cons_succ, List.getElem?_cons_zero]; rfl) (fun K hK => ?_) AllReadyH.nil
      go_simp
      (go_at_call 55; (with_reducible refine (HO.out _).mono ?_); rintro e w5 ⟨⟨cs, rfl, hk⟩, hb⟩)
      have BR5 := Aside0.mk (blk_below BRd.out hb)
      have HB5 := Aside0.mk (below_step hHeld.2.2 hb)
      have HK := Aside0.mk hk
      have hgd := Aside0.mk (blk_lt BRd.out)
      have HS5 := Aside0.mk (show w5.heap[w.heap.size + 1]? = some (.cells #[.int .i64 16, .string ⟨#[]⟩, .slice none 0 0, .int .u32 0, .int .i64 0, .int .u64 0, .int .u64 0, .int .u64 0, .bool false, .bool false] 40 (0, 0)) ∧ w5.cell? ⟨b, o, none⟩ = some (.string v) ∧ Below w.heap.size w w5 from ⟨blk_below hHeld.1 hb, (Below.cell HB5.out (p := ⟨b, o, none⟩) hb0).trans hcell, HB5.out⟩)
      refine hK.out _ _ HS5.out ?_
      clear hK K hHeld hk hb
      intro hHeld
      (try simp only [Act.put, List.setIfInBounds_toArray, List.set_cons_zero, List.set_cons_succ])
      refine wpAnyH_ready (rs := [7]) (by kernel_rfl) (by simp) ?_
      refine AllReadyH.cons (by simp only [List.getElem?_toArray, List.getElem?_cons_succ, List.getElem?_cons_zero]; rfl) (fun K hK => ?_) AllReadyH.nil
      refine step_store_F rfl 34 _ _ rfl (w.heap.size) 0 cs rfl rfl (fun u hu => kStep.K_one HK.out.now u hu) 34 _ cs.toArray BR5.out (by rw [kStep.K_len HK.out.now]; first | done | decide) (by rw [kStep.K_len HK.out.now]; kernel_rfl) (congrArg List.toArray (by rw [kStep.K_len HK.out.now]; exact List.append_nil cs)) ?_
      intro w6 hbk hst
      have BK := Aside0.mk hbk
      have HK2 := Aside0.mk (hst.hol HK.out (fun h => (h hgd.out).1 rfl))
      have HB6 := Aside0.mk (hst.up HB5.out (by omega))
      refine hK.out _ _ ⟨hst.blk (HS5.out.1) (by omega), (Below.cell HB6.out (p := ⟨b, o, none⟩) hb0).trans hcell, HB6.out⟩ ?_
      clear hK K hHeld hbk hst
      intro hHeld
      (try simp only [Act.put, List.setIfInBounds_toArray, List.set_cons_zero, List.set_cons_succ])
      (refine wpAnyH_done (by kernel_rfl) ?_ _; refine NoPanic.normal ?_)
      go_wp2
      (try simp only [Exit.inBlock, Exit.then]); refine bodyPost_ret (results_cell_row rfl _ _ (w.heap.size) 34 _ (0, 0) _ rfl BK.out Tryz.underlying34 rfl (by rw [List.size_toArray, kStep.K_len HK.out.now]; kernel_rfl)) rfl ?_
      exact ⟨⟨_, rfl, HK2.out.mono (fun k hk h3 => (hk (Nat.lt_of_lt_of_le h3 (Nat.le_of_lt (Nat.lt_of_le_of_lt (by omega) hgd.out)))).2 h3)⟩, HB6.out⟩
  · rw [if_pos hn] at hR
    have hnb : ((ws.length : Int) != 1) = true := by simp; omega
    have HO : Aside0 (∀ w', Calls Tryz.prog 24 #[.int .i64 used, .string (⟨#[69, 82, 82, 79, 82]⟩ : ByteArray)] w' (StepR (fun k => k < w.heap.size ∧ F k) w' R)) := ⟨fun w' => hR ▸ rfault_calls used _ _ w' (by decide)⟩
    clear hR hn
    go_enter Tryz.func27, Tryz.ntmps27
    go_wp2_with (first | (refine wpList_store_K HK.out.now rfl 34 _ _ rfl (w.heap.size) rfl rfl 34 _ BK.out (by kernel_rfl) rfl ?_; intro w2 hbk hlow hfar; have HK2 := Aside0.mk (hfar _ _ (fun h => absurd (h (by simp <;> omega)).1 (by omega)) HK.out); clear BK; have BK := Aside0.mk hbk; have HL := Aside0.mk hlow; clear hbk hlow hfar) | go_at_call 24; (with_reducible refine (HO.out _).mono ?_); rintro e w1 ⟨⟨cs, rfl, hk⟩, hb⟩; have BK := Aside0.mk (blk_below (g := w.heap.size) (by repeat (first | exact blk_at_new _ _ _ (by simp; done) | exact blk_at_new _ _ _ rfl | refine blk_alloc ?_ _ | refine blk_drew ?_ | refine blk_drewN ?_ _)) hb); have HBn := Aside0.mk (below_step (by repeat (first | (with_reducible first | exact HB.out | apply below_alloc | apply pw_below_drewN | apply below_drew1) | exact HB.out)) hb); clear HB; have HB := HBn; clear HBn; have HK := Aside0.mk hk; clear hb hk)
    ((try simp only [Exit.inBlock, Exit.then]); refine bodyPost_ret (results_cell_row rfl _ _ (w.heap.size) 34 _ (0, 0) _ rfl BK.out Tryz.underlying34 rfl (by rw [List.size_toArray, kStep.K_len HK.out.now]; kernel_rfl)) rfl ?_)
    exact ⟨⟨_, rfl, HK2.out.mono (fun k hk h3 => (hk (by simp; omega)).2)⟩, HB.out.trans (HL.out _ (by omega))⟩
end Go.Proofs.YtfljijpkeckeaaaGreatDoor.X
namespace Go.Proofs.YtfljijpkeckeaaaGreatDoor.X
open Go.RowKit Go.Proofs.YtfljijpkeckeaaaGreatDoorW.PrintWords Go.Proofs.YtfljijpkeckeaaaGreatDoorW.PrintMore
set_option linter.unusedVariables false
set_option linter.unusedSimpArgs false
theorem HolF.up {F : Nat → Prop} {w W : World} {Φ : World → Prop} (h : HolF F w Φ) (hb : Below w.heap.size w W) {g : Nat} (hg : w.heap.size ≤ g) : HolF (fun k => k ≠ g ∧ (k < w.heap.size → F k)) W Φ := fun w2 h2 hk2 =>
  h w2 ((below_zero hb).trans h2) (fun k h3 h4 => (hk2 k (Nat.lt_of_lt_of_le h3 hb.size) ⟨by omega, fun _ => h4⟩).trans (hb.block k h3))
theorem bad_calls (w : World) : Calls Tryz.prog 53 #[] w fun e w' => e = .returned (.string badT) ∧ Below w.heap.size w w' := (butteryref14_Bad.calls _ w rfl).mono fun e w' ⟨he, hd⟩ => ⟨he, hd.below⟩
theorem K_formK {w : World} {A : Option Addr} {c : Nat} (v k : ByteArray) (q : Bool) (hC : Kd.string.C w A 1 [k]) (hc : 1 ≤ c) : kForm.K w (formT v q [k]) [.int .i64 1, .string v, .int .i64 0, .int .u32 0, .bool q, .bool false, .string ⟨#[]⟩, .slice none 0 0, .slice A 1 c, .bool false] := kForm_mk w (formT v q [k]) (A7 := none) (c7 := 0) (A8 := A) (c8 := c) (Nat.le_refl _) (C_nil _ _) hc hC
theorem K_cmdK (w : World) (op exp delta : Int) (k : ByteArray) : kCmd.K w (cmdK op exp delta k) [.int .i64 op, .string k, .slice none 0 0, .int .u32 0, .int .i64 exp, .int .u64 0, .int .u64 delta, .int .u64 0, .bool false, .bool false] := kCmd_mk w (cmdK op exp delta k) (Nat.le_refl _) (C_nil _ _)
theorem K_cmdF (w : World) (v : Int) : kCmd.K w (cmdF v) [.int .i64 13, .string ⟨#[]⟩, .slice none 0 0, .int .u32 0, .int .i64 v, .int .u64 0, .int .u64 0, .int .u64 0, .bool false, .bool false] := kCmd_mk w (cmdF v) (Nat.le_refl _) (C_nil _ _)
theorem C_second {w : World} {b o : Nat} {l : List ByteArray} (h : Kd.string.C w (some ⟨b, o, none⟩) l.length l) (hn : 2 ≤ l.length) : Kd.string.C w (some ⟨b, o + 1, none⟩) 1 [l.getD 1 ⟨#[]⟩] := by
  cases l with
  | nil => simp at hn
  | cons a r =>
    cases r with
    | nil => simp at hn
    | cons d s => exact Kd.C_take (m := 1) (C_tail (n := (d :: s).length) h rfl) (by simp)
set_option maxRecDepth 100000 in
set_option maxHeartbeats 1000000 in
theorem ro_flush_no (ws : List ByteArray) (A : Option Addr) (c : Nat) (quiet : Bool) (used : Int) (F : Nat → Prop) (w : World) (hC : HolF F w (fun w2 => Kd.string.C w2 A ws.length ws)) (hc : ws.length ≤ c) (hs : ∀ k ∈ ws, k.size ≤ 1000000) (h0 : ws.getD 0 ⟨#[]⟩ = (⟨#[102, 108, 117, 115, 104, 95, 97, 108, 108]⟩ : ByteArray)) (hn : 2 < ws.length) :
    Calls Tryz.prog 31 #[.slice A ws.length c, .bool quiet, .int .i64 used] w (StepR F w (stepF used (⟨#[69, 82, 82, 79, 82]⟩ : ByteArray))) := by
  obtain ⟨R, hR⟩ : ∃ R, (stepF used (⟨#[69, 82, 82, 79, 82]⟩ : ByteArray)) = R := ⟨_, rfl⟩
  rw [hR]
  have HB := Aside0.mk (Below.refl w.heap.size w)
  have HCF := Aside0.mk hC
  obtain ⟨v0, hv0⟩ : ∃ v0, ((⟨#[102, 108, 117, 115, 104, 95, 97, 108, 108]⟩ : ByteArray) : ByteArray) = v0 := ⟨_, rfl⟩
  rw [hv0] at h0
  have hln : 0 < ws.length := by omega
  obtain ⟨b, o, rfl, hb0, hcell0⟩ := S_cell hC.now 0 (by omega)
  rw [h0, Nat.add_zero] at hcell0
  have HC0 := Aside0.mk hcell0
  have hi0 : (0 : Int) < ↑ws.length := by omega
  have hj0 : 0 < ws.length := by omega
  have hcc : (ws.length : Int) ≤ ↑c := by omega
  have hg : (2 : Int) < ↑ws.length := by omega
  have HOF : Aside0 (∀ w', Calls Tryz.prog 24 #[.int .i64 used, .string (⟨#[69, 82, 82, 79, 82]⟩ : ByteArray)] w' (StepR (fun k => k ≠ w.heap.size ∧ (k < w.heap.size → F k)) w' R)) := ⟨fun w' => hR ▸ rfault_calls used _ _ w' (by decide)⟩
  clear hC h0 hln hs hcell0 hR hn
  go_enter Tryz.func31, Tryz.ntmps31
  have kw0 : w.cell? ⟨b, o, none⟩ = some (.string v0) := HC0.out
  go_upto_region 2 with fail
  obtain ⟨W0, hW0⟩ : ∃ W0, (w.alloc (.cells zStepC 34 (0, 0))).alloc (.cells #[.int .i64 1, .string v0, .int .i64 0, .int .u32 0, .bool quiet, .bool false, .string ⟨#[]⟩, .slice none 0 0, .slice none 0 0, .bool false] 29 (0, 0)) = W0 := ⟨_, rfl⟩
  have hW2 := hW0
  unfold zStepC at hW2
  rw [hW2]
  have BF := Aside0.mk (show W0.heap[w.heap.size + 1]? = _ from hW0 ▸ blk_at_new _ _ _ (by simp))
  have BR := Aside0.mk (show W0.heap[w.heap.size]? = _ from hW0 ▸ blk_alloc (blk_at_new _ _ _ rfl) _)
  have HBn : Aside0 (Below w.heap.size w W0) := ⟨hW0 ▸ (by repeat (first | (with_reducible first | exact HB.out | apply below_alloc | apply pw_below_drewN | apply below_drew1) | exact HB.out))⟩
  clear HB hW0 hW2 kw0
  have HB := HBn
  clear HBn
  have k0 : W0.cell? ⟨b, o, none⟩ = some (.string v0) := (Below.cell HB.out (p := ⟨b, o, none⟩) hb0).trans HC0.out
  subst hv0
  go_wp2_with (first | (go_at_call 24; (with_reducible refine (HOF.out _).mono ?_); rintro e w1 ⟨⟨cs, rfl, hk⟩, hb⟩; have BK := Aside0.mk (blk_below (BR.out) hb); have GLT := Aside0.mk (blk_lt (BR.out)); have HBn := Aside0.mk (below_step (by repeat (first | (with_reducible first | exact HB.out | apply below_alloc | apply pw_below_drewN | apply below_drew1) | exact HB.out)) hb); clear HB; have HB := HBn; clear HBn; have HK := Aside0.mk hk; clear hb hk) | (refine wpList_store_K HK.out.now rfl 34 _ _ rfl w.heap.size rfl rfl 34 _ BK.out (by kernel_rfl) rfl ?_; intro w8 hbk hlow hfar; have HK2 := Aside0.mk (hfar _ _ (fun h => (h GLT.out).1 rfl) HK.out); clear BK; have BK := Aside0.mk hbk; have HL := Aside0.mk hlow; clear hbk hlow hfar))
  (try simp only [Exit.inBlock, Exit.then]); refine bodyPost_ret (results_cell_row rfl _ _ w.heap.size 34 _ (0, 0) _ rfl BK.out Tryz.underlying34 rfl (by rw [List.size_toArray, kStep.K_len HK.out.now]; kernel_rfl)) rfl ?_; exact ⟨⟨_, rfl, HK2.out.mono (fun k hk h3 => (hk (Nat.lt_of_lt_of_le h3 (Nat.le_of_lt (Nat.lt_of_le_of_lt (Nat.le_refl _) GLT.out)))).2 h3)⟩, HB.out.trans (HL.out _ (Nat.le_refl _))⟩
set_option maxRecDepth 100000 in
set_option maxHeartbeats 1000000 in
theorem ro_delete_no (ws : List ByteArray) (A : Option Addr) (c : Nat) (quiet : Bool) (used : Int) (F : Nat → Prop) (w : World) (hC : HolF F w (fun w2 => Kd.string.C w2 A ws.length ws)) (hc : ws.length ≤ c) (hs : ∀ k ∈ ws, k.size ≤ 1000000) (h0 : ws.getD 0 ⟨#[]⟩ = (⟨#[100, 101, 108, 101, 116, 101]⟩ : ByteArray)) (hn : ws.length ≠ 2) (hn0 : 0 < ws.length) :
    Calls Tryz.prog 31 #[.slice A ws.length c, .bool quiet, .int .i64 used] w (StepR F w (stepF used (⟨#[69, 82, 82, 79, 82]⟩ : ByteArray))) := by
  obtain ⟨R, hR⟩ : ∃ R, (stepF used (⟨#[69, 82, 82, 79, 82]⟩ : ByteArray)) = R := ⟨_, rfl⟩
  rw [hR]
  have HB := Aside0.mk (Below.refl w.heap.size w)
  have HCF := Aside0.mk hC
  obtain ⟨v0, hv0⟩ : ∃ v0, ((⟨#[100, 101, 108, 101, 116, 101]⟩ : ByteArray) : ByteArray) = v0 := ⟨_, rfl⟩
  rw [hv0] at h0
  have hln : 0 < ws.length := hn0
  obtain ⟨b, o, rfl, hb0, hcell0⟩ := S_cell hC.now 0 (by omega)
  rw [h0, Nat.add_zero] at hcell0
  have HC0 := Aside0.mk hcell0
  have hi0 : (0 : Int) < ↑ws.length := by omega
  have hj0 : 0 < ws.length := by omega
  have hcc : (ws.length : Int) ≤ ↑c := by omega
  have hg : ((ws.length : Int) != 2) = true := by simp; omega
  have HOF : Aside0 (∀ w', Calls Tryz.prog 24 #[.int .i64 used, .string (⟨#[69, 82, 82, 79, 82]⟩ : ByteArray)] w' (StepR (fun k => k ≠ w.heap.size ∧ (k < w.heap.size → F k)) w' R)) := ⟨fun w' => hR ▸ rfault_calls used _ _ w' (by decide)⟩
  clear hC h0 hln hs hcell0 hR hn
  go_enter Tryz.func31, Tryz.ntmps31
  have kw0 : w.cell? ⟨b, o, none⟩ = some (.string v0) := HC0.out
  go_upto_region 2 with fail
  obtain ⟨W0, hW0⟩ : ∃ W0, (w.alloc (.cells zStepC 34 (0, 0))).alloc (.cells #[.int .i64 1, .string v0, .int .i64 0, .int .u32 0, .bool quiet, .bool false, .string ⟨#[]⟩, .slice none 0 0, .slice none 0 0, .bool false] 29 (0, 0)) = W0 := ⟨_, rfl⟩
  have hW2 := hW0
  unfold zStepC at hW2
  rw [hW2]
  have BF := Aside0.mk (show W0.heap[w.heap.size + 1]? = _ from hW0 ▸ blk_at_new _ _ _ (by simp))
  have BR := Aside0.mk (show W0.heap[w.heap.size]? = _ from hW0 ▸ blk_alloc (blk_at_new _ _ _ rfl) _)
  have HBn : Aside0 (Below w.heap.size w W0) := ⟨hW0 ▸ (by repeat (first | (with_reducible first | exact HB.out | apply below_alloc | apply pw_below_drewN | apply below_drew1) | exact HB.out))⟩
  clear HB hW0 hW2 kw0
  have HB := HBn
  clear HBn
  have k0 : W0.cell? ⟨b, o, none⟩ = some (.string v0) := (Below.cell HB.out (p := ⟨b, o, none⟩) hb0).trans HC0.out
  subst hv0
  go_wp2_with (first | (go_at_call 24; (with_reducible refine (HOF.out _).mono ?_); rintro e w1 ⟨⟨cs, rfl, hk⟩, hb⟩; have BK := Aside0.mk (blk_below (BR.out) hb); have GLT := Aside0.mk (blk_lt (BR.out)); have HBn := Aside0.mk (below_step (by repeat (first | (with_reducible first | exact HB.out | apply below_alloc | apply pw_below_drewN | apply below_drew1) | exact HB.out)) hb); clear HB; have HB := HBn; clear HBn; have HK := Aside0.mk hk; clear hb hk) | (refine wpList_store_K HK.out.now rfl 34 _ _ rfl w.heap.size rfl rfl 34 _ BK.out (by kernel_rfl) rfl ?_; intro w8 hbk hlow hfar; have HK2 := Aside0.mk (hfar _ _ (fun h => (h GLT.out).1 rfl) HK.out); clear BK; have BK := Aside0.mk hbk; have HL := Aside0.mk hlow; clear hbk hlow hfar))
  (try simp only [Exit.inBlock, Exit.then]); refine bodyPost_ret (results_cell_row rfl _ _ w.heap.size 34 _ (0, 0) _ rfl BK.out Tryz.underlying34 rfl (by rw [List.size_toArray, kStep.K_len HK.out.now]; kernel_rfl)) rfl ?_; exact ⟨⟨_, rfl, HK2.out.mono (fun k hk h3 => (hk (Nat.lt_of_lt_of_le h3 (Nat.le_of_lt (Nat.lt_of_le_of_lt (Nat.le_refl _) GLT.out)))).2 h3)⟩, HB.out.trans (HL.out _ (Nat.le_refl _))⟩
set_option maxRecDepth 100000 in
set_option maxHeartbeats 1000000 in
theorem ro_touch_no (ws : List ByteArray) (A : Option Addr) (c : Nat) (quiet : Bool) (used : Int) (F : Nat → Prop) (w : World) (hC : HolF F w (fun w2 => Kd.string.C w2 A ws.length ws)) (hc : ws.length ≤ c) (hs : ∀ k ∈ ws, k.size ≤ 1000000) (h0 : ws.getD 0 ⟨#[]⟩ = (⟨#[116, 111, 117, 99, 104]⟩ : ByteArray)) (hn : ws.length ≠ 3) (hn0 : 0 < ws.length) :
    Calls Tryz.prog 31 #[.slice A ws.length c, .bool quiet, .int .i64 used] w (StepR F w (stepF used (⟨#[69, 82, 82, 79, 82]⟩ : ByteArray))) := by
  obtain ⟨R, hR⟩ : ∃ R, (stepF used (⟨#[69, 82, 82, 79, 82]⟩ : ByteArray)) = R := ⟨_, rfl⟩
  rw [hR]
  have HB := Aside0.mk (Below.refl w.heap.size w)
  have HCF := Aside0.mk hC
  obtain ⟨v0, hv0⟩ : ∃ v0, ((⟨#[116, 111, 117, 99, 104]⟩ : ByteArray) : ByteArray) = v0 := ⟨_, rfl⟩
  rw [hv0] at h0
  have hln : 0 < ws.length := hn0
  obtain ⟨b, o, rfl, hb0, hcell0⟩ := S_cell hC.now 0 (by omega)
  rw [h0, Nat.add_zero] at hcell0
  have HC0 := Aside0.mk hcell0
  have hi0 : (0 : Int) < ↑ws.length := by omega
  have hj0 : 0 < ws.length := by omega
  have hcc : (ws.length : Int) ≤ ↑c := by omega
  have hg : ((ws.length : Int) != 3) = true := by simp; omega
  have HOF : Aside0 (∀ w', Calls Tryz.prog 24 #[.int .i64 used, .string (⟨#[69, 82, 82, 79, 82]⟩ : ByteArray)] w' (StepR (fun k => k ≠ w.heap.size ∧ (k < w.heap.size → F k)) w' R)) := ⟨fun w' => hR ▸ rfault_calls used _ _ w' (by decide)⟩
  clear hC h0 hln hs hcell0 hR hn
  go_enter Tryz.func31, Tryz.ntmps31
  have kw0 : w.cell? ⟨b, o, none⟩ = some (.string v0) := HC0.out
  go_upto_region 2 with fail
  obtain ⟨W0, hW0⟩ : ∃ W0, (w.alloc (.cells zStepC 34 (0, 0))).alloc (.cells #[.int .i64 1, .string v0, .int .i64 0, .int .u32 0, .bool quiet, .bool false, .string ⟨#[]⟩, .slice none 0 0, .slice none 0 0, .bool false] 29 (0, 0)) = W0 := ⟨_, rfl⟩
  have hW2 := hW0
  unfold zStepC at hW2
  rw [hW2]
  have BF := Aside0.mk (show W0.heap[w.heap.size + 1]? = _ from hW0 ▸ blk_at_new _ _ _ (by simp))
  have BR := Aside0.mk (show W0.heap[w.heap.size]? = _ from hW0 ▸ blk_alloc (blk_at_new _ _ _ rfl) _)
  have HBn : Aside0 (Below w.heap.size w W0) := ⟨hW0 ▸ (by repeat (first | (with_reducible first | exact HB.out | apply below_alloc | apply pw_below_drewN | apply below_drew1) | exact HB.out))⟩
  clear HB hW0 hW2 kw0
  have HB := HBn
  clear HBn
  have k0 : W0.cell? ⟨b, o, none⟩ = some (.string v0) := (Below.cell HB.out (p := ⟨b, o, none⟩) hb0).trans HC0.out
  subst hv0
  go_wp2_with (first | (go_at_call 24; (with_reducible refine (HOF.out _).mono ?_); rintro e w1 ⟨⟨cs, rfl, hk⟩, hb⟩; have BK := Aside0.mk (blk_below (BR.out) hb); have GLT := Aside0.mk (blk_lt (BR.out)); have HBn := Aside0.mk (below_step (by repeat (first | (with_reducible first | exact HB.out | apply below_alloc | apply pw_below_drewN | apply below_drew1) | exact HB.out)) hb); clear HB; have HB := HBn; clear HBn; have HK := Aside0.mk hk; clear hb hk) | (refine wpList_store_K HK.out.now rfl 34 _ _ rfl w.heap.size rfl rfl 34 _ BK.out (by kernel_rfl) rfl ?_; intro w8 hbk hlow hfar; have HK2 := Aside0.mk (hfar _ _ (fun h => (h GLT.out).1 rfl) HK.out); clear BK; have BK := Aside0.mk hbk; have HL := Aside0.mk hlow; clear hbk hlow hfar))
  (try simp only [Exit.inBlock, Exit.then]); refine bodyPost_ret (results_cell_row rfl _ _ w.heap.size 34 _ (0, 0) _ rfl BK.out Tryz.underlying34 rfl (by rw [List.size_toArray, kStep.K_len HK.out.now]; kernel_rfl)) rfl ?_; exact ⟨⟨_, rfl, HK2.out.mono (fun k hk h3 => (hk (Nat.lt_of_lt_of_le h3 (Nat.le_of_lt (Nat.lt_of_le_of_lt (Nat.le_refl _) GLT.out)))).2 h3)⟩, HB.out.trans (HL.out _ (Nat.le_refl _))⟩
set_option maxRecDepth 100000 in
set_option maxHeartbeats 1000000 in
theorem ro_incr_no (ws : List ByteArray) (A : Option Addr) (c : Nat) (quiet : Bool) (used : Int) (F : Nat → Prop) (w : World) (hC : HolF F w (fun w2 => Kd.string.C w2 A ws.length ws)) (hc : ws.length ≤ c) (hs : ∀ k ∈ ws, k.size ≤ 1000000) (h0 : ws.getD 0 ⟨#[]⟩ = (⟨#[105, 110, 99, 114]⟩ : ByteArray)) (hn : ws.length ≠ 3) (hn0 : 0 < ws.length) :
    Calls Tryz.prog 31 #[.slice A ws.length c, .bool quiet, .int .i64 used] w (StepR F w (stepF used (⟨#[69, 82, 82, 79, 82]⟩ : ByteArray))) := by
  obtain ⟨R, hR⟩ : ∃ R, (stepF used (⟨#[69, 82, 82, 79, 82]⟩ : ByteArray)) = R := ⟨_, rfl⟩
  rw [hR]
  have HB := Aside0.mk (Below.refl w.heap.size w)
  have HCF := Aside0.mk hC
  obtain ⟨v0, hv0⟩ : ∃ v0, ((⟨#[105, 110, 99, 114]⟩ : ByteArray) : ByteArray) = v0 := ⟨_, rfl⟩
  rw [hv0] at h0
  have hln : 0 < ws.length := hn0
  obtain ⟨b, o, rfl, hb0, hcell0⟩ := S_cell hC.now 0 (by omega)
  rw [h0, Nat.add_zero] at hcell0
  have HC0 := Aside0.mk hcell0
  have hi0 : (0 : Int) < ↑ws.length := by omega
  have hj0 : 0 < ws.length := by omega
  have hcc : (ws.length : Int) ≤ ↑c := by omega
  have hg : ((ws.length : Int) != 3) = true := by simp; omega
  have HOF : Aside0 (∀ w', Calls Tryz.prog 24 #[.int .i64 used, .string (⟨#[69, 82, 82, 79, 82]⟩ : ByteArray)] w' (StepR (fun k => k ≠ w.heap.size ∧ (k < w.heap.size → F k)) w' R)) := ⟨fun w' => hR ▸ rfault_calls used _ _ w' (by decide)⟩
  clear hC h0 hln hs hcell0 hR hn
  go_enter Tryz.func31, Tryz.ntmps31
  have kw0 : w.cell? ⟨b, o, none⟩ = some (.string v0) := HC0.out
  go_upto_region 2 with fail
  obtain ⟨W0, hW0⟩ : ∃ W0, (w.alloc (.cells zStepC 34 (0, 0))).alloc (.cells #[.int .i64 1, .string v0, .int .i64 0, .int .u32 0, .bool quiet, .bool false, .string ⟨#[]⟩, .slice none 0 0, .slice none 0 0, .bool false] 29 (0, 0)) = W0 := ⟨_, rfl⟩
  have hW2 := hW0
  unfold zStepC at hW2
  rw [hW2]
  have BF := Aside0.mk (show W0.heap[w.heap.size + 1]? = _ from hW0 ▸ blk_at_new _ _ _ (by simp))
  have BR := Aside0.mk (show W0.heap[w.heap.size]? = _ from hW0 ▸ blk_alloc (blk_at_new _ _ _ rfl) _)
  have HBn : Aside0 (Below w.heap.size w W0) := ⟨hW0 ▸ (by repeat (first | (with_reducible first | exact HB.out | apply below_alloc | apply pw_below_drewN | apply below_drew1) | exact HB.out))⟩
  clear HB hW0 hW2 kw0
  have HB := HBn
  clear HBn
  have k0 : W0.cell? ⟨b, o, none⟩ = some (.string v0) := (Below.cell HB.out (p := ⟨b, o, none⟩) hb0).trans HC0.out
  subst hv0
  go_wp2_with (first | (go_at_call 24; (with_reducible refine (HOF.out _).mono ?_); rintro e w1 ⟨⟨cs, rfl, hk⟩, hb⟩; have BK := Aside0.mk (blk_below (BR.out) hb); have GLT := Aside0.mk (blk_lt (BR.out)); have HBn := Aside0.mk (below_step (by repeat (first | (with_reducible first | exact HB.out | apply below_alloc | apply pw_below_drewN | apply below_drew1) | exact HB.out)) hb); clear HB; have HB := HBn; clear HBn; have HK := Aside0.mk hk; clear hb hk) | (refine wpList_store_K HK.out.now rfl 34 _ _ rfl w.heap.size rfl rfl 34 _ BK.out (by kernel_rfl) rfl ?_; intro w8 hbk hlow hfar; have HK2 := Aside0.mk (hfar _ _ (fun h => (h GLT.out).1 rfl) HK.out); clear BK; have BK := Aside0.mk hbk; have HL := Aside0.mk hlow; clear hbk hlow hfar))
  (try simp only [Exit.inBlock, Exit.then]); refine bodyPost_ret (results_cell_row rfl _ _ w.heap.size 34 _ (0, 0) _ rfl BK.out Tryz.underlying34 rfl (by rw [List.size_toArray, kStep.K_len HK.out.now]; kernel_rfl)) rfl ?_; exact ⟨⟨_, rfl, HK2.out.mono (fun k hk h3 => (hk (Nat.lt_of_lt_of_le h3 (Nat.le_of_lt (Nat.lt_of_le_of_lt (Nat.le_refl _) GLT.out)))).2 h3)⟩, HB.out.trans (HL.out _ (Nat.le_refl _))⟩
set_option maxRecDepth 100000 in
set_option maxHeartbeats 1000000 in
theorem ro_decr_no (ws : List ByteArray) (A : Option Addr) (c : Nat) (quiet : Bool) (used : Int) (F : Nat → Prop) (w : World) (hC : HolF F w (fun w2 => Kd.string.C w2 A ws.length ws)) (hc : ws.length ≤ c) (hs : ∀ k ∈ ws, k.size ≤ 1000000) (h0 : ws.getD 0 ⟨#[]⟩ = (⟨#[100, 101, 99, 114]⟩ : ByteArray)) (hn : ws.length ≠ 3) (hn0 : 0 < ws.length) :
    Calls Tryz.prog 31 #[.slice A ws.length c, .bool quiet, .int .i64 used] w (StepR F w (stepF used (⟨#[69, 82, 82, 79, 82]⟩ : ByteArray))) := by
  obtain ⟨R, hR⟩ : ∃ R, (stepF used (⟨#[69, 82, 82, 79, 82]⟩ : ByteArray)) = R := ⟨_, rfl⟩
  rw [hR]
  have HB := Aside0.mk (Below.refl w.heap.size w)
  have HCF := Aside0.mk hC
  obtain ⟨v0, hv0⟩ : ∃ v0, ((⟨#[100, 101, 99, 114]⟩ : ByteArray) : ByteArray) = v0 := ⟨_, rfl⟩
  rw [hv0] at h0
  have hln : 0 < ws.length := hn0
  obtain ⟨b, o, rfl, hb0, hcell0⟩ := S_cell hC.now 0 (by omega)
  rw [h0, Nat.add_zero] at hcell0
  have HC0 := Aside0.mk hcell0
  have hi0 : (0 : Int) < ↑ws.length := by omega
  have hj0 : 0 < ws.length := by omega
  have hcc : (ws.length : Int) ≤ ↑c := by omega
  have hg : ((ws.length : Int) != 3) = true := by simp; omega
  have HOF : Aside0 (∀ w', Calls Tryz.prog 24 #[.int .i64 used, .string (⟨#[69, 82, 82, 79, 82]⟩ : ByteArray)] w' (StepR (fun k => k ≠ w.heap.size ∧ (k < w.heap.size → F k)) w' R)) := ⟨fun w' => hR ▸ rfault_calls used _ _ w' (by decide)⟩
  clear hC h0 hln hs hcell0 hR hn
  go_enter Tryz.func31, Tryz.ntmps31
  have kw0 : w.cell? ⟨b, o, none⟩ = some (.string v0) := HC0.out
  go_upto_region 2 with fail
  obtain ⟨W0, hW0⟩ : ∃ W0, (w.alloc (.cells zStepC 34 (0, 0))).alloc (.cells #[.int .i64 1, .string v0, .int .i64 0, .int .u32 0, .bool quiet, .bool false, .string ⟨#[]⟩, .slice none 0 0, .slice none 0 0, .bool false] 29 (0, 0)) = W0 := ⟨_, rfl⟩
  have hW2 := hW0
  unfold zStepC at hW2
  rw [hW2]
  have BF := Aside0.mk (show W0.heap[w.heap.size + 1]? = _ from hW0 ▸ blk_at_new _ _ _ (by simp))
  have BR := Aside0.mk (show W0.heap[w.heap.size]? = _ from hW0 ▸ blk_alloc (blk_at_new _ _ _ rfl) _)
  have HBn : Aside0 (Below w.heap.size w W0) := ⟨hW0 ▸ (by repeat (first | (with_reducible first | exact HB.out | apply below_alloc | apply pw_below_drewN | apply below_drew1) | exact HB.out))⟩
  clear HB hW0 hW2 kw0
  have HB := HBn
  clear HBn
  have k0 : W0.cell? ⟨b, o, none⟩ = some (.string v0) := (Below.cell HB.out (p := ⟨b, o, none⟩) hb0).trans HC0.out
  subst hv0
  go_wp2_with (first | (go_at_call 24; (with_reducible refine (HOF.out _).mono ?_); rintro e w1 ⟨⟨cs, rfl, hk⟩, hb⟩; have BK := Aside0.mk (blk_below (BR.out) hb); have GLT := Aside0.mk (blk_lt (BR.out)); have HBn := Aside0.mk (below_step (by repeat (first | (with_reducible first | exact HB.out | apply below_alloc | apply pw_below_drewN | apply below_drew1) | exact HB.out)) hb); clear HB; have HB := HBn; clear HBn; have HK := Aside0.mk hk; clear hb hk) | (refine wpList_store_K HK.out.now rfl 34 _ _ rfl w.heap.size rfl rfl 34 _ BK.out (by kernel_rfl) rfl ?_; intro w8 hbk hlow hfar; have HK2 := Aside0.mk (hfar _ _ (fun h => (h GLT.out).1 rfl) HK.out); clear BK; have BK := Aside0.mk hbk; have HL := Aside0.mk hlow; clear hbk hlow hfar))
  (try simp only [Exit.inBlock, Exit.then]); refine bodyPost_ret (results_cell_row rfl _ _ w.heap.size 34 _ (0, 0) _ rfl BK.out Tryz.underlying34 rfl (by rw [List.size_toArray, kStep.K_len HK.out.now]; kernel_rfl)) rfl ?_; exact ⟨⟨_, rfl, HK2.out.mono (fun k hk h3 => (hk (Nat.lt_of_lt_of_le h3 (Nat.le_of_lt (Nat.lt_of_le_of_lt (Nat.le_refl _) GLT.out)))).2 h3)⟩, HB.out.trans (HL.out _ (Nat.le_refl _))⟩
set_option maxRecDepth 100000 in
set_option maxHeartbeats 1000000 in
theorem ro_delete_key (ws : List ByteArray) (A : Option Addr) (c : Nat) (quiet : Bool) (used : Int) (F : Nat → Prop) (w : World) (hC : HolF F w (fun w2 => Kd.string.C w2 A ws.length ws)) (hc : ws.length ≤ c) (hs : ∀ k ∈ ws, k.size ≤ 1000000) (h0 : ws.getD 0 ⟨#[]⟩ = (⟨#[100, 101, 108, 101, 116, 101]⟩ : ByteArray)) (v1 : ByteArray) (h1 : ws.getD 1 ⟨#[]⟩ = v1) (hn : ws.length = 2) (hk : keyS v1 = false) :
    Calls Tryz.prog 31 #[.slice A ws.length c, .bool quiet, .int .i64 used] w (StepR F w (stepF used badT)) := by
  obtain ⟨R, hR⟩ : ∃ R, (stepF used badT) = R := ⟨_, rfl⟩
  rw [hR]
  have HB := Aside0.mk (Below.refl w.heap.size w)
  have HCF := Aside0.mk hC
  obtain ⟨v0, hv0⟩ : ∃ v0, ((⟨#[100, 101, 108, 101, 116, 101]⟩ : ByteArray) : ByteArray) = v0 := ⟨_, rfl⟩
  rw [hv0] at h0
  have hln : 1 < ws.length := by omega
  obtain ⟨b, o, rfl, hb0, hcell0⟩ := S_cell hC.now 0 (by omega)
  rw [h0, Nat.add_zero] at hcell0
  have HC0 := Aside0.mk hcell0
  have HC1 : Aside0 (w.cell? ⟨b, o + 1, none⟩ = some (.string v1)) := by
    obtain ⟨b', o', e', -, h⟩ := S_cell hC.now 1 (by omega)
    obtain ⟨rfl, rfl⟩ : b = b' ∧ o = o' := by simpa using e'
    rw [h1] at h
    exact ⟨h⟩
  have hs1 : v1.size ≤ 1000000 := by
    rw [← h1, List.getD_eq_getElem?_getD, List.getElem?_eq_getElem (by omega)]
    exact hs _ (List.getElem_mem _)
  have hi0 : (0 : Int) < ↑ws.length := by omega
  have hj0 : 0 < ws.length := by omega
  have hi1 : (1 : Int) < ↑ws.length := by omega
  have hj1 : 1 < ws.length := by omega
  have hcc : (ws.length : Int) ≤ ↑c := by omega
  have hg : ((ws.length : Int) != 2) = false := by simp; omega
  have hc1 : ¬ (c = 1) := by omega
  have hc2 : (2 : Int) ≤ ↑c := by omega
  have hc3 : (2 : Int) ≤ ↑ws.length := by omega
  have HKY := Aside0.mk (fun w => rkey_calls v1 w hs1)
  rw [hk] at HKY
  have HBD : Aside0 (∀ w', Calls Tryz.prog 53 #[] w' fun e w'' => e = .returned (.string (⟨#[67, 76, 73, 69, 78, 84, 95, 69, 82, 82, 79, 82, 32, 98, 97, 100, 32, 99, 111, 109, 109, 97, 110, 100, 32, 108, 105, 110, 101, 32, 102, 111, 114, 109, 97, 116]⟩ : ByteArray)) ∧ Below w'.heap.size w' w'') := ⟨fun w' => bad_calls w'⟩
  have HOF : Aside0 (∀ w', Calls Tryz.prog 24 #[.int .i64 used, .string (⟨#[67, 76, 73, 69, 78, 84, 95, 69, 82, 82, 79, 82, 32, 98, 97, 100, 32, 99, 111, 109, 109, 97, 110, 100, 32, 108, 105, 110, 101, 32, 102, 111, 114, 109, 97, 116]⟩ : ByteArray)] w' (StepR (fun k => k ≠ w.heap.size ∧ (k < w.heap.size → F k)) w' R)) := ⟨fun w' => hR ▸ rfault_calls used _ _ w' (by decide)⟩
  clear hC h0 hln hs hcell0 hR hn hk h1 hs1
  go_enter Tryz.func31, Tryz.ntmps31
  have kw0 : w.cell? ⟨b, o, none⟩ = some (.string v0) := HC0.out
  go_upto_region 2 with fail
  obtain ⟨W0, hW0⟩ : ∃ W0, (w.alloc (.cells zStepC 34 (0, 0))).alloc (.cells #[.int .i64 1, .string v0, .int .i64 0, .int .u32 0, .bool quiet, .bool false, .string ⟨#[]⟩, .slice none 0 0, .slice none 0 0, .bool false] 29 (0, 0)) = W0 := ⟨_, rfl⟩
  have hW2 := hW0
  unfold zStepC at hW2
  rw [hW2]
  have BF := Aside0.mk (show W0.heap[w.heap.size + 1]? = _ from hW0 ▸ blk_at_new _ _ _ (by simp))
  have BR := Aside0.mk (show W0.heap[w.heap.size]? = _ from hW0 ▸ blk_alloc (blk_at_new _ _ _ rfl) _)
  have HBn : Aside0 (Below w.heap.size w W0) := ⟨hW0 ▸ (by repeat (first | (with_reducible first | exact HB.out | apply below_alloc | apply pw_below_drewN | apply below_drew1) | exact HB.out))⟩
  clear HB hW0 hW2 kw0
  have HB := HBn
  clear HBn
  have k0 : W0.cell? ⟨b, o, none⟩ = some (.string v0) := (Below.cell HB.out (p := ⟨b, o, none⟩) hb0).trans HC0.out
  have k1 : W0.cell? ⟨b, o + 1, none⟩ = some (.string v1) := (Below.cell HB.out (p := ⟨b, o + 1, none⟩) hb0).trans HC1.out
  subst hv0
  go_wp2_with (first | (refine wpList_store_1 rfl 27 _ _ rfl (w.heap.size + 1) 8 (.slice (some ⟨b, o + 1, none⟩) 1 (c - 1)) rfl rfl rfl 29 _ #[.int .i64 1, .string (⟨#[100, 101, 108, 101, 116, 101]⟩ : ByteArray), .int .i64 0, .int .u32 0, .bool quiet, .bool false, .string ⟨#[]⟩, .slice none 0 0, .slice (some ⟨b, o + 1, none⟩) 1 (c - 1), .bool false] BF.out (by simp) (by kernel_rfl) rfl ?_; intro W1 hbk hst; have BFn := Aside0.mk hbk; have BRn := Aside0.mk (hst.blk BR.out (by omega)); have HBn := Aside0.mk (hst.up HB.out (by omega)); clear BF BR HB k0 k1 hbk hst; have BF := BFn; have BR := BRn; have HB := HBn; clear BFn BRn HBn; have k0 : W1.cell? ⟨b, o, none⟩ = some _ := (Below.cell HB.out (p := ⟨b, o, none⟩) hb0).trans HC0.out; have k1 : W1.cell? ⟨b, o + 1, none⟩ = some (.string v1) := (Below.cell HB.out (p := ⟨b, o + 1, none⟩) hb0).trans HC1.out) | (go_at_call 32; (with_reducible refine (HKY.out _).mono ?_); rintro e w2 ⟨rfl, hb⟩; have BFn := Aside0.mk (blk_below BF.out hb); have BRn := Aside0.mk (blk_below BR.out hb); clear BF BR k0 k1; have BF := BFn; have BR := BRn; clear BFn BRn; have HBn := Aside0.mk (below_step (by repeat (first | (with_reducible first | exact HB.out | apply below_alloc | apply pw_below_drewN | apply below_drew1) | exact HB.out)) hb); clear HB; have HB := HBn; clear HBn; clear hb; have k0 : w2.cell? ⟨b, o, none⟩ = some _ := (Below.cell HB.out (p := ⟨b, o, none⟩) hb0).trans HC0.out; have k1 : w2.cell? ⟨b, o + 1, none⟩ = some (.string v1) := (Below.cell HB.out (p := ⟨b, o + 1, none⟩) hb0).trans HC1.out) | (go_at_call 53; (with_reducible refine (HBD.out _).mono ?_); rintro e w2 ⟨rfl, hb⟩; have BFn := Aside0.mk (blk_below BF.out hb); have BRn := Aside0.mk (blk_below BR.out hb); clear BF BR k0 k1; have BF := BFn; have BR := BRn; clear BFn BRn; have HBn := Aside0.mk (below_step (by repeat (first | (with_reducible first | exact HB.out | apply below_alloc | apply pw_below_drewN | apply below_drew1) | exact HB.out)) hb); clear HB; have HB := HBn; clear HBn; clear hb; have k0 : w2.cell? ⟨b, o, none⟩ = some _ := (Below.cell HB.out (p := ⟨b, o, none⟩) hb0).trans HC0.out; have k1 : w2.cell? ⟨b, o + 1, none⟩ = some (.string v1) := (Below.cell HB.out (p := ⟨b, o + 1, none⟩) hb0).trans HC1.out) | (go_at_call 24; (with_reducible refine (HOF.out _).mono ?_); rintro e w1 ⟨⟨cs, rfl, hk⟩, hb⟩; have BK := Aside0.mk (blk_below (BR.out) hb); have GLT := Aside0.mk (blk_lt (BR.out)); have HBn := Aside0.mk (below_step (by repeat (first | (with_reducible first | exact HB.out | apply below_alloc | apply pw_below_drewN | apply below_drew1) | exact HB.out)) hb); clear HB; have HB := HBn; clear HBn; have HK := Aside0.mk hk; clear hb hk) | (refine wpList_store_K HK.out.now rfl 34 _ _ rfl w.heap.size rfl rfl 34 _ BK.out (by kernel_rfl) rfl ?_; intro w8 hbk hlow hfar; have HK2 := Aside0.mk (hfar _ _ (fun h => (h GLT.out).1 rfl) HK.out); clear BK; have BK := Aside0.mk hbk; have HL := Aside0.mk hlow; clear hbk hlow hfar))
  (try simp only [Exit.inBlock, Exit.then]); refine bodyPost_ret (results_cell_row rfl _ _ w.heap.size 34 _ (0, 0) _ rfl BK.out Tryz.underlying34 rfl (by rw [List.size_toArray, kStep.K_len HK.out.now]; kernel_rfl)) rfl ?_; exact ⟨⟨_, rfl, HK2.out.mono (fun k hk h3 => (hk (Nat.lt_of_lt_of_le h3 (Nat.le_of_lt (Nat.lt_of_le_of_lt (Nat.le_refl _) GLT.out)))).2 h3)⟩, HB.out.trans (HL.out _ (Nat.le_refl _))⟩
set_option maxRecDepth 100000 in
set_option maxHeartbeats 1000000 in
theorem ro_touch_key (ws : List ByteArray) (A : Option Addr) (c : Nat) (quiet : Bool) (used : Int) (F : Nat → Prop) (w : World) (hC : HolF F w (fun w2 => Kd.string.C w2 A ws.length ws)) (hc : ws.length ≤ c) (hs : ∀ k ∈ ws, k.size ≤ 1000000) (h0 : ws.getD 0 ⟨#[]⟩ = (⟨#[116, 111, 117, 99, 104]⟩ : ByteArray)) (v1 : ByteArray) (h1 : ws.getD 1 ⟨#[]⟩ = v1) (hn : ws.length = 3) (hk : keyS v1 = false) :
    Calls Tryz.prog 31 #[.slice A ws.length c, .bool quiet, .int .i64 used] w (StepR F w (stepF used badT)) := by
  obtain ⟨R, hR⟩ : ∃ R, (stepF used badT) = R := ⟨_, rfl⟩
  rw [hR]
  have HB := Aside0.mk (Below.refl w.heap.size w)
  have HCF := Aside0.mk hC
  obtain ⟨v0, hv0⟩ : ∃ v0, ((⟨#[116, 111, 117, 99, 104]⟩ : ByteArray) : ByteArray) = v0 := ⟨_, rfl⟩
  rw [hv0] at h0
  have hln : 1 < ws.length := by omega
  obtain ⟨b, o, rfl, hb0, hcell0⟩ := S_cell hC.now 0 (by omega)
  rw [h0, Nat.add_zero] at hcell0
  have HC0 := Aside0.mk hcell0
  have HC1 : Aside0 (w.cell? ⟨b, o + 1, none⟩ = some (.string v1)) := by
    obtain ⟨b', o', e', -, h⟩ := S_cell hC.now 1 (by omega)
    obtain ⟨rfl, rfl⟩ : b = b' ∧ o = o' := by simpa using e'
    rw [h1] at h
    exact ⟨h⟩
  have hs1 : v1.size ≤ 1000000 := by
    rw [← h1, List.getD_eq_getElem?_getD, List.getElem?_eq_getElem (by omega)]
    exact hs _ (List.getElem_mem _)
  have hi0 : (0 : Int) < ↑ws.length := by omega
  have hj0 : 0 < ws.length := by omega
  have hi1 : (1 : Int) < ↑ws.length := by omega
  have hj1 : 1 < ws.length := by omega
  have hcc : (ws.length : Int) ≤ ↑c := by omega
  have hg : ((ws.length : Int) != 3) = false := by simp; omega
  have hc1 : ¬ (c = 1) := by omega
  have hc2 : (2 : Int) ≤ ↑c := by omega
  have hc3 : (2 : Int) ≤ ↑ws.length := by omega
  have HKY := Aside0.mk (fun w => rkey_calls v1 w hs1)
  rw [hk] at HKY
  have HBD : Aside0 (∀ w', Calls Tryz.prog 53 #[] w' fun e w'' => e = .returned (.string (⟨#[67, 76, 73, 69, 78, 84, 95, 69, 82, 82, 79, 82, 32, 98, 97, 100, 32, 99, 111, 109, 109, 97, 110, 100, 32, 108, 105, 110, 101, 32, 102, 111, 114, 109, 97, 116]⟩ : ByteArray)) ∧ Below w'.heap.size w' w'') := ⟨fun w' => bad_calls w'⟩
  have HOF : Aside0 (∀ w', Calls Tryz.prog 24 #[.int .i64 used, .string (⟨#[67, 76, 73, 69, 78, 84, 95, 69, 82, 82, 79, 82, 32, 98, 97, 100, 32, 99, 111, 109, 109, 97, 110, 100, 32, 108, 105, 110, 101, 32, 102, 111, 114, 109, 97, 116]⟩ : ByteArray)] w' (StepR (fun k => k ≠ w.heap.size ∧ (k < w.heap.size → F k)) w' R)) := ⟨fun w' => hR ▸ rfault_calls used _ _ w' (by decide)⟩
  clear hC h0 hln hs hcell0 hR hn hk h1 hs1
  go_enter Tryz.func31, Tryz.ntmps31
  have kw0 : w.cell? ⟨b, o, none⟩ = some (.string v0) := HC0.out
  go_upto_region 2 with fail
  obtain ⟨W0, hW0⟩ : ∃ W0, (w.alloc (.cells zStepC 34 (0, 0))).alloc (.cells #[.int .i64 1, .string v0, .int .i64 0, .int .u32 0, .bool quiet, .bool false, .string ⟨#[]⟩, .slice none 0 0, .slice none 0 0, .bool false] 29 (0, 0)) = W0 := ⟨_, rfl⟩
  have hW2 := hW0
  unfold zStepC at hW2
  rw [hW2]
  have BF := Aside0.mk (show W0.heap[w.heap.size + 1]? = _ from hW0 ▸ blk_at_new _ _ _ (by simp))
  have BR := Aside0.mk (show W0.heap[w.heap.size]? = _ from hW0 ▸ blk_alloc (blk_at_new _ _ _ rfl) _)
  have HBn : Aside0 (Below w.heap.size w W0) := ⟨hW0 ▸ (by repeat (first | (with_reducible first | exact HB.out | apply below_alloc | apply pw_below_drewN | apply below_drew1) | exact HB.out))⟩
  clear HB hW0 hW2 kw0
  have HB := HBn
  clear HBn
  have k0 : W0.cell? ⟨b, o, none⟩ = some (.string v0) := (Below.cell HB.out (p := ⟨b, o, none⟩) hb0).trans HC0.out
  have k1 : W0.cell? ⟨b, o + 1, none⟩ = some (.string v1) := (Below.cell HB.out (p := ⟨b, o + 1, none⟩) hb0).trans HC1.out
  subst hv0
  go_wp2_with (first | (refine wpList_store_1 rfl 27 _ _ rfl (w.heap.size + 1) 8 (.slice (some ⟨b, o + 1, none⟩) 1 (c - 1)) rfl rfl rfl 29 _ #[.int .i64 1, .string (⟨#[116, 111, 117, 99, 104]⟩ : ByteArray), .int .i64 0, .int .u32 0, .bool quiet, .bool false, .string ⟨#[]⟩, .slice none 0 0, .slice (some ⟨b, o + 1, none⟩) 1 (c - 1), .bool false] BF.out (by simp) (by kernel_rfl) rfl ?_; intro W1 hbk hst; have BFn := Aside0.mk hbk; have BRn := Aside0.mk (hst.blk BR.out (by omega)); have HBn := Aside0.mk (hst.up HB.out (by omega)); clear BF BR HB k0 k1 hbk hst; have BF := BFn; have BR := BRn; have HB := HBn; clear BFn BRn HBn; have k0 : W1.cell? ⟨b, o, none⟩ = some _ := (Below.cell HB.out (p := ⟨b, o, none⟩) hb0).trans HC0.out; have k1 : W1.cell? ⟨b, o + 1, none⟩ = some (.string v1) := (Below.cell HB.out (p := ⟨b, o + 1, none⟩) hb0).trans HC1.out) | (go_at_call 32; (with_reducible refine (HKY.out _).mono ?_); rintro e w2 ⟨rfl, hb⟩; have BFn := Aside0.mk (blk_below BF.out hb); have BRn := Aside0.mk (blk_below BR.out hb); clear BF BR k0 k1; have BF := BFn; have BR := BRn; clear BFn BRn; have HBn := Aside0.mk (below_step (by repeat (first | (with_reducible first | exact HB.out | apply below_alloc | apply pw_below_drewN | apply below_drew1) | exact HB.out)) hb); clear HB; have HB := HBn; clear HBn; clear hb; have k0 : w2.cell? ⟨b, o, none⟩ = some _ := (Below.cell HB.out (p := ⟨b, o, none⟩) hb0).trans HC0.out; have k1 : w2.cell? ⟨b, o + 1, none⟩ = some (.string v1) := (Below.cell HB.out (p := ⟨b, o + 1, none⟩) hb0).trans HC1.out) | (go_at_call 53; (with_reducible refine (HBD.out _).mono ?_); rintro e w2 ⟨rfl, hb⟩; have BFn := Aside0.mk (blk_below BF.out hb); have BRn := Aside0.mk (blk_below BR.out hb); clear BF BR k0 k1; have BF := BFn; have BR := BRn; clear BFn BRn; have HBn := Aside0.mk (below_step (by repeat (first | (with_reducible first | exact HB.out | apply below_alloc | apply pw_below_drewN | apply below_drew1) | exact HB.out)) hb); clear HB; have HB := HBn; clear HBn; clear hb; have k0 : w2.cell? ⟨b, o, none⟩ = some _ := (Below.cell HB.out (p := ⟨b, o, none⟩) hb0).trans HC0.out; have k1 : w2.cell? ⟨b, o + 1, none⟩ = some (.string v1) := (Below.cell HB.out (p := ⟨b, o + 1, none⟩) hb0).trans HC1.out) | (go_at_call 24; (with_reducible refine (HOF.out _).mono ?_); rintro e w1 ⟨⟨cs, rfl, hk⟩, hb⟩; have BK := Aside0.mk (blk_below (BR.out) hb); have GLT := Aside0.mk (blk_lt (BR.out)); have HBn := Aside0.mk (below_step (by repeat (first | (with_reducible first | exact HB.out | apply below_alloc | apply pw_below_drewN | apply below_drew1) | exact HB.out)) hb); clear HB; have HB := HBn; clear HBn; have HK := Aside0.mk hk; clear hb hk) | (refine wpList_store_K HK.out.now rfl 34 _ _ rfl w.heap.size rfl rfl 34 _ BK.out (by kernel_rfl) rfl ?_; intro w8 hbk hlow hfar; have HK2 := Aside0.mk (hfar _ _ (fun h => (h GLT.out).1 rfl) HK.out); clear BK; have BK := Aside0.mk hbk; have HL := Aside0.mk hlow; clear hbk hlow hfar))
  (try simp only [Exit.inBlock, Exit.then]); refine bodyPost_ret (results_cell_row rfl _ _ w.heap.size 34 _ (0, 0) _ rfl BK.out Tryz.underlying34 rfl (by rw [List.size_toArray, kStep.K_len HK.out.now]; kernel_rfl)) rfl ?_; exact ⟨⟨_, rfl, HK2.out.mono (fun k hk h3 => (hk (Nat.lt_of_lt_of_le h3 (Nat.le_of_lt (Nat.lt_of_le_of_lt (Nat.le_refl _) GLT.out)))).2 h3)⟩, HB.out.trans (HL.out _ (Nat.le_refl _))⟩
set_option maxRecDepth 100000 in
set_option maxHeartbeats 1000000 in
theorem ro_incr_key (ws : List ByteArray) (A : Option Addr) (c : Nat) (quiet : Bool) (used : Int) (F : Nat → Prop) (w : World) (hC : HolF F w (fun w2 => Kd.string.C w2 A ws.length ws)) (hc : ws.length ≤ c) (hs : ∀ k ∈ ws, k.size ≤ 1000000) (h0 : ws.getD 0 ⟨#[]⟩ = (⟨#[105, 110, 99, 114]⟩ : ByteArray)) (v1 : ByteArray) (h1 : ws.getD 1 ⟨#[]⟩ = v1) (hn : ws.length = 3) (hk : keyS v1 = false) :
    Calls Tryz.prog 31 #[.slice A ws.length c, .bool quiet, .int .i64 used] w (StepR F w (stepF used badT)) := by
  obtain ⟨R, hR⟩ : ∃ R, (stepF used badT) = R := ⟨_, rfl⟩
  rw [hR]
  have HB := Aside0.mk (Below.refl w.heap.size w)
  have HCF := Aside0.mk hC
  obtain ⟨v0, hv0⟩ : ∃ v0, ((⟨#[105, 110, 99, 114]⟩ : ByteArray) : ByteArray) = v0 := ⟨_, rfl⟩
  rw [hv0] at h0
  have hln : 1 < ws.length := by omega
  obtain ⟨b, o, rfl, hb0, hcell0⟩ := S_cell hC.now 0 (by omega)
  rw [h0, Nat.add_zero] at hcell0
  have HC0 := Aside0.mk hcell0
  have HC1 : Aside0 (w.cell? ⟨b, o + 1, none⟩ = some (.string v1)) := by
    obtain ⟨b', o', e', -, h⟩ := S_cell hC.now 1 (by omega)
    obtain ⟨rfl, rfl⟩ : b = b' ∧ o = o' := by simpa using e'
    rw [h1] at h
    exact ⟨h⟩
  have hs1 : v1.size ≤ 1000000 := by
    rw [← h1, List.getD_eq_getElem?_getD, List.getElem?_eq_getElem (by omega)]
    exact hs _ (List.getElem_mem _)
  have hi0 : (0 : Int) < ↑ws.length := by omega
  have hj0 : 0 < ws.length := by omega
  have hi1 : (1 : Int) < ↑ws.length := by omega
  have hj1 : 1 < ws.length := by omega
  have hcc : (ws.length : Int) ≤ ↑c := by omega
  have hg : ((ws.length : Int) != 3) = false := by simp; omega
  have hc1 : ¬ (c = 1) := by omega
  have hc2 : (2 : Int) ≤ ↑c := by omega
  have hc3 : (2 : Int) ≤ ↑ws.length := by omega
  have HKY := Aside0.mk (fun w => rkey_calls v1 w hs1)
  rw [hk] at HKY
  have HBD : Aside0 (∀ w', Calls Tryz.prog 53 #[] w' fun e w'' => e = .returned (.string (⟨#[67, 76, 73, 69, 78, 84, 95, 69, 82, 82, 79, 82, 32, 98, 97, 100, 32, 99, 111, 109, 109, 97, 110, 100, 32, 108, 105, 110, 101, 32, 102, 111, 114, 109, 97, 116]⟩ : ByteArray)) ∧ Below w'.heap.size w' w'') := ⟨fun w' => bad_calls w'⟩
  have HOF : Aside0 (∀ w', Calls Tryz.prog 24 #[.int .i64 used, .string (⟨#[67, 76, 73, 69, 78, 84, 95, 69, 82, 82, 79, 82, 32, 98, 97, 100, 32, 99, 111, 109, 109, 97, 110, 100, 32, 108, 105, 110, 101, 32, 102, 111, 114, 109, 97, 116]⟩ : ByteArray)] w' (StepR (fun k => k ≠ w.heap.size ∧ (k < w.heap.size → F k)) w' R)) := ⟨fun w' => hR ▸ rfault_calls used _ _ w' (by decide)⟩
  clear hC h0 hln hs hcell0 hR hn hk h1 hs1
  go_enter Tryz.func31, Tryz.ntmps31
  have kw0 : w.cell? ⟨b, o, none⟩ = some (.string v0) := HC0.out
  go_upto_region 2 with fail
  obtain ⟨W0, hW0⟩ : ∃ W0, (w.alloc (.cells zStepC 34 (0, 0))).alloc (.cells #[.int .i64 1, .string v0, .int .i64 0, .int .u32 0, .bool quiet, .bool false, .string ⟨#[]⟩, .slice none 0 0, .slice none 0 0, .bool false] 29 (0, 0)) = W0 := ⟨_, rfl⟩
  have hW2 := hW0
  unfold zStepC at hW2
  rw [hW2]
  have BF := Aside0.mk (show W0.heap[w.heap.size + 1]? = _ from hW0 ▸ blk_at_new _ _ _ (by simp))
  have BR := Aside0.mk (show W0.heap[w.heap.size]? = _ from hW0 ▸ blk_alloc (blk_at_new _ _ _ rfl) _)
  have HBn : Aside0 (Below w.heap.size w W0) := ⟨hW0 ▸ (by repeat (first | (with_reducible first | exact HB.out | apply below_alloc | apply pw_below_drewN | apply below_drew1) | exact HB.out))⟩
  clear HB hW0 hW2 kw0
  have HB := HBn
  clear HBn
  have k0 : W0.cell? ⟨b, o, none⟩ = some (.string v0) := (Below.cell HB.out (p := ⟨b, o, none⟩) hb0).trans HC0.out
  have k1 : W0.cell? ⟨b, o + 1, none⟩ = some (.string v1) := (Below.cell HB.out (p := ⟨b, o + 1, none⟩) hb0).trans HC1.out
  subst hv0
  go_wp2_with (first | (refine wpList_store_1 rfl 27 _ _ rfl (w.heap.size + 1) 8 (.slice (some ⟨b, o + 1, none⟩) 1 (c - 1)) rfl rfl rfl 29 _ #[.int .i64 1, .string (⟨#[105, 110, 99, 114]⟩ : ByteArray), .int .i64 0, .int .u32 0, .bool quiet, .bool false, .string ⟨#[]⟩, .slice none 0 0, .slice (some ⟨b, o + 1, none⟩) 1 (c - 1), .bool false] BF.out (by simp) (by kernel_rfl) rfl ?_; intro W1 hbk hst; have BFn := Aside0.mk hbk; have BRn := Aside0.mk (hst.blk BR.out (by omega)); have HBn := Aside0.mk (hst.up HB.out (by omega)); clear BF BR HB k0 k1 hbk hst; have BF := BFn; have BR := BRn; have HB := HBn; clear BFn BRn HBn; have k0 : W1.cell? ⟨b, o, none⟩ = some _ := (Below.cell HB.out (p := ⟨b, o, none⟩) hb0).trans HC0.out; have k1 : W1.cell? ⟨b, o + 1, none⟩ = some (.string v1) := (Below.cell HB.out (p := ⟨b, o + 1, none⟩) hb0).trans HC1.out) | (go_at_call 32; (with_reducible refine (HKY.out _).mono ?_); rintro e w2 ⟨rfl, hb⟩; have BFn := Aside0.mk (blk_below BF.out hb); have BRn := Aside0.mk (blk_below BR.out hb); clear BF BR k0 k1; have BF := BFn; have BR := BRn; clear BFn BRn; have HBn := Aside0.mk (below_step (by repeat (first | (with_reducible first | exact HB.out | apply below_alloc | apply pw_below_drewN | apply below_drew1) | exact HB.out)) hb); clear HB; have HB := HBn; clear HBn; clear hb; have k0 : w2.cell? ⟨b, o, none⟩ = some _ := (Below.cell HB.out (p := ⟨b, o, none⟩) hb0).trans HC0.out; have k1 : w2.cell? ⟨b, o + 1, none⟩ = some (.string v1) := (Below.cell HB.out (p := ⟨b, o + 1, none⟩) hb0).trans HC1.out) | (go_at_call 53; (with_reducible refine (HBD.out _).mono ?_); rintro e w2 ⟨rfl, hb⟩; have BFn := Aside0.mk (blk_below BF.out hb); have BRn := Aside0.mk (blk_below BR.out hb); clear BF BR k0 k1; have BF := BFn; have BR := BRn; clear BFn BRn; have HBn := Aside0.mk (below_step (by repeat (first | (with_reducible first | exact HB.out | apply below_alloc | apply pw_below_drewN | apply below_drew1) | exact HB.out)) hb); clear HB; have HB := HBn; clear HBn; clear hb; have k0 : w2.cell? ⟨b, o, none⟩ = some _ := (Below.cell HB.out (p := ⟨b, o, none⟩) hb0).trans HC0.out; have k1 : w2.cell? ⟨b, o + 1, none⟩ = some (.string v1) := (Below.cell HB.out (p := ⟨b, o + 1, none⟩) hb0).trans HC1.out) | (go_at_call 24; (with_reducible refine (HOF.out _).mono ?_); rintro e w1 ⟨⟨cs, rfl, hk⟩, hb⟩; have BK := Aside0.mk (blk_below (BR.out) hb); have GLT := Aside0.mk (blk_lt (BR.out)); have HBn := Aside0.mk (below_step (by repeat (first | (with_reducible first | exact HB.out | apply below_alloc | apply pw_below_drewN | apply below_drew1) | exact HB.out)) hb); clear HB; have HB := HBn; clear HBn; have HK := Aside0.mk hk; clear hb hk) | (refine wpList_store_K HK.out.now rfl 34 _ _ rfl w.heap.size rfl rfl 34 _ BK.out (by kernel_rfl) rfl ?_; intro w8 hbk hlow hfar; have HK2 := Aside0.mk (hfar _ _ (fun h => (h GLT.out).1 rfl) HK.out); clear BK; have BK := Aside0.mk hbk; have HL := Aside0.mk hlow; clear hbk hlow hfar))
  (try simp only [Exit.inBlock, Exit.then]); refine bodyPost_ret (results_cell_row rfl _ _ w.heap.size 34 _ (0, 0) _ rfl BK.out Tryz.underlying34 rfl (by rw [List.size_toArray, kStep.K_len HK.out.now]; kernel_rfl)) rfl ?_; exact ⟨⟨_, rfl, HK2.out.mono (fun k hk h3 => (hk (Nat.lt_of_lt_of_le h3 (Nat.le_of_lt (Nat.lt_of_le_of_lt (Nat.le_refl _) GLT.out)))).2 h3)⟩, HB.out.trans (HL.out _ (Nat.le_refl _))⟩
set_option maxRecDepth 100000 in
set_option maxHeartbeats 1000000 in
theorem ro_decr_key (ws : List ByteArray) (A : Option Addr) (c : Nat) (quiet : Bool) (used : Int) (F : Nat → Prop) (w : World) (hC : HolF F w (fun w2 => Kd.string.C w2 A ws.length ws)) (hc : ws.length ≤ c) (hs : ∀ k ∈ ws, k.size ≤ 1000000) (h0 : ws.getD 0 ⟨#[]⟩ = (⟨#[100, 101, 99, 114]⟩ : ByteArray)) (v1 : ByteArray) (h1 : ws.getD 1 ⟨#[]⟩ = v1) (hn : ws.length = 3) (hk : keyS v1 = false) :
    Calls Tryz.prog 31 #[.slice A ws.length c, .bool quiet, .int .i64 used] w (StepR F w (stepF used badT)) := by
  obtain ⟨R, hR⟩ : ∃ R, (stepF used badT) = R := ⟨_, rfl⟩
  rw [hR]
  have HB := Aside0.mk (Below.refl w.heap.size w)
  have HCF := Aside0.mk hC
  obtain ⟨v0, hv0⟩ : ∃ v0, ((⟨#[100, 101, 99, 114]⟩ : ByteArray) : ByteArray) = v0 := ⟨_, rfl⟩
  rw [hv0] at h0
  have hln : 1 < ws.length := by omega
  obtain ⟨b, o, rfl, hb0, hcell0⟩ := S_cell hC.now 0 (by omega)
  rw [h0, Nat.add_zero] at hcell0
  have HC0 := Aside0.mk hcell0
  have HC1 : Aside0 (w.cell? ⟨b, o + 1, none⟩ = some (.string v1)) := by
    obtain ⟨b', o', e', -, h⟩ := S_cell hC.now 1 (by omega)
    obtain ⟨rfl, rfl⟩ : b = b' ∧ o = o' := by simpa using e'
    rw [h1] at h
    exact ⟨h⟩
  have hs1 : v1.size ≤ 1000000 := by
    rw [← h1, List.getD_eq_getElem?_getD, List.getElem?_eq_getElem (by omega)]
    exact hs _ (List.getElem_mem _)
  have hi0 : (0 : Int) < ↑ws.length := by omega
  have hj0 : 0 < ws.length := by omega
  have hi1 : (1 : Int) < ↑ws.length := by omega
  have hj1 : 1 < ws.length := by omega
  have hcc : (ws.length : Int) ≤ ↑c := by omega
  have hg : ((ws.length : Int) != 3) = false := by simp; omega
  have hc1 : ¬ (c = 1) := by omega
  have hc2 : (2 : Int) ≤ ↑c := by omega
  have hc3 : (2 : Int) ≤ ↑ws.length := by omega
  have HKY := Aside0.mk (fun w => rkey_calls v1 w hs1)
  rw [hk] at HKY
  have HBD : Aside0 (∀ w', Calls Tryz.prog 53 #[] w' fun e w'' => e = .returned (.string (⟨#[67, 76, 73, 69, 78, 84, 95, 69, 82, 82, 79, 82, 32, 98, 97, 100, 32, 99, 111, 109, 109, 97, 110, 100, 32, 108, 105, 110, 101, 32, 102, 111, 114, 109, 97, 116]⟩ : ByteArray)) ∧ Below w'.heap.size w' w'') := ⟨fun w' => bad_calls w'⟩
  have HOF : Aside0 (∀ w', Calls Tryz.prog 24 #[.int .i64 used, .string (⟨#[67, 76, 73, 69, 78, 84, 95, 69, 82, 82, 79, 82, 32, 98, 97, 100, 32, 99, 111, 109, 109, 97, 110, 100, 32, 108, 105, 110, 101, 32, 102, 111, 114, 109, 97, 116]⟩ : ByteArray)] w' (StepR (fun k => k ≠ w.heap.size ∧ (k < w.heap.size → F k)) w' R)) := ⟨fun w' => hR ▸ rfault_calls used _ _ w' (by decide)⟩
  clear hC h0 hln hs hcell0 hR hn hk h1 hs1
  go_enter Tryz.func31, Tryz.ntmps31
  have kw0 : w.cell? ⟨b, o, none⟩ = some (.string v0) := HC0.out
  go_upto_region 2 with fail
  obtain ⟨W0, hW0⟩ : ∃ W0, (w.alloc (.cells zStepC 34 (0, 0))).alloc (.cells #[.int .i64 1, .string v0, .int .i64 0, .int .u32 0, .bool quiet, .bool false, .string ⟨#[]⟩, .slice none 0 0, .slice none 0 0, .bool false] 29 (0, 0)) = W0 := ⟨_, rfl⟩
  have hW2 := hW0
  unfold zStepC at hW2
  rw [hW2]
  have BF := Aside0.mk (show W0.heap[w.heap.size + 1]? = _ from hW0 ▸ blk_at_new _ _ _ (by simp))
  have BR := Aside0.mk (show W0.heap[w.heap.size]? = _ from hW0 ▸ blk_alloc (blk_at_new _ _ _ rfl) _)
  have HBn : Aside0 (Below w.heap.size w W0) := ⟨hW0 ▸ (by repeat (first | (with_reducible first | exact HB.out | apply below_alloc | apply pw_below_drewN | apply below_drew1) | exact HB.out))⟩
  clear HB hW0 hW2 kw0
  have HB := HBn
  clear HBn
  have k0 : W0.cell? ⟨b, o, none⟩ = some (.string v0) := (Below.cell HB.out (p := ⟨b, o, none⟩) hb0).trans HC0.out
  have k1 : W0.cell? ⟨b, o + 1, none⟩ = some (.string v1) := (Below.cell HB.out (p := ⟨b, o + 1, none⟩) hb0).trans HC1.out
  subst hv0
  go_wp2_with (first | (refine wpList_store_1 rfl 27 _ _ rfl (w.heap.size + 1) 8 (.slice (some ⟨b, o + 1, none⟩) 1 (c - 1)) rfl rfl rfl 29 _ #[.int .i64 1, .string (⟨#[100, 101, 99, 114]⟩ : ByteArray), .int .i64 0, .int .u32 0, .bool quiet, .bool false, .string ⟨#[]⟩, .slice none 0 0, .slice (some ⟨b, o + 1, none⟩) 1 (c - 1), .bool false] BF.out (by simp) (by kernel_rfl) rfl ?_; intro W1 hbk hst; have BFn := Aside0.mk hbk; have BRn := Aside0.mk (hst.blk BR.out (by omega)); have HBn := Aside0.mk (hst.up HB.out (by omega)); clear BF BR HB k0 k1 hbk hst; have BF := BFn; have BR := BRn; have HB := HBn; clear BFn BRn HBn; have k0 : W1.cell? ⟨b, o, none⟩ = some _ := (Below.cell HB.out (p := ⟨b, o, none⟩) hb0).trans HC0.out; have k1 : W1.cell? ⟨b, o + 1, none⟩ = some (.string v1) := (Below.cell HB.out (p := ⟨b, o + 1, none⟩) hb0).trans HC1.out) | (go_at_call 32; (with_reducible refine (HKY.out _).mono ?_); rintro e w2 ⟨rfl, hb⟩; have BFn := Aside0.mk (blk_below BF.out hb); have BRn := Aside0.mk (blk_below BR.out hb); clear BF BR k0 k1; have BF := BFn; have BR := BRn; clear BFn BRn; have HBn := Aside0.mk (below_step (by repeat (first | (with_reducible first | exact HB.out | apply below_alloc | apply pw_below_drewN | apply below_drew1) | exact HB.out)) hb); clear HB; have HB := HBn; clear HBn; clear hb; have k0 : w2.cell? ⟨b, o, none⟩ = some _ := (Below.cell HB.out (p := ⟨b, o, none⟩) hb0).trans HC0.out; have k1 : w2.cell? ⟨b, o + 1, none⟩ = some (.string v1) := (Below.cell HB.out (p := ⟨b, o + 1, none⟩) hb0).trans HC1.out) | (go_at_call 53; (with_reducible refine (HBD.out _).mono ?_); rintro e w2 ⟨rfl, hb⟩; have BFn := Aside0.mk (blk_below BF.out hb); have BRn := Aside0.mk (blk_below BR.out hb); clear BF BR k0 k1; have BF := BFn; have BR := BRn; clear BFn BRn; have HBn := Aside0.mk (below_step (by repeat (first | (with_reducible first | exact HB.out | apply below_alloc | apply pw_below_drewN | apply below_drew1) | exact HB.out)) hb); clear HB; have HB := HBn; clear HBn; clear hb; have k0 : w2.cell? ⟨b, o, none⟩ = some _ := (Below.cell HB.out (p := ⟨b, o, none⟩) hb0).trans HC0.out; have k1 : w2.cell? ⟨b, o + 1, none⟩ = some (.string v1) := (Below.cell HB.out (p := ⟨b, o + 1, none⟩) hb0).trans HC1.out) | (go_at_call 24; (with_reducible refine (HOF.out _).mono ?_); rintro e w1 ⟨⟨cs, rfl, hk⟩, hb⟩; have BK := Aside0.mk (blk_below (BR.out) hb); have GLT := Aside0.mk (blk_lt (BR.out)); have HBn := Aside0.mk (below_step (by repeat (first | (with_reducible first | exact HB.out | apply below_alloc | apply pw_below_drewN | apply below_drew1) | exact HB.out)) hb); clear HB; have HB := HBn; clear HBn; have HK := Aside0.mk hk; clear hb hk) | (refine wpList_store_K HK.out.now rfl 34 _ _ rfl w.heap.size rfl rfl 34 _ BK.out (by kernel_rfl) rfl ?_; intro w8 hbk hlow hfar; have HK2 := Aside0.mk (hfar _ _ (fun h => (h GLT.out).1 rfl) HK.out); clear BK; have BK := Aside0.mk hbk; have HL := Aside0.mk hlow; clear hbk hlow hfar))
  (try simp only [Exit.inBlock, Exit.then]); refine bodyPost_ret (results_cell_row rfl _ _ w.heap.size 34 _ (0, 0) _ rfl BK.out Tryz.underlying34 rfl (by rw [List.size_toArray, kStep.K_len HK.out.now]; kernel_rfl)) rfl ?_; exact ⟨⟨_, rfl, HK2.out.mono (fun k hk h3 => (hk (Nat.lt_of_lt_of_le h3 (Nat.le_of_lt (Nat.lt_of_le_of_lt (Nat.le_refl _) GLT.out)))).2 h3)⟩, HB.out.trans (HL.out _ (Nat.le_refl _))⟩
end Go.Proofs.YtfljijpkeckeaaaGreatDoor.X
