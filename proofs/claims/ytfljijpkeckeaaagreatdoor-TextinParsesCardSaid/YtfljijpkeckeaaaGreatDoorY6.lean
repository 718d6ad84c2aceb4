/- Texts of this work, merged in build order: ROth2, RUni, RegL, Parse1, Wi, Parse2. -/
import Derived.Test.YtfljijpkeckeaaaGreatDoorY5
import Derived.Laws.CopyOwn
import Derived.Deep.RegionHeld3
import Derived.RangeFuncNested
import Derived.RangeFuncBound
import Derived.RangeFuncCalls
import Derived.RangeFuncLeaves
import Derived.RangeFuncBox
import Derived.Shelf.Abstract
import Derived.Shelf.RegionOpen
import Derived.WalkKit
import Derived.OwnWalkIn
import Derived.TacticsInMore
import Derived.LoopNIn
import Derived.LoopIn
import Derived.Maps.AppendAt
import Derived.Outline
import Derived.Deep.DeepCutAuto
namespace Go.Proofs.YtfljijpkeckeaaaGreatDoor.X
open Go.RowKit Go.Proofs.YtfljijpkeckeaaaGreatDoorW.PrintWords Go.Proofs.YtfljijpkeckeaaaGreatDoorW.PrintMore
set_option linter.unusedVariables false
set_option linter.unusedSimpArgs false
set_option maxRecDepth 100000 in
set_option maxHeartbeats 1000000 in
theorem ro_flush_two_bad (ws : List ByteArray) (A : Option Addr) (c : Nat) (quiet : Bool) (used : Int) (F : Nat → Prop) (w : World) (hC : HolF F w (fun w2 => Kd.string.C w2 A ws.length ws)) (hc : ws.length ≤ c) (hs : ∀ k ∈ ws, k.size ≤ 1000000) (h0 : ws.getD 0 ⟨#[]⟩ = (⟨#[102, 108, 117, 115, 104, 95, 97, 108, 108]⟩ : ByteArray)) (v1 : ByteArray) (h1 : ws.getD 1 ⟨#[]⟩ = v1) (hn : ws.length = 2) (z : Int) (hz : sgnS v1 = (z, false)) :
    Calls Tryz.prog 31 #[.slice A ws.length c, .bool quiet, .int .i64 used] w (StepR F w (stepF used badT)) := by
  obtain ⟨R, hR⟩ : ∃ R, (stepF used badT) = R := ⟨_, rfl⟩
  rw [hR]
  have HB := Aside0.mk (Below.refl w.heap.size w)
  have HCF := Aside0.mk hC
  obtain ⟨v0, hv0⟩ : ∃ v0, ((⟨#[102, 108, 117, 115, 104, 95, 97, 108, 108]⟩ : ByteArray) : ByteArray) = v0 := ⟨_, rfl⟩
  rw [hv0] at h0
  have hln : 1 < ws.length := by omega
  obtain ⟨b, o, rfl, hb0, hcell0⟩ := S_cell hC.now 0 (by omega)
  rw [h0, Nat.add_zero] at hcell0
  have HC0 := Aside0.mk hcell0
  have HC1 : Aside0 (w.cell? ⟨b, o + 1, none⟩ = some (.string v1)) := by
    obtain ⟨b', o', e', -, h⟩ := S_cell hC.now 1 (by omega)
    obtain ⟨rfl, rfl⟩ : b = b' ∧ o = o' := by simpa using e'
    rw [h1] at h
    exact ⟨h⟩
  have hs1 : v1.size ≤ 1000000 := by
    rw [← h1, List.getD_eq_getElem?_getD, List.getElem?_eq_getElem (by omega)]
    exact hs _ (List.getElem_mem _)
  have hi0 : (0 : Int) < ↑ws.length := by omega
  have hj0 : 0 < ws.length := by omega
  have hi1 : (1 : Int) < ↑ws.length := by omega
  have hj1 : 1 < ws.length := by omega
  have hcc : (ws.length : Int) ≤ ↑c := by omega
  have hg : (ws.length : Int) ≤ 2 := by omega
  have hg2 : ((ws.length : Int) == 2) = true := by simp; omega
  have HSG := Aside0.mk (fun w => rsgn_w v1 w hs1)
  rw [hz] at HSG
  have HBD : Aside0 (∀ w', Calls Tryz.prog 53 #[] w' fun e w'' => e = .returned (.string (⟨#[67, 76, 73, 69, 78, 84, 95, 69, 82, 82, 79, 82, 32, 98, 97, 100, 32, 99, 111, 109, 109, 97, 110, 100, 32, 108, 105, 110, 101, 32, 102, 111, 114, 109, 97, 116]⟩ : ByteArray)) ∧ Below w'.heap.size w' w'') := ⟨fun w' => bad_calls w'⟩
  have HOF : Aside0 (∀ w', Calls Tryz.prog 24 #[.int .i64 used, .string (⟨#[67, 76, 73, 69, 78, 84, 95, 69, 82, 82, 79, 82, 32, 98, 97, 100, 32, 99, 111, 109, 109, 97, 110, 100, 32, 108, 105, 110, 101, 32, 102, 111, 114, 109, 97, 116]⟩ : ByteArray)] w' (StepR (fun k => k ≠ w.heap.size ∧ (k < w.heap.size → F k)) w' R)) := ⟨fun w' => hR ▸ rfault_calls used _ _ w' (by decide)⟩
  clear hC h0 hln hs hcell0 hR hn hs1 h1 hz
  go_enter Tryz.func31, Tryz.ntmps31
  have kw0 : w.cell? ⟨b, o, none⟩ = some (.string v0) := HC0.out
  go_upto_region 2 with fail
  obtain ⟨W0, hW0⟩ : ∃ W0, (w.alloc (.cells zStepC 34 (0, 0))).alloc (.cells #[.int .i64 1, .string v0, .int .i64 0, .int .u32 0, .bool quiet, .bool false, .string ⟨#[]⟩, .slice none 0 0, .slice none 0 0, .bool false] 29 (0, 0)) = W0 := ⟨_, rfl⟩
  have hW2 := hW0
  unfold zStepC at hW2
  rw [hW2]
  have BF := Aside0.mk (show W0.heap[w.heap.size + 1]? = _ from hW0 ▸ blk_at_new _ _ _ (by simp))
  have BR := Aside0.mk (show W0.heap[w.heap.size]? = _ from hW0 ▸ blk_alloc (blk_at_new _ _ _ rfl) _)
  have HBn : Aside0 (Below w.heap.size w W0) := ⟨hW0 ▸ (by repeat (first | (with_reducible first | exact HB.out | apply below_alloc | apply pw_below_drewN | apply below_drew1) | exact HB.out))⟩
  clear HB hW0 hW2 kw0
  have HB := HBn
  clear HBn
  have k0 : W0.cell? ⟨b, o, none⟩ = some (.string v0) := (Below.cell HB.out (p := ⟨b, o, none⟩) hb0).trans HC0.out
  have k1 : W0.cell? ⟨b, o + 1, none⟩ = some (.string v1) := (Below.cell HB.out (p := ⟨b, o + 1, none⟩) hb0).trans HC1.out
  subst hv0
  go_wp2_with (first | (go_at_call 54; (with_reducible refine (HSG.out _).mono ?_); rintro e w3 ⟨rfl, hb⟩; have BFn := Aside0.mk (blk_below BF.out hb); have BRn := Aside0.mk (blk_below BR.out hb); clear BF BR k0 k1; have BF := BFn; have BR := BRn; clear BFn BRn; have HBn := Aside0.mk (below_step (by repeat (first | (with_reducible first | exact HB.out | apply below_alloc | apply pw_below_drewN | apply below_drew1) | exact HB.out)) hb); clear HB; have HB := HBn; clear HBn; clear hb; have k0 : w3.cell? ⟨b, o, none⟩ = some _ := (Below.cell HB.out (p := ⟨b, o, none⟩) hb0).trans HC0.out; have k1 : w3.cell? ⟨b, o + 1, none⟩ = some (.string v1) := (Below.cell HB.out (p := ⟨b, o + 1, none⟩) hb0).trans HC1.out) | (go_at_call 53; (with_reducible refine (HBD.out _).mono ?_); rintro e w2 ⟨rfl, hb⟩; have BFn := Aside0.mk (blk_below BF.out hb); have BRn := Aside0.mk (blk_below BR.out hb); clear BF BR k0 k1; have BF := BFn; have BR := BRn; clear BFn BRn; have HBn := Aside0.mk (below_step (by repeat (first | (with_reducible first | exact HB.out | apply below_alloc | apply pw_below_drewN | apply below_drew1) | exact HB.out)) hb); clear HB; have HB := HBn; clear HBn; clear hb; have k0 : w2.cell? ⟨b, o, none⟩ = some _ := (Below.cell HB.out (p := ⟨b, o, none⟩) hb0).trans HC0.out; have k1 : w2.cell? ⟨b, o + 1, none⟩ = some (.string v1) := (Below.cell HB.out (p := ⟨b, o + 1, none⟩) hb0).trans HC1.out) | (go_at_call 24; (with_reducible refine (HOF.out _).mono ?_); rintro e w1 ⟨⟨cs, rfl, hk⟩, hb⟩; have BK := Aside0.mk (blk_below (BR.out) hb); have GLT := Aside0.mk (blk_lt (BR.out)); have HBn := Aside0.mk (below_step (by repeat (first | (with_reducible first | exact HB.out | apply below_alloc | apply pw_below_drewN | apply below_drew1) | exact HB.out)) hb); clear HB; have HB := HBn; clear HBn; have HK := Aside0.mk hk; clear hb hk) | (refine wpList_store_K HK.out.now rfl 34 _ _ rfl w.heap.size rfl rfl 34 _ BK.out (by kernel_rfl) rfl ?_; intro w8 hbk hlow hfar; have HK2 := Aside0.mk (hfar _ _ (fun h => (h GLT.out).1 rfl) HK.out); clear BK; have BK := Aside0.mk hbk; have HL := Aside0.mk hlow; clear hbk hlow hfar))
  (try simp only [Exit.inBlock, Exit.then]); refine bodyPost_ret (results_cell_row rfl _ _ w.heap.size 34 _ (0, 0) _ rfl BK.out Tryz.underlying34 rfl (by rw [List.size_toArray, kStep.K_len HK.out.now]; kernel_rfl)) rfl ?_; exact ⟨⟨_, rfl, HK2.out.mono (fun k hk h3 => (hk (Nat.lt_of_lt_of_le h3 (Nat.le_of_lt (Nat.lt_of_le_of_lt (Nat.le_refl _) GLT.out)))).2 h3)⟩, HB.out.trans (HL.out _ (Nat.le_refl _))⟩
set_option maxRecDepth 100000 in
set_option maxHeartbeats 1000000 in
theorem ro_flush_two_ok (ws : List ByteArray) (A : Option Addr) (c : Nat) (quiet : Bool) (used : Int) (F : Nat → Prop) (w : World) (hC : HolF F w (fun w2 => Kd.string.C w2 A ws.length ws)) (hc : ws.length ≤ c) (hs : ∀ k ∈ ws, k.size ≤ 1000000) (h0 : ws.getD 0 ⟨#[]⟩ = (⟨#[102, 108, 117, 115, 104, 95, 97, 108, 108]⟩ : ByteArray)) (v1 : ByteArray) (h1 : ws.getD 1 ⟨#[]⟩ = v1) (hn : ws.length = 2) (z : Int) (hz : sgnS v1 = (z, true)) :
    Calls Tryz.prog 31 #[.slice A ws.length c, .bool quiet, .int .i64 used] w (StepR F w (stepO used (formT (⟨#[102, 108, 117, 115, 104, 95, 97, 108, 108]⟩ : ByteArray) quiet []) (cmdF z))) := by
  obtain ⟨R, hR⟩ : ∃ R, (stepO used (formT (⟨#[102, 108, 117, 115, 104, 95, 97, 108, 108]⟩ : ByteArray) quiet []) (cmdF z)) = R := ⟨_, rfl⟩
  rw [hR]
  have HB := Aside0.mk (Below.refl w.heap.size w)
  have HCF := Aside0.mk hC
  obtain ⟨v0, hv0⟩ : ∃ v0, ((⟨#[102, 108, 117, 115, 104, 95, 97, 108, 108]⟩ : ByteArray) : ByteArray) = v0 := ⟨_, rfl⟩
  rw [hv0] at h0
  have hln : 1 < ws.length := by omega
  obtain ⟨b, o, rfl, hb0, hcell0⟩ := S_cell hC.now 0 (by omega)
  rw [h0, Nat.add_zero] at hcell0
  have HC0 := Aside0.mk hcell0
  have HC1 : Aside0 (w.cell? ⟨b, o + 1, none⟩ = some (.string v1)) := by
    obtain ⟨b', o', e', -, h⟩ := S_cell hC.now 1 (by omega)
    obtain ⟨rfl, rfl⟩ : b = b' ∧ o = o' := by simpa using e'
    rw [h1] at h
    exact ⟨h⟩
  have hs1 : v1.size ≤ 1000000 := by
    rw [← h1, List.getD_eq_getElem?_getD, List.getElem?_eq_getElem (by omega)]
    exact hs _ (List.getElem_mem _)
  have hi0 : (0 : Int) < ↑ws.length := by omega
  have hj0 : 0 < ws.length := by omega
  have hi1 : (1 : Int) < ↑ws.length := by omega
  have hj1 : 1 < ws.length := by omega
  have hcc : (ws.length : Int) ≤ ↑c := by omega
  have hg : (ws.length : Int) ≤ 2 := by omega
  have hg2 : ((ws.length : Int) == 2) = true := by simp; omega
  have HSG := Aside0.mk (fun w => rsgn_w v1 w hs1)
  rw [hz] at HSG
  have HO : Aside0 (∀ w', Below w.heap.size w w' → Calls Tryz.prog 55 #[.int .i64 used, .agg #[.int .i64 13, .string ⟨#[]⟩, .slice none 0 0, .int .u32 0, .int .i64 z, .int .u64 0, .int .u64 0, .int .u64 0, .bool false, .bool false], .agg #[.int .i64 1, .string (⟨#[102, 108, 117, 115, 104, 95, 97, 108, 108]⟩ : ByteArray), .int .i64 0, .int .u32 0, .bool quiet, .bool false, .string ⟨#[]⟩, .slice none 0 0, .slice none 0 0, .bool false]] w' (StepR (fun k => k ≠ w.heap.size ∧ (k < w.heap.size → F k)) w' R)) := ⟨fun w' hb => hR ▸ rone_calls used _ _ _ _ _ w' (fun w2 _ _ => K_cmdF w2 z) (fun w2 _ _ => K_form0 w2 (⟨#[102, 108, 117, 115, 104, 95, 97, 108, 108]⟩ : ByteArray) quiet)⟩
  clear hC h0 hln hs hcell0 hR hn hs1 h1 hz
  go_enter Tryz.func31, Tryz.ntmps31
  have kw0 : w.cell? ⟨b, o, none⟩ = some (.string v0) := HC0.out
  go_upto_region 2 with fail
  obtain ⟨W0, hW0⟩ : ∃ W0, (w.alloc (.cells zStepC 34 (0, 0))).alloc (.cells #[.int .i64 1, .string v0, .int .i64 0, .int .u32 0, .bool quiet, .bool false, .string ⟨#[]⟩, .slice none 0 0, .slice none 0 0, .bool false] 29 (0, 0)) = W0 := ⟨_, rfl⟩
  have hW2 := hW0
  unfold zStepC at hW2
  rw [hW2]
  have BF := Aside0.mk (show W0.heap[w.heap.size + 1]? = _ from hW0 ▸ blk_at_new _ _ _ (by simp))
  have BR := Aside0.mk (show W0.heap[w.heap.size]? = _ from hW0 ▸ blk_alloc (blk_at_new _ _ _ rfl) _)
  have HBn : Aside0 (Below w.heap.size w W0) := ⟨hW0 ▸ (by repeat (first | (with_reducible first | exact HB.out | apply below_alloc | apply pw_below_drewN | apply below_drew1) | exact HB.out))⟩
  clear HB hW0 hW2 kw0
  have HB := HBn
  clear HBn
  have k0 : W0.cell? ⟨b, o, none⟩ = some (.string v0) := (Below.cell HB.out (p := ⟨b, o, none⟩) hb0).trans HC0.out
  have k1 : W0.cell? ⟨b, o + 1, none⟩ = some (.string v1) := (Below.cell HB.out (p := ⟨b, o + 1, none⟩) hb0).trans HC1.out
  subst hv0
  go_wp2_with (first | (go_at_call 54; (with_reducible refine (HSG.out _).mono ?_); rintro e w3 ⟨rfl, hb⟩; have BFn := Aside0.mk (blk_below BF.out hb); have BRn := Aside0.mk (blk_below BR.out hb); clear BF BR k0 k1; have BF := BFn; have BR := BRn; clear BFn BRn; have HBn := Aside0.mk (below_step (by repeat (first | (with_reducible first | exact HB.out | apply below_alloc | apply pw_below_drewN | apply below_drew1) | exact HB.out)) hb); clear HB; have HB := HBn; clear HBn; clear hb; have k0 : w3.cell? ⟨b, o, none⟩ = some _ := (Below.cell HB.out (p := ⟨b, o, none⟩) hb0).trans HC0.out; have k1 : w3.cell? ⟨b, o + 1, none⟩ = some (.string v1) := (Below.cell HB.out (p := ⟨b, o + 1, none⟩) hb0).trans HC1.out; have f0 : w3.cell? ⟨w.heap.size + 1, 0, none⟩ = some (.int .i64 1) := (blk_cell BF.out 0).trans rfl; have f1 : w3.cell? ⟨w.heap.size + 1, 1, none⟩ = some (.string (⟨#[102, 108, 117, 115, 104, 95, 97, 108, 108]⟩ : ByteArray)) := (blk_cell BF.out 1).trans rfl; have f2 : w3.cell? ⟨w.heap.size + 1, 2, none⟩ = some (.int .i64 0) := (blk_cell BF.out 2).trans rfl; have f3 : w3.cell? ⟨w.heap.size + 1, 3, none⟩ = some (.int .u32 0) := (blk_cell BF.out 3).trans rfl; have f4 : w3.cell? ⟨w.heap.size + 1, 4, none⟩ = some (.bool quiet) := (blk_cell BF.out 4).trans rfl; have f5 : w3.cell? ⟨w.heap.size + 1, 5, none⟩ = some (.bool false) := (blk_cell BF.out 5).trans rfl; have f6 : w3.cell? ⟨w.heap.size + 1, 6, none⟩ = some (.string ⟨#[]⟩) := (blk_cell BF.out 6).trans rfl; have f7 : w3.cell? ⟨w.heap.size + 1, 7, none⟩ = some (.slice none 0 0) := (blk_cell BF.out 7).trans rfl; have f8 : w3.cell? ⟨w.heap.size + 1, 8, none⟩ = some (.slice none 0 0) := (blk_cell BF.out 8).trans rfl; have f9 : w3.cell? ⟨w.heap.size + 1, 9, none⟩ = some (.bool false) := (blk_cell BF.out 9).trans rfl; have hfl : w.heap.size + 1 < w3.heap.size := blk_lt BF.out) | (go_at_call 55; (with_reducible refine (HO.out _ (by repeat (first | (with_reducible first | exact HB.out | apply below_alloc | apply pw_below_drewN | apply below_drew1) | exact HB.out))).mono ?_); rintro e w1 ⟨⟨cs, rfl, hk⟩, hb⟩; have BK := Aside0.mk (blk_below (BR.out) hb); have GLT := Aside0.mk (blk_lt (BR.out)); have HBn := Aside0.mk (below_step (by repeat (first | (with_reducible first | exact HB.out | apply below_alloc | apply pw_below_drewN | apply below_drew1) | exact HB.out)) hb); clear HB; have HB := HBn; clear HBn; have HK := Aside0.mk hk; clear hb hk) | (refine wpList_store_K HK.out.now rfl 34 _ _ rfl w.heap.size rfl rfl 34 _ BK.out (by kernel_rfl) rfl ?_; intro w8 hbk hlow hfar; have HK2 := Aside0.mk (hfar _ _ (fun h => (h GLT.out).1 rfl) HK.out); clear BK; have BK := Aside0.mk hbk; have HL := Aside0.mk hlow; clear hbk hlow hfar))
  (try simp only [Exit.inBlock, Exit.then]); refine bodyPost_ret (results_cell_row rfl _ _ w.heap.size 34 _ (0, 0) _ rfl BK.out Tryz.underlying34 rfl (by rw [List.size_toArray, kStep.K_len HK.out.now]; kernel_rfl)) rfl ?_; exact ⟨⟨_, rfl, HK2.out.mono (fun k hk h3 => (hk (Nat.lt_of_lt_of_le h3 (Nat.le_of_lt (Nat.lt_of_le_of_lt (Nat.le_refl _) GLT.out)))).2 h3)⟩, HB.out.trans (HL.out _ (Nat.le_refl _))⟩
set_option maxRecDepth 100000 in
set_option maxHeartbeats 1000000 in
theorem ro_flush_one_ok (ws : List ByteArray) (A : Option Addr) (c : Nat) (quiet : Bool) (used : Int) (F : Nat → Prop) (w : World) (hC : HolF F w (fun w2 => Kd.string.C w2 A ws.length ws)) (hc : ws.length ≤ c) (hs : ∀ k ∈ ws, k.size ≤ 1000000) (h0 : ws.getD 0 ⟨#[]⟩ = (⟨#[102, 108, 117, 115, 104, 95, 97, 108, 108]⟩ : ByteArray)) (hn : ws.length = 1) (z : Int) (hz : sgnS (⟨#[48]⟩ : ByteArray) = (z, true)) :
    Calls Tryz.prog 31 #[.slice A ws.length c, .bool quiet, .int .i64 used] w (StepR F w (stepO used (formT (⟨#[102, 108, 117, 115, 104, 95, 97, 108, 108]⟩ : ByteArray) quiet []) (cmdF z))) := by
  obtain ⟨R, hR⟩ : ∃ R, (stepO used (formT (⟨#[102, 108, 117, 115, 104, 95, 97, 108, 108]⟩ : ByteArray) quiet []) (cmdF z)) = R := ⟨_, rfl⟩
  rw [hR]
  have HB := Aside0.mk (Below.refl w.heap.size w)
  have HCF := Aside0.mk hC
  obtain ⟨v0, hv0⟩ : ∃ v0, ((⟨#[102, 108, 117, 115, 104, 95, 97, 108, 108]⟩ : ByteArray) : ByteArray) = v0 := ⟨_, rfl⟩
  rw [hv0] at h0
  have hln : 0 < ws.length := by omega
  obtain ⟨b, o, rfl, hb0, hcell0⟩ := S_cell hC.now 0 (by omega)
  rw [h0, Nat.add_zero] at hcell0
  have HC0 := Aside0.mk hcell0
  have hi0 : (0 : Int) < ↑ws.length := by omega
  have hj0 : 0 < ws.length := by omega
  have hcc : (ws.length : Int) ≤ ↑c := by omega
  have hg : (ws.length : Int) ≤ 2 := by omega
  have hg2 : ((ws.length : Int) == 2) = false := by simp; omega
  have HSG := Aside0.mk (fun w => rsgn_w (⟨#[48]⟩ : ByteArray) w (by decide))
  rw [hz] at HSG
  have HO : Aside0 (∀ w', Below w.heap.size w w' → Calls Tryz.prog 55 #[.int .i64 used, .agg #[.int .i64 13, .string ⟨#[]⟩, .slice none 0 0, .int .u32 0, .int .i64 z, .int .u64 0, .int .u64 0, .int .u64 0, .bool false, .bool false], .agg #[.int .i64 1, .string (⟨#[102, 108, 117, 115, 104, 95, 97, 108, 108]⟩ : ByteArray), .int .i64 0, .int .u32 0, .bool quiet, .bool false, .string ⟨#[]⟩, .slice none 0 0, .slice none 0 0, .bool false]] w' (StepR (fun k => k ≠ w.heap.size ∧ (k < w.heap.size → F k)) w' R)) := ⟨fun w' hb => hR ▸ rone_calls used _ _ _ _ _ w' (fun w2 _ _ => K_cmdF w2 z) (fun w2 _ _ => K_form0 w2 (⟨#[102, 108, 117, 115, 104, 95, 97, 108, 108]⟩ : ByteArray) quiet)⟩
  clear hC h0 hln hs hcell0 hR hn hz
  go_enter Tryz.func31, Tryz.ntmps31
  have kw0 : w.cell? ⟨b, o, none⟩ = some (.string v0) := HC0.out
  go_upto_region 2 with fail
  obtain ⟨W0, hW0⟩ : ∃ W0, (w.alloc (.cells zStepC 34 (0, 0))).alloc (.cells #[.int .i64 1, .string v0, .int .i64 0, .int .u32 0, .bool quiet, .bool false, .string ⟨#[]⟩, .slice none 0 0, .slice none 0 0, .bool false] 29 (0, 0)) = W0 := ⟨_, rfl⟩
  have hW2 := hW0
  unfold zStepC at hW2
  rw [hW2]
  have BF := Aside0.mk (show W0.heap[w.heap.size + 1]? = _ from hW0 ▸ blk_at_new _ _ _ (by simp))
  have BR := Aside0.mk (show W0.heap[w.heap.size]? = _ from hW0 ▸ blk_alloc (blk_at_new _ _ _ rfl) _)
  have HBn : Aside0 (Below w.heap.size w W0) := ⟨hW0 ▸ (by repeat (first | (with_reducible first | exact HB.out | apply below_alloc | apply pw_below_drewN | apply below_drew1) | exact HB.out))⟩
  clear HB hW0 hW2 kw0
  have HB := HBn
  clear HBn
  have k0 : W0.cell? ⟨b, o, none⟩ = some (.string v0) := (Below.cell HB.out (p := ⟨b, o, none⟩) hb0).trans HC0.out
  subst hv0
  go_wp2_with (first | (go_at_call 54; (with_reducible refine (HSG.out _).mono ?_); rintro e w3 ⟨rfl, hb⟩; have BFn := Aside0.mk (blk_below BF.out hb); have BRn := Aside0.mk (blk_below BR.out hb); clear BF BR k0; have BF := BFn; have BR := BRn; clear BFn BRn; have HBn := Aside0.mk (below_step (by repeat (first | (with_reducible first | exact HB.out | apply below_alloc | apply pw_below_drewN | apply below_drew1) | exact HB.out)) hb); clear HB; have HB := HBn; clear HBn; clear hb; have k0 : w3.cell? ⟨b, o, none⟩ = some _ := (Below.cell HB.out (p := ⟨b, o, none⟩) hb0).trans HC0.out; have f0 : w3.cell? ⟨w.heap.size + 1, 0, none⟩ = some (.int .i64 1) := (blk_cell BF.out 0).trans rfl; have f1 : w3.cell? ⟨w.heap.size + 1, 1, none⟩ = some (.string (⟨#[102, 108, 117, 115, 104, 95, 97, 108, 108]⟩ : ByteArray)) := (blk_cell BF.out 1).trans rfl; have f2 : w3.cell? ⟨w.heap.size + 1, 2, none⟩ = some (.int .i64 0) := (blk_cell BF.out 2).trans rfl; have f3 : w3.cell? ⟨w.heap.size + 1, 3, none⟩ = some (.int .u32 0) := (blk_cell BF.out 3).trans rfl; have f4 : w3.cell? ⟨w.heap.size + 1, 4, none⟩ = some (.bool quiet) := (blk_cell BF.out 4).trans rfl; have f5 : w3.cell? ⟨w.heap.size + 1, 5, none⟩ = some (.bool false) := (blk_cell BF.out 5).trans rfl; have f6 : w3.cell? ⟨w.heap.size + 1, 6, none⟩ = some (.string ⟨#[]⟩) := (blk_cell BF.out 6).trans rfl; have f7 : w3.cell? ⟨w.heap.size + 1, 7, none⟩ = some (.slice none 0 0) := (blk_cell BF.out 7).trans rfl; have f8 : w3.cell? ⟨w.heap.size + 1, 8, none⟩ = some (.slice none 0 0) := (blk_cell BF.out 8).trans rfl; have f9 : w3.cell? ⟨w.heap.size + 1, 9, none⟩ = some (.bool false) := (blk_cell BF.out 9).trans rfl; have hfl : w.heap.size + 1 < w3.heap.size := blk_lt BF.out) | (go_at_call 55; (with_reducible refine (HO.out _ (by repeat (first | (with_reducible first | exact HB.out | apply below_alloc | apply pw_below_drewN | apply below_drew1) | exact HB.out))).mono ?_); rintro e w1 ⟨⟨cs, rfl, hk⟩, hb⟩; have BK := Aside0.mk (blk_below (BR.out) hb); have GLT := Aside0.mk (blk_lt (BR.out)); have HBn := Aside0.mk (below_step (by repeat (first | (with_reducible first | exact HB.out | apply below_alloc | apply pw_below_drewN | apply below_drew1) | exact HB.out)) hb); clear HB; have HB := HBn; clear HBn; have HK := Aside0.mk hk; clear hb hk) | (refine wpList_store_K HK.out.now rfl 34 _ _ rfl w.heap.size rfl rfl 34 _ BK.out (by kernel_rfl) rfl ?_; intro w8 hbk hlow hfar; have HK2 := Aside0.mk (hfar _ _ (fun h => (h GLT.out).1 rfl) HK.out); clear BK; have BK := Aside0.mk hbk; have HL := Aside0.mk hlow; clear hbk hlow hfar))
  (try simp only [Exit.inBlock, Exit.then]); refine bodyPost_ret (results_cell_row rfl _ _ w.heap.size 34 _ (0, 0) _ rfl BK.out Tryz.underlying34 rfl (by rw [List.size_toArray, kStep.K_len HK.out.now]; kernel_rfl)) rfl ?_; exact ⟨⟨_, rfl, HK2.out.mono (fun k hk h3 => (hk (Nat.lt_of_lt_of_le h3 (Nat.le_of_lt (Nat.lt_of_le_of_lt (Nat.le_refl _) GLT.out)))).2 h3)⟩, HB.out.trans (HL.out _ (Nat.le_refl _))⟩
set_option maxRecDepth 100000 in
set_option maxHeartbeats 1000000 in
theorem ro_touch_nan (ws : List ByteArray) (A : Option Addr) (c : Nat) (quiet : Bool) (used : Int) (F : Nat → Prop) (w : World) (hC : HolF F w (fun w2 => Kd.string.C w2 A ws.length ws)) (hc : ws.length ≤ c) (hs : ∀ k ∈ ws, k.size ≤ 1000000) (h0 : ws.getD 0 ⟨#[]⟩ = (⟨#[116, 111, 117, 99, 104]⟩ : ByteArray)) (v1 : ByteArray) (h1 : ws.getD 1 ⟨#[]⟩ = v1) (v2 : ByteArray) (h2 : ws.getD 2 ⟨#[]⟩ = v2) (hn : ws.length = 3) (hk : keyS v1 = true) (z : Int) (hz : sgnS v2 = (z, false)) :
    Calls Tryz.prog 31 #[.slice A ws.length c, .bool quiet, .int .i64 used] w (StepR F w (stepF used badT)) := by
  obtain ⟨R, hR⟩ : ∃ R, (stepF used badT) = R := ⟨_, rfl⟩
  rw [hR]
  have HB := Aside0.mk (Below.refl w.heap.size w)
  have HCF := Aside0.mk hC
  obtain ⟨v0, hv0⟩ : ∃ v0, ((⟨#[116, 111, 117, 99, 104]⟩ : ByteArray) : ByteArray) = v0 := ⟨_, rfl⟩
  rw [hv0] at h0
  have hln : 2 < ws.length := by omega
  obtain ⟨b, o, rfl, hb0, hcell0⟩ := S_cell hC.now 0 (by omega)
  rw [h0, Nat.add_zero] at hcell0
  have HC0 := Aside0.mk hcell0
  have HC1 : Aside0 (w.cell? ⟨b, o + 1, none⟩ = some (.string v1)) := by
    obtain ⟨b', o', e', -, h⟩ := S_cell hC.now 1 (by omega)
    obtain ⟨rfl, rfl⟩ : b = b' ∧ o = o' := by simpa using e'
    rw [h1] at h
    exact ⟨h⟩
  have hs1 : v1.size ≤ 1000000 := by
    rw [← h1, List.getD_eq_getElem?_getD, List.getElem?_eq_getElem (by omega)]
    exact hs _ (List.getElem_mem _)
  have HC2 : Aside0 (w.cell? ⟨b, o + 2, none⟩ = some (.string v2)) := by
    obtain ⟨b', o', e', -, h⟩ := S_cell hC.now 2 (by omega)
    obtain ⟨rfl, rfl⟩ : b = b' ∧ o = o' := by simpa using e'
    rw [h2] at h
    exact ⟨h⟩
  have hs2 : v2.size ≤ 1000000 := by
    rw [← h2, List.getD_eq_getElem?_getD, List.getElem?_eq_getElem (by omega)]
    exact hs _ (List.getElem_mem _)
  have hi0 : (0 : Int) < ↑ws.length := by omega
  have hj0 : 0 < ws.length := by omega
  have hi1 : (1 : Int) < ↑ws.length := by omega
  have hj1 : 1 < ws.length := by omega
  have hi2 : (2 : Int) < ↑ws.length := by omega
  have hj2 : 2 < ws.length := by omega
  have hcc : (ws.length : Int) ≤ ↑c := by omega
  have hg : ((ws.length : Int) != 3) = false := by simp; omega
  have hc1 : ¬ (c = 1) := by omega
  have hc2 : (2 : Int) ≤ ↑c := by omega
  have hc3 : (2 : Int) ≤ ↑ws.length := by omega
  have HKY := Aside0.mk (fun w => rkey_calls v1 w hs1)
  rw [hk] at HKY
  have HSG := Aside0.mk (fun w => rsgn_w v2 w hs2)
  rw [hz] at HSG
  have HBD : Aside0 (∀ w', Calls Tryz.prog 53 #[] w' fun e w'' => e = .returned (.string (⟨#[67, 76, 73, 69, 78, 84, 95, 69, 82, 82, 79, 82, 32, 98, 97, 100, 32, 99, 111, 109, 109, 97, 110, 100, 32, 108, 105, 110, 101, 32, 102, 111, 114, 109, 97, 116]⟩ : ByteArray)) ∧ Below w'.heap.size w' w'') := ⟨fun w' => bad_calls w'⟩
  have HOF : Aside0 (∀ w', Calls Tryz.prog 24 #[.int .i64 used, .string (⟨#[67, 76, 73, 69, 78, 84, 95, 69, 82, 82, 79, 82, 32, 98, 97, 100, 32, 99, 111, 109, 109, 97, 110, 100, 32, 108, 105, 110, 101, 32, 102, 111, 114, 109, 97, 116]⟩ : ByteArray)] w' (StepR (fun k => k ≠ w.heap.size ∧ (k < w.heap.size → F k)) w' R)) := ⟨fun w' => hR ▸ rfault_calls used _ _ w' (by decide)⟩
  clear hC h0 hln hs hcell0 hR hn hk h1 hs1 h2 hs2 hz
  go_enter Tryz.func31, Tryz.ntmps31
  have kw0 : w.cell? ⟨b, o, none⟩ = some (.string v0) := HC0.out
  go_upto_region 2 with fail
  obtain ⟨W0, hW0⟩ : ∃ W0, (w.alloc (.cells zStepC 34 (0, 0))).alloc (.cells #[.int .i64 1, .string v0, .int .i64 0, .int .u32 0, .bool quiet, .bool false, .string ⟨#[]⟩, .slice none 0 0, .slice none 0 0, .bool false] 29 (0, 0)) = W0 := ⟨_, rfl⟩
  have hW2 := hW0
  unfold zStepC at hW2
  rw [hW2]
  have BF := Aside0.mk (show W0.heap[w.heap.size + 1]? = _ from hW0 ▸ blk_at_new _ _ _ (by simp))
  have BR := Aside0.mk (show W0.heap[w.heap.size]? = _ from hW0 ▸ blk_alloc (blk_at_new _ _ _ rfl) _)
  have HBn : Aside0 (Below w.heap.size w W0) := ⟨hW0 ▸ (by repeat (first | (with_reducible first | exact HB.out | apply below_alloc | apply pw_below_drewN | apply below_drew1) | exact HB.out))⟩
  clear HB hW0 hW2 kw0
  have HB := HBn
  clear HBn
  have k0 : W0.cell? ⟨b, o, none⟩ = some (.string v0) := (Below.cell HB.out (p := ⟨b, o, none⟩) hb0).trans HC0.out
  have k1 : W0.cell? ⟨b, o + 1, none⟩ = some (.string v1) := (Below.cell HB.out (p := ⟨b, o + 1, none⟩) hb0).trans HC1.out
  have k2 : W0.cell? ⟨b, o + 2, none⟩ = some (.string v2) := (Below.cell HB.out (p := ⟨b, o + 2, none⟩) hb0).trans HC2.out
  subst hv0
  go_wp2_with (first | (refine wpList_store_1 rfl 27 _ _ rfl (w.heap.size + 1) 8 (.slice (some ⟨b, o + 1, none⟩) 1 (c - 1)) rfl rfl rfl 29 _ #[.int .i64 1, .string (⟨#[116, 111, 117, 99, 104]⟩ : ByteArray), .int .i64 0, .int .u32 0, .bool quiet, .bool false, .string ⟨#[]⟩, .slice none 0 0, .slice (some ⟨b, o + 1, none⟩) 1 (c - 1), .bool false] BF.out (by simp) (by kernel_rfl) rfl ?_; intro W1 hbk hst; have BFn := Aside0.mk hbk; have BRn := Aside0.mk (hst.blk BR.out (by omega)); have HBn := Aside0.mk (hst.up HB.out (by omega)); clear BF BR HB k0 k1 k2 hbk hst; have BF := BFn; have BR := BRn; have HB := HBn; clear BFn BRn HBn; have k0 : W1.cell? ⟨b, o, none⟩ = some _ := (Below.cell HB.out (p := ⟨b, o, none⟩) hb0).trans HC0.out; have k1 : W1.cell? ⟨b, o + 1, none⟩ = some (.string v1) := (Below.cell HB.out (p := ⟨b, o + 1, none⟩) hb0).trans HC1.out; have k2 : W1.cell? ⟨b, o + 2, none⟩ = some (.string v2) := (Below.cell HB.out (p := ⟨b, o + 2, none⟩) hb0).trans HC2.out) | (go_at_call 32; (with_reducible refine (HKY.out _).mono ?_); rintro e w2 ⟨rfl, hb⟩; have BFn := Aside0.mk (blk_below BF.out hb); have BRn := Aside0.mk (blk_below BR.out hb); clear BF BR k0 k1 k2; have BF := BFn; have BR := BRn; clear BFn BRn; have HBn := Aside0.mk (below_step (by repeat (first | (with_reducible first | exact HB.out | apply below_alloc | apply pw_below_drewN | apply below_drew1) | exact HB.out)) hb); clear HB; have HB := HBn; clear HBn; clear hb; have k0 : w2.cell? ⟨b, o, none⟩ = some _ := (Below.cell HB.out (p := ⟨b, o, none⟩) hb0).trans HC0.out; have k1 : w2.cell? ⟨b, o + 1, none⟩ = some (.string v1) := (Below.cell HB.out (p := ⟨b, o + 1, none⟩) hb0).trans HC1.out; have k2 : w2.cell? ⟨b, o + 2, none⟩ = some (.string v2) := (Below.cell HB.out (p := ⟨b, o + 2, none⟩) hb0).trans HC2.out) | (go_at_call 54; (with_reducible refine (HSG.out _).mono ?_); rintro e w3 ⟨rfl, hb⟩; have BFn := Aside0.mk (blk_below BF.out hb); have BRn := Aside0.mk (blk_below BR.out hb); clear BF BR k0 k1 k2; have BF := BFn; have BR := BRn; clear BFn BRn; have HBn := Aside0.mk (below_step (by repeat (first | (with_reducible first | exact HB.out | apply below_alloc | apply pw_below_drewN | apply below_drew1) | exact HB.out)) hb); clear HB; have HB := HBn; clear HBn; clear hb; have k0 : w3.cell? ⟨b, o, none⟩ = some _ := (Below.cell HB.out (p := ⟨b, o, none⟩) hb0).trans HC0.out; have k1 : w3.cell? ⟨b, o + 1, none⟩ = some (.string v1) := (Below.cell HB.out (p := ⟨b, o + 1, none⟩) hb0).trans HC1.out; have k2 : w3.cell? ⟨b, o + 2, none⟩ = some (.string v2) := (Below.cell HB.out (p := ⟨b, o + 2, none⟩) hb0).trans HC2.out) | (go_at_call 53; (with_reducible refine (HBD.out _).mono ?_); rintro e w2 ⟨rfl, hb⟩; have BFn := Aside0.mk (blk_below BF.out hb); have BRn := Aside0.mk (blk_below BR.out hb); clear BF BR k0 k1 k2; have BF := BFn; have BR := BRn; clear BFn BRn; have HBn := Aside0.mk (below_step (by repeat (first | (with_reducible first | exact HB.out | apply below_alloc | apply pw_below_drewN | apply below_drew1) | exact HB.out)) hb); clear HB; have HB := HBn; clear HBn; clear hb; have k0 : w2.cell? ⟨b, o, none⟩ = some _ := (Below.cell HB.out (p := ⟨b, o, none⟩) hb0).trans HC0.out; have k1 : w2.cell? ⟨b, o + 1, none⟩ = some (.string v1) := (Below.cell HB.out (p := ⟨b, o + 1, none⟩) hb0).trans HC1.out; have k2 : w2.cell? ⟨b, o + 2, none⟩ = some (.string v2) := (Below.cell HB.out (p := ⟨b, o + 2, none⟩) hb0).trans HC2.out) | (go_at_call 24; (with_reducible refine (HOF.out _).mono ?_); rintro e w1 ⟨⟨cs, rfl, hk⟩, hb⟩; have BK := Aside0.mk (blk_below (BR.out) hb); have GLT := Aside0.mk (blk_lt (BR.out)); have HBn := Aside0.mk (below_step (by repeat (first | (with_reducible first | exact HB.out | apply below_alloc | apply pw_below_drewN | apply below_drew1) | exact HB.out)) hb); clear HB; have HB := HBn; clear HBn; have HK := Aside0.mk hk; clear hb hk) | (refine wpList_store_K HK.out.now rfl 34 _ _ rfl w.heap.size rfl rfl 34 _ BK.out (by kernel_rfl) rfl ?_; intro w8 hbk hlow hfar; have HK2 := Aside0.mk (hfar _ _ (fun h => (h GLT.out).1 rfl) HK.out); clear BK; have BK := Aside0.mk hbk; have HL := Aside0.mk hlow; clear hbk hlow hfar))
  (try simp only [Exit.inBlock, Exit.then]); refine bodyPost_ret (results_cell_row rfl _ _ w.heap.size 34 _ (0, 0) _ rfl BK.out Tryz.underlying34 rfl (by rw [List.size_toArray, kStep.K_len HK.out.now]; kernel_rfl)) rfl ?_; exact ⟨⟨_, rfl, HK2.out.mono (fun k hk h3 => (hk (Nat.lt_of_lt_of_le h3 (Nat.le_of_lt (Nat.lt_of_le_of_lt (Nat.le_refl _) GLT.out)))).2 h3)⟩, HB.out.trans (HL.out _ (Nat.le_refl _))⟩
set_option maxRecDepth 100000 in
set_option maxHeartbeats 1000000 in
theorem ro_incr_nan (ws : List ByteArray) (A : Option Addr) (c : Nat) (quiet : Bool) (used : Int) (F : Nat → Prop) (w : World) (hC : HolF F w (fun w2 => Kd.string.C w2 A ws.length ws)) (hc : ws.length ≤ c) (hs : ∀ k ∈ ws, k.size ≤ 1000000) (h0 : ws.getD 0 ⟨#[]⟩ = (⟨#[105, 110, 99, 114]⟩ : ByteArray)) (v1 : ByteArray) (h1 : ws.getD 1 ⟨#[]⟩ = v1) (v2 : ByteArray) (h2 : ws.getD 2 ⟨#[]⟩ = v2) (hn : ws.length = 3) (hk : keyS v1 = true) (z : Nat) (hz : decS v2 = (z, false)) :
    Calls Tryz.prog 31 #[.slice A ws.length c, .bool quiet, .int .i64 used] w (StepR F w (stepF used deltaT)) := by
  obtain ⟨R, hR⟩ : ∃ R, (stepF used deltaT) = R := ⟨_, rfl⟩
  rw [hR]
  have HB := Aside0.mk (Below.refl w.heap.size w)
  have HCF := Aside0.mk hC
  obtain ⟨v0, hv0⟩ : ∃ v0, ((⟨#[105, 110, 99, 114]⟩ : ByteArray) : ByteArray) = v0 := ⟨_, rfl⟩
  rw [hv0] at h0
  have hln : 2 < ws.length := by omega
  obtain ⟨b, o, rfl, hb0, hcell0⟩ := S_cell hC.now 0 (by omega)
  rw [h0, Nat.add_zero] at hcell0
  have HC0 := Aside0.mk hcell0
  have HC1 : Aside0 (w.cell? ⟨b, o + 1, none⟩ = some (.string v1)) := by
    obtain ⟨b', o', e', -, h⟩ := S_cell hC.now 1 (by omega)
    obtain ⟨rfl, rfl⟩ : b = b' ∧ o = o' := by simpa using e'
    rw [h1] at h
    exact ⟨h⟩
  have hs1 : v1.size ≤ 1000000 := by
    rw [← h1, List.getD_eq_getElem?_getD, List.getElem?_eq_getElem (by omega)]
    exact hs _ (List.getElem_mem _)
  have HC2 : Aside0 (w.cell? ⟨b, o + 2, none⟩ = some (.string v2)) := by
    obtain ⟨b', o', e', -, h⟩ := S_cell hC.now 2 (by omega)
    obtain ⟨rfl, rfl⟩ : b = b' ∧ o = o' := by simpa using e'
    rw [h2] at h
    exact ⟨h⟩
  have hs2 : v2.size ≤ 1000000 := by
    rw [← h2, List.getD_eq_getElem?_getD, List.getElem?_eq_getElem (by omega)]
    exact hs _ (List.getElem_mem _)
  have hi0 : (0 : Int) < ↑ws.length := by omega
  have hj0 : 0 < ws.length := by omega
  have hi1 : (1 : Int) < ↑ws.length := by omega
  have hj1 : 1 < ws.length := by omega
  have hi2 : (2 : Int) < ↑ws.length := by omega
  have hj2 : 2 < ws.length := by omega
  have hcc : (ws.length : Int) ≤ ↑c := by omega
  have hg : ((ws.length : Int) != 3) = false := by simp; omega
  have hc1 : ¬ (c = 1) := by omega
  have hc2 : (2 : Int) ≤ ↑c := by omega
  have hc3 : (2 : Int) ≤ ↑ws.length := by omega
  have HKY := Aside0.mk (fun w => rkey_calls v1 w hs1)
  rw [hk] at HKY
  have HSG := Aside0.mk (fun w => rdec_w v2 w)
  rw [hz] at HSG
  have HOF : Aside0 (∀ w', Calls Tryz.prog 24 #[.int .i64 used, .string (⟨#[67, 76, 73, 69, 78, 84, 95, 69, 82, 82, 79, 82, 32, 105, 110, 118, 97, 108, 105, 100, 32, 110, 117, 109, 101, 114, 105, 99, 32, 100, 101, 108, 116, 97, 32, 97, 114, 103, 117, 109, 101, 110, 116]⟩ : ByteArray)] w' (StepR (fun k => k ≠ w.heap.size ∧ (k < w.heap.size → F k)) w' R)) := ⟨fun w' => hR ▸ rfault_calls used _ _ w' (by decide)⟩
  clear hC h0 hln hs hcell0 hR hn hk h1 hs1 h2 hs2 hz
  go_enter Tryz.func31, Tryz.ntmps31
  have kw0 : w.cell? ⟨b, o, none⟩ = some (.string v0) := HC0.out
  go_upto_region 2 with fail
  obtain ⟨W0, hW0⟩ : ∃ W0, (w.alloc (.cells zStepC 34 (0, 0))).alloc (.cells #[.int .i64 1, .string v0, .int .i64 0, .int .u32 0, .bool quiet, .bool false, .string ⟨#[]⟩, .slice none 0 0, .slice none 0 0, .bool false] 29 (0, 0)) = W0 := ⟨_, rfl⟩
  have hW2 := hW0
  unfold zStepC at hW2
  rw [hW2]
  have BF := Aside0.mk (show W0.heap[w.heap.size + 1]? = _ from hW0 ▸ blk_at_new _ _ _ (by simp))
  have BR := Aside0.mk (show W0.heap[w.heap.size]? = _ from hW0 ▸ blk_alloc (blk_at_new _ _ _ rfl) _)
  have HBn : Aside0 (Below w.heap.size w W0) := ⟨hW0 ▸ (by repeat (first | (with_reducible first | exact HB.out | apply below_alloc | apply pw_below_drewN | apply below_drew1) | exact HB.out))⟩
  clear HB hW0 hW2 kw0
  have HB := HBn
  clear HBn
  have k0 : W0.cell? ⟨b, o, none⟩ = some (.string v0) := (Below.cell HB.out (p := ⟨b, o, none⟩) hb0).trans HC0.out
  have k1 : W0.cell? ⟨b, o + 1, none⟩ = some (.string v1) := (Below.cell HB.out (p := ⟨b, o + 1, none⟩) hb0).trans HC1.out
  have k2 : W0.cell? ⟨b, o + 2, none⟩ = some (.string v2) := (Below.cell HB.out (p := ⟨b, o + 2, none⟩) hb0).trans HC2.out
  subst hv0
  go_wp2_with (first | (refine wpList_store_1 rfl 27 _ _ rfl (w.heap.size + 1) 8 (.slice (some ⟨b, o + 1, none⟩) 1 (c - 1)) rfl rfl rfl 29 _ #[.int .i64 1, .string (⟨#[105, 110, 99, 114]⟩ : ByteArray), .int .i64 0, .int .u32 0, .bool quiet, .bool false, .string ⟨#[]⟩, .slice none 0 0, .slice (some ⟨b, o + 1, none⟩) 1 (c - 1), .bool false] BF.out (by simp) (by kernel_rfl) rfl ?_; intro W1 hbk hst; have BFn := Aside0.mk hbk; have BRn := Aside0.mk (hst.blk BR.out (by omega)); have HBn := Aside0.mk (hst.up HB.out (by omega)); clear BF BR HB k0 k1 k2 hbk hst; have BF := BFn; have BR := BRn; have HB := HBn; clear BFn BRn HBn; have k0 : W1.cell? ⟨b, o, none⟩ = some _ := (Below.cell HB.out (p := ⟨b, o, none⟩) hb0).trans HC0.out; have k1 : W1.cell? ⟨b, o + 1, none⟩ = some (.string v1) := (Below.cell HB.out (p := ⟨b, o + 1, none⟩) hb0).trans HC1.out; have k2 : W1.cell? ⟨b, o + 2, none⟩ = some (.string v2) := (Below.cell HB.out (p := ⟨b, o + 2, none⟩) hb0).trans HC2.out) | (go_at_call 32; (with_reducible refine (HKY.out _).mono ?_); rintro e w2 ⟨rfl, hb⟩; have BFn := Aside0.mk (blk_below BF.out hb); have BRn := Aside0.mk (blk_below BR.out hb); clear BF BR k0 k1 k2; have BF := BFn; have BR := BRn; clear BFn BRn; have HBn := Aside0.mk (below_step (by repeat (first | (with_reducible first | exact HB.out | apply below_alloc | apply pw_below_drewN | apply below_drew1) | exact HB.out)) hb); clear HB; have HB := HBn; clear HBn; clear hb; have k0 : w2.cell? ⟨b, o, none⟩ = some _ := (Below.cell HB.out (p := ⟨b, o, none⟩) hb0).trans HC0.out; have k1 : w2.cell? ⟨b, o + 1, none⟩ = some (.string v1) := (Below.cell HB.out (p := ⟨b, o + 1, none⟩) hb0).trans HC1.out; have k2 : w2.cell? ⟨b, o + 2, none⟩ = some (.string v2) := (Below.cell HB.out (p := ⟨b, o + 2, none⟩) hb0).trans HC2.out) | (go_at_call 56; (with_reducible refine (HSG.out _).mono ?_); rintro e w3 ⟨rfl, hb⟩; have BFn := Aside0.mk (blk_below BF.out hb); have BRn := Aside0.mk (blk_below BR.out hb); clear BF BR k0 k1 k2; have BF := BFn; have BR := BRn; clear BFn BRn; have HBn := Aside0.mk (below_step (by repeat (first | (with_reducible first | exact HB.out | apply below_alloc | apply pw_below_drewN | apply below_drew1) | exact HB.out)) hb); clear HB; have HB := HBn; clear HBn; clear hb; have k0 : w3.cell? ⟨b, o, none⟩ = some _ := (Below.cell HB.out (p := ⟨b, o, none⟩) hb0).trans HC0.out; have k1 : w3.cell? ⟨b, o + 1, none⟩ = some (.string v1) := (Below.cell HB.out (p := ⟨b, o + 1, none⟩) hb0).trans HC1.out; have k2 : w3.cell? ⟨b, o + 2, none⟩ = some (.string v2) := (Below.cell HB.out (p := ⟨b, o + 2, none⟩) hb0).trans HC2.out) | (go_at_call 24; (with_reducible refine (HOF.out _).mono ?_); rintro e w1 ⟨⟨cs, rfl, hk⟩, hb⟩; have BK := Aside0.mk (blk_below (BR.out) hb); have GLT := Aside0.mk (blk_lt (BR.out)); have HBn := Aside0.mk (below_step (by repeat (first | (with_reducible first | exact HB.out | apply below_alloc | apply pw_below_drewN | apply below_drew1) | exact HB.out)) hb); clear HB; have HB := HBn; clear HBn; have HK := Aside0.mk hk; clear hb hk) | (refine wpList_store_K HK.out.now rfl 34 _ _ rfl w.heap.size rfl rfl 34 _ BK.out (by kernel_rfl) rfl ?_; intro w8 hbk hlow hfar; have HK2 := Aside0.mk (hfar _ _ (fun h => (h GLT.out).1 rfl) HK.out); clear BK; have BK := Aside0.mk hbk; have HL := Aside0.mk hlow; clear hbk hlow hfar))
  (try simp only [Exit.inBlock, Exit.then]); refine bodyPost_ret (results_cell_row rfl _ _ w.heap.size 34 _ (0, 0) _ rfl BK.out Tryz.underlying34 rfl (by rw [List.size_toArray, kStep.K_len HK.out.now]; kernel_rfl)) rfl ?_; exact ⟨⟨_, rfl, HK2.out.mono (fun k hk h3 => (hk (Nat.lt_of_lt_of_le h3 (Nat.le_of_lt (Nat.lt_of_le_of_lt (Nat.le_refl _) GLT.out)))).2 h3)⟩, HB.out.trans (HL.out _ (Nat.le_refl _))⟩
set_option maxRecDepth 100000 in
set_option maxHeartbeats 1000000 in
theorem ro_decr_nan (ws : List ByteArray) (A : Option Addr) (c : Nat) (quiet : Bool) (used : Int) (F : Nat → Prop) (w : World) (hC : HolF F w (fun w2 => Kd.string.C w2 A ws.length ws)) (hc : ws.length ≤ c) (hs : ∀ k ∈ ws, k.size ≤ 1000000) (h0 : ws.getD 0 ⟨#[]⟩ = (⟨#[100, 101, 99, 114]⟩ : ByteArray)) (v1 : ByteArray) (h1 : ws.getD 1 ⟨#[]⟩ = v1) (v2 : ByteArray) (h2 : ws.getD 2 ⟨#[]⟩ = v2) (hn : ws.length = 3) (hk : keyS v1 = true) (z : Nat) (hz : decS v2 = (z, false)) :
    Calls Tryz.prog 31 #[.slice A ws.length c, .bool quiet, .int .i64 used] w (StepR F w (stepF used deltaT)) := by
  obtain ⟨R, hR⟩ : ∃ R, (stepF used deltaT) = R := ⟨_, rfl⟩
  rw [hR]
  have HB := Aside0.mk (Below.refl w.heap.size w)
  have HCF := Aside0.mk hC
  obtain ⟨v0, hv0⟩ : ∃ v0, ((⟨#[100, 101, 99, 114]⟩ : ByteArray) : ByteArray) = v0 := ⟨_, rfl⟩
  rw [hv0] at h0
  have hln : 2 < ws.length := by omega
  obtain ⟨b, o, rfl, hb0, hcell0⟩ := S_cell hC.now 0 (by omega)
  rw [h0, Nat.add_zero] at hcell0
  have HC0 := Aside0.mk hcell0
  have HC1 : Aside0 (w.cell? ⟨b, o + 1, none⟩ = some (.string v1)) := by
    obtain ⟨b', o', e', -, h⟩ := S_cell hC.now 1 (by omega)
    obtain ⟨rfl, rfl⟩ : b = b' ∧ o = o' := by simpa using e'
    rw [h1] at h
    exact ⟨h⟩
  have hs1 : v1.size ≤ 1000000 := by
    rw [← h1, List.getD_eq_getElem?_getD, List.getElem?_eq_getElem (by omega)]
    exact hs _ (List.getElem_mem _)
  have HC2 : Aside0 (w.cell? ⟨b, o + 2, none⟩ = some (.string v2)) := by
    obtain ⟨b', o', e', -, h⟩ := S_cell hC.now 2 (by omega)
    obtain ⟨rfl, rfl⟩ : b = b' ∧ o = o' := by simpa using e'
    rw [h2] at h
    exact ⟨h⟩
  have hs2 : v2.size ≤ 1000000 := by
    rw [← h2, List.getD_eq_getElem?_getD, List.getElem?_eq_getElem (by omega)]
    exact hs _ (List.getElem_mem _)
  have hi0 : (0 : Int) < ↑ws.length := by omega
  have hj0 : 0 < ws.length := by omega
  have hi1 : (1 : Int) < ↑ws.length := by omega
  have hj1 : 1 < ws.length := by omega
  have hi2 : (2 : Int) < ↑ws.length := by omega
  have hj2 : 2 < ws.length := by omega
  have hcc : (ws.length : Int) ≤ ↑c := by omega
  have hg : ((ws.length : Int) != 3) = false := by simp; omega
  have hc1 : ¬ (c = 1) := by omega
  have hc2 : (2 : Int) ≤ ↑c := by omega
  have hc3 : (2 : Int) ≤ ↑ws.length := by omega
  have HKY := Aside0.mk (fun w => rkey_calls v1 w hs1)
  rw [hk] at HKY
  have HSG := Aside0.mk (fun w => rdec_w v2 w)
  rw [hz] at HSG
  have HOF : Aside0 (∀ w', Calls Tryz.prog 24 #[.int .i64 used, .string (⟨#[67, 76, 73, 69, 78, 84, 95, 69, 82, 82, 79, 82, 32, 105, 110, 118, 97, 108, 105, 100, 32, 110, 117, 109, 101, 114, 105, 99, 32, 100, 101, 108, 116, 97, 32, 97, 114, 103, 117, 109, 101, 110, 116]⟩ : ByteArray)] w' (StepR (fun k => k ≠ w.heap.size ∧ (k < w.heap.size → F k)) w' R)) := ⟨fun w' => hR ▸ rfault_calls used _ _ w' (by decide)⟩
  clear hC h0 hln hs hcell0 hR hn hk h1 hs1 h2 hs2 hz
  go_enter Tryz.func31, Tryz.ntmps31
  have kw0 : w.cell? ⟨b, o, none⟩ = some (.string v0) := HC0.out
  go_upto_region 2 with fail
  obtain ⟨W0, hW0⟩ : ∃ W0, (w.alloc (.cells zStepC 34 (0, 0))).alloc (.cells #[.int .i64 1, .string v0, .int .i64 0, .int .u32 0, .bool quiet, .bool false, .string ⟨#[]⟩, .slice none 0 0, .slice none 0 0, .bool false] 29 (0, 0)) = W0 := ⟨_, rfl⟩
  have hW2 := hW0
  unfold zStepC at hW2
  rw [hW2]
  have BF := Aside0.mk (show W0.heap[w.heap.size + 1]? = _ from hW0 ▸ blk_at_new _ _ _ (by simp))
  have BR := Aside0.mk (show W0.heap[w.heap.size]? = _ from hW0 ▸ blk_alloc (blk_at_new _ _ _ rfl) _)
  have HBn : Aside0 (Below w.heap.size w W0) := ⟨hW0 ▸ (by repeat (first | (with_reducible first | exact HB.out | apply below_alloc | apply pw_below_drewN | apply below_drew1) | exact HB.out))⟩
  clear HB hW0 hW2 kw0
  have HB := HBn
  clear HBn
  have k0 : W0.cell? ⟨b, o, none⟩ = some (.string v0) := (Below.cell HB.out (p := ⟨b, o, none⟩) hb0).trans HC0.out
  have k1 : W0.cell? ⟨b, o + 1, none⟩ = some (.string v1) := (Below.cell HB.out (p := ⟨b, o + 1, none⟩) hb0).trans HC1.out
  have k2 : W0.cell? ⟨b, o + 2, none⟩ = some (.string v2) := (Below.cell HB.out (p := ⟨b, o + 2, none⟩) hb0).trans HC2.out
  subst hv0
  go_wp2_with (first | (refine wpList_store_1 rfl 27 _ _ rfl (w.heap.size + 1) 8 (.slice (some ⟨b, o + 1, none⟩) 1 (c - 1)) rfl rfl rfl 29 _ #[.int .i64 1, .string (⟨#[100, 101, 99, 114]⟩ : ByteArray), .int .i64 0, .int .u32 0, .bool quiet, .bool false, .string ⟨#[]⟩, .slice none 0 0, .slice (some ⟨b, o + 1, none⟩) 1 (c - 1), .bool false] BF.out (by simp) (by kernel_rfl) rfl ?_; intro W1 hbk hst; have BFn := Aside0.mk hbk; have BRn := Aside0.mk (hst.blk BR.out (by omega)); have HBn := Aside0.mk (hst.up HB.out (by omega)); clear BF BR HB k0 k1 k2 hbk hst; have BF := BFn; have BR := BRn; have HB := HBn; clear BFn BRn HBn; have k0 : W1.cell? ⟨b, o, none⟩ = some _ := (Below.cell HB.out (p := ⟨b, o, none⟩) hb0).trans HC0.out; have k1 : W1.cell? ⟨b, o + 1, none⟩ = some (.string v1) := (Below.cell HB.out (p := ⟨b, o + 1, none⟩) hb0).trans HC1.out; have k2 : W1.cell? ⟨b, o + 2, none⟩ = some (.string v2) := (Below.cell HB.out (p := ⟨b, o + 2, none⟩) hb0).trans HC2.out) | (go_at_call 32; (with_reducible refine (HKY.out _).mono ?_); rintro e w2 ⟨rfl, hb⟩; have BFn := Aside0.mk (blk_below BF.out hb); have BRn := Aside0.mk (blk_below BR.out hb); clear BF BR k0 k1 k2; have BF := BFn; have BR := BRn; clear BFn BRn; have HBn := Aside0.mk (below_step (by repeat (first | (with_reducible first | exact HB.out | apply below_alloc | apply pw_below_drewN | apply below_drew1) | exact HB.out)) hb); clear HB; have HB := HBn; clear HBn; clear hb; have k0 : w2.cell? ⟨b, o, none⟩ = some _ := (Below.cell HB.out (p := ⟨b, o, none⟩) hb0).trans HC0.out; have k1 : w2.cell? ⟨b, o + 1, none⟩ = some (.string v1) := (Below.cell HB.out (p := ⟨b, o + 1, none⟩) hb0).trans HC1.out; have k2 : w2.cell? ⟨b, o + 2, none⟩ = some (.string v2) := (Below.cell HB.out (p := ⟨b, o + 2, none⟩) hb0).trans HC2.out) | (go_at_call 56; (with_reducible refine (HSG.out _).mono ?_); rintro e w3 ⟨rfl, hb⟩; have BFn := Aside0.mk (blk_below BF.out hb); have BRn := Aside0.mk (blk_below BR.out hb); clear BF BR k0 k1 k2; have BF := BFn; have BR := BRn; clear BFn BRn; have HBn := Aside0.mk (below_step (by repeat (first | (with_reducible first | exact HB.out | apply below_alloc | apply pw_below_drewN | apply below_drew1) | exact HB.out)) hb); clear HB; have HB := HBn; clear HBn; clear hb; have k0 : w3.cell? ⟨b, o, none⟩ = some _ := (Below.cell HB.out (p := ⟨b, o, none⟩) hb0).trans HC0.out; have k1 : w3.cell? ⟨b, o + 1, none⟩ = some (.string v1) := (Below.cell HB.out (p := ⟨b, o + 1, none⟩) hb0).trans HC1.out; have k2 : w3.cell? ⟨b, o + 2, none⟩ = some (.string v2) := (Below.cell HB.out (p := ⟨b, o + 2, none⟩) hb0).trans HC2.out) | (go_at_call 24; (with_reducible refine (HOF.out _).mono ?_); rintro e w1 ⟨⟨cs, rfl, hk⟩, hb⟩; have BK := Aside0.mk (blk_below (BR.out) hb); have GLT := Aside0.mk (blk_lt (BR.out)); have HBn := Aside0.mk (below_step (by repeat (first | (with_reducible first | exact HB.out | apply below_alloc | apply pw_below_drewN | apply below_drew1) | exact HB.out)) hb); clear HB; have HB := HBn; clear HBn; have HK := Aside0.mk hk; clear hb hk) | (refine wpList_store_K HK.out.now rfl 34 _ _ rfl w.heap.size rfl rfl 34 _ BK.out (by kernel_rfl) rfl ?_; intro w8 hbk hlow hfar; have HK2 := Aside0.mk (hfar _ _ (fun h => (h GLT.out).1 rfl) HK.out); clear BK; have BK := Aside0.mk hbk; have HL := Aside0.mk hlow; clear hbk hlow hfar))
  (try simp only [Exit.inBlock, Exit.then]); refine bodyPost_ret (results_cell_row rfl _ _ w.heap.size 34 _ (0, 0) _ rfl BK.out Tryz.underlying34 rfl (by rw [List.size_toArray, kStep.K_len HK.out.now]; kernel_rfl)) rfl ?_; exact ⟨⟨_, rfl, HK2.out.mono (fun k hk h3 => (hk (Nat.lt_of_lt_of_le h3 (Nat.le_of_lt (Nat.lt_of_le_of_lt (Nat.le_refl _) GLT.out)))).2 h3)⟩, HB.out.trans (HL.out _ (Nat.le_refl _))⟩
set_option maxRecDepth 100000 in
set_option maxHeartbeats 1000000 in
theorem ro_delete_ok (ws : List ByteArray) (A : Option Addr) (c : Nat) (quiet : Bool) (used : Int) (F : Nat → Prop) (w : World) (hC : HolF F w (fun w2 => Kd.string.C w2 A ws.length ws)) (hc : ws.length ≤ c) (hs : ∀ k ∈ ws, k.size ≤ 1000000) (h0 : ws.getD 0 ⟨#[]⟩ = (⟨#[100, 101, 108, 101, 116, 101]⟩ : ByteArray)) (v1 : ByteArray) (h1 : ws.getD 1 ⟨#[]⟩ = v1) (hn : ws.length = 2) (hk : keyS v1 = true) :
    Calls Tryz.prog 31 #[.slice A ws.length c, .bool quiet, .int .i64 used] w (StepR F w (stepO used (formT (⟨#[100, 101, 108, 101, 116, 101]⟩ : ByteArray) quiet [v1]) (cmdK 8 0 0 v1))) := by
  obtain ⟨R, hR⟩ : ∃ R, (stepO used (formT (⟨#[100, 101, 108, 101, 116, 101]⟩ : ByteArray) quiet [v1]) (cmdK 8 0 0 v1)) = R := ⟨_, rfl⟩
  rw [hR]
  have HB := Aside0.mk (Below.refl w.heap.size w)
  have HCF := Aside0.mk hC
  obtain ⟨v0, hv0⟩ : ∃ v0, ((⟨#[100, 101, 108, 101, 116, 101]⟩ : ByteArray) : ByteArray) = v0 := ⟨_, rfl⟩
  rw [hv0] at h0
  have hln : 1 < ws.length := by omega
  obtain ⟨b, o, rfl, hb0, hcell0⟩ := S_cell hC.now 0 (by omega)
  rw [h0, Nat.add_zero] at hcell0
  have HC0 := Aside0.mk hcell0
  have HC1 : Aside0 (w.cell? ⟨b, o + 1, none⟩ = some (.string v1)) := by
    obtain ⟨b', o', e', -, h⟩ := S_cell hC.now 1 (by omega)
    obtain ⟨rfl, rfl⟩ : b = b' ∧ o = o' := by simpa using e'
    rw [h1] at h
    exact ⟨h⟩
  have hs1 : v1.size ≤ 1000000 := by
    rw [← h1, List.getD_eq_getElem?_getD, List.getElem?_eq_getElem (by omega)]
    exact hs _ (List.getElem_mem _)
  have hi0 : (0 : Int) < ↑ws.length := by omega
  have hj0 : 0 < ws.length := by omega
  have hi1 : (1 : Int) < ↑ws.length := by omega
  have hj1 : 1 < ws.length := by omega
  have hcc : (ws.length : Int) ≤ ↑c := by omega
  have hg : ((ws.length : Int) != 2) = false := by simp; omega
  have hc1 : ¬ (c = 1) := by omega
  have hc2 : (2 : Int) ≤ ↑c := by omega
  have hc3 : (2 : Int) ≤ ↑ws.length := by omega
  have HKY := Aside0.mk (fun w => rkey_calls v1 w hs1)
  rw [hk] at HKY
  have HKC : Aside0 (HolF F w (fun w2 => Kd.string.C w2 (some ⟨b, o + 1, none⟩) 1 [v1])) := ⟨hC.imp (fun w2 h => by rw [← h1]; exact C_second h (by omega))⟩
  have hcc1 : 1 ≤ c - 1 := by omega
  have HO : Aside0 (∀ w', Below w.heap.size w w' → Calls Tryz.prog 55 #[.int .i64 used, .agg #[.int .i64 8, .string v1, .slice none 0 0, .int .u32 0, .int .i64 0, .int .u64 0, .int .u64 0, .int .u64 0, .bool false, .bool false], .agg #[.int .i64 1, .string (⟨#[100, 101, 108, 101, 116, 101]⟩ : ByteArray), .int .i64 0, .int .u32 0, .bool quiet, .bool false, .string ⟨#[]⟩, .slice none 0 0, .slice (some ⟨b, o + 1, none⟩) 1 (c - 1), .bool false]] w' (StepR (fun k => k ≠ w.heap.size ∧ (k < w.heap.size → F k)) w' R)) := ⟨fun w' hb => hR ▸ rone_calls used _ _ _ _ _ w' (fun w2 _ _ => K_cmdK w2 8 0 0 v1) (((HKC.out).up hb (Nat.le_refl _)).imp (fun w2 h => K_formK (⟨#[100, 101, 108, 101, 116, 101]⟩ : ByteArray) v1 quiet h hcc1))⟩
  clear hC h0 hln hs hcell0 hR hn hk h1 hs1 hcc1
  go_enter Tryz.func31, Tryz.ntmps31
  have kw0 : w.cell? ⟨b, o, none⟩ = some (.string v0) := HC0.out
  go_upto_region 2 with fail
  obtain ⟨W0, hW0⟩ : ∃ W0, (w.alloc (.cells zStepC 34 (0, 0))).alloc (.cells #[.int .i64 1, .string v0, .int .i64 0, .int .u32 0, .bool quiet, .bool false, .string ⟨#[]⟩, .slice none 0 0, .slice none 0 0, .bool false] 29 (0, 0)) = W0 := ⟨_, rfl⟩
  have hW2 := hW0
  unfold zStepC at hW2
  rw [hW2]
  have BF := Aside0.mk (show W0.heap[w.heap.size + 1]? = _ from hW0 ▸ blk_at_new _ _ _ (by simp))
  have BR := Aside0.mk (show W0.heap[w.heap.size]? = _ from hW0 ▸ blk_alloc (blk_at_new _ _ _ rfl) _)
  have HBn : Aside0 (Below w.heap.size w W0) := ⟨hW0 ▸ (by repeat (first | (with_reducible first | exact HB.out | apply below_alloc | apply pw_below_drewN | apply below_drew1) | exact HB.out))⟩
  clear HB hW0 hW2 kw0
  have HB := HBn
  clear HBn
  have k0 : W0.cell? ⟨b, o, none⟩ = some (.string v0) := (Below.cell HB.out (p := ⟨b, o, none⟩) hb0).trans HC0.out
  have k1 : W0.cell? ⟨b, o + 1, none⟩ = some (.string v1) := (Below.cell HB.out (p := ⟨b, o + 1, none⟩) hb0).trans HC1.out
  subst hv0
  go_wp2_with (first | (refine wpList_store_1 rfl 27 _ _ rfl (w.heap.size + 1) 8 (.slice (some ⟨b, o + 1, none⟩) 1 (c - 1)) rfl rfl rfl 29 _ #[.int .i64 1, .string (⟨#[100, 101, 108, 101, 116, 101]⟩ : ByteArray), .int .i64 0, .int .u32 0, .bool quiet, .bool false, .string ⟨#[]⟩, .slice none 0 0, .slice (some ⟨b, o + 1, none⟩) 1 (c - 1), .bool false] BF.out (by simp) (by kernel_rfl) rfl ?_; intro W1 hbk hst; have BFn := Aside0.mk hbk; have BRn := Aside0.mk (hst.blk BR.out (by omega)); have HBn := Aside0.mk (hst.up HB.out (by omega)); clear BF BR HB k0 k1 hbk hst; have BF := BFn; have BR := BRn; have HB := HBn; clear BFn BRn HBn; have k0 : W1.cell? ⟨b, o, none⟩ = some _ := (Below.cell HB.out (p := ⟨b, o, none⟩) hb0).trans HC0.out; have k1 : W1.cell? ⟨b, o + 1, none⟩ = some (.string v1) := (Below.cell HB.out (p := ⟨b, o + 1, none⟩) hb0).trans HC1.out) | (go_at_call 32; (with_reducible refine (HKY.out _).mono ?_); rintro e w2 ⟨rfl, hb⟩; have BFn := Aside0.mk (blk_below BF.out hb); have BRn := Aside0.mk (blk_below BR.out hb); clear BF BR k0 k1; have BF := BFn; have BR := BRn; clear BFn BRn; have HBn := Aside0.mk (below_step (by repeat (first | (with_reducible first | exact HB.out | apply below_alloc | apply pw_below_drewN | apply below_drew1) | exact HB.out)) hb); clear HB; have HB := HBn; clear HBn; clear hb; have k0 : w2.cell? ⟨b, o, none⟩ = some _ := (Below.cell HB.out (p := ⟨b, o, none⟩) hb0).trans HC0.out; have k1 : w2.cell? ⟨b, o + 1, none⟩ = some (.string v1) := (Below.cell HB.out (p := ⟨b, o + 1, none⟩) hb0).trans HC1.out))
  (refine wp_region_noPanic ?_; refine wp_region_held_drew (S := fun w' => w'.heap[w.heap.size + 1]? = some (.cells #[.int .i64 1, .string (⟨#[100, 101, 108, 101, 116, 101]⟩ : ByteArray), .int .i64 0, .int .u32 0, .bool quiet, .bool false, .string ⟨#[]⟩, .slice none 0 0, .slice (some ⟨b, o + 1, none⟩) 1 (c - 1), .bool false] 29 (0, 0)) ∧ w'.cell? ⟨b, o + 1, none⟩ = some (.string v1) ∧ Below w.heap.size w w') (by kernel_rfl) ⟨(blk_drew BF.out), (Below.cell (below_drew1 HB.out) (p := ⟨b, o + 1, none⟩) hb0).trans HC1.out, (below_drew1 HB.out)⟩ ?_; intro hHeld)
  have BRd := Aside0.mk (show _ = some (Obj.cells zStepC 34 (0, 0)) from blk_drew BR.out)
  (refine wpAnyH_take (i := 0) (v := ?_) (by simp only [List.getElem?_toArray, List.getElem?_cons_succ, List.getElem?_cons_zero]; rfl) (by kernel_rfl) (by kernel_rfl) (by kernel_rfl) (fun _ _ _ h => h) (Or.inl ⟨by rfl, ?_⟩) (by exact hHeld) ?_; rotate_left; (focus (intro w' hSw; have s0 : w'.cell? ⟨w.heap.size + 1, 0, none⟩ = some (.int .i64 1) := (blk_cell hSw.1 0).trans rfl; have s1 : w'.cell? ⟨w.heap.size + 1, 1, none⟩ = some (.string (⟨#[100, 101, 108, 101, 116, 101]⟩ : ByteArray)) := (blk_cell hSw.1 1).trans rfl; have s2 : w'.cell? ⟨w.heap.size + 1, 2, none⟩ = some (.int .i64 0) := (blk_cell hSw.1 2).trans rfl; have s3 : w'.cell? ⟨w.heap.size + 1, 3, none⟩ = some (.int .u32 0) := (blk_cell hSw.1 3).trans rfl; have s4 : w'.cell? ⟨w.heap.size + 1, 4, none⟩ = some (.bool quiet) := (blk_cell hSw.1 4).trans rfl; have s5 : w'.cell? ⟨w.heap.size + 1, 5, none⟩ = some (.bool false) := (blk_cell hSw.1 5).trans rfl; have s6 : w'.cell? ⟨w.heap.size + 1, 6, none⟩ = some (.string ⟨#[]⟩) := (blk_cell hSw.1 6).trans rfl; have s7 : w'.cell? ⟨w.heap.size + 1, 7, none⟩ = some (.slice none 0 0) := (blk_cell hSw.1 7).trans rfl; have s8 : w'.cell? ⟨w.heap.size + 1, 8, none⟩ = some (.slice (some ⟨b, o + 1, none⟩) 1 (c - 1)) := (blk_cell hSw.1 8).trans rfl; have s9 : w'.cell? ⟨w.heap.size + 1, 9, none⟩ = some (.bool false) := (blk_cell hSw.1 9).trans rfl; have c0 := hSw.2.1; have bl := hSw.2.2; clear bl; go_simp; (try with_reducible rfl); done)); (try simp only [Act.put, List.setIfInBounds_toArray, List.set_cons_zero, List.set_cons_succ]))
  (refine wpAnyH_take (i := 1) (v := ?_) (by simp only [List.getElem?_toArray, List.getElem?_cons_succ, List.getElem?_cons_zero]; rfl) (by kernel_rfl) (by kernel_rfl) (by kernel_rfl) (fun _ _ _ h => h) (Or.inl ⟨by rfl, ?_⟩) (by exact hHeld) ?_; rotate_left; (focus (intro w' hSw; have s0 : w'.cell? ⟨w.heap.size + 1, 0, none⟩ = some (.int .i64 1) := (blk_cell hSw.1 0).trans rfl; have s1 : w'.cell? ⟨w.heap.size + 1, 1, none⟩ = some (.string (⟨#[100, 101, 108, 101, 116, 101]⟩ : ByteArray)) := (blk_cell hSw.1 1).trans rfl; have s2 : w'.cell? ⟨w.heap.size + 1, 2, none⟩ = some (.int .i64 0) := (blk_cell hSw.1 2).trans rfl; have s3 : w'.cell? ⟨w.heap.size + 1, 3, none⟩ = some (.int .u32 0) := (blk_cell hSw.1 3).trans rfl; have s4 : w'.cell? ⟨w.heap.size + 1, 4, none⟩ = some (.bool quiet) := (blk_cell hSw.1 4).trans rfl; have s5 : w'.cell? ⟨w.heap.size + 1, 5, none⟩ = some (.bool false) := (blk_cell hSw.1 5).trans rfl; have s6 : w'.cell? ⟨w.heap.size + 1, 6, none⟩ = some (.string ⟨#[]⟩) := (blk_cell hSw.1 6).trans rfl; have s7 : w'.cell? ⟨w.heap.size + 1, 7, none⟩ = some (.slice none 0 0) := (blk_cell hSw.1 7).trans rfl; have s8 : w'.cell? ⟨w.heap.size + 1, 8, none⟩ = some (.slice (some ⟨b, o + 1, none⟩) 1 (c - 1)) := (blk_cell hSw.1 8).trans rfl; have s9 : w'.cell? ⟨w.heap.size + 1, 9, none⟩ = some (.bool false) := (blk_cell hSw.1 9).trans rfl; have c0 := hSw.2.1; have bl := hSw.2.2; clear bl; go_simp; (try with_reducible rfl); done)); (try simp only [Act.put, List.setIfInBounds_toArray, List.set_cons_zero, List.set_cons_succ]))
  (refine wpAnyH_take (i := 2) (v := ?_) (by simp only [List.getElem?_toArray, List.getElem?_cons_succ, List.getElem?_cons_zero]; rfl) (by kernel_rfl) (by kernel_rfl) (by kernel_rfl) (fun _ _ _ h => h) (Or.inl ⟨by rfl, ?_⟩) (by exact hHeld) ?_; rotate_left; (focus (intro w' hSw; have s0 : w'.cell? ⟨w.heap.size + 1, 0, none⟩ = some (.int .i64 1) := (blk_cell hSw.1 0).trans rfl; have s1 : w'.cell? ⟨w.heap.size + 1, 1, none⟩ = some (.string (⟨#[100, 101, 108, 101, 116, 101]⟩ : ByteArray)) := (blk_cell hSw.1 1).trans rfl; have s2 : w'.cell? ⟨w.heap.size + 1, 2, none⟩ = some (.int .i64 0) := (blk_cell hSw.1 2).trans rfl; have s3 : w'.cell? ⟨w.heap.size + 1, 3, none⟩ = some (.int .u32 0) := (blk_cell hSw.1 3).trans rfl; have s4 : w'.cell? ⟨w.heap.size + 1, 4, none⟩ = some (.bool quiet) := (blk_cell hSw.1 4).trans rfl; have s5 : w'.cell? ⟨w.heap.size + 1, 5, none⟩ = some (.bool false) := (blk_cell hSw.1 5).trans rfl; have s6 : w'.cell? ⟨w.heap.size + 1, 6, none⟩ = some (.string ⟨#[]⟩) := (blk_cell hSw.1 6).trans rfl; have s7 : w'.cell? ⟨w.heap.size + 1, 7, none⟩ = some (.slice none 0 0) := (blk_cell hSw.1 7).trans rfl; have s8 : w'.cell? ⟨w.heap.size + 1, 8, none⟩ = some (.slice (some ⟨b, o + 1, none⟩) 1 (c - 1)) := (blk_cell hSw.1 8).trans rfl; have s9 : w'.cell? ⟨w.heap.size + 1, 9, none⟩ = some (.bool false) := (blk_cell hSw.1 9).trans rfl; have c0 := hSw.2.1; have bl := hSw.2.2; clear bl; go_simp; (try with_reducible rfl); done)); (try simp only [Act.put, List.setIfInBounds_toArray, List.set_cons_zero, List.set_cons_succ]))
  (refine wpAnyH_take (i := 3) (v := ?_) (by simp only [List.getElem?_toArray, List.getElem?_cons_succ, List.getElem?_cons_zero]; rfl) (by kernel_rfl) (by kernel_rfl) (by kernel_rfl) (fun _ _ _ h => h) (Or.inl ⟨by rfl, ?_⟩) (by exact hHeld) ?_; rotate_left; (focus (intro w' hSw; have s0 : w'.cell? ⟨w.heap.size + 1, 0, none⟩ = some (.int .i64 1) := (blk_cell hSw.1 0).trans rfl; have s1 : w'.cell? ⟨w.heap.size + 1, 1, none⟩ = some (.string (⟨#[100, 101, 108, 101, 116, 101]⟩ : ByteArray)) := (blk_cell hSw.1 1).trans rfl; have s2 : w'.cell? ⟨w.heap.size + 1, 2, none⟩ = some (.int .i64 0) := (blk_cell hSw.1 2).trans rfl; have s3 : w'.cell? ⟨w.heap.size + 1, 3, none⟩ = some (.int .u32 0) := (blk_cell hSw.1 3).trans rfl; have s4 : w'.cell? ⟨w.heap.size + 1, 4, none⟩ = some (.bool quiet) := (blk_cell hSw.1 4).trans rfl; have s5 : w'.cell? ⟨w.heap.size + 1, 5, none⟩ = some (.bool false) := (blk_cell hSw.1 5).trans rfl; have s6 : w'.cell? ⟨w.heap.size + 1, 6, none⟩ = some (.string ⟨#[]⟩) := (blk_cell hSw.1 6).trans rfl; have s7 : w'.cell? ⟨w.heap.size + 1, 7, none⟩ = some (.slice none 0 0) := (blk_cell hSw.1 7).trans rfl; have s8 : w'.cell? ⟨w.heap.size + 1, 8, none⟩ = some (.slice (some ⟨b, o + 1, none⟩) 1 (c - 1)) := (blk_cell hSw.1 8).trans rfl; have s9 : w'.cell? ⟨w.heap.size + 1, 9, none⟩ = some (.bool false) := (blk_cell hSw.1 9).trans rfl; have c0 := hSw.2.1; have bl := hSw.2.2; clear bl; go_simp; (try with_reducible rfl); done)); (try simp only [Act.put, List.setIfInBounds_toArray, List.set_cons_zero, List.set_cons_succ]))
  (refine wpAnyH_take (i := 4) (v := ?_) (by simp only [List.getElem?_toArray, List.getElem?_cons_succ, List.getElem?_cons_zero]; rfl) (by kernel_rfl) (by kernel_rfl) (by kernel_rfl) (fun _ _ _ h => h) (Or.inl ⟨by rfl, ?_⟩) (by exact hHeld) ?_; rotate_left; (focus (intro w' hSw; have s0 : w'.cell? ⟨w.heap.size + 1, 0, none⟩ = some (.int .i64 1) := (blk_cell hSw.1 0).trans rfl; have s1 : w'.cell? ⟨w.heap.size + 1, 1, none⟩ = some (.string (⟨#[100, 101, 108, 101, 116, 101]⟩ : ByteArray)) := (blk_cell hSw.1 1).trans rfl; have s2 : w'.cell? ⟨w.heap.size + 1, 2, none⟩ = some (.int .i64 0) := (blk_cell hSw.1 2).trans rfl; have s3 : w'.cell? ⟨w.heap.size + 1, 3, none⟩ = some (.int .u32 0) := (blk_cell hSw.1 3).trans rfl; have s4 : w'.cell? ⟨w.heap.size + 1, 4, none⟩ = some (.bool quiet) := (blk_cell hSw.1 4).trans rfl; have s5 : w'.cell? ⟨w.heap.size + 1, 5, none⟩ = some (.bool false) := (blk_cell hSw.1 5).trans rfl; have s6 : w'.cell? ⟨w.heap.size + 1, 6, none⟩ = some (.string ⟨#[]⟩) := (blk_cell hSw.1 6).trans rfl; have s7 : w'.cell? ⟨w.heap.size + 1, 7, none⟩ = some (.slice none 0 0) := (blk_cell hSw.1 7).trans rfl; have s8 : w'.cell? ⟨w.heap.size + 1, 8, none⟩ = some (.slice (some ⟨b, o + 1, none⟩) 1 (c - 1)) := (blk_cell hSw.1 8).trans rfl; have s9 : w'.cell? ⟨w.heap.size + 1, 9, none⟩ = some (.bool false) := (blk_cell hSw.1 9).trans rfl; have c0 := hSw.2.1; have bl := hSw.2.2; clear bl; go_simp; (try with_reducible rfl); done)); (try simp only [Act.put, List.setIfInBounds_toArray, List.set_cons_zero, List.set_cons_succ]))
  (refine wpAnyH_take (i := 5) (v := ?_) (by simp only [List.getElem?_toArray, List.getElem?_cons_succ, List.getElem?_cons_zero]; rfl) (by kernel_rfl) (by kernel_rfl) (by kernel_rfl) (fun _ _ _ h => h) (Or.inl ⟨by rfl, ?_⟩) (by exact hHeld) ?_; rotate_left; (focus (intro w' hSw; have s0 : w'.cell? ⟨w.heap.size + 1, 0, none⟩ = some (.int .i64 1) := (blk_cell hSw.1 0).trans rfl; have s1 : w'.cell? ⟨w.heap.size + 1, 1, none⟩ = some (.string (⟨#[100, 101, 108, 101, 116, 101]⟩ : ByteArray)) := (blk_cell hSw.1 1).trans rfl; have s2 : w'.cell? ⟨w.heap.size + 1, 2, none⟩ = some (.int .i64 0) := (blk_cell hSw.1 2).trans rfl; have s3 : w'.cell? ⟨w.heap.size + 1, 3, none⟩ = some (.int .u32 0) := (blk_cell hSw.1 3).trans rfl; have s4 : w'.cell? ⟨w.heap.size + 1, 4, none⟩ = some (.bool quiet) := (blk_cell hSw.1 4).trans rfl; have s5 : w'.cell? ⟨w.heap.size + 1, 5, none⟩ = some (.bool false) := (blk_cell hSw.1 5).trans rfl; have s6 : w'.cell? ⟨w.heap.size + 1, 6, none⟩ = some (.string ⟨#[]⟩) := (blk_cell hSw.1 6).trans rfl; have s7 : w'.cell? ⟨w.heap.size + 1, 7, none⟩ = some (.slice none 0 0) := (blk_cell hSw.1 7).trans rfl; have s8 : w'.cell? ⟨w.heap.size + 1, 8, none⟩ = some (.slice (some ⟨b, o + 1, none⟩) 1 (c - 1)) := (blk_cell hSw.1 8).trans rfl; have s9 : w'.cell? ⟨w.heap.size + 1, 9, none⟩ = some (.bool false) := (blk_cell hSw.1 9).trans rfl; have c0 := hSw.2.1; have bl := hSw.2.2; clear bl; go_simp; (try with_reducible rfl); done)); (try simp only [Act.put, List.setIfInBounds_toArray, List.set_cons_zero, List.set_cons_succ]))
  refine wpAnyH_ready (rs := [6]) (by kernel_rfl) (by simp) ?_
  refine AllReadyH.cons (by simp only [List.getElem?_toArray, List.getElem?_cons_succ, List.getElem?_cons_zero]; rfl) (fun K hK => ?_) AllReadyH.nil
  go_simp
  (go_at_call 55; (with_reducible refine (HO.out _ (below_drew1 HB.out)).mono ?_); rintro e w5 ⟨⟨cs, rfl, hk⟩, hb⟩)
  have BR5 := Aside0.mk (blk_below BRd.out hb)
  have HB5 := Aside0.mk (below_step hHeld.2.2 hb)
  have HK := Aside0.mk hk
  have hgd := Aside0.mk (blk_lt BRd.out)
  have HS5 := Aside0.mk (show w5.heap[w.heap.size + 1]? = some (.cells #[.int .i64 1, .string (⟨#[100, 101, 108, 101, 116, 101]⟩ : ByteArray), .int .i64 0, .int .u32 0, .bool quiet, .bool false, .string ⟨#[]⟩, .slice none 0 0, .slice (some ⟨b, o + 1, none⟩) 1 (c - 1), .bool false] 29 (0, 0)) ∧ w5.cell? ⟨b, o + 1, none⟩ = some (.string v1) ∧ Below w.heap.size w w5 from ⟨blk_below hHeld.1 hb, (Below.cell HB5.out (p := ⟨b, o + 1, none⟩) hb0).trans HC1.out, HB5.out⟩)
  refine hK.out _ _ HS5.out ?_
  clear hK K hHeld hk hb
  intro hHeld
  (try simp only [Act.put, List.setIfInBounds_toArray, List.set_cons_zero, List.set_cons_succ])
  refine wpAnyH_ready (rs := [7]) (by kernel_rfl) (by simp) ?_
  refine AllReadyH.cons (by simp only [List.getElem?_toArray, List.getElem?_cons_succ, List.getElem?_cons_zero]; rfl) (fun K hK => ?_) AllReadyH.nil
  refine step_store_F rfl 34 _ _ rfl (w.heap.size) 0 cs rfl rfl (fun u hu => kStep.K_one HK.out.now u hu) 34 _ cs.toArray BR5.out (by rw [kStep.K_len HK.out.now]; first | done | decide) (by rw [kStep.K_len HK.out.now]; kernel_rfl) (congrArg List.toArray (by rw [kStep.K_len HK.out.now]; exact List.append_nil cs)) ?_
  intro w6 hbk hst
  have BK := Aside0.mk hbk
  have HK2 := Aside0.mk (hst.hol HK.out (fun h => (h hgd.out).1 rfl))
  have HB6 := Aside0.mk (hst.up HB5.out (by omega))
  refine hK.out _ _ ⟨hst.blk (HS5.out.1) (by omega), (Below.cell HB6.out (p := ⟨b, o + 1, none⟩) hb0).trans HC1.out, HB6.out⟩ ?_
  clear hK K hHeld hbk hst
  intro hHeld
  (try simp only [Act.put, List.setIfInBounds_toArray, List.set_cons_zero, List.set_cons_succ])
  (refine wpAnyH_done (by kernel_rfl) ?_ _; refine NoPanic.normal ?_)
  go_wp2
  (try simp only [Exit.inBlock, Exit.then]); refine bodyPost_ret (results_cell_row rfl _ _ (w.heap.size) 34 _ (0, 0) _ rfl BK.out Tryz.underlying34 rfl (by rw [List.size_toArray, kStep.K_len HK.out.now]; kernel_rfl)) rfl ?_
  exact ⟨⟨_, rfl, HK2.out.mono (fun k hk h3 => (hk (Nat.lt_of_lt_of_le h3 (Nat.le_of_lt (Nat.lt_of_le_of_lt (by omega) hgd.out)))).2 h3)⟩, HB6.out⟩
set_option maxRecDepth 100000 in
set_option maxHeartbeats 1000000 in
theorem ro_touch_ok (ws : List ByteArray) (A : Option Addr) (c : Nat) (quiet : Bool) (used : Int) (F : Nat → Prop) (w : World) (hC : HolF F w (fun w2 => Kd.string.C w2 A ws.length ws)) (hc : ws.length ≤ c) (hs : ∀ k ∈ ws, k.size ≤ 1000000) (h0 : ws.getD 0 ⟨#[]⟩ = (⟨#[116, 111, 117, 99, 104]⟩ : ByteArray)) (v1 : ByteArray) (h1 : ws.getD 1 ⟨#[]⟩ = v1) (v2 : ByteArray) (h2 : ws.getD 2 ⟨#[]⟩ = v2) (hn : ws.length = 3) (hk : keyS v1 = true) (z : Int) (hz : sgnS v2 = (z, true)) :
    Calls Tryz.prog 31 #[.slice A ws.length c, .bool quiet, .int .i64 used] w (StepR F w (stepO used (formT (⟨#[116, 111, 117, 99, 104]⟩ : ByteArray) quiet [v1]) (cmdK 2 z 0 v1))) := by
  obtain ⟨R, hR⟩ : ∃ R, (stepO used (formT (⟨#[116, 111, 117, 99, 104]⟩ : ByteArray) quiet [v1]) (cmdK 2 z 0 v1)) = R := ⟨_, rfl⟩
  rw [hR]
  have HB := Aside0.mk (Below.refl w.heap.size w)
  have HCF := Aside0.mk hC
  obtain ⟨v0, hv0⟩ : ∃ v0, ((⟨#[116, 111, 117, 99, 104]⟩ : ByteArray) : ByteArray) = v0 := ⟨_, rfl⟩
  rw [hv0] at h0
  have hln : 2 < ws.length := by omega
  obtain ⟨b, o, rfl, hb0, hcell0⟩ := S_cell hC.now 0 (by omega)
  rw [h0, Nat.add_zero] at hcell0
  have HC0 := Aside0.mk hcell0
  have HC1 : Aside0 (w.cell? ⟨b, o + 1, none⟩ = some (.string v1)) := by
    obtain ⟨b', o', e', -, h⟩ := S_cell hC.now 1 (by omega)
    obtain ⟨rfl, rfl⟩ : b = b' ∧ o = o' := by simpa using e'
    rw [h1] at h
    exact ⟨h⟩
  have hs1 : v1.size ≤ 1000000 := by
    rw [← h1, List.getD_eq_getElem?_getD, List.getElem?_eq_getElem (by omega)]
    exact hs _ (List.getElem_mem _)
  have HC2 : Aside0 (w.cell? ⟨b, o + 2, none⟩ = some (.string v2)) := by
    obtain ⟨b', o', e', -, h⟩ := S_cell hC.now 2 (by omega)
    obtain ⟨rfl, rfl⟩ : b = b' ∧ o = o' := by simpa using e'
    rw [h2] at h
    exact ⟨h⟩
  have hs2 : v2.size ≤ 1000000 := by
    rw [← h2, List.getD_eq_getElem?_getD, List.getElem?_eq_getElem (by omega)]
    exact hs _ (List.getElem_mem _)
  have hi0 : (0 : Int) < ↑ws.length := by omega
  have hj0 : 0 < ws.length := by omega
  have hi1 : (1 : Int) < ↑ws.length := by omega
  have hj1 : 1 < ws.length := by omega
  have hi2 : (2 : Int) < ↑ws.length := by omega
  have hj2 : 2 < ws.length := by omega
  have hcc : (ws.length : Int) ≤ ↑c := by omega
  have hg : ((ws.length : Int) != 3) = false := by simp; omega
  have hc1 : ¬ (c = 1) := by omega
  have hc2 : (2 : Int) ≤ ↑c := by omega
  have hc3 : (2 : Int) ≤ ↑ws.length := by omega
  have HKY := Aside0.mk (fun w => rkey_calls v1 w hs1)
  rw [hk] at HKY
  have HKC : Aside0 (HolF F w (fun w2 => Kd.string.C w2 (some ⟨b, o + 1, none⟩) 1 [v1])) := ⟨hC.imp (fun w2 h => by rw [← h1]; exact C_second h (by omega))⟩
  have hcc1 : 1 ≤ c - 1 := by omega
  have HSG := Aside0.mk (fun w => rsgn_w v2 w hs2)
  rw [hz] at HSG
  have HO : Aside0 (∀ w', Below w.heap.size w w' → Calls Tryz.prog 55 #[.int .i64 used, .agg #[.int .i64 2, .string v1, .slice none 0 0, .int .u32 0, .int .i64 z, .int .u64 0, .int .u64 0, .int .u64 0, .bool false, .bool false], .agg #[.int .i64 1, .string (⟨#[116, 111, 117, 99, 104]⟩ : ByteArray), .int .i64 0, .int .u32 0, .bool quiet, .bool false, .string ⟨#[]⟩, .slice none 0 0, .slice (some ⟨b, o + 1, none⟩) 1 (c - 1), .bool false]] w' (StepR (fun k => k ≠ w.heap.size ∧ (k < w.heap.size → F k)) w' R)) := ⟨fun w' hb => hR ▸ rone_calls used _ _ _ _ _ w' (fun w2 _ _ => K_cmdK w2 2 z 0 v1) (((HKC.out).up hb (Nat.le_refl _)).imp (fun w2 h => K_formK (⟨#[116, 111, 117, 99, 104]⟩ : ByteArray) v1 quiet h hcc1))⟩
  clear hC h0 hln hs hcell0 hR hn hk h1 hs1 hcc1 h2 hs2 hz
  go_enter Tryz.func31, Tryz.ntmps31
  have kw0 : w.cell? ⟨b, o, none⟩ = some (.string v0) := HC0.out
  go_upto_region 2 with fail
  obtain ⟨W0, hW0⟩ : ∃ W0, (w.alloc (.cells zStepC 34 (0, 0))).alloc (.cells #[.int .i64 1, .string v0, .int .i64 0, .int .u32 0, .bool quiet, .bool false, .string ⟨#[]⟩, .slice none 0 0, .slice none 0 0, .bool false] 29 (0, 0)) = W0 := ⟨_, rfl⟩
  have hW2 := hW0
  unfold zStepC at hW2
  rw [hW2]
  have BF := Aside0.mk (show W0.heap[w.heap.size + 1]? = _ from hW0 ▸ blk_at_new _ _ _ (by simp))
  have BR := Aside0.mk (show W0.heap[w.heap.size]? = _ from hW0 ▸ blk_alloc (blk_at_new _ _ _ rfl) _)
  have HBn : Aside0 (Below w.heap.size w W0) := ⟨hW0 ▸ (by repeat (first | (with_reducible first | exact HB.out | apply below_alloc | apply pw_below_drewN | apply below_drew1) | exact HB.out))⟩
  clear HB hW0 hW2 kw0
  have HB := HBn
  clear HBn
  have k0 : W0.cell? ⟨b, o, none⟩ = some (.string v0) := (Below.cell HB.out (p := ⟨b, o, none⟩) hb0).trans HC0.out
  have k1 : W0.cell? ⟨b, o + 1, none⟩ = some (.string v1) := (Below.cell HB.out (p := ⟨b, o + 1, none⟩) hb0).trans HC1.out
  have k2 : W0.cell? ⟨b, o + 2, none⟩ = some (.string v2) := (Below.cell HB.out (p := ⟨b, o + 2, none⟩) hb0).trans HC2.out
  subst hv0
  go_wp2_with (first | (refine wpList_store_1 rfl 27 _ _ rfl (w.heap.size + 1) 8 (.slice (some ⟨b, o + 1, none⟩) 1 (c - 1)) rfl rfl rfl 29 _ #[.int .i64 1, .string (⟨#[116, 111, 117, 99, 104]⟩ : ByteArray), .int .i64 0, .int .u32 0, .bool quiet, .bool false, .string ⟨#[]⟩, .slice none 0 0, .slice (some ⟨b, o + 1, none⟩) 1 (c - 1), .bool false] BF.out (by simp) (by kernel_rfl) rfl ?_; intro W1 hbk hst; have BFn := Aside0.mk hbk; have BRn := Aside0.mk (hst.blk BR.out (by omega)); have HBn := Aside0.mk (hst.up HB.out (by omega)); clear BF BR HB k0 k1 k2 hbk hst; have BF := BFn; have BR := BRn; have HB := HBn; clear BFn BRn HBn; have k0 : W1.cell? ⟨b, o, none⟩ = some _ := (Below.cell HB.out (p := ⟨b, o, none⟩) hb0).trans HC0.out; have k1 : W1.cell? ⟨b, o + 1, none⟩ = some (.string v1) := (Below.cell HB.out (p := ⟨b, o + 1, none⟩) hb0).trans HC1.out; have k2 : W1.cell? ⟨b, o + 2, none⟩ = some (.string v2) := (Below.cell HB.out (p := ⟨b, o + 2, none⟩) hb0).trans HC2.out) | (go_at_call 32; (with_reducible refine (HKY.out _).mono ?_); rintro e w2 ⟨rfl, hb⟩; have BFn := Aside0.mk (blk_below BF.out hb); have BRn := Aside0.mk (blk_below BR.out hb); clear BF BR k0 k1 k2; have BF := BFn; have BR := BRn; clear BFn BRn; have HBn := Aside0.mk (below_step (by repeat (first | (with_reducible first | exact HB.out | apply below_alloc | apply pw_below_drewN | apply below_drew1) | exact HB.out)) hb); clear HB; have HB := HBn; clear HBn; clear hb; have k0 : w2.cell? ⟨b, o, none⟩ = some _ := (Below.cell HB.out (p := ⟨b, o, none⟩) hb0).trans HC0.out; have k1 : w2.cell? ⟨b, o + 1, none⟩ = some (.string v1) := (Below.cell HB.out (p := ⟨b, o + 1, none⟩) hb0).trans HC1.out; have k2 : w2.cell? ⟨b, o + 2, none⟩ = some (.string v2) := (Below.cell HB.out (p := ⟨b, o + 2, none⟩) hb0).trans HC2.out) | (go_at_call 54; (with_reducible refine (HSG.out _).mono ?_); rintro e w3 ⟨rfl, hb⟩; have BFn := Aside0.mk (blk_below BF.out hb); have BRn := Aside0.mk (blk_below BR.out hb); clear BF BR k0 k1 k2; have BF := BFn; have BR := BRn; clear BFn BRn; have HBn := Aside0.mk (below_step (by repeat (first | (with_reducible first | exact HB.out | apply below_alloc | apply pw_below_drewN | apply below_drew1) | exact HB.out)) hb); clear HB; have HB := HBn; clear HBn; clear hb; have k0 : w3.cell? ⟨b, o, none⟩ = some _ := (Below.cell HB.out (p := ⟨b, o, none⟩) hb0).trans HC0.out; have k1 : w3.cell? ⟨b, o + 1, none⟩ = some (.string v1) := (Below.cell HB.out (p := ⟨b, o + 1, none⟩) hb0).trans HC1.out; have k2 : w3.cell? ⟨b, o + 2, none⟩ = some (.string v2) := (Below.cell HB.out (p := ⟨b, o + 2, none⟩) hb0).trans HC2.out))
  (refine wp_region_noPanic ?_; refine wp_region_held_drew (S := fun w' => w'.heap[w.heap.size + 1]? = some (.cells #[.int .i64 1, .string (⟨#[116, 111, 117, 99, 104]⟩ : ByteArray), .int .i64 0, .int .u32 0, .bool quiet, .bool false, .string ⟨#[]⟩, .slice none 0 0, .slice (some ⟨b, o + 1, none⟩) 1 (c - 1), .bool false] 29 (0, 0)) ∧ w'.cell? ⟨b, o + 1, none⟩ = some (.string v1) ∧ Below w.heap.size w w') (by kernel_rfl) ⟨(blk_drew BF.out), (Below.cell (below_drew1 HB.out) (p := ⟨b, o + 1, none⟩) hb0).trans HC1.out, (below_drew1 HB.out)⟩ ?_; intro hHeld)
  have BRd := Aside0.mk (show _ = some (Obj.cells zStepC 34 (0, 0)) from blk_drew BR.out)
  (refine wpAnyH_take (i := 0) (v := ?_) (by simp only [List.getElem?_toArray, List.getElem?_cons_succ, List.getElem?_cons_zero]; rfl) (by kernel_rfl) (by kernel_rfl) (by kernel_rfl) (fun _ _ _ h => h) (Or.inl ⟨by rfl, ?_⟩) (by exact hHeld) ?_; rotate_left; (focus (intro w' hSw; have s0 : w'.cell? ⟨w.heap.size + 1, 0, none⟩ = some (.int .i64 1) := (blk_cell hSw.1 0).trans rfl; have s1 : w'.cell? ⟨w.heap.size + 1, 1, none⟩ = some (.string (⟨#[116, 111, 117, 99, 104]⟩ : ByteArray)) := (blk_cell hSw.1 1).trans rfl; have s2 : w'.cell? ⟨w.heap.size + 1, 2, none⟩ = some (.int .i64 0) := (blk_cell hSw.1 2).trans rfl; have s3 : w'.cell? ⟨w.heap.size + 1, 3, none⟩ = some (.int .u32 0) := (blk_cell hSw.1 3).trans rfl; have s4 : w'.cell? ⟨w.heap.size + 1, 4, none⟩ = some (.bool quiet) := (blk_cell hSw.1 4).trans rfl; have s5 : w'.cell? ⟨w.heap.size + 1, 5, none⟩ = some (.bool false) := (blk_cell hSw.1 5).trans rfl; have s6 : w'.cell? ⟨w.heap.size + 1, 6, none⟩ = some (.string ⟨#[]⟩) := (blk_cell hSw.1 6).trans rfl; have s7 : w'.cell? ⟨w.heap.size + 1, 7, none⟩ = some (.slice none 0 0) := (blk_cell hSw.1 7).trans rfl; have s8 : w'.cell? ⟨w.heap.size + 1, 8, none⟩ = some (.slice (some ⟨b, o + 1, none⟩) 1 (c - 1)) := (blk_cell hSw.1 8).trans rfl; have s9 : w'.cell? ⟨w.heap.size + 1, 9, none⟩ = some (.bool false) := (blk_cell hSw.1 9).trans rfl; have c0 := hSw.2.1; have bl := hSw.2.2; clear bl; go_simp; (try with_reducible rfl); done)); (try simp only [Act.put, List.setIfInBounds_toArray, List.set_cons_zero, List.set_cons_succ]))
  (refine wpAnyH_take (i := 1) (v := ?_) (by simp only [List.getElem?_toArray, List.getElem?_cons_succ, List.getElem?_cons_zero]; rfl) (by kernel_rfl) (by kernel_rfl) (by kernel_rfl) (fun _ _ _ h => h) (Or.inl ⟨by rfl, ?_⟩) (by exact hHeld) ?_; rotate_left; (focus (intro w' hSw; have s0 : w'.cell? ⟨w.heap.size + 1, 0, none⟩ = some (.int .i64 1) := (blk_cell hSw.1 0).trans rfl; have s1 : w'.cell? ⟨w.heap.size + 1, 1, none⟩ = some (.string (⟨#[116, 111, 117, 99, 104]⟩ : ByteArray)) := (blk_cell hSw.1 1).trans rfl; have s2 : w'.cell? ⟨w.heap.size + 1, 2, none⟩ = some (.int .i64 0) := (blk_cell hSw.1 2).trans rfl; have s3 : w'.cell? ⟨w.heap.size + 1, 3, none⟩ = some (.int .u32 0) := (blk_cell hSw.1 3).trans rfl; have s4 : w'.cell? ⟨w.heap.size + 1, 4, none⟩ = some (.bool quiet) := (blk_cell hSw.1 4).trans rfl; have s5 : w'.cell? ⟨w.heap.size + 1, 5, none⟩ = some (.bool false) := (blk_cell hSw.1 5).trans rfl; have s6 : w'.cell? ⟨w.heap.size + 1, 6, none⟩ = some (.string ⟨#[]⟩) := (blk_cell hSw.1 6).trans rfl; have s7 : w'.cell? ⟨w.heap.size + 1, 7, none⟩ = some (.slice none 0 0) := (blk_cell hSw.1 7).trans rfl; have s8 : w'.cell? ⟨w.heap.size + 1, 8, none⟩ = some (.slice (some ⟨b, o + 1, none⟩) 1 (c - 1)) := (blk_cell hSw.1 8).trans rfl; have s9 : w'.cell? ⟨w.heap.size + 1, 9, none⟩ = some (.bool false) := (blk_cell hSw.1 9).trans rfl; have c0 := hSw.2.1; have bl := hSw.2.2; clear bl; go_simp; (try with_reducible rfl); done)); (try simp only [Act.put, List.setIfInBounds_toArray, List.set_cons_zero, List.set_cons_succ]))
  (refine wpAnyH_take (i := 2) (v := ?_) (by simp only [List.getElem?_toArray, List.getElem?_cons_succ, List.getElem?_cons_zero]; rfl) (by kernel_rfl) (by kernel_rfl) (by kernel_rfl) (fun _ _ _ h => h) (Or.inl ⟨by rfl, ?_⟩) (by exact hHeld) ?_; rotate_left; (focus (intro w' hSw; have s0 : w'.cell? ⟨w.heap.size + 1, 0, none⟩ = some (.int .i64 1) := (blk_cell hSw.1 0).trans rfl; have s1 : w'.cell? ⟨w.heap.size + 1, 1, none⟩ = some (.string (⟨#[116, 111, 117, 99, 104]⟩ : ByteArray)) := (blk_cell hSw.1 1).trans rfl; have s2 : w'.cell? ⟨w.heap.size + 1, 2, none⟩ = some (.int .i64 0) := (blk_cell hSw.1 2).trans rfl; have s3 : w'.cell? ⟨w.heap.size + 1, 3, none⟩ = some (.int .u32 0) := (blk_cell hSw.1 3).trans rfl; have s4 : w'.cell? ⟨w.heap.size + 1, 4, none⟩ = some (.bool quiet) := (blk_cell hSw.1 4).trans rfl; have s5 : w'.cell? ⟨w.heap.size + 1, 5, none⟩ = some (.bool false) := (blk_cell hSw.1 5).trans rfl; have s6 : w'.cell? ⟨w.heap.size + 1, 6, none⟩ = some (.string ⟨#[]⟩) := (blk_cell hSw.1 6).trans rfl; have s7 : w'.cell? ⟨w.heap.size + 1, 7, none⟩ = some (.slice none 0 0) := (blk_cell hSw.1 7).trans rfl; have s8 : w'.cell? ⟨w.heap.size + 1, 8, none⟩ = some (.slice (some ⟨b, o + 1, none⟩) 1 (c - 1)) := (blk_cell hSw.1 8).trans rfl; have s9 : w'.cell? ⟨w.heap.size + 1, 9, none⟩ = some (.bool false) := (blk_cell hSw.1 9).trans rfl; have c0 := hSw.2.1; have bl := hSw.2.2; clear bl; go_simp; (try with_reducible rfl); done)); (try simp only [Act.put, List.setIfInBounds_toArray, List.set_cons_zero, List.set_cons_succ]))
  (refine wpAnyH_take (i := 3) (v := ?_) (by simp only [List.getElem?_toArray, List.getElem?_cons_succ, List.getElem?_cons_zero]; rfl) (by kernel_rfl) (by kernel_rfl) (by kernel_rfl) (fun _ _ _ h => h) (Or.inl ⟨by rfl, ?_⟩) (by exact hHeld) ?_; rotate_left; (focus (intro w' hSw; have s0 : w'.cell? ⟨w.heap.size + 1, 0, none⟩ = some (.int .i64 1) := (blk_cell hSw.1 0).trans rfl; have s1 : w'.cell? ⟨w.heap.size + 1, 1, none⟩ = some (.string (⟨#[116, 111, 117, 99, 104]⟩ : ByteArray)) := (blk_cell hSw.1 1).trans rfl; have s2 : w'.cell? ⟨w.heap.size + 1, 2, none⟩ = some (.int .i64 0) := (blk_cell hSw.1 2).trans rfl; have s3 : w'.cell? ⟨w.heap.size + 1, 3, none⟩ = some (.int .u32 0) := (blk_cell hSw.1 3).trans rfl; have s4 : w'.cell? ⟨w.heap.size + 1, 4, none⟩ = some (.bool quiet) := (blk_cell hSw.1 4).trans rfl; have s5 : w'.cell? ⟨w.heap.size + 1, 5, none⟩ = some (.bool false) := (blk_cell hSw.1 5).trans rfl; have s6 : w'.cell? ⟨w.heap.size + 1, 6, none⟩ = some (.string ⟨#[]⟩) := (blk_cell hSw.1 6).trans rfl; have s7 : w'.cell? ⟨w.heap.size + 1, 7, none⟩ = some (.slice none 0 0) := (blk_cell hSw.1 7).trans rfl; have s8 : w'.cell? ⟨w.heap.size + 1, 8, none⟩ = some (.slice (some ⟨b, o + 1, none⟩) 1 (c - 1)) := (blk_cell hSw.1 8).trans rfl; have s9 : w'.cell? ⟨w.heap.size + 1, 9, none⟩ = some (.bool false) := (blk_cell hSw.1 9).trans rfl; have c0 := hSw.2.1; have bl := hSw.2.2; clear bl; go_simp; (try with_reducible rfl); done)); (try simp only [Act.put, List.setIfInBounds_toArray, List.set_cons_zero, List.set_cons_succ]))
  (refine wpAnyH_take (i := 4) (v := ?_) (by simp only [List.getElem?_toArray, List.getElem?_cons_succ, List.getElem?_cons_zero]; rfl) (by kernel_rfl) (by kernel_rfl) (by kernel_rfl) (fun _ _ _ h => h) (Or.inl ⟨by rfl, ?_⟩) (by exact hHeld) ?_; rotate_left; (focus (intro w' hSw; have s0 : w'.cell? ⟨w.heap.size + 1, 0, none⟩ = some (.int .i64 1) := (blk_cell hSw.1 0).trans rfl; have s1 : w'.cell? ⟨w.heap.size + 1, 1, none⟩ = some (.string (⟨#[116, 111, 117, 99, 104]⟩ : ByteArray)) := (blk_cell hSw.1 1).trans rfl; have s2 : w'.cell? ⟨w.heap.size + 1, 2, none⟩ = some (.int .i64 0) := (blk_cell hSw.1 2).trans rfl; have s3 : w'.cell? ⟨w.heap.size + 1, 3, none⟩ = some (.int .u32 0) := (blk_cell hSw.1 3).trans rfl; have s4 : w'.cell? ⟨w.heap.size + 1, 4, none⟩ = some (.bool quiet) := (blk_cell hSw.1 4).trans rfl; have s5 : w'.cell? ⟨w.heap.size + 1, 5, none⟩ = some (.bool false) := (blk_cell hSw.1 5).trans rfl; have s6 : w'.cell? ⟨w.heap.size + 1, 6, none⟩ = some (.string ⟨#[]⟩) := (blk_cell hSw.1 6).trans rfl; have s7 : w'.cell? ⟨w.heap.size + 1, 7, none⟩ = some (.slice none 0 0) := (blk_cell hSw.1 7).trans rfl; have s8 : w'.cell? ⟨w.heap.size + 1, 8, none⟩ = some (.slice (some ⟨b, o + 1, none⟩) 1 (c - 1)) := (blk_cell hSw.1 8).trans rfl; have s9 : w'.cell? ⟨w.heap.size + 1, 9, none⟩ = some (.bool false) := (blk_cell hSw.1 9).trans rfl; have c0 := hSw.2.1; have bl := hSw.2.2; clear bl; go_simp; (try with_reducible rfl); done)); (try simp only [Act.put, List.setIfInBounds_toArray, List.set_cons_zero, List.set_cons_succ]))
  (refine wpAnyH_take (i := 5) (v := ?_) (by simp only [List.getElem?_toArray, List.getElem?_cons_succ, List.getElem?_cons_zero]; rfl) (by kernel_rfl) (by kernel_rfl) (by kernel_rfl) (fun _ _ _ h => h) (Or.inl ⟨by rfl, ?_⟩) (by exact hHeld) ?_; rotate_left; (focus (intro w' hSw; have s0 : w'.cell? ⟨w.heap.size + 1, 0, none⟩ = some (.int .i64 1) := (blk_cell hSw.1 0).trans rfl; have s1 : w'.cell? ⟨w.heap.size + 1, 1, none⟩ = some (.string (⟨#[116, 111, 117, 99, 104]⟩ : ByteArray)) := (blk_cell hSw.1 1).trans rfl; have s2 : w'.cell? ⟨w.heap.size + 1, 2, none⟩ = some (.int .i64 0) := (blk_cell hSw.1 2).trans rfl; have s3 : w'.cell? ⟨w.heap.size + 1, 3, none⟩ = some (.int .u32 0) := (blk_cell hSw.1 3).trans rfl; have s4 : w'.cell? ⟨w.heap.size + 1, 4, none⟩ = some (.bool quiet) := (blk_cell hSw.1 4).trans rfl; have s5 : w'.cell? ⟨w.heap.size + 1, 5, none⟩ = some (.bool false) := (blk_cell hSw.1 5).trans rfl; have s6 : w'.cell? ⟨w.heap.size + 1, 6, none⟩ = some (.string ⟨#[]⟩) := (blk_cell hSw.1 6).trans rfl; have s7 : w'.cell? ⟨w.heap.size + 1, 7, none⟩ = some (.slice none 0 0) := (blk_cell hSw.1 7).trans rfl; have s8 : w'.cell? ⟨w.heap.size + 1, 8, none⟩ = some (.slice (some ⟨b, o + 1, none⟩) 1 (c - 1)) := (blk_cell hSw.1 8).trans rfl; have s9 : w'.cell? ⟨w.heap.size + 1, 9, none⟩ = some (.bool false) := (blk_cell hSw.1 9).trans rfl; have c0 := hSw.2.1; have bl := hSw.2.2; clear bl; go_simp; (try with_reducible rfl); done)); (try simp only [Act.put, List.setIfInBounds_toArray, List.set_cons_zero, List.set_cons_succ]))
  (refine wpAnyH_take (i := 6) (v := ?_) (by simp only [List.getElem?_toArray, List.getElem?_cons_succ, List.getElem?_cons_zero]; rfl) (by kernel_rfl) (by kernel_rfl) (by kernel_rfl) (fun _ _ _ h => h) (Or.inl ⟨by rfl, ?_⟩) (by exact hHeld) ?_; rotate_left; (focus (intro w' hSw; have s0 : w'.cell? ⟨w.heap.size + 1, 0, none⟩ = some (.int .i64 1) := (blk_cell hSw.1 0).trans rfl; have s1 : w'.cell? ⟨w.heap.size + 1, 1, none⟩ = some (.string (⟨#[116, 111, 117, 99, 104]⟩ : ByteArray)) := (blk_cell hSw.1 1).trans rfl; have s2 : w'.cell? ⟨w.heap.size + 1, 2, none⟩ = some (.int .i64 0) := (blk_cell hSw.1 2).trans rfl; have s3 : w'.cell? ⟨w.heap.size + 1, 3, none⟩ = some (.int .u32 0) := (blk_cell hSw.1 3).trans rfl; have s4 : w'.cell? ⟨w.heap.size + 1, 4, none⟩ = some (.bool quiet) := (blk_cell hSw.1 4).trans rfl; have s5 : w'.cell? ⟨w.heap.size + 1, 5, none⟩ = some (.bool false) := (blk_cell hSw.1 5).trans rfl; have s6 : w'.cell? ⟨w.heap.size + 1, 6, none⟩ = some (.string ⟨#[]⟩) := (blk_cell hSw.1 6).trans rfl; have s7 : w'.cell? ⟨w.heap.size + 1, 7, none⟩ = some (.slice none 0 0) := (blk_cell hSw.1 7).trans rfl; have s8 : w'.cell? ⟨w.heap.size + 1, 8, none⟩ = some (.slice (some ⟨b, o + 1, none⟩) 1 (c - 1)) := (blk_cell hSw.1 8).trans rfl; have s9 : w'.cell? ⟨w.heap.size + 1, 9, none⟩ = some (.bool false) := (blk_cell hSw.1 9).trans rfl; have c0 := hSw.2.1; have bl := hSw.2.2; clear bl; go_simp; (try with_reducible rfl); done)); (try simp only [Act.put, List.setIfInBounds_toArray, List.set_cons_zero, List.set_cons_succ]))
  refine wpAnyH_ready (rs := [7]) (by kernel_rfl) (by simp) ?_
  refine AllReadyH.cons (by simp only [List.getElem?_toArray, List.getElem?_cons_succ, List.getElem?_cons_zero]; rfl) (fun K hK => ?_) AllReadyH.nil
  go_simp
  (go_at_call 55; (with_reducible refine (HO.out _ (below_drew1 HB.out)).mono ?_); rintro e w5 ⟨⟨cs, rfl, hk⟩, hb⟩)
  have BR5 := Aside0.mk (blk_below BRd.out hb)
  have HB5 := Aside0.mk (below_step hHeld.2.2 hb)
  have HK := Aside0.mk hk
  have hgd := Aside0.mk (blk_lt BRd.out)
  have HS5 := Aside0.mk (show w5.heap[w.heap.size + 1]? = some (.cells #[.int .i64 1, .string (⟨#[116, 111, 117, 99, 104]⟩ : ByteArray), .int .i64 0, .int .u32 0, .bool quiet, .bool false, .string ⟨#[]⟩, .slice none 0 0, .slice (some ⟨b, o + 1, none⟩) 1 (c - 1), .bool false] 29 (0, 0)) ∧ w5.cell? ⟨b, o + 1, none⟩ = some (.string v1) ∧ Below w.heap.size w w5 from ⟨blk_below hHeld.1 hb, (Below.cell HB5.out (p := ⟨b, o + 1, none⟩) hb0).trans HC1.out, HB5.out⟩)
  refine hK.out _ _ HS5.out ?_
  clear hK K hHeld hk hb
  intro hHeld
  (try simp only [Act.put, List.setIfInBounds_toArray, List.set_cons_zero, List.set_cons_succ])
  refine wpAnyH_ready (rs := [8]) (by kernel_rfl) (by simp) ?_
  refine AllReadyH.cons (by simp only [List.getElem?_toArray, List.getElem?_cons_succ, List.getElem?_cons_zero]; rfl) (fun K hK => ?_) AllReadyH.nil
  refine step_store_F rfl 34 _ _ rfl (w.heap.size) 0 cs rfl rfl (fun u hu => kStep.K_one HK.out.now u hu) 34 _ cs.toArray BR5.out (by rw [kStep.K_len HK.out.now]; first | done | decide) (by rw [kStep.K_len HK.out.now]; kernel_rfl) (congrArg List.toArray (by rw [kStep.K_len HK.out.now]; exact List.append_nil cs)) ?_
  intro w6 hbk hst
  have BK := Aside0.mk hbk
  have HK2 := Aside0.mk (hst.hol HK.out (fun h => (h hgd.out).1 rfl))
  have HB6 := Aside0.mk (hst.up HB5.out (by omega))
  refine hK.out _ _ ⟨hst.blk (HS5.out.1) (by omega), (Below.cell HB6.out (p := ⟨b, o + 1, none⟩) hb0).trans HC1.out, HB6.out⟩ ?_
  clear hK K hHeld hbk hst
  intro hHeld
  (try simp only [Act.put, List.setIfInBounds_toArray, List.set_cons_zero, List.set_cons_succ])
  (refine wpAnyH_done (by kernel_rfl) ?_ _; refine NoPanic.normal ?_)
  go_wp2
  (try simp only [Exit.inBlock, Exit.then]); refine bodyPost_ret (results_cell_row rfl _ _ (w.heap.size) 34 _ (0, 0) _ rfl BK.out Tryz.underlying34 rfl (by rw [List.size_toArray, kStep.K_len HK.out.now]; kernel_rfl)) rfl ?_
  exact ⟨⟨_, rfl, HK2.out.mono (fun k hk h3 => (hk (Nat.lt_of_lt_of_le h3 (Nat.le_of_lt (Nat.lt_of_le_of_lt (by omega) hgd.out)))).2 h3)⟩, HB6.out⟩
set_option maxRecDepth 100000 in
set_option maxHeartbeats 1000000 in
theorem ro_incr_ok (ws : List ByteArray) (A : Option Addr) (c : Nat) (quiet : Bool) (used : Int) (F : Nat → Prop) (w : World) (hC : HolF F w (fun w2 => Kd.string.C w2 A ws.length ws)) (hc : ws.length ≤ c) (hs : ∀ k ∈ ws, k.size ≤ 1000000) (h0 : ws.getD 0 ⟨#[]⟩ = (⟨#[105, 110, 99, 114]⟩ : ByteArray)) (v1 : ByteArray) (h1 : ws.getD 1 ⟨#[]⟩ = v1) (v2 : ByteArray) (h2 : ws.getD 2 ⟨#[]⟩ = v2) (hn : ws.length = 3) (hk : keyS v1 = true) (z : Nat) (hz : decS v2 = (z, true)) :
    Calls Tryz.prog 31 #[.slice A ws.length c, .bool quiet, .int .i64 used] w (StepR F w (stepO used (formT (⟨#[105, 110, 99, 114]⟩ : ByteArray) quiet [v1]) (cmdK 10 0 ↑z v1))) := by
  obtain ⟨R, hR⟩ : ∃ R, (stepO used (formT (⟨#[105, 110, 99, 114]⟩ : ByteArray) quiet [v1]) (cmdK 10 0 ↑z v1)) = R := ⟨_, rfl⟩
  rw [hR]
  have HB := Aside0.mk (Below.refl w.heap.size w)
  have HCF := Aside0.mk hC
  obtain ⟨v0, hv0⟩ : ∃ v0, ((⟨#[105, 110, 99, 114]⟩ : ByteArray) : ByteArray) = v0 := ⟨_, rfl⟩
  rw [hv0] at h0
  have hln : 2 < ws.length := by omega
  obtain ⟨b, o, rfl, hb0, hcell0⟩ := S_cell hC.now 0 (by omega)
  rw [h0, Nat.add_zero] at hcell0
  have HC0 := Aside0.mk hcell0
  have HC1 : Aside0 (w.cell? ⟨b, o + 1, none⟩ = some (.string v1)) := by
    obtain ⟨b', o', e', -, h⟩ := S_cell hC.now 1 (by omega)
    obtain ⟨rfl, rfl⟩ : b = b' ∧ o = o' := by simpa using e'
    rw [h1] at h
    exact ⟨h⟩
  have hs1 : v1.size ≤ 1000000 := by
    rw [← h1, List.getD_eq_getElem?_getD, List.getElem?_eq_getElem (by omega)]
    exact hs _ (List.getElem_mem _)
  have HC2 : Aside0 (w.cell? ⟨b, o + 2, none⟩ = some (.string v2)) := by
    obtain ⟨b', o', e', -, h⟩ := S_cell hC.now 2 (by omega)
    obtain ⟨rfl, rfl⟩ : b = b' ∧ o = o' := by simpa using e'
    rw [h2] at h
    exact ⟨h⟩
  have hs2 : v2.size ≤ 1000000 := by
    rw [← h2, List.getD_eq_getElem?_getD, List.getElem?_eq_getElem (by omega)]
    exact hs _ (List.getElem_mem _)
  have hi0 : (0 : Int) < ↑ws.length := by omega
  have hj0 : 0 < ws.length := by omega
  have hi1 : (1 : Int) < ↑ws.length := by omega
  have hj1 : 1 < ws.length := by omega
  have hi2 : (2 : Int) < ↑ws.length := by omega
  have hj2 : 2 < ws.length := by omega
  have hcc : (ws.length : Int) ≤ ↑c := by omega
  have hg : ((ws.length : Int) != 3) = false := by simp; omega
  have hc1 : ¬ (c = 1) := by omega
  have hc2 : (2 : Int) ≤ ↑c := by omega
  have hc3 : (2 : Int) ≤ ↑ws.length := by omega
  have HKY := Aside0.mk (fun w => rkey_calls v1 w hs1)
  rw [hk] at HKY
  have HKC : Aside0 (HolF F w (fun w2 => Kd.string.C w2 (some ⟨b, o + 1, none⟩) 1 [v1])) := ⟨hC.imp (fun w2 h => by rw [← h1]; exact C_second h (by omega))⟩
  have hcc1 : 1 ≤ c - 1 := by omega
  have HSG := Aside0.mk (fun w => rdec_w v2 w)
  rw [hz] at HSG
  have HO : Aside0 (∀ w', Below w.heap.size w w' → Calls Tryz.prog 55 #[.int .i64 used, .agg #[.int .i64 10, .string v1, .slice none 0 0, .int .u32 0, .int .i64 0, .int .u64 0, .int .u64 ↑z, .int .u64 0, .bool false, .bool false], .agg #[.int .i64 1, .string (⟨#[105, 110, 99, 114]⟩ : ByteArray), .int .i64 0, .int .u32 0, .bool quiet, .bool false, .string ⟨#[]⟩, .slice none 0 0, .slice (some ⟨b, o + 1, none⟩) 1 (c - 1), .bool false]] w' (StepR (fun k => k ≠ w.heap.size ∧ (k < w.heap.size → F k)) w' R)) := ⟨fun w' hb => hR ▸ rone_calls used _ _ _ _ _ w' (fun w2 _ _ => K_cmdK w2 10 0 ↑z v1) (((HKC.out).up hb (Nat.le_refl _)).imp (fun w2 h => K_formK (⟨#[105, 110, 99, 114]⟩ : ByteArray) v1 quiet h hcc1))⟩
  clear hC h0 hln hs hcell0 hR hn hk h1 hs1 hcc1 h2 hs2 hz
  go_enter Tryz.func31, Tryz.ntmps31
  have kw0 : w.cell? ⟨b, o, none⟩ = some (.string v0) := HC0.out
  go_upto_region 2 with fail
  obtain ⟨W0, hW0⟩ : ∃ W0, (w.alloc (.cells zStepC 34 (0, 0))).alloc (.cells #[.int .i64 1, .string v0, .int .i64 0, .int .u32 0, .bool quiet, .bool false, .string ⟨#[]⟩, .slice none 0 0, .slice none 0 0, .bool false] 29 (0, 0)) = W0 := ⟨_, rfl⟩
  have hW2 := hW0
  unfold zStepC at hW2
  rw [hW2]
  have BF := Aside0.mk (show W0.heap[w.heap.size + 1]? = _ from hW0 ▸ blk_at_new _ _ _ (by simp))
  have BR := Aside0.mk (show W0.heap[w.heap.size]? = _ from hW0 ▸ blk_alloc (blk_at_new _ _ _ rfl) _)
  have HBn : Aside0 (Below w.heap.size w W0) := ⟨hW0 ▸ (by repeat (first | (with_reducible first | exact HB.out | apply below_alloc | apply pw_below_drewN | apply below_drew1) | exact HB.out))⟩
  clear HB hW0 hW2 kw0
  have HB := HBn
  clear HBn
  have k0 : W0.cell? ⟨b, o, none⟩ = some (.string v0) := (Below.cell HB.out (p := ⟨b, o, none⟩) hb0).trans HC0.out
  have k1 : W0.cell? ⟨b, o + 1, none⟩ = some (.string v1) := (Below.cell HB.out (p := ⟨b, o + 1, none⟩) hb0).trans HC1.out
  have k2 : W0.cell? ⟨b, o + 2, none⟩ = some (.string v2) := (Below.cell HB.out (p := ⟨b, o + 2, none⟩) hb0).trans HC2.out
  subst hv0
  go_wp2_with (first | (refine wpList_store_1 rfl 27 _ _ rfl (w.heap.size + 1) 8 (.slice (some ⟨b, o + 1, none⟩) 1 (c - 1)) rfl rfl rfl 29 _ #[.int .i64 1, .string (⟨#[105, 110, 99, 114]⟩ : ByteArray), .int .i64 0, .int .u32 0, .bool quiet, .bool false, .string ⟨#[]⟩, .slice none 0 0, .slice (some ⟨b, o + 1, none⟩) 1 (c - 1), .bool false] BF.out (by simp) (by kernel_rfl) rfl ?_; intro W1 hbk hst; have BFn := Aside0.mk hbk; have BRn := Aside0.mk (hst.blk BR.out (by omega)); have HBn := Aside0.mk (hst.up HB.out (by omega)); clear BF BR HB k0 k1 k2 hbk hst; have BF := BFn; have BR := BRn; have HB := HBn; clear BFn BRn HBn; have k0 : W1.cell? ⟨b, o, none⟩ = some _ := (Below.cell HB.out (p := ⟨b, o, none⟩) hb0).trans HC0.out; have k1 : W1.cell? ⟨b, o + 1, none⟩ = some (.string v1) := (Below.cell HB.out (p := ⟨b, o + 1, none⟩) hb0).trans HC1.out; have k2 : W1.cell? ⟨b, o + 2, none⟩ = some (.string v2) := (Below.cell HB.out (p := ⟨b, o + 2, none⟩) hb0).trans HC2.out) | (go_at_call 32; (with_reducible refine (HKY.out _).mono ?_); rintro e w2 ⟨rfl, hb⟩; have BFn := Aside0.mk (blk_below BF.out hb); have BRn := Aside0.mk (blk_below BR.out hb); clear BF BR k0 k1 k2; have BF := BFn; have BR := BRn; clear BFn BRn; have HBn := Aside0.mk (below_step (by repeat (first | (with_reducible first | exact HB.out | apply below_alloc | apply pw_below_drewN | apply below_drew1) | exact HB.out)) hb); clear HB; have HB := HBn; clear HBn; clear hb; have k0 : w2.cell? ⟨b, o, none⟩ = some _ := (Below.cell HB.out (p := ⟨b, o, none⟩) hb0).trans HC0.out; have k1 : w2.cell? ⟨b, o + 1, none⟩ = some (.string v1) := (Below.cell HB.out (p := ⟨b, o + 1, none⟩) hb0).trans HC1.out; have k2 : w2.cell? ⟨b, o + 2, none⟩ = some (.string v2) := (Below.cell HB.out (p := ⟨b, o + 2, none⟩) hb0).trans HC2.out) | (go_at_call 56; (with_reducible refine (HSG.out _).mono ?_); rintro e w3 ⟨rfl, hb⟩; have BFn := Aside0.mk (blk_below BF.out hb); have BRn := Aside0.mk (blk_below BR.out hb); clear BF BR k0 k1 k2; have BF := BFn; have BR := BRn; clear BFn BRn; have HBn := Aside0.mk (below_step (by repeat (first | (with_reducible first | exact HB.out | apply below_alloc | apply pw_below_drewN | apply below_drew1) | exact HB.out)) hb); clear HB; have HB := HBn; clear HBn; clear hb; have k0 : w3.cell? ⟨b, o, none⟩ = some _ := (Below.cell HB.out (p := ⟨b, o, none⟩) hb0).trans HC0.out; have k1 : w3.cell? ⟨b, o + 1, none⟩ = some (.string v1) := (Below.cell HB.out (p := ⟨b, o + 1, none⟩) hb0).trans HC1.out; have k2 : w3.cell? ⟨b, o + 2, none⟩ = some (.string v2) := (Below.cell HB.out (p := ⟨b, o + 2, none⟩) hb0).trans HC2.out; have f0 : w3.cell? ⟨w.heap.size + 1, 0, none⟩ = some (.int .i64 1) := (blk_cell BF.out 0).trans rfl; have f1 : w3.cell? ⟨w.heap.size + 1, 1, none⟩ = some (.string (⟨#[105, 110, 99, 114]⟩ : ByteArray)) := (blk_cell BF.out 1).trans rfl; have f2 : w3.cell? ⟨w.heap.size + 1, 2, none⟩ = some (.int .i64 0) := (blk_cell BF.out 2).trans rfl; have f3 : w3.cell? ⟨w.heap.size + 1, 3, none⟩ = some (.int .u32 0) := (blk_cell BF.out 3).trans rfl; have f4 : w3.cell? ⟨w.heap.size + 1, 4, none⟩ = some (.bool quiet) := (blk_cell BF.out 4).trans rfl; have f5 : w3.cell? ⟨w.heap.size + 1, 5, none⟩ = some (.bool false) := (blk_cell BF.out 5).trans rfl; have f6 : w3.cell? ⟨w.heap.size + 1, 6, none⟩ = some (.string ⟨#[]⟩) := (blk_cell BF.out 6).trans rfl; have f7 : w3.cell? ⟨w.heap.size + 1, 7, none⟩ = some (.slice none 0 0) := (blk_cell BF.out 7).trans rfl; have f8 : w3.cell? ⟨w.heap.size + 1, 8, none⟩ = some (.slice (some ⟨b, o + 1, none⟩) 1 (c - 1)) := (blk_cell BF.out 8).trans rfl; have f9 : w3.cell? ⟨w.heap.size + 1, 9, none⟩ = some (.bool false) := (blk_cell BF.out 9).trans rfl; have hfl : w.heap.size + 1 < w3.heap.size := blk_lt BF.out; have hb3 : b < w3.heap.size := Nat.lt_of_lt_of_le hb0 HB.out.size) | (go_at_call 55; (with_reducible refine (HO.out _ (by repeat (first | (with_reducible first | exact HB.out | apply below_alloc | apply pw_below_drewN | apply below_drew1) | exact HB.out))).mono ?_); rintro e w1 ⟨⟨cs, rfl, hk⟩, hb⟩; have BK := Aside0.mk (blk_below (blk_alloc BR.out _) hb); have GLT : Aside0 (w.heap.size < w3.heap.size + 1) := ⟨by have := blk_lt BR.out; omega⟩; have HBn := Aside0.mk (below_step (by repeat (first | (with_reducible first | exact HB.out | apply below_alloc | apply pw_below_drewN | apply below_drew1) | exact HB.out)) hb); clear HB; have HB := HBn; clear HBn; have HK := Aside0.mk hk; clear hb hk) | (refine wpList_store_K HK.out.now rfl 34 _ _ rfl w.heap.size rfl rfl 34 _ BK.out (by kernel_rfl) rfl ?_; intro w8 hbk hlow hfar; have HK2 := Aside0.mk (hfar _ _ (fun h => (h (by rw [World.size_alloc]; exact GLT.out)).1 rfl) HK.out); clear BK; have BK := Aside0.mk hbk; have HL := Aside0.mk hlow; clear hbk hlow hfar))
  (try simp only [Exit.inBlock, Exit.then]); refine bodyPost_ret (results_cell_row rfl _ _ w.heap.size 34 _ (0, 0) _ rfl BK.out Tryz.underlying34 rfl (by rw [List.size_toArray, kStep.K_len HK.out.now]; kernel_rfl)) rfl ?_; exact ⟨⟨_, rfl, HK2.out.mono (fun k hk h3 => (hk (by rw [World.size_alloc]; have := GLT.out; omega)).2 h3)⟩, HB.out.trans (HL.out _ (Nat.le_refl _))⟩
set_option maxRecDepth 100000 in
set_option maxHeartbeats 1000000 in
theorem ro_decr_ok (ws : List ByteArray) (A : Option Addr) (c : Nat) (quiet : Bool) (used : Int) (F : Nat → Prop) (w : World) (hC : HolF F w (fun w2 => Kd.string.C w2 A ws.length ws)) (hc : ws.length ≤ c) (hs : ∀ k ∈ ws, k.size ≤ 1000000) (h0 : ws.getD 0 ⟨#[]⟩ = (⟨#[100, 101, 99, 114]⟩ : ByteArray)) (v1 : ByteArray) (h1 : ws.getD 1 ⟨#[]⟩ = v1) (v2 : ByteArray) (h2 : ws.getD 2 ⟨#[]⟩ = v2) (hn : ws.length = 3) (hk : keyS v1 = true) (z : Nat) (hz : decS v2 = (z, true)) :
    Calls Tryz.prog 31 #[.slice A ws.length c, .bool quiet, .int .i64 used] w (StepR F w (stepO used (formT (⟨#[100, 101, 99, 114]⟩ : ByteArray) quiet [v1]) (cmdK 11 0 ↑z v1))) := by
  obtain ⟨R, hR⟩ : ∃ R, (stepO used (formT (⟨#[100, 101, 99, 114]⟩ : ByteArray) quiet [v1]) (cmdK 11 0 ↑z v1)) = R := ⟨_, rfl⟩
  rw [hR]
  have HB := Aside0.mk (Below.refl w.heap.size w)
  have HCF := Aside0.mk hC
  obtain ⟨v0, hv0⟩ : ∃ v0, ((⟨#[100, 101, 99, 114]⟩ : ByteArray) : ByteArray) = v0 := ⟨_, rfl⟩
  rw [hv0] at h0
  have hln : 2 < ws.length := by omega
  obtain ⟨b, o, rfl, hb0, hcell0⟩ := S_cell hC.now 0 (by omega)
  rw [h0, Nat.add_zero] at hcell0
  have HC0 := Aside0.mk hcell0
  have HC1 : Aside0 (w.cell? ⟨b, o + 1, none⟩ = some (.string v1)) := by
    obtain ⟨b', o', e', -, h⟩ := S_cell hC.now 1 (by omega)
    obtain ⟨rfl, rfl⟩ : b = b' ∧ o = o' := by simpa using e'
    rw [h1] at h
    exact ⟨h⟩
  have hs1 : v1.size ≤ 1000000 := by
    rw [← h1, List.getD_eq_getElem?_getD, List.getElem?_eq_getElem (by omega)]
    exact hs _ (List.getElem_mem _)
  have HC2 : Aside0 (w.cell? ⟨b, o + 2, none⟩ = some (.string v2)) := by
    obtain ⟨b', o', e', -, h⟩ := S_cell hC.now 2 (by omega)
    obtain ⟨rfl, rfl⟩ : b = b' ∧ o = o' := by simpa using e'
    rw [h2] at h
    exact ⟨h⟩
  have hs2 : v2.size ≤ 1000000 := by
    rw [← h2, List.getD_eq_getElem?_getD, List.getElem?_eq_getElem (by omega)]
    exact hs _ (List.getElem_mem _)
  have hi0 : (0 : Int) < ↑ws.length := by omega
  have hj0 : 0 < ws.length := by omega
  have hi1 : (1 : Int) < ↑ws.length := by omega
  have hj1 : 1 < ws.length := by omega
  have hi2 : (2 : Int) < ↑ws.length := by omega
  have hj2 : 2 < ws.length := by omega
  have hcc : (ws.length : Int) ≤ ↑c := by omega
  have hg : ((ws.length : Int) != 3) = false := by simp; omega
  have hc1 : ¬ (c = 1) := by omega
  have hc2 : (2 : Int) ≤ ↑c := by omega
  have hc3 : (2 : Int) ≤ ↑ws.length := by omega
  have HKY := Aside0.mk (fun w => rkey_calls v1 w hs1)
  rw [hk] at HKY
  have HKC : Aside0 (HolF F w (fun w2 => Kd.string.C w2 (some ⟨b, o + 1, none⟩) 1 [v1])) := ⟨hC.imp (fun w2 h => by rw [← h1]; exact C_second h (by omega))⟩
  have hcc1 : 1 ≤ c - 1 := by omega
  have HSG := Aside0.mk (fun w => rdec_w v2 w)
  rw [hz] at HSG
  have HO : Aside0 (∀ w', Below w.heap.size w w' → Calls Tryz.prog 55 #[.int .i64 used, .agg #[.int .i64 11, .string v1, .slice none 0 0, .int .u32 0, .int .i64 0, .int .u64 0, .int .u64 ↑z, .int .u64 0, .bool false, .bool false], .agg #[.int .i64 1, .string (⟨#[100, 101, 99, 114]⟩ : ByteArray), .int .i64 0, .int .u32 0, .bool quiet, .bool false, .string ⟨#[]⟩, .slice none 0 0, .slice (some ⟨b, o + 1, none⟩) 1 (c - 1), .bool false]] w' (StepR (fun k => k ≠ w.heap.size ∧ (k < w.heap.size → F k)) w' R)) := ⟨fun w' hb => hR ▸ rone_calls used _ _ _ _ _ w' (fun w2 _ _ => K_cmdK w2 11 0 ↑z v1) (((HKC.out).up hb (Nat.le_refl _)).imp (fun w2 h => K_formK (⟨#[100, 101, 99, 114]⟩ : ByteArray) v1 quiet h hcc1))⟩
  clear hC h0 hln hs hcell0 hR hn hk h1 hs1 hcc1 h2 hs2 hz
  go_enter Tryz.func31, Tryz.ntmps31
  have kw0 : w.cell? ⟨b, o, none⟩ = some (.string v0) := HC0.out
  go_upto_region 2 with fail
  obtain ⟨W0, hW0⟩ : ∃ W0, (w.alloc (.cells zStepC 34 (0, 0))).alloc (.cells #[.int .i64 1, .string v0, .int .i64 0, .int .u32 0, .bool quiet, .bool false, .string ⟨#[]⟩, .slice none 0 0, .slice none 0 0, .bool false] 29 (0, 0)) = W0 := ⟨_, rfl⟩
  have hW2 := hW0
  unfold zStepC at hW2
  rw [hW2]
  have BF := Aside0.mk (show W0.heap[w.heap.size + 1]? = _ from hW0 ▸ blk_at_new _ _ _ (by simp))
  have BR := Aside0.mk (show W0.heap[w.heap.size]? = _ from hW0 ▸ blk_alloc (blk_at_new _ _ _ rfl) _)
  have HBn : Aside0 (Below w.heap.size w W0) := ⟨hW0 ▸ (by repeat (first | (with_reducible first | exact HB.out | apply below_alloc | apply pw_below_drewN | apply below_drew1) | exact HB.out))⟩
  clear HB hW0 hW2 kw0
  have HB := HBn
  clear HBn
  have k0 : W0.cell? ⟨b, o, none⟩ = some (.string v0) := (Below.cell HB.out (p := ⟨b, o, none⟩) hb0).trans HC0.out
  have k1 : W0.cell? ⟨b, o + 1, none⟩ = some (.string v1) := (Below.cell HB.out (p := ⟨b, o + 1, none⟩) hb0).trans HC1.out
  have k2 : W0.cell? ⟨b, o + 2, none⟩ = some (.string v2) := (Below.cell HB.out (p := ⟨b, o + 2, none⟩) hb0).trans HC2.out
  subst hv0
  go_wp2_with (first | (refine wpList_store_1 rfl 27 _ _ rfl (w.heap.size + 1) 8 (.slice (some ⟨b, o + 1, none⟩) 1 (c - 1)) rfl rfl rfl 29 _ #[.int .i64 1, .string (⟨#[100, 101, 99, 114]⟩ : ByteArray), .int .i64 0, .int .u32 0, .bool quiet, .bool false, .string ⟨#[]⟩, .slice none 0 0, .slice (some ⟨b, o + 1, none⟩) 1 (c - 1), .bool false] BF.out (by simp) (by kernel_rfl) rfl ?_; intro W1 hbk hst; have BFn := Aside0.mk hbk; have BRn := Aside0.mk (hst.blk BR.out (by omega)); have HBn := Aside0.mk (hst.up HB.out (by omega)); clear BF BR HB k0 k1 k2 hbk hst; have BF := BFn; have BR := BRn; have HB := HBn; clear BFn BRn HBn; have k0 : W1.cell? ⟨b, o, none⟩ = some _ := (Below.cell HB.out (p := ⟨b, o, none⟩) hb0).trans HC0.out; have k1 : W1.cell? ⟨b, o + 1, none⟩ = some (.string v1) := (Below.cell HB.out (p := ⟨b, o + 1, none⟩) hb0).trans HC1.out; have k2 : W1.cell? ⟨b, o + 2, none⟩ = some (.string v2) := (Below.cell HB.out (p := ⟨b, o + 2, none⟩) hb0).trans HC2.out) | (go_at_call 32; (with_reducible refine (HKY.out _).mono ?_); rintro e w2 ⟨rfl, hb⟩; have BFn := Aside0.mk (blk_below BF.out hb); have BRn := Aside0.mk (blk_below BR.out hb); clear BF BR k0 k1 k2; have BF := BFn; have BR := BRn; clear BFn BRn; have HBn := Aside0.mk (below_step (by repeat (first | (with_reducible first | exact HB.out | apply below_alloc | apply pw_below_drewN | apply below_drew1) | exact HB.out)) hb); clear HB; have HB := HBn; clear HBn; clear hb; have k0 : w2.cell? ⟨b, o, none⟩ = some _ := (Below.cell HB.out (p := ⟨b, o, none⟩) hb0).trans HC0.out; have k1 : w2.cell? ⟨b, o + 1, none⟩ = some (.string v1) := (Below.cell HB.out (p := ⟨b, o + 1, none⟩) hb0).trans HC1.out; have k2 : w2.cell? ⟨b, o + 2, none⟩ = some (.string v2) := (Below.cell HB.out (p := ⟨b, o + 2, none⟩) hb0).trans HC2.out) | (go_at_call 56; (with_reducible refine (HSG.out _).mono ?_); rintro e w3 ⟨rfl, hb⟩; have BFn := Aside0.mk (blk_below BF.out hb); have BRn := Aside0.mk (blk_below BR.out hb); clear BF BR k0 k1 k2; have BF := BFn; have BR := BRn; clear BFn BRn; have HBn := Aside0.mk (below_step (by repeat (first | (with_reducible first | exact HB.out | apply below_alloc | apply pw_below_drewN | apply below_drew1) | exact HB.out)) hb); clear HB; have HB := HBn; clear HBn; clear hb; have k0 : w3.cell? ⟨b, o, none⟩ = some _ := (Below.cell HB.out (p := ⟨b, o, none⟩) hb0).trans HC0.out; have k1 : w3.cell? ⟨b, o + 1, none⟩ = some (.string v1) := (Below.cell HB.out (p := ⟨b, o + 1, none⟩) hb0).trans HC1.out; have k2 : w3.cell? ⟨b, o + 2, none⟩ = some (.string v2) := (Below.cell HB.out (p := ⟨b, o + 2, none⟩) hb0).trans HC2.out; have f0 : w3.cell? ⟨w.heap.size + 1, 0, none⟩ = some (.int .i64 1) := (blk_cell BF.out 0).trans rfl; have f1 : w3.cell? ⟨w.heap.size + 1, 1, none⟩ = some (.string (⟨#[100, 101, 99, 114]⟩ : ByteArray)) := (blk_cell BF.out 1).trans rfl; have f2 : w3.cell? ⟨w.heap.size + 1, 2, none⟩ = some (.int .i64 0) := (blk_cell BF.out 2).trans rfl; have f3 : w3.cell? ⟨w.heap.size + 1, 3, none⟩ = some (.int .u32 0) := (blk_cell BF.out 3).trans rfl; have f4 : w3.cell? ⟨w.heap.size + 1, 4, none⟩ = some (.bool quiet) := (blk_cell BF.out 4).trans rfl; have f5 : w3.cell? ⟨w.heap.size + 1, 5, none⟩ = some (.bool false) := (blk_cell BF.out 5).trans rfl; have f6 : w3.cell? ⟨w.heap.size + 1, 6, none⟩ = some (.string ⟨#[]⟩) := (blk_cell BF.out 6).trans rfl; have f7 : w3.cell? ⟨w.heap.size + 1, 7, none⟩ = some (.slice none 0 0) := (blk_cell BF.out 7).trans rfl; have f8 : w3.cell? ⟨w.heap.size + 1, 8, none⟩ = some (.slice (some ⟨b, o + 1, none⟩) 1 (c - 1)) := (blk_cell BF.out 8).trans rfl; have f9 : w3.cell? ⟨w.heap.size + 1, 9, none⟩ = some (.bool false) := (blk_cell BF.out 9).trans rfl; have hfl : w.heap.size + 1 < w3.heap.size := blk_lt BF.out; have hb3 : b < w3.heap.size := Nat.lt_of_lt_of_le hb0 HB.out.size) | (go_at_call 55; (with_reducible refine (HO.out _ (by repeat (first | (with_reducible first | exact HB.out | apply below_alloc | apply pw_below_drewN | apply below_drew1) | exact HB.out))).mono ?_); rintro e w1 ⟨⟨cs, rfl, hk⟩, hb⟩; have BK := Aside0.mk (blk_below (blk_alloc BR.out _) hb); have GLT : Aside0 (w.heap.size < w3.heap.size + 1) := ⟨by have := blk_lt BR.out; omega⟩; have HBn := Aside0.mk (below_step (by repeat (first | (with_reducible first | exact HB.out | apply below_alloc | apply pw_below_drewN | apply below_drew1) | exact HB.out)) hb); clear HB; have HB := HBn; clear HBn; have HK := Aside0.mk hk; clear hb hk) | (refine wpList_store_K HK.out.now rfl 34 _ _ rfl w.heap.size rfl rfl 34 _ BK.out (by kernel_rfl) rfl ?_; intro w8 hbk hlow hfar; have HK2 := Aside0.mk (hfar _ _ (fun h => (h (by rw [World.size_alloc]; exact GLT.out)).1 rfl) HK.out); clear BK; have BK := Aside0.mk hbk; have HL := Aside0.mk hlow; clear hbk hlow hfar))
  (try simp only [Exit.inBlock, Exit.then]); refine bodyPost_ret (results_cell_row rfl _ _ w.heap.size 34 _ (0, 0) _ rfl BK.out Tryz.underlying34 rfl (by rw [List.size_toArray, kStep.K_len HK.out.now]; kernel_rfl)) rfl ?_; exact ⟨⟨_, rfl, HK2.out.mono (fun k hk h3 => (hk (by rw [World.size_alloc]; have := GLT.out; omega)).2 h3)⟩, HB.out.trans (HL.out _ (Nat.le_refl _))⟩
end Go.Proofs.YtfljijpkeckeaaaGreatDoor.X
namespace Go.Proofs.YtfljijpkeckeaaaGreatDoor.X
open Go.RowKit Go.Proofs.YtfljijpkeckeaaaGreatDoorW.PrintWords Go.Proofs.YtfljijpkeckeaaaGreatDoorW.PrintMore
set_option linter.unusedVariables false
set_option linter.unusedSimpArgs false
theorem getsS_of {verb : ByteArray} {used : Int} {keys : List ByteArray} {op : Int} : getsS verb used keys op = if keys.length = 0 then stepF used (⟨#[69, 82, 82, 79, 82]⟩ : ByteArray) else if keysS keys = false then stepF used badT else stepG used verb op 0 keys := rfl
theorem rgets1 (v : ByteArray) (rest : List ByteArray) (A : Option Addr) (c : Nat) (used : Int) (F : Nat → Prop) (w : World) (hC : HolF F w (fun w2 => Kd.string.C w2 A (v :: rest).length (v :: rest))) (hc : (v :: rest).length ≤ c) (hs : ∀ k ∈ v :: rest, k.size ≤ 1000000) (hl : (v :: rest).length ≤ 1000000) (hv : v = (⟨#[103, 101, 116]⟩ : ByteArray) ∨ v = (⟨#[103, 101, 116, 115]⟩ : ByteArray)) :
    Calls Tryz.prog 26 #[.slice A (v :: rest).length c, .int .i64 used] w (StepR F w (getsS v used rest 0)) := by
  rw [getsS_of]
  by_cases h0 : rest.length = 0
  · rw [if_pos h0]
    rcases hv with rfl | rfl
    · exact rg_get_no _ rest A c used F w hC hc hs hl rfl rfl (by rw [List.length_cons]; omega) (by simp)
    · exact rg_gets_no _ rest A c used F w hC hc hs hl rfl rfl (by rw [List.length_cons]; omega) (by simp)
  rw [if_neg h0]
  cases hk : keysS rest
  · rw [if_pos rfl]
    rcases hv with rfl | rfl
    · exact rg_get_bad _ rest A c used F w hC hc hs hl rfl rfl (by rw [List.length_cons]; omega) hk
    · exact rg_gets_bad _ rest A c used F w hC hc hs hl rfl rfl (by rw [List.length_cons]; omega) hk
  · rw [if_neg (by decide)]
    rcases hv with rfl | rfl
    · exact rg_get_ok _ rest A c used F w hC hc hs hl rfl rfl (by rw [List.length_cons]; omega) hk
    · exact rg_gets_ok _ rest A c used F w hC hc hs hl rfl rfl (by rw [List.length_cons]; omega) hk
theorem rgets2 (v : ByteArray) (rest : List ByteArray) (A : Option Addr) (c : Nat) (used : Int) (F : Nat → Prop) (w : World) (hC : HolF F w (fun w2 => Kd.string.C w2 A (v :: rest).length (v :: rest))) (hc : (v :: rest).length ≤ c) (hs : ∀ k ∈ v :: rest, k.size ≤ 1000000) (hl : (v :: rest).length ≤ 1000000) (hv : v = (⟨#[103, 97, 116]⟩ : ByteArray) ∨ v = (⟨#[103, 97, 116, 115]⟩ : ByteArray)) :
    Calls Tryz.prog 26 #[.slice A (v :: rest).length c, .int .i64 used] w (StepR F w (gatsS v used rest)) := by
  unfold gatsS
  by_cases h0 : rest.length < 2
  · rw [if_pos h0]
    rcases hv with rfl | rfl
    · exact rg_gat_no _ _ A c used F w hC hc hs hl rfl rfl (by rw [List.length_cons]; omega) (by simp)
    · exact rg_gats_no _ _ A c used F w hC hc hs hl rfl rfl (by rw [List.length_cons]; omega) (by simp)
  rw [if_neg h0]
  obtain ⟨v1, keys, rfl⟩ : ∃ v1 keys, rest = v1 :: keys := by
    cases rest with
    | nil => exact absurd (by decide) h0
    | cons a l => exact ⟨a, l, rfl⟩
  rw [show (v1 :: keys).tail = keys from rfl, show (v1 :: keys).getD 0 ⟨#[]⟩ = v1 from rfl]
  have hn : 2 < (v :: v1 :: keys).length := by
    rw [List.length_cons] at h0
    rw [List.length_cons, List.length_cons]
    omega
  cases hk : keysS keys
  · rw [if_pos rfl]
    rcases hv with rfl | rfl
    · exact rg_gat_bad _ keys A c used F w hC hc hs hl rfl rfl hn hk
    · exact rg_gats_bad _ keys A c used F w hC hc hs hl rfl rfl hn hk
  rw [if_neg (by decide)]
  obtain ⟨⟨z, p⟩, hz⟩ : ∃ z, sgnS v1 = z := ⟨_, rfl⟩
  rw [hz]
  cases p
  · rw [if_pos rfl]
    rcases hv with rfl | rfl
    · exact rg_gat_nan _ keys A c used F w hC hc hs hl rfl rfl hn hk v1 rfl z hz
    · exact rg_gats_nan _ keys A c used F w hC hc hs hl rfl rfl hn hk v1 rfl z hz
  · rw [if_neg (show ¬ (true = false) by decide)]
    rcases hv with rfl | rfl
    · exact rg_gat_ok _ keys A c used F w hC hc hs hl rfl rfl hn hk v1 rfl z hz
    · exact rg_gats_ok _ keys A c used F w hC hc hs hl rfl rfl hn hk v1 rfl z hz
theorem ro_delete (v : ByteArray) (rest : List ByteArray) (A : Option Addr) (c : Nat) (quiet : Bool) (used : Int) (F : Nat → Prop) (w : World) (hC : HolF F w (fun w2 => Kd.string.C w2 A (v :: rest).length (v :: rest))) (hc : (v :: rest).length ≤ c) (hs : ∀ k ∈ v :: rest, k.size ≤ 1000000) (hv : v = (⟨#[100, 101, 108, 101, 116, 101]⟩ : ByteArray)) :
    Calls Tryz.prog 31 #[.slice A (v :: rest).length c, .bool quiet, .int .i64 used] w (StepR F w (delS v quiet used rest)) := by
  subst hv
  unfold delS
  by_cases hn : rest.length = 1
  · obtain ⟨k, rfl⟩ := len1 hn
    cases hk : keyS k
    · rw [kd_bad (words := [k]) (k := k) (many := 1) rfl rfl hk]
      exact ro_delete_key _ A c quiet used F w hC hc hs rfl k rfl rfl hk
    · rw [kd_ok (words := [k]) (k := k) (many := 1) rfl rfl hk]
      exact ro_delete_ok _ A c quiet used F w hC hc hs rfl k rfl rfl hk
  · rw [keyedSt_no _ _ _ _ _ _ _ _ _ hn]
    exact ro_delete_no _ A c quiet used F w hC hc hs rfl (by rw [List.length_cons]; omega) (by simp)
theorem ro_touch (v : ByteArray) (rest : List ByteArray) (A : Option Addr) (c : Nat) (quiet : Bool) (used : Int) (F : Nat → Prop) (w : World) (hC : HolF F w (fun w2 => Kd.string.C w2 A (v :: rest).length (v :: rest))) (hc : (v :: rest).length ≤ c) (hs : ∀ k ∈ v :: rest, k.size ≤ 1000000) (hv : v = (⟨#[116, 111, 117, 99, 104]⟩ : ByteArray)) :
    Calls Tryz.prog 31 #[.slice A (v :: rest).length c, .bool quiet, .int .i64 used] w (StepR F w (touchS v quiet used rest)) := by
  subst hv
  unfold touchS
  by_cases hn : rest.length = 2
  · obtain ⟨k, x, rfl⟩ := len2 hn
    obtain ⟨⟨z, p⟩, hz⟩ : ∃ z, sgnS x = z := ⟨_, rfl⟩
    rw [show ([k, x] : List ByteArray).getD 1 ⟨#[]⟩ = x from rfl, hz]
    cases hk : keyS k
    · rw [kd_bad (words := [k, x]) (k := k) (many := 2) rfl rfl hk, kd_bad (words := [k, x]) (k := k) (many := 2) rfl rfl hk, ite_self]
      exact ro_touch_key _ A c quiet used F w hC hc hs rfl k rfl rfl hk
    cases p
    · rw [if_neg (show ¬ (false = true) by decide), kd_wrong (wrong := badT) (words := [k, x]) (k := k) (many := 2) rfl rfl hk (by decide)]
      exact ro_touch_nan _ A c quiet used F w hC hc hs rfl k rfl x rfl rfl hk z hz
    · rw [if_pos rfl, kd_ok (words := [k, x]) (k := k) (many := 2) rfl rfl hk]
      exact ro_touch_ok _ A c quiet used F w hC hc hs rfl k rfl x rfl rfl hk z hz
  · rw [keyedSt_no _ _ _ _ _ _ _ _ _ hn, keyedSt_no _ _ _ _ _ _ _ _ _ hn, ite_self]
    exact ro_touch_no _ A c quiet used F w hC hc hs rfl (by rw [List.length_cons]; omega) (by simp)
theorem ro_incr (v : ByteArray) (rest : List ByteArray) (A : Option Addr) (c : Nat) (quiet : Bool) (used : Int) (F : Nat → Prop) (w : World) (hC : HolF F w (fun w2 => Kd.string.C w2 A (v :: rest).length (v :: rest))) (hc : (v :: rest).length ≤ c) (hs : ∀ k ∈ v :: rest, k.size ≤ 1000000) (hv : v = (⟨#[105, 110, 99, 114]⟩ : ByteArray)) :
    Calls Tryz.prog 31 #[.slice A (v :: rest).length c, .bool quiet, .int .i64 used] w (StepR F w (sumS v quiet used rest 10)) := by
  subst hv
  unfold sumS
  by_cases hn : rest.length = 2
  · obtain ⟨k, x, rfl⟩ := len2 hn
    obtain ⟨⟨z, p⟩, hz⟩ : ∃ z, decS x = z := ⟨_, rfl⟩
    rw [show ([k, x] : List ByteArray).getD 1 ⟨#[]⟩ = x from rfl, hz]
    cases hk : keyS k
    · rw [kd_bad (words := [k, x]) (k := k) (many := 2) rfl rfl hk, kd_bad (words := [k, x]) (k := k) (many := 2) rfl rfl hk, ite_self]
      exact ro_incr_key _ A c quiet used F w hC hc hs rfl k rfl rfl hk
    cases p
    · rw [if_neg (show ¬ (false = true) by decide), kd_wrong (wrong := deltaT) (words := [k, x]) (k := k) (many := 2) rfl rfl hk (by decide)]
      exact ro_incr_nan _ A c quiet used F w hC hc hs rfl k rfl x rfl rfl hk z hz
    · rw [if_pos rfl, kd_ok (words := [k, x]) (k := k) (many := 2) rfl rfl hk]
      exact ro_incr_ok _ A c quiet used F w hC hc hs rfl k rfl x rfl rfl hk z hz
  · rw [keyedSt_no _ _ _ _ _ _ _ _ _ hn, keyedSt_no _ _ _ _ _ _ _ _ _ hn, ite_self]
    exact ro_incr_no _ A c quiet used F w hC hc hs rfl (by rw [List.length_cons]; omega) (by simp)
theorem ro_decr (v : ByteArray) (rest : List ByteArray) (A : Option Addr) (c : Nat) (quiet : Bool) (used : Int) (F : Nat → Prop) (w : World) (hC : HolF F w (fun w2 => Kd.string.C w2 A (v :: rest).length (v :: rest))) (hc : (v :: rest).length ≤ c) (hs : ∀ k ∈ v :: rest, k.size ≤ 1000000) (hv : v = (⟨#[100, 101, 99, 114]⟩ : ByteArray)) :
    Calls Tryz.prog 31 #[.slice A (v :: rest).length c, .bool quiet, .int .i64 used] w (StepR F w (sumS v quiet used rest 11)) := by
  subst hv
  unfold sumS
  by_cases hn : rest.length = 2
  · obtain ⟨k, x, rfl⟩ := len2 hn
    obtain ⟨⟨z, p⟩, hz⟩ : ∃ z, decS x = z := ⟨_, rfl⟩
    rw [show ([k, x] : List ByteArray).getD 1 ⟨#[]⟩ = x from rfl, hz]
    cases hk : keyS k
    · rw [kd_bad (words := [k, x]) (k := k) (many := 2) rfl rfl hk, kd_bad (words := [k, x]) (k := k) (many := 2) rfl rfl hk, ite_self]
      exact ro_decr_key _ A c quiet used F w hC hc hs rfl k rfl rfl hk
    cases p
    · rw [if_neg (show ¬ (false = true) by decide), kd_wrong (wrong := deltaT) (words := [k, x]) (k := k) (many := 2) rfl rfl hk (by decide)]
      exact ro_decr_nan _ A c quiet used F w hC hc hs rfl k rfl x rfl rfl hk z hz
    · rw [if_pos rfl, kd_ok (words := [k, x]) (k := k) (many := 2) rfl rfl hk]
      exact ro_decr_ok _ A c quiet used F w hC hc hs rfl k rfl x rfl rfl hk z hz
  · rw [keyedSt_no _ _ _ _ _ _ _ _ _ hn, keyedSt_no _ _ _ _ _ _ _ _ _ hn, ite_self]
    exact ro_decr_no _ A c quiet used F w hC hc hs rfl (by rw [List.length_cons]; omega) (by simp)
theorem ro_flush (v : ByteArray) (rest : List ByteArray) (A : Option Addr) (c : Nat) (quiet : Bool) (used : Int) (F : Nat → Prop) (w : World) (hC : HolF F w (fun w2 => Kd.string.C w2 A (v :: rest).length (v :: rest))) (hc : (v :: rest).length ≤ c) (hs : ∀ k ∈ v :: rest, k.size ≤ 1000000) (hv : v = (⟨#[102, 108, 117, 115, 104, 95, 97, 108, 108]⟩ : ByteArray)) :
    Calls Tryz.prog 31 #[.slice A (v :: rest).length c, .bool quiet, .int .i64 used] w (StepR F w (flushS v quiet rest used)) := by
  subst hv
  unfold flushS expF
  by_cases hn : 1 < rest.length
  · rw [if_pos hn]
    exact ro_flush_no _ A c quiet used F w hC hc hs rfl (by rw [List.length_cons]; omega)
  rw [if_neg hn]
  by_cases h0 : rest.length = 0
  · rw [if_pos h0, if_pos rfl]
    exact ro_flush_one_ok _ A c quiet used F w hC hc hs rfl (by rw [List.length_cons]; omega) 0 sgn0
  obtain ⟨x, rfl⟩ := len1 (show rest.length = 1 by omega)
  rw [if_neg h0, show ([x] : List ByteArray).getD 0 ⟨#[]⟩ = x from rfl]
  obtain ⟨⟨z, p⟩, hz⟩ : ∃ z, sgnS x = z := ⟨_, rfl⟩
  rw [hz]
  cases p
  · rw [if_neg (show ¬ (false = true) by decide)]
    exact ro_flush_two_bad _ A c quiet used F w hC hc hs rfl x rfl rfl z hz
  · rw [if_pos rfl]
    exact ro_flush_two_ok _ A c quiet used F w hC hc hs rfl x rfl rfl z hz
end Go.Proofs.YtfljijpkeckeaaaGreatDoor.X
namespace Go.Proofs.YtfljijpkeckeaaaGreatDoor.X
set_option linter.unusedVariables false
section
variable {P : Program} {md : Region.Mode} {ops : Array Oper} {Q : Exit → Act → World → Prop} {S : World → Prop}
def wpAnyL (P : Program) (md : Region.Mode) (ops : Array Oper) (Q : Exit → Act → World → Prop) (S : World → Prop) (N : Nat) : Nat → Array Bool → Act → World → Prop
  | 0, listed, a, w => Region.ready md ops listed = [] ∧ Q .normal a w
  | fuel + 1, listed, a, w =>
    (Region.ready md ops listed = [] → Q .normal a w) ∧
    ∀ i ∈ Region.ready md ops listed, wpOp P ops Q i (fun a' w' => (i ≠ N → S w') ∧ wpAnyL P md ops Q S N fuel (listed.setIfInBounds i true) a' w') a w
theorem wpAny_of_L {N : Nat} : ∀ (fuel : Nat) (listed : Array Bool) (a : Act) (w : World), wpAnyL P md ops Q S N fuel listed a w → wpAny P md ops Q fuel listed a w
  | 0, _, _, _, h => h
  | fuel + 1, _, _, _, h => ⟨h.1, fun i hi => wpOp_mono (fun a' w' h' => wpAny_of_L fuel _ a' w' h'.2) (h.2 i hi)⟩
theorem wpAnyL_first {N i : Nat} {oi : Oper} {v : Value} (hi : ops[i]? = some oi) (hsel : ∀ (j : Nat) (o : Oper) cs b, ops[j]? = some o → o.op ≠ .select cs b)
    (hQ : ∀ c a w, Q (.panic c) (a.put oi.dst v) w → Q (.panic c) a w) (hN : ∀ oN, ops[N]? = some oN → ∃ e ∈ oN.after, Region.binds md e = true ∧ e.on = i) :
    ∀ (fuel : Nat) (listed : Array Bool) (a : Act) (w : World),
      (∀ j oj, ops[j]? = some oj → j ≠ i → listed.getD j true = false → (∀ e ∈ oj.after, Region.binds md e = true → e.on ≠ i) → oi.apart ops oj = true) →
      i ∈ Region.ready md ops listed → YieldsIf P ops S oi v a → S w →
      wpAnyL P md ops Q S N fuel (listed.setIfInBounds i true) (a.put oi.dst v) w → wpAnyL P md ops Q S N (fuel + 1) listed a w := by
  intro fuel
  induction fuel with
  | zero =>
    intro listed a w _ hr hy hS H
    refine ⟨fun h => (by rw [h] at hr; cases hr), fun j hj => ?_⟩
    by_cases hji : j = i
    · subst hji; exact hy.wpOp hi hS ⟨fun _ => hS, H⟩
    · have := ready_mono hj hji
      rw [H.1] at this
      cases this
  | succ fuel ih =>
    intro listed a w hfree hr hy hS H
    refine ⟨fun h => (by rw [h] at hr; cases hr), fun j hj => ?_⟩
    by_cases hji : j = i
    · subst hji; exact hy.wpOp hi hS ⟨fun _ => hS, H⟩
    · have h1 := H.2 j (ready_mono hj hji)
      obtain ⟨hjun, oj, hoj, hall⟩ := mem_ready.1 hj
      have hnot : ∀ e ∈ oj.after, Region.binds md e = true → e.on ≠ i := fun e he hb heq => by
        have h1 := hall e he hb
        have h0 := (mem_ready.1 hr).1
        rw [heq] at h1
        rcases Nat.lt_or_ge i listed.size with h' | h'
        · simp [h'] at h0 h1; rw [h0] at h1; cases h1
        · simp [Array.getElem?_eq_none h'] at h1
      have h2 := wpOp_putIf hoj (hfree j oj hoj hji hjun hnot) (fun cs b => hsel i oi cs b hi) (fun cs b => hsel j oj cs b hoj) hQ hy h1
      have hfree' : ∀ k ok, ops[k]? = some ok → k ≠ i → (listed.setIfInBounds j true).getD k true = false →
          (∀ e ∈ ok.after, Region.binds md e = true → e.on ≠ i) → oi.apart ops ok = true := fun k ok hk hki hun hno => by
        refine hfree k ok hk hki ?_ hno
        by_cases hjk : j = k
        · subst hjk; exact hjun
        · rw [getD_set_ne true hjk] at hun; exact hun
      have hjN : j ≠ N := fun e => by
        obtain ⟨x, hx, hb, hon⟩ := hN oj (e ▸ hoj)
        exact hnot x hx hb hon
      refine wpOp_mono (fun a' w' h3 => ⟨h3.2.1, ih (listed.setIfInBounds j true) a' w' hfree' (ready_mono hr (Ne.symm hji)) h3.1 (h3.2.1 hjN) ?_⟩) h2
      rw [Array.setIfInBounds_comm _ _ hji]
      exact h3.2.2
def depB (md : Region.Mode) (ops : Array Oper) (N i : Nat) : Bool := match ops[N]? with | none => true | some o => o.after.any (fun e => Region.binds md e && e.on == i)
theorem depB_spec {N i : Nat} (h : depB md ops N i = true) : ∀ oN, ops[N]? = some oN → ∃ e ∈ oN.after, Region.binds md e = true ∧ e.on = i := by
  intro oN hoN
  unfold depB at h
  rw [hoN] at h
  obtain ⟨k, hk, hx⟩ := Array.any_eq_true.1 h
  rw [Bool.and_eq_true, beq_iff_eq] at hx
  exact ⟨_, Array.getElem_mem hk, hx.1, hx.2⟩
theorem wpAnyL_take {N i : Nat} {oi : Oper} {v : Value} {fuel : Nat} {listed : Array Bool} {a : Act} {w : World} (hi : ops[i]? = some oi)
    (hs : Region.noSelect ops = true) (hf : Region.free md ops listed i = true) (hr : (Region.ready md ops listed).contains i = true) (hd : depB md ops N i = true)
    (hQ : ∀ c a w, Q (.panic c) (a.put oi.dst v) w → Q (.panic c) a w) (hy : YieldsIf P ops S oi v a) (hS : S w)
    (h : wpAnyL P md ops Q S N fuel (listed.setIfInBounds i true) (a.put oi.dst v) w) : wpAnyL P md ops Q S N (fuel + 1) listed a w :=
  wpAnyL_first hi (Region.noSelect_spec hs) hQ (depB_spec hd) fuel listed a w (Region.free_spec hi hf) (by simpa using hr) hy hS h
theorem wpAnyL_one {N i : Nat} {o : Oper} {fuel : Nat} {listed : Array Bool} {a : Act} {w : World} (hr : Region.ready md ops listed = [i]) (ho : ops[i]? = some o)
    (h : ∀ K' : Act → World → Prop, Shut (∀ a w, (i ≠ N → S w) → ((i ≠ N → S w) → wpAnyL P md ops Q S N fuel (listed.setIfInBounds i true) a w) → K' a w) → if Region.wanted o (yielded ops a.tmps) = true then Oper.wp P o a w K' Q else K' (a.put o.dst undef) w) :
    wpAnyL P md ops Q S N (fuel + 1) listed a w := by
  refine ⟨fun h0 => (by rw [h0] at hr; cases hr), fun j hj => ?_⟩
  rw [hr, List.mem_singleton] at hj
  subst hj
  exact wpOp_step ho (fun K' hK => h K' (fun a w hS hW => hK a w ⟨hS, hW hS⟩))
theorem wpAnyL_done {N : Nat} {listed : Array Bool} {a : Act} {w : World} (hr : Region.ready md ops listed = []) (h : Q .normal a w) : ∀ fuel, wpAnyL P md ops Q S N fuel listed a w
  | 0 => ⟨hr, h⟩
  | _ + 1 => ⟨fun _ => h, by rw [hr]; simp⟩
theorem wp_region_L {id : Nat} {a : Act} {w : World} (N : Nat) (hm : P.follows .mixedOrders = true) (hS : S w.drew)
    (h : S w.drew → wpAnyL P .any ops Q S N ops.size (Array.replicate ops.size false) a w.drew) : (Code.region id ops true).wp P Q a w :=
  wp_region_any hm (wpAny_of_L _ _ _ _ (h hS))
end
end Go.Proofs.YtfljijpkeckeaaaGreatDoor.X
namespace Go.Proofs.YtfljijpkeckeaaaGreatDoor.X
open Go.RowKit Go.Proofs.YtfljijpkeckeaaaGreatDoorW.PrintWords Go.Proofs.YtfljijpkeckeaaaGreatDoorW.PrintMore
set_option linter.unusedVariables false
set_option linter.unusedSimpArgs false
set_option maxRecDepth 100000 in
set_option maxHeartbeats 1000000 in
theorem fault_raw (verb : ByteArray) (A1 A4 : Option Addr) (n1 c1 n4 c4 : Nat) (quiet : Bool) (used : Int) (reply : ByteArray) (w : World) (hr : reply.size ≤ 1000) :
    Calls Tryz.prog 18 #[.agg #[.string verb, .slice A1 n1 c1, .bool quiet, .int .i64 used, .slice A4 n4 c4], .string reply] w fun e w' => e = .returned (.agg (stepFC used reply 0 false).toArray) ∧ Below w.heap.size w w' := by
  have HB := Aside0.mk (Below.refl w.heap.size w)
  go_enter Tryz.func18, Tryz.ntmps18
  go_wp2
  ((try simp only [Exit.inBlock, Exit.then]); refine bodyPost_ret (results_cell_row rfl _ _ (w.heap.size + 1) 34 _ (0, 0) _ rfl (by repeat (first | exact blk_at_new _ _ _ (by simp; done) | exact blk_at_new _ _ _ rfl | refine blk_alloc ?_ _ | refine blk_drew ?_ | refine blk_drewN ?_ _)) Tryz.underlying34 rfl (by kernel_rfl)) rfl ?_)
  exact ⟨rfl, (by repeat (first | (with_reducible first | exact HB.out | apply below_alloc | apply pw_below_drewN | apply below_drew1) | exact HB.out))⟩
def longT : ByteArray := (⟨#[67, 76, 73, 69, 78, 84, 95, 69, 82, 82, 79, 82, 32, 108, 105, 110, 101, 32, 116, 111, 111, 32, 108, 111, 110, 103]⟩ : ByteArray)
set_option maxRecDepth 100000 in
set_option maxHeartbeats 1000000 in
theorem parse_more (l : List Int) (A : Option Addr) (c : Nat) (F : Nat → Prop) (w : World) (hC : (Kd.int .u8).C w A l.length l) (hc : l.length ≤ c) (hl : l.length ≤ 1000000) (h8 : B8 l) (he : lineS l = (⟨#[]⟩, 0, 3)) :
    Calls Tryz.prog 12 #[.slice A l.length c] w (StepR F w stepM) := by
  have HB := Aside0.mk (Below.refl w.heap.size w)
  have HC := Aside0.mk hC
  have HLN : Aside0 (∀ w', Below w.heap.size w w' → Calls Tryz.prog 17 #[.slice A l.length c] w' fun e w'' => e = .returned (.tuple #[.string ⟨#[]⟩, .int .i64 0, .int .i64 3]) ∧ Below w'.heap.size w' w'') := ⟨fun w' hb => by
    have := fline_calls l A c w' (Kd.C_below HC.out hb) hc hl h8
    rw [he] at this
    exact this⟩
  clear hC h8 he
  go_enter Tryz.func12, Tryz.ntmps12
  go_wp2_with (first | (go_at_call 17; (with_reducible refine (HLN.out _ (by repeat (first | (with_reducible first | exact HB.out | apply below_alloc | apply pw_below_drewN | apply below_drew1) | exact HB.out))).mono ?_); rintro e w1 ⟨rfl, hb⟩; have BR := Aside0.mk (blk_below (g := w.heap.size) (o := .cells zStepC 34 (0, 0)) (by repeat (first | exact blk_at_new _ _ _ (by simp; done) | exact blk_at_new _ _ _ rfl | refine blk_alloc ?_ _ | refine blk_drew ?_ | refine blk_drewN ?_ _)) hb); have HBn := Aside0.mk (below_step (by repeat (first | (with_reducible first | exact HB.out | apply below_alloc | apply pw_below_drewN | apply below_drew1) | exact HB.out)) hb); clear HB; have HB := HBn; clear HBn; clear hb; have hr1 : w.heap.size < w1.heap.size := blk_lt BR.out) | (refine wpList_store_F rfl 34 _ _ rfl w.heap.size 0 stepMC rfl rfl (by simp [stepMC, Value.oneCell']) 34 _ _ (blk_alloc BR.out _) (by simp [zStepC, stepMC]) (by kernel_rfl) rfl ?_; intro w8 hbk hst; have BR8 := Aside0.mk hbk; have HB8 := Aside0.mk (hst.up (by repeat (first | (with_reducible first | exact HB.out | apply below_alloc | apply pw_below_drewN | apply below_drew1) | exact HB.out)) (Nat.le_refl _)); clear hbk hst))
  ((try simp only [Exit.inBlock, Exit.then]); refine bodyPost_ret (results_cell_row rfl _ _ w.heap.size 34 _ (0, 0) _ rfl BR8.out Tryz.underlying34 rfl (by kernel_rfl)) rfl ?_)
  exact ⟨⟨_, rfl, fun w2 _ _ => stepM_K w2⟩, HB8.out⟩
set_option maxRecDepth 100000 in
set_option maxHeartbeats 1000000 in
theorem parse_long (l : List Int) (A : Option Addr) (c m : Nat) (F : Nat → Prop) (w : World) (hC : (Kd.int .u8).C w A l.length l) (hc : l.length ≤ c) (hl : l.length ≤ 1000000) (h8 : B8 l) (he : lineS l = (⟨#[]⟩, (m : Int) + 1, 4)) (hm : m < l.length) :
    Calls Tryz.prog 12 #[.slice A l.length c] w (StepR F w (stepFS ((m : Int) + 1) longT 0 (l.getD m 0 != 10))) := by
  have HB := Aside0.mk (Below.refl w.heap.size w)
  have HC := Aside0.mk hC
  have HLN : Aside0 (∀ w', Below w.heap.size w w' → Calls Tryz.prog 17 #[.slice A l.length c] w' fun e w'' => e = .returned (.tuple #[.string ⟨#[]⟩, .int .i64 ((m : Int) + 1), .int .i64 4]) ∧ Below w'.heap.size w' w'') := ⟨fun w' hb => by
    have := fline_calls l A c w' (Kd.C_below HC.out hb) hc hl h8
    rw [he] at this
    exact this⟩
  obtain ⟨b, o, rfl, hb0, hcell⟩ := C_cell hC m hm
  obtain ⟨z, hz⟩ : ∃ z, l.getD m 0 = z := ⟨_, rfl⟩
  rw [hz] at hcell ⊢
  have HCL := Aside0.mk hcell
  obtain ⟨q, hq⟩ : ∃ q, (z != 10) = q := ⟨_, rfl⟩
  rw [hq]
  have HOL : Aside0 (∀ (A4 : Option Addr) (n4 c4 : Nat) w', Calls Tryz.prog 18 #[.agg #[.string ⟨#[]⟩, .slice none 0 0, .bool false, .int .i64 ((m : Int) + 1), .slice A4 n4 c4], .string (⟨#[67, 76, 73, 69, 78, 84, 95, 69, 82, 82, 79, 82, 32, 108, 105, 110, 101, 32, 116, 111, 111, 32, 108, 111, 110, 103]⟩ : ByteArray)] w' fun e w'' => e = .returned (.agg (stepFC ((m : Int) + 1) longT 0 false).toArray) ∧ Below w'.heap.size w' w'') := ⟨fun A4 n4 c4 w' => fault_raw ⟨#[]⟩ none A4 0 0 n4 c4 false ((m : Int) + 1) longT w' (by decide)⟩
  clear hC h8 he hz hcell
  have hi0 : (0 : Int) ≤ ↑m + 1 := by omega
  have hi1 : (m : Int) + 1 ≤ ↑l.length := by omega
  have hi2 : (m : Int) < ↑l.length := by omega
  have hi3 : (l.length : Int) ≤ ↑c := by omega
  have hi4 : (0 : Int) ≤ ↑m := by omega
  go_enter Tryz.func12, Tryz.ntmps12
  go_wp2_with (first | (go_at_call 17; (with_reducible refine (HLN.out _ (by repeat (first | (with_reducible first | exact HB.out | apply below_alloc | apply pw_below_drewN | apply below_drew1) | exact HB.out))).mono ?_); rintro e w1 ⟨rfl, hb⟩; have BR := Aside0.mk (blk_below (g := w.heap.size) (o := .cells zStepC 34 (0, 0)) (by repeat (first | exact blk_at_new _ _ _ (by simp; done) | exact blk_at_new _ _ _ rfl | refine blk_alloc ?_ _ | refine blk_drew ?_ | refine blk_drewN ?_ _)) hb); have HBn := Aside0.mk (below_step (by repeat (first | (with_reducible first | exact HB.out | apply below_alloc | apply pw_below_drewN | apply below_drew1) | exact HB.out)) hb); clear HB; have HB := HBn; clear HBn; clear hb; have hr1 : w.heap.size < w1.heap.size := blk_lt BR.out) | (go_at_call 18; (with_reducible refine (HOL.out _ _ _ _).mono ?_); rintro e w3 ⟨rfl, hb⟩; unfold stepFC; have BR3 := Aside0.mk (blk_below (blk_alloc BR.out _) hb); have HBn := Aside0.mk (below_step (by repeat (first | (with_reducible first | exact HB.out | apply below_alloc | apply pw_below_drewN | apply below_drew1) | exact HB.out)) hb); clear HB; have HB := HBn; clear HBn; clear hb; have hr3 : w.heap.size < w3.heap.size := blk_lt BR3.out; have hb3 : b < w3.heap.size := Nat.lt_of_lt_of_le hb0 HB.out.size; have t5 : w3.cell? ⟨b, o + m, none⟩ = some (.int .u8 z) := (Below.cell HB.out (p := ⟨b, o + m, none⟩) hb0).trans HCL.out) | (refine wpList_store_1 rfl 4 _ _ rfl w3.heap.size 14 (.bool q) rfl rfl rfl 34 _ (stepFC ((m : Int) + 1) longT 0 q).toArray (blk_at_new _ _ _ rfl) (by simp) (by kernel_rfl) rfl ?_; intro w4 hbk hst; have BS4 := Aside0.mk hbk; have BR4 := Aside0.mk (hst.blk (blk_alloc BR3.out _) (by omega)); have HB4 := Aside0.mk (hst.up (by repeat (first | (with_reducible first | exact HB.out | apply below_alloc | apply pw_below_drewN | apply below_drew1) | exact HB.out)) (by omega)); clear hbk hst HB; have HB := HB4; clear HB4; have e0 : w4.cell? ⟨w3.heap.size, 0, none⟩ = some (.slice none 0 0) := (blk_cell BS4.out 0).trans rfl; have e1 : w4.cell? ⟨w3.heap.size, 1, none⟩ = some (.int .i64 0) := (blk_cell BS4.out 1).trans rfl; have e2 : w4.cell? ⟨w3.heap.size, 2, none⟩ = some (.string ⟨#[]⟩) := (blk_cell BS4.out 2).trans rfl; have e3 : w4.cell? ⟨w3.heap.size, 3, none⟩ = some (.int .i64 0) := (blk_cell BS4.out 3).trans rfl; have e4 : w4.cell? ⟨w3.heap.size, 4, none⟩ = some (.int .u32 0) := (blk_cell BS4.out 4).trans rfl; have e5 : w4.cell? ⟨w3.heap.size, 5, none⟩ = some (.bool false) := (blk_cell BS4.out 5).trans rfl; have e6 : w4.cell? ⟨w3.heap.size, 6, none⟩ = some (.bool false) := (blk_cell BS4.out 6).trans rfl; have e7 : w4.cell? ⟨w3.heap.size, 7, none⟩ = some (.string ⟨#[]⟩) := (blk_cell BS4.out 7).trans rfl; have e8 : w4.cell? ⟨w3.heap.size, 8, none⟩ = some (.slice none 0 0) := (blk_cell BS4.out 8).trans rfl; have e9 : w4.cell? ⟨w3.heap.size, 9, none⟩ = some (.slice none 0 0) := (blk_cell BS4.out 9).trans rfl; have e10 : w4.cell? ⟨w3.heap.size, 10, none⟩ = some (.bool false) := (blk_cell BS4.out 10).trans rfl; have e11 : w4.cell? ⟨w3.heap.size, 11, none⟩ = some (.string (longT ++ (⟨#[13, 10]⟩ : ByteArray))) := (blk_cell BS4.out 11).trans rfl; have e12 : w4.cell? ⟨w3.heap.size, 12, none⟩ = some (.int .i64 ((m : Int) + 1)) := (blk_cell BS4.out 12).trans rfl; have e13 : w4.cell? ⟨w3.heap.size, 13, none⟩ = some (.int .i64 0) := (blk_cell BS4.out 13).trans rfl; have e14 : w4.cell? ⟨w3.heap.size, 14, none⟩ = some (.bool q) := (blk_cell BS4.out 14).trans rfl; have e15 : w4.cell? ⟨w3.heap.size, 15, none⟩ = some (.int .i64 2) := (blk_cell BS4.out 15).trans rfl) | (refine wpList_store_F rfl 34 _ _ rfl w.heap.size 0 _ rfl rfl (by simp [Value.oneCell']) 34 _ _ BR4.out (by simp [zStepC]) (by kernel_rfl) rfl ?_; intro w8 hbk hst; have BR8 := Aside0.mk hbk; have HB8 := Aside0.mk (hst.up HB.out (Nat.le_refl _)); clear hbk hst))
  all_goals
    ((try simp only [Exit.inBlock, Exit.then]); refine bodyPost_ret (results_cell_row rfl _ _ w.heap.size 34 _ (0, 0) _ rfl BR8.out Tryz.underlying34 rfl (by kernel_rfl)) rfl ?_)
    exact ⟨⟨_, rfl, fun w2 _ _ => stepFS_K w2 ((m : Int) + 1) longT 0 q⟩, HB8.out⟩
end Go.Proofs.YtfljijpkeckeaaaGreatDoor.X
namespace Go.Proofs.YtfljijpkeckeaaaGreatDoor.X
open Go.RowKit Go.Shelf Go.Proofs.YtfljijpkeckeaaaGreatDoorW.PrintWords
set_option linter.unusedVariables false
set_option linter.unusedSimpArgs false
attribute [local go_sem] Oper.semAt_some

def strSz : Value → Nat
  | .string t => t.size
  | _ => 0
theorem grown_drewN (w : World) (n : Nat) : w.grownBy (w.drewN n) none := ⟨rfl, rfl, rfl, Nat.le_refl _, fun _ _ _ => rfl⟩
theorem wordsB_nil {t T : ByteArray} (hT : baOf (trimL t.data.toList) = T) (h : T.toList.isEmpty = true) : wordsB t = [] := by
  have h1 : trimL t.data.toList = [] := by
    rw [← hT, ByteArray.toList_eq] at h
    simpa [baOf] using h
  unfold wordsB
  rw [wordsL_nil _ h1]
  rfl
theorem wordsB_cons {t T : ByteArray} (hT : baOf (trimL t.data.toList) = T) (h : T.toList.isEmpty = false) : wordsB t = baOf (headW T.data.toList) :: wordsB (baOf (tailW T.data.toList)) ∧ (baOf (tailW T.data.toList)).size < t.size ∧ T.size ≤ t.size := by
  have h1 : trimL t.data.toList ≠ [] := fun e => by
    rw [← hT, e] at h
    rw [ByteArray.toList_eq] at h
    simp [baOf] at h
  have e : T.data.toList = trimL t.data.toList := by rw [← hT]; rfl
  rw [e]
  refine ⟨?_, tailW_lt _ h1, ?_⟩
  · unfold wordsB
    rw [wordsL_cons _ h1]
    rfl
  · have h2 := trimL_len t.data.toList
    rw [← e] at h2
    exact h2
set_option maxRecDepth 100000 in
set_option maxHeartbeats 2000000 in
theorem words1_in (n : Nat) (hn : 1 ≤ n) (l Bn n₀ : Nat) (s : ByteArray) (hs : s.size ≤ 9223372036854775807) (J Jx : List ByteArray → World → Prop)
    (hY : ∀ pre x W, J pre W → pre.length < (wordsB s).length → YieldAt Fence.wide (n - 1) Tryz.prog l #[.string x] W fun e W' =>
      (e = .returned (.bool true) ∧ J (pre ++ [x]) W' ∧ Below n₀ W W') ∨ (e = .returned (.bool false) ∧ Jx (pre ++ [x]) W'))
    (W : World) (hJ : AbidesFrom W.heap.size J) (hBn : W.cell? ⟨Bn, 0, none⟩ = some (.string s)) (h0 : J [] W) :
    CallsIn Fence.wide n Tryz.prog 38 #[.func (.yield l) #[] #[], .pointer (some ⟨Bn, 0, none⟩)] W fun e W' => (∃ v, e = .returned v) ∧
      ((∃ ys, ys = wordsB s ∧ J ys W') ∨ (∃ pre, pre <+: wordsB s ∧ Jx pre W')) := by
  refine callsIn_of_wp Tryz.func38 rfl trivial ?_ rfl
  simp only [Tryz.ntmps38, List.size_toArray, List.length_cons, List.length_nil, Nat.reduceAdd, Nat.reduceSub, Array.replicate_succ, Array.replicate_zero, List.push_toArray, List.append_toArray, List.nil_append, List.cons_append]
  gi_wp2
  gi_loopw [3] (fun v wr => ∃ (pre : List ByteArray) (t : ByteArray), v = .string t ∧ Aside0 (wordsB s = pre ++ wordsB t) ∧ t.size ≤ 9223372036854775807 ∧ J pre wr)
    (fun v wr => strSz v)
  case atStart => exact ⟨[], s, rfl, ⟨rfl⟩, hs, h0⟩
  case round =>
    obtain ⟨pre, t, rfl, hx, ht, hJs⟩ := hrel
    obtain ⟨T, hT⟩ : ∃ T, baOf (trimL t.data.toList) = T := ⟨_, rfl⟩
    have HT := Aside0.mk hT
    by_cases he : T.toList.isEmpty = true
    · have hfin := wordsB_nil hT he
      have HF := Aside0.mk hfin
      clear hfin hT
      gi_wp2_with (refine ⟨trivial, ?_⟩; gi_at_call 39; refine (callsIn_wide.2 (Tryz.strings_TrimLeft_one t 32 (by decide) _)).mono ?_; rintro e w' ⟨rfl, hw'⟩; obtain rfl := hw'.symm; rw [show (⟨(Lib.trimLeftB t.data.toList 32).toArray⟩ : ByteArray) = T from HT.out])
      refine bodyPost_ret (results_none rfl _ _ _) rfl ?_
      exact ⟨⟨_, rfl⟩, .inl ⟨pre, by rw [hx.out, HF.out, List.append_nil], hJs⟩⟩
    · have he2 : T.toList.isEmpty = false := Bool.eq_false_iff.2 he
      obtain ⟨h1, h2, h3⟩ := wordsB_cons hT he2
      have HC := Aside0.mk h1
      have hTs : T.size ≤ 9223372036854775807 := by omega
      have hlt : pre.length < (wordsB s).length := by rw [hx.out, h1]; simp
      obtain ⟨X, hX⟩ : ∃ X, baOf (headW T.data.toList) = X := ⟨_, rfl⟩
      obtain ⟨R, hR⟩ : ∃ R, baOf (tailW T.data.toList) = R := ⟨_, rfl⟩
      have HX := Aside0.mk hX; have HR := Aside0.mk hR
      rw [hR] at h2
      clear h1 hT he hX hR
      gi_wp2_with (first
        | (refine ⟨trivial, ?_⟩; gi_at_call 39; refine (callsIn_wide.2 (Tryz.strings_TrimLeft_one t 32 (by decide) _)).mono ?_; rintro e w' ⟨rfl, hw'⟩; obtain rfl := hw'.symm; rw [show (⟨(Lib.trimLeftB t.data.toList 32).toArray⟩ : ByteArray) = T from HT.out])
        | (refine ⟨trivial, ?_⟩; gi_at_call 40; refine (callsIn_wide.2 (cut_calls T _ hTs)).mono ?_; rintro e w' ⟨⟨b, rfl⟩, ⟨nd, rfl⟩⟩; rw [HX.out, HR.out]))
      have hJ2 : J pre (wr.drewN nd) := hJ pre wr _ none hJs (grown_drewN wr nd) (fun r e => by cases e)
      obtain ⟨fn, tmps, assign, body, hy, hRR⟩ := hY pre X (wr.drewN nd) hJ2 hlt
      rw [hy]
      go_simp
      refine hRR.mono ?_
      rintro e W3 (⟨rfl, hJ3, hk3⟩ | ⟨rfl, hJx3⟩)
      · gi_wp2
        go_roundw
        case rel => exact ⟨pre ++ [X], R, rfl, ⟨by rw [hx.out, HC.out, HX.out, HR.out, List.append_assoc]; rfl⟩, by omega, hJ3⟩
        case measure => simp [strSz]; exact h2
      · gi_wp2
        refine bodyPost_ret (results_none rfl _ _ _) rfl ?_
        exact ⟨⟨_, rfl⟩, .inr ⟨pre ++ [X], ⟨wordsB R, by rw [hx.out, HC.out, HX.out, HR.out]; simp⟩, hJx3⟩⟩
end Go.Proofs.YtfljijpkeckeaaaGreatDoor.X
namespace Go.Proofs.YtfljijpkeckeaaaGreatDoor.X
open Go.RowKit Go.Shelf Go.Proofs.YtfljijpkeckeaaaGreatDoorW.PrintWords Go.Proofs.YtfljijpkeckeaaaGreatDoorW.PrintMore
set_option linter.unusedVariables false
set_option linter.unusedSimpArgs false
attribute [local go_sem] Oper.semAt_some
set_option maxHeartbeats 1000000 in
theorem mkWords_in (n : Nat) (s : ByteArray) (w : World) :
    CallsIn Fence.wide n Tryz.prog 19 #[.string s] w fun e w' => e = .returned (.func (.func 38) #[] #[.pointer (some ⟨w.heap.size, 0, none⟩)]) ∧ w' = w.alloc (.cells #[.string s] 9) := by
  refine callsIn_of_wp Tryz.func19 rfl trivial ?_ rfl
  simp only [Tryz.ntmps19, List.size_toArray, List.length_cons, List.length_nil, Nat.reduceAdd, Nat.reduceSub, Array.replicate_succ, Array.replicate_zero, List.push_toArray, List.append_toArray, List.nil_append, List.cons_append]
  gi_wp2
  go_ret
  exact ⟨rfl, rfl⟩
theorem mkWords_calls (s : ByteArray) (w : World) : Calls Tryz.prog 19 #[.string s] w fun e w' => e = .returned (.func (.func 38) #[] #[.pointer (some ⟨w.heap.size, 0, none⟩)]) ∧ w' = w.alloc (.cells #[.string s] 9) := callsIn_wide.1 (mkWords_in 1 s w)
theorem words_stops (n : Nat) (hn : 1 ≤ n) (Bn n₀ : Nat) (s : ByteArray) (hs : s.size ≤ 9223372036854775807) (w : World) (hBn : Bn < w.heap.size) (hc : w.cell? ⟨Bn, 0, none⟩ = some (.string s)) :
    SeqStopsK Fence.wide n Tryz.prog 38 #[.pointer (some ⟨Bn, 0, none⟩)] (fun x : ByteArray => #[Value.string x]) (Below n₀) (fun ys => ys = wordsB s) (fun pre => pre <+: wordsB s) (wordsB s).length w := fun l J Jx W hW hJ _ hY h0 =>
  words1_in n hn l Bn n₀ s hs J Jx hY W hJ ((hW.cell (p := ⟨Bn, 0, none⟩) hBn).trans hc) h0
theorem words_lenL (l : List UInt8) : (wordsL l).length ≤ l.length := by
  induction h : l.length using Nat.strongRecOn generalizing l with
  | _ n ih =>
    by_cases h0 : trimL l = []
    · rw [wordsL_nil _ h0]; simp
    · rw [wordsL_cons _ h0, List.length_cons]
      have h1 := tailW_lt l h0
      have h2 := ih _ (by omega) (tailW (trimL l)) rfl
      omega
theorem words_len (s : ByteArray) : (wordsB s).length ≤ s.size := by
  unfold wordsB
  rw [List.length_map]
  exact words_lenL _
theorem own_blkRow {β : Type} (g : Nat) (t : TypeId) (f : Value → Array Value) (n₀ : Nat) (e : TypeId) (k : β → Nat) (xs : β → List Value) : Own (fun s W => ∃ V, W.heap[g]? = some (.cells (f V) t (0, 0)) ∧ W.ownsRow n₀ e 1 V (k s) (xs s)) := by
  rintro s X Y row ⟨V, hv, hr⟩ hg hrow
  have hne : ∀ (j : Nat) (cs : Array Value) (t' : TypeId), X.heap[j]? = some (.cells cs t' (0, 0)) → some j ≠ row := fun j cs t' hj e' => by
    obtain ⟨o, ho, hc⟩ := hrow j e'.symm
    rw [hj] at ho; cases ho; cases hc
  refine ⟨V, (hg.block g (Array.getElem?_eq_some_iff.1 hv).1 (hne g _ _ hv)).trans hv, own_move hr (fun j hj => ?_)⟩
  obtain ⟨cs, hcs⟩ := own_typed hr j hj
  exact hg.block j (Array.getElem?_eq_some_iff.1 hcs).1 (hne j _ _ hcs)
theorem own_blk {β : Type} (g : Nat) (t : TypeId) (cs : Array Value) : Own (fun (_ : β) W => W.heap[g]? = some (.cells cs t (0, 0))) := by
  rintro s X Y row hv hg hrow
  refine (hg.block g (Array.getElem?_eq_some_iff.1 hv).1 (fun e' => ?_)).trans hv
  obtain ⟨o, ho, hc⟩ := hrow g e'.symm
  rw [hv] at ho; cases ho; cases hc
theorem own_Cs {W : World} {base : Nat} {v : Value} {l : List ByteArray} (h : W.ownsRow base 9 1 v l.length (l.map Value.string)) (hl : l.length ≤ 1000000) : ∃ A c, v = .slice A l.length c ∧ l.length ≤ c ∧ Kd.string.C W A l.length l := by
  rcases h.2 with ⟨rfl, h0⟩ | ⟨g, cap, cur, rfl, hb, hh, hn, hcm, hcs, htake⟩
  · obtain rfl : l = [] := List.eq_nil_of_length_eq_zero h0
    exact ⟨none, 0, rfl, Nat.le_refl _, C_nil _ _⟩
  · refine ⟨some ⟨g, 0, none⟩, cap, rfl, hn, rfl, by omega, fun _ => ⟨_, rfl, fun j p hj => ⟨[.string p], rfl, rfl, fun i u hu => ?_⟩⟩⟩
    have hi : i = 0 := by
      have := (List.getElem?_eq_some_iff.1 hu).1
      simpa using this
    subst hi
    obtain rfl : Value.string p = u := by simpa using hu
    refine h.cells (g := g) rfl (j * 1 + 0) _ ?_
    rw [Nat.mul_one, Nat.add_zero, List.getElem?_map, hj]
    rfl
theorem C_dropk {w : World} {b o : Nat} {l : List Int} (h : (Kd.int .u8).C w (some ⟨b, o, none⟩) l.length l) (k : Nat) : (Kd.int .u8).C w (some ⟨b, o + k, none⟩) (l.drop k).length (l.drop k) := by
  obtain ⟨h1, h2, h3⟩ := h
  refine ⟨rfl, by rw [List.length_drop]; omega, fun h0 => ⟨_, rfl, fun j p hj => ?_⟩⟩
  rw [List.getElem?_drop] at hj
  obtain ⟨ad, ha, hc⟩ := h3 (by have := (List.getElem?_eq_some_iff.1 hj).1; omega)
  obtain rfl := Option.some.inj ha
  obtain ⟨cs, hlen, hK, hcell⟩ := hc (k + j) p hj
  refine ⟨cs, hlen, hK, fun i u hu => ?_⟩
  rw [← hcell i u hu, add_plain, add_plain]
  congr 2
  show o + k + (j * 1 + i) = o + ((k + j) * 1 + i)
  omega
theorem own_CsA {W : World} {base : Nat} {A : Option Addr} {c : Nat} {l : List ByteArray} (h : W.ownsRow base 9 1 (.slice A l.length c) l.length (l.map Value.string)) (hl : l.length ≤ 1000000) : Kd.string.C W A l.length l := by
  obtain ⟨A', c', e, -, hC⟩ := own_Cs h hl
  obtain ⟨rfl, -, rfl⟩ := Value.slice.inj e
  exact hC
theorem wordsL_size (l : List UInt8) : ∀ x ∈ wordsL l, x.length ≤ l.length := by
  induction h : l.length using Nat.strongRecOn generalizing l with
  | _ n ih =>
    intro x hx
    by_cases h0 : trimL l = []
    · rw [wordsL_nil _ h0] at hx; cases hx
    · rw [wordsL_cons _ h0] at hx
      have h1 := trimL_len l
      rcases List.mem_cons.1 hx with rfl | hx
      · have := headW_len (trimL l)
        omega
      · have h2 := tailW_lt l h0
        have := ih _ (by omega) (tailW (trimL l)) rfl x hx
        omega
theorem wordsB_size (s : ByteArray) : ∀ x ∈ wordsB s, x.size ≤ s.size := by
  intro x hx
  unfold wordsB at hx
  obtain ⟨y, hy, rfl⟩ := List.mem_map.1 hx
  exact wordsL_size _ y hy
theorem C_tailI {w : World} {b o c n : Nat} {v : ByteArray} {l : List ByteArray} (h : Kd.string.C w (some ⟨b, o, none⟩) (n + 1) (v :: l)) (hn : l.length = n) (hc : n + 1 ≤ c) : Kd.string.C w (if c = 1 then some ⟨b, o, none⟩ else some ⟨b, o + 1, none⟩) n l := by
  split
  · obtain rfl : n = 0 := by omega
    obtain rfl : l = [] := List.eq_nil_of_length_eq_zero hn
    exact C_zero _ _ _
  · exact C_tail h hn
def parseW (used : Int) (rest : List Int) : List ByteArray → Step
  | [] => stepF used (⟨#[69, 82, 82, 79, 82]⟩ : ByteArray)
  | v :: ws => if (loudS v used ws).2 = true then (loudS v used ws).1 else if hushB v ws = true then otherS v true used (ws.take (ws.length - 1)) rest else otherS v false used ws rest
def lineC (verb : ByteArray) (V : Value) (quiet : Bool) (used : Int) (A4 : Option Addr) (n4 c4 : Nat) : Array Value := #[.string verb, V, .bool quiet, .int .i64 used, .slice A4 n4 c4]
set_option maxRecDepth 100000 in
set_option maxHeartbeats 2000000 in
theorem parse_go (l : List Int) (A : Option Addr) (c m : Nat) (t : ByteArray) (w : World) (hC : (Kd.int .u8).C w A l.length l) (hc : l.length ≤ c) (hl : l.length ≤ 1000000) (h8 : B8 l) (he : lineS l = (t, (m : Int) + 1, 0)) (hm : m < l.length) (ht : t.size ≤ 1000000) (hT : Tabs w) :
    Calls Tryz.prog 12 #[.slice A l.length c] w (StepR (fun _ => True) w (parseW ((m : Int) + 1) (l.drop (m + 1)) (wordsB t))) := by
  have HB := Aside0.mk (Below.refl w.heap.size w)
  have HC := Aside0.mk hC
  have HT := Aside0.mk hT
  have H8 := Aside0.mk h8
  have HLN : Aside0 (∀ w', Below w.heap.size w w' → Calls Tryz.prog 17 #[.slice A l.length c] w' fun e w'' => e = .returned (.tuple #[.string t, .int .i64 ((m : Int) + 1), .int .i64 0]) ∧ Below w'.heap.size w' w'') := ⟨fun w' hb => by
    have := fline_calls l A c w' (Kd.C_below HC.out hb) hc hl h8
    rw [he] at this
    exact this⟩
  obtain ⟨b, o, rfl, hb0, -⟩ := C_cell hC m hm
  have hlen := words_len t
  obtain ⟨lr, hlr⟩ : ∃ lr, l.drop (m + 1) = lr := ⟨_, rfl⟩
  have hlrn : l.length - (m + 1) = lr.length := by rw [← hlr, List.length_drop]
  have HLR := Aside0.mk hlr
  rw [hlr]
  have HSZ : Aside0 (∀ x ∈ wordsB t, x.size ≤ 1000000) := ⟨fun x hx => Nat.le_trans (wordsB_size t x hx) ht⟩
  have h8r : B8 lr := fun z hz => h8 z (by rw [← hlr] at hz; exact List.mem_of_mem_drop hz)
  have HR8 := Aside0.mk h8r
  have hlrl : lr.length ≤ 1000000 := by omega
  obtain ⟨R, hR⟩ : ∃ R, parseW ((m : Int) + 1) lr (wordsB t) = R := ⟨_, rfl⟩
  rw [hR]
  have HRR := Aside0.mk hR
  clear hR h8r
  clear hC h8 he hT hlr
  have hi0 : (0 : Int) ≤ (m : Int) + 1 := by omega
  have hi1 : (m : Int) + 1 ≤ ↑l.length := by omega
  have hi2 : (m : Int) < ↑l.length := by omega
  have hi3 : (l.length : Int) ≤ ↑c := by omega
  have hi4 : (0 : Int) ≤ ↑m := by omega
  refine (callsIn_wide (n := 6)).1 ?_
  refine callsIn_of_wp_marks Tryz.func12 rfl trivial ?_ rfl
  simp only [Tryz.ntmps12, List.size_toArray, List.length_cons, List.length_nil, Nat.reduceAdd, Nat.reduceSub, Array.replicate_succ, Array.replicate_zero, List.push_toArray, List.append_toArray, List.nil_append, List.cons_append]
  refine wpIn_wide.2 ?_
  go_upto_region 2 with (first | (go_at_call 17; (with_reducible refine (HLN.out _ (by repeat (first | (with_reducible first | exact HB.out | apply below_alloc | apply pw_below_drewN | apply below_drew1) | exact HB.out))).mono ?_); rintro e w1 ⟨rfl, hb⟩; have BR := Aside0.mk (blk_below (g := w.heap.size) (o := .cells zStepC 34 (0, 0)) (by repeat (first | exact blk_at_new _ _ _ (by simp; done) | exact blk_at_new _ _ _ rfl | refine blk_alloc ?_ _ | refine blk_drew ?_ | refine blk_drewN ?_ _)) hb); have HBn := Aside0.mk (below_step (by repeat (first | (with_reducible first | exact HB.out | apply below_alloc | apply pw_below_drewN | apply below_drew1) | exact HB.out)) hb); clear HB; have HB := HBn; clear HBn; clear hb; have hr1 : w.heap.size < w1.heap.size := blk_lt BR.out))
  go_cut [6] from 17 to 21 (fun s6 wx => s6 = .pointer (some ⟨w1.heap.size, 0, none⟩) ∧ Aside0 (∃ A4 c4, wx.heap[w1.heap.size]? = some (.cells (lineC ⟨#[]⟩ (.slice none 0 0) false ((m : Int) + 1) A4 lr.length c4) 50 (0, 0)) ∧ lr.length ≤ c4 ∧ (Kd.int .u8).C w A4 lr.length lr ∧ wx.heap[w.heap.size]? = some (.cells zStepC 34 (0, 0)) ∧ Below w.heap.size w wx ∧ wx.heap.size = w1.heap.size + 1))
  case first =>
    go_wp2
    · have hcm : c = m + 1 := by omega
      subst hcm
      have hnil : lr = [] := List.eq_nil_of_length_eq_zero (by omega)
      go_meet
      case rel => exact ⟨rfl, ⟨⟨_, _, blk_at_new _ _ _ rfl, by omega, by rw [hnil]; exact C_zero _ _ _, blk_alloc BR.out _, (by repeat (first | (with_reducible first | exact HB.out | apply below_alloc | apply pw_below_drewN | apply below_drew1) | exact HB.out)), by simp⟩⟩⟩
    · go_meet
      case rel => exact ⟨rfl, ⟨⟨_, _, blk_at_new _ _ _ rfl, by omega, by have := C_dropk HC.out (m + 1); rw [HLR.out] at this; exact this, blk_alloc BR.out _, (by repeat (first | (with_reducible first | exact HB.out | apply below_alloc | apply pw_below_drewN | apply below_drew1) | exact HB.out)), by simp⟩⟩⟩
  case rest =>
    obtain ⟨rfl, HI⟩ := hcut
    obtain ⟨A4, c4, hx, hl4, hC4, hr, hB, hsz⟩ := HI.out
    obtain ⟨gl, hgl⟩ : ∃ g, w1.heap.size = g := ⟨_, rfl⟩
    rw [hgl] at hx hsz hr1
    rw [hgl]
    have BX := Aside0.mk hx
    have BRc := Aside0.mk hr
    have HBc := Aside0.mk hB
    have HC4 := Aside0.mk hC4
    clear hx hr hB hC4 HI BR HB hgl HLN HLR HC
    go_wp2_with (go_at_call 19; (with_reducible refine (mkWords_calls t _).mono ?_); rintro e w' ⟨rfl, rfl⟩)
    obtain ⟨W0, hW0⟩ : ∃ W0, wc.alloc (.cells #[.string t] 9) = W0 := ⟨_, rfl⟩
    have BX0 := Aside0.mk (show W0.heap[gl]? = _ from hW0 ▸ blk_alloc BX.out _)
    have BR0 := Aside0.mk (show W0.heap[w.heap.size]? = _ from hW0 ▸ blk_alloc BRc.out _)
    have hbel : Below w.heap.size w W0 := hW0 ▸ below_alloc HBc.out _
    have bS : Boxed W0 wc.heap.size 9 (.string t) := hW0 ▸ Boxed.new wc 9 (.string t)
    have hsz0 : W0.heap.size = wc.heap.size + 1 := by rw [← hW0]; simp
    rw [hW0]
    rw [hsz] at bS hsz0
    obtain ⟨qs, hqs⟩ : ∃ q, gl + 1 = q := ⟨_, rfl⟩
    rw [hqs] at bS hsz0
    rw [hqs]
    have hql : gl < qs := by omega
    have hql2 : qs ≤ gl + 1 := by omega
    clear hW0 hqs BX BRc HBc hsz
    obtain ⟨i0, hi, hz0, hz1, hz2⟩ := info_parts info9
    refine (wpIn_wide (n := 6)).1 ?_
    refine wpIn_rangeFunc_ownG rfl (by omega) (gf := 38) (lb := #[.pointer (some ⟨qs, 0, none⟩)]) rfl trivial (enters_of Tryz.func38 (by kernel_rfl) rfl)
      (words_stops 5 (by omega) qs w.heap.size t (by omega) W0 bS.lt bS.cell) belowK_t (belowK_b hbel.size) (Below.refl _ _) (fun _ => rfl)
      (fun pre W => ((∃ V, W.heap[gl]? = some (.cells (lineC ⟨#[]⟩ V false ((m : Int) + 1) A4 lr.length c4) 50 (0, 0)) ∧ W.ownsRow (qs + 1) 9 1 V pre.length (pre.map Value.string)) ∧ W.heap[w.heap.size]? = some (.cells zStepC 34 (0, 0))) ∧ Below w.heap.size w W)
      (fun _ _ _ => False)
      (OwnFrom.and (OwnFrom.and (Own.from (own_blkRow gl 50 (fun V => lineC ⟨#[]⟩ V false ((m : Int) + 1) A4 lr.length c4) (qs + 1) 9 (fun (pre : List ByteArray) => pre.length) (fun pre => pre.map Value.string)) _) (Own.from (own_blk _ _ _) _)) (ownFrom_below (Nat.le_refl _) hbel.size))
      (fun _ _ _ _ _ hs _ _ => hs) ⟨⟨⟨_, BX0.out, World.ownsRow_nil _ _ _ _⟩, BR0.out⟩, hbel⟩ ?a1 ?assign ?body ?done ?stop
    case assign =>
      intro l x W K hK
      gi_wp2
      exact hK
    case stop =>
      rintro D c pre W _ _ h _
      exact h.elim
    case body =>
      rintro l pre x W ⟨⟨⟨V, hv, hrow⟩, hr0⟩, hB⟩ hlt2
      have hgW : gl < W.heap.size := blk_lt hv
      have e1 : W.cell? ⟨gl, 1, none⟩ = some V := (blk_cell hv 1).trans rfl
      have hne : some gl ≠ V.ownBlock := own_apart hrow (by omega)
      have hner : some w.heap.size ≠ V.ownBlock := own_apart hrow (by omega)
      have hrg : w.heap.size < gl := hr1
      gi_wp2_with (gi_at_builtin; (refine wpListIn_append_own _ rfl _ _ 27 rfl (qs + 1) 9 i0 (.string ⟨#[]⟩) 1 16 Tryz.underlying27 hi hz0 hz1 hz2 rfl (by decide) _ _ _ rfl (hrow.alloc _) ⟨W.heap.size, 0, none⟩ 1 1 [.string x] rfl rfl (cell_one_new _ _ _) (by simp [Value.oneCell']) (by unfold maxLen; omega) (by omega) (by rw [World.size_alloc]; omega) ?_); intro v' w2 hown' hgrow _; obtain ⟨g', cap', rfl⟩ := ownsRow_succ hown'; have hv2 := blk_grown (blk_alloc hv _) hgrow hne; have hr2 := blk_grown (blk_alloc hr0 _) hgrow hner; have e2 : w2.cell? ⟨gl, 1, none⟩ = some V := (blk_cell hv2 1).trans rfl; have f2 : w2.frozen? ⟨gl, 1, none⟩ = false := blk_frozen hv2 1)
      have hK2 : KeepsOthers W w2 := (KeepsOthers.alloc W _).trans (KeepsOthers.of_grownBy hgrow (fun j o' hj ho' => by
        obtain ⟨cs, hcs⟩ := own_typed (hrow.alloc _) j hj
        rw [hcs] at ho'
        cases ho'
        rfl))
      have hb2 : Below w.heap.size W w2 := ((Below.refl w.heap.size W).alloc (by omega) _).grown hgrow (by rw [World.size_alloc]; omega) (fun k hk => by have := own_base hrow k hk; omega)
      refine ⟨(hK2.trans (KeepsOthers.setCell _ _ _)).from _, hb2.setCell (p := ⟨gl, 1, none⟩) (by show w.heap.size ≤ gl; omega) _, ⟨⟨⟨_, blk_set hv2 1 _, ?_⟩, blk_far hr2 (by show w.heap.size ≠ gl; omega) _⟩, (hB.trans hb2).setCell (p := ⟨gl, 1, none⟩) (by show w.heap.size ≤ gl; omega) _⟩⟩
      rw [List.map_append, List.length_append]
      exact own_setCell hown' (own_apart hown' (show gl < qs + 1 by omega)) _
    case done =>
      rintro D ys W hD rfl ⟨⟨⟨V, hv, hrow⟩, hr0⟩, hB⟩ hK
      obtain ⟨A1, c1, rfl, hc1, hCw⟩ := own_Cs hrow (by omega)
      have hgW : gl < W.heap.size := blk_lt hv
      have BX1 := Aside0.mk hv
      have BR1 := Aside0.mk hr0
      have HBn := Aside0.mk hB
      have HCW := Aside0.mk hCw
      have HROW := Aside0.mk hrow
      have HKD := Aside0.mk hK
      have HB := HBn
      clear HBn hv hr0 hB hCw hrow hK BX0 BR0
      have hDW : D < W.heap.size := (Array.getElem?_eq_some_iff.1 HKD.out).1
      obtain ⟨ws, hws⟩ : ∃ ws, wordsB t = ws := ⟨_, rfl⟩
      rw [hws] at BX1 HCW HROW hlen hc1 HSZ HRR
      clear hws
      cases ws with
      | nil =>
        have HOE : Aside0 (∀ w', Calls Tryz.prog 18 #[.agg #[.string ⟨#[]⟩, .slice A1 0 c1, .bool false, .int .i64 ((m : Int) + 1), .slice A4 lr.length c4], .string (⟨#[69, 82, 82, 79, 82]⟩ : ByteArray)] w' fun e w'' => e = .returned (.agg (stepFC ((m : Int) + 1) (⟨#[69, 82, 82, 79, 82]⟩ : ByteArray) 0 false).toArray) ∧ Below w'.heap.size w' w'') := ⟨fun w' => fault_raw ⟨#[]⟩ A1 A4 0 c1 lr.length c4 false ((m : Int) + 1) _ w' (by decide)⟩
        have s0 : W.cell? ⟨gl, 0, none⟩ = some (.string ⟨#[]⟩) := (blk_cell BX1.out 0).trans rfl
        have s1 : W.cell? ⟨gl, 1, none⟩ = some (.slice A1 0 c1) := (blk_cell BX1.out 1).trans rfl
        have s2 : W.cell? ⟨gl, 2, none⟩ = some (.bool false) := (blk_cell BX1.out 2).trans rfl
        have s3 : W.cell? ⟨gl, 3, none⟩ = some (.int .i64 ((m : Int) + 1)) := (blk_cell BX1.out 3).trans rfl
        have s4 : W.cell? ⟨gl, 4, none⟩ = some (.slice A4 lr.length c4) := (blk_cell BX1.out 4).trans rfl
        have hRr := HRR.out
        unfold parseW at hRr
        subst hRr
        go_wp2_with (first | (go_at_call 18; (with_reducible refine (HOE.out _).mono ?_); rintro e w3 ⟨rfl, hb⟩; unfold stepFC; have BR3 := Aside0.mk (blk_below BR1.out hb); have HK3 := Aside0.mk (blk_below HKD.out hb); have HBn := Aside0.mk (below_step (by repeat (first | (with_reducible first | exact HB.out | apply below_alloc | apply pw_below_drewN | apply below_drew1) | exact HB.out)) hb); clear HB; have HB := HBn; clear HBn; clear hb) | (refine wpList_store_F rfl 34 _ _ rfl w.heap.size 0 _ rfl rfl (by simp [Value.oneCell']) 34 _ _ BR3.out (by simp [zStepC]) (by kernel_rfl) rfl ?_; intro w8 hbk hst; have BR8 := Aside0.mk hbk; have HK8 := Aside0.mk (hst.blk HK3.out (by have := hbel.size; omega)); have HB8 := Aside0.mk (hst.up HB.out (Nat.le_refl _)); clear hbk hst))
        refine ⟨by simp, .inl ⟨_, _, rfl, run_takeDeferred HK8.out, ?_⟩⟩; refine ⟨_, results_cell_row rfl _ _ w.heap.size 34 _ (0, 0) _ rfl ((World.putObj_heap_other (by have := hbel.size; omega)).trans BR8.out) Tryz.underlying34 rfl (by kernel_rfl), ?_⟩
        exact ⟨⟨_, rfl, fun w2 _ _ => stepFS_K w2 ((m : Int) + 1) (⟨#[69, 82, 82, 79, 82]⟩ : ByteArray) 0 false⟩, HB8.out.trans (belowK_b (w := w) (Nat.le_refl _) w8 D _ _ (by have := hbel.size; omega) HK8.out rfl rfl)⟩
      | cons v vs =>
        obtain ⟨b1, o1, rfl, hb1, hcv⟩ := S_cell HCW.out 0 (by simp)
        have hcv : W.cell? ⟨b1, o1, none⟩ = some (.string v) := hcv
        have HCV := Aside0.mk hcv
        have HDn := Aside0.mk (show W0.heap.size ≤ D from hD)
        have hDr : Aside0 (D ≠ w.heap.size) := ⟨by have := hbel.size; omega⟩
        have hDg : Aside0 (D ≠ gl) := ⟨by have := blk_lt BX1.out; have h2 := BX1.out; have h3 := HKD.out; intro e; rw [e, h2] at h3; cases h3⟩
        have hgr : Aside0 (w.heap.size ≠ gl) := ⟨by omega⟩
        have hle : Aside0 (w.heap.size ≤ gl) := ⟨by omega⟩
        have t1 : W.cell? ⟨gl, 1, none⟩ = some (.slice (some ⟨b1, o1, none⟩) (vs.length + 1) c1) := (blk_cell BX1.out 1).trans rfl
        have hv0 : (0 : Int) < ↑vs.length + 1 := by omega
        have hv1 : (1 : Int) ≤ ↑vs.length + 1 := by omega
        have hvc : vs.length + 1 ≤ c1 := hc1
        have hv2 : (vs.length : Int) + 1 ≤ ↑c1 := by omega
        have hb1g : b1 ≠ gl := by
          intro e
          have h2 := own_typed HROW.out b1 rfl
          obtain ⟨cs, hcs⟩ := h2
          rw [e, BX1.out] at hcs
          simp at hcs
        have BX1d := Aside0.mk (show W.drew.heap[gl]? = _ from blk_drew BX1.out)
        go_upto_region 15 with fail
        refine wp_region_noPanic ?_
        refine wp_region_L (S := (fun w' => w'.cell? ⟨gl, 1, none⟩ = some (.slice (some ⟨b1, o1, none⟩) (vs.length + 1) c1) ∧ w'.cell? ⟨b1, o1, none⟩ = some (.string v))) 10 (by kernel_rfl) ⟨t1, hcv⟩ ?_
        intro hHeld
        (refine wpAnyL_take (i := 0) (v := ?_) (by simp only [List.getElem?_toArray, List.getElem?_cons_succ, List.getElem?_cons_zero]; rfl) (by kernel_rfl) (by kernel_rfl) (by kernel_rfl) (by kernel_rfl) (fun _ _ _ h => h) (Or.inl ⟨by rfl, ?_⟩) (by exact hHeld) ?_; rotate_left; (focus (intro w' hSw; obtain ⟨s0, s1⟩ := hSw; go_simp; (try with_reducible rfl); done)); (try simp only [Act.put, List.setIfInBounds_toArray, List.set_cons_zero, List.set_cons_succ]))
        (refine wpAnyL_take (i := 1) (v := ?_) (by simp only [List.getElem?_toArray, List.getElem?_cons_succ, List.getElem?_cons_zero]; rfl) (by kernel_rfl) (by kernel_rfl) (by kernel_rfl) (by kernel_rfl) (fun _ _ _ h => h) (Or.inl ⟨by rfl, ?_⟩) (by exact hHeld) ?_; rotate_left; (focus (intro w' hSw; obtain ⟨s0, s1⟩ := hSw; go_simp; (try with_reducible rfl); done)); (try simp only [Act.put, List.setIfInBounds_toArray, List.set_cons_zero, List.set_cons_succ]))
        (refine wpAnyL_take (i := 2) (v := ?_) (by simp only [List.getElem?_toArray, List.getElem?_cons_succ, List.getElem?_cons_zero]; rfl) (by kernel_rfl) (by kernel_rfl) (by kernel_rfl) (by kernel_rfl) (fun _ _ _ h => h) (Or.inl ⟨by rfl, ?_⟩) (by exact hHeld) ?_; rotate_left; (focus (intro w' hSw; obtain ⟨s0, s1⟩ := hSw; go_simp; (try with_reducible rfl); done)); (try simp only [Act.put, List.setIfInBounds_toArray, List.set_cons_zero, List.set_cons_succ]))
        (refine wpAnyL_take (i := 3) (v := ?_) (by simp only [List.getElem?_toArray, List.getElem?_cons_succ, List.getElem?_cons_zero]; rfl) (by kernel_rfl) (by kernel_rfl) (by kernel_rfl) (by kernel_rfl) (fun _ _ _ h => h) (Or.inl ⟨by rfl, ?_⟩) (by exact hHeld) ?_; rotate_left; (focus (intro w' hSw; obtain ⟨s0, s1⟩ := hSw; go_simp; (try with_reducible rfl); done)); (try simp only [Act.put, List.setIfInBounds_toArray, List.set_cons_zero, List.set_cons_succ]))
        (refine wpAnyL_take (i := 4) (v := ?_) (by simp only [List.getElem?_toArray, List.getElem?_cons_succ, List.getElem?_cons_zero]; rfl) (by kernel_rfl) (by kernel_rfl) (by kernel_rfl) (by kernel_rfl) (fun _ _ _ h => h) (Or.inl ⟨by rfl, ?_⟩) (by exact hHeld) ?_; rotate_left; (focus (intro w' hSw; obtain ⟨s0, s1⟩ := hSw; go_simp; (try with_reducible rfl); done)); (try simp only [Act.put, List.setIfInBounds_toArray, List.set_cons_zero, List.set_cons_succ]))
        (refine wpAnyL_take (i := 5) (v := ?_) (by simp only [List.getElem?_toArray, List.getElem?_cons_succ, List.getElem?_cons_zero]; rfl) (by kernel_rfl) (by kernel_rfl) (by kernel_rfl) (by kernel_rfl) (fun _ _ _ h => h) (Or.inl ⟨by rfl, ?_⟩) (by exact hHeld) ?_; rotate_left; (focus (intro w' hSw; obtain ⟨s0, s1⟩ := hSw; go_simp; (try with_reducible rfl); done)); (try simp only [Act.put, List.setIfInBounds_toArray, List.set_cons_zero, List.set_cons_succ]))
        (refine wpAnyL_take (i := 6) (v := ?_) (by simp only [List.getElem?_toArray, List.getElem?_cons_succ, List.getElem?_cons_zero]; rfl) (by kernel_rfl) (by kernel_rfl) (by kernel_rfl) (by kernel_rfl) (fun _ _ _ h => h) (Or.inl ⟨by rfl, ?_⟩) (by exact hHeld) ?_; rotate_left; (focus (intro w' hSw; obtain ⟨s0, s1⟩ := hSw; go_simp; (try with_reducible rfl); done)); (try simp only [Act.put, List.setIfInBounds_toArray, List.set_cons_zero, List.set_cons_succ]))
        (refine wpAnyL_take (i := 7) (v := ?_) (by simp only [List.getElem?_toArray, List.getElem?_cons_succ, List.getElem?_cons_zero]; rfl) (by kernel_rfl) (by kernel_rfl) (by kernel_rfl) (by kernel_rfl) (fun _ _ _ h => h) (Or.inl ⟨by rfl, ?_⟩) (by exact hHeld) ?_; rotate_left; (focus (intro w' hSw; obtain ⟨s0, s1⟩ := hSw; go_simp; (try with_reducible rfl); done)); (try simp only [Act.put, List.setIfInBounds_toArray, List.set_cons_zero, List.set_cons_succ]))
        refine wpAnyL_one (i := 8) (by kernel_rfl) (by simp only [List.getElem?_toArray, List.getElem?_cons_succ, List.getElem?_cons_zero]; rfl) (fun K hK => ?_)
        refine step_store_F rfl 9 _ _ rfl gl 0 [.string v] rfl rfl (by intro u hu; simp only [List.mem_singleton] at hu; subst hu; rfl) 50 _ (lineC v (.slice (some ⟨b1, o1, none⟩) (vs.length + 1) c1) false ((m : Int) + 1) A4 lr.length c4) BX1d.out (by simp [lineC]) (by kernel_rfl) rfl ?_
        intro w3 hbk hst3
        have BX3 := Aside0.mk hbk
        have HST3 := Aside0.mk hst3
        have hbw : b1 ≠ gl := hb1g
        refine hK.out _ _ (fun _ => ⟨(blk_cell BX3.out 1).trans rfl, (by
          have h1 : w3.cell? ⟨b1, o1, none⟩ = W.drew.cell? ⟨b1, o1, none⟩ := World.cell?_of_block (hst3.block b1 hbw)
          exact h1.trans hcv)⟩) ?_
        clear hK K hHeld hbk hst3
        intro hHeld
        have hHeld := hHeld (by decide)
        (try simp only [Act.put, List.setIfInBounds_toArray, List.set_cons_zero, List.set_cons_succ])
        (refine wpAnyL_take (i := 9) (v := ?_) (by simp only [List.getElem?_toArray, List.getElem?_cons_succ, List.getElem?_cons_zero]; rfl) (by kernel_rfl) (by kernel_rfl) (by kernel_rfl) (by kernel_rfl) (fun _ _ _ h => h) (Or.inl ⟨by rfl, ?_⟩) (by exact hHeld) ?_; rotate_left; (focus (intro w' hSw; obtain ⟨s0, s1⟩ := hSw; go_simp; (try with_reducible rfl); done)); (try simp only [Act.put, List.setIfInBounds_toArray, List.set_cons_zero, List.set_cons_succ]))
        refine wpAnyL_one (i := 10) (by kernel_rfl) (by simp only [List.getElem?_toArray, List.getElem?_cons_succ, List.getElem?_cons_zero]; rfl) (fun K hK => ?_)
        refine step_store_F rfl 27 _ _ rfl gl 1 [.slice (if c1 = 1 then some ⟨b1, o1, none⟩ else some ⟨b1, o1 + 1, none⟩) vs.length (c1 - 1)] rfl rfl (by intro u hu; simp only [List.mem_singleton] at hu; subst hu; rfl) 50 _ (lineC v (.slice (if c1 = 1 then some ⟨b1, o1, none⟩ else some ⟨b1, o1 + 1, none⟩) vs.length (c1 - 1)) false ((m : Int) + 1) A4 lr.length c4) BX3.out (by simp [lineC]) (by kernel_rfl) rfl ?_
        intro w4 hbk hst4
        have BX4 := Aside0.mk hbk
        have HST4 := Aside0.mk hst4
        refine hK.out _ _ (fun h => absurd rfl h) ?_
        clear hK K hHeld hbk hst4
        intro _
        (try simp only [Act.put, List.setIfInBounds_toArray, List.set_cons_zero, List.set_cons_succ])
        refine wpAnyL_done (by kernel_rfl) ?_ _
        refine NoPanic.normal ?_
        have hB4 : Below w.heap.size w w4 := HST4.out.up (HST3.out.up (below_drew1 HB.out) hle.out) hle.out
        have BR4 := Aside0.mk (HST4.out.blk (HST3.out.blk (show W.drew.heap[w.heap.size]? = _ from blk_drew BR1.out) hgr.out) hgr.out)
        have HK4 := Aside0.mk (HST4.out.blk (HST3.out.blk (show W.drew.heap[D]? = _ from HKD.out) hDg.out) hDg.out)
        have hr4 := Aside0.mk (blk_lt BR4.out)
        have hD4 := Aside0.mk ((Array.getElem?_eq_some_iff.1 HK4.out).1)
        have hsz4 : w4.heap.size = W.heap.size := HST4.out.size.trans HST3.out.size
        have hob := own_base HROW.out b1 rfl
        have hbD : b1 ≠ D := by
          intro e
          obtain ⟨cs, hcs⟩ := own_typed HROW.out b1 rfl
          rw [e, HKD.out] at hcs
          cases hcs
        have HWD : Aside0 (HolF (fun k => k ≠ w.heap.size ∧ k ≠ D ∧ k ≠ gl) w4 (fun w2 => Kd.string.C w2 (if c1 = 1 then some ⟨b1, o1, none⟩ else some ⟨b1, o1 + 1, none⟩) vs.length vs)) := ⟨fun w2 hb2 hk2 => C_tailI (own_CsA (l := v :: vs) (own_move HROW.out (fun k hk => by
          have hk : b1 = k := by simpa [Value.ownBlock] using hk
          subst hk
          exact (hk2 b1 (by rw [hsz4]; exact hb1) ⟨by omega, hbD, hb1g⟩).trans ((HST4.out.block b1 hb1g).trans (HST3.out.block b1 hb1g)))) (by omega)) rfl (by omega)⟩
        have HRS : Aside0 (HolF (fun k => k ≠ w.heap.size ∧ k ≠ D ∧ k ≠ gl) w4 (fun w2 => (Kd.int .u8).C w2 A4 lr.length lr)) := ⟨fun w2 hb2 hk2 => (HolF.ofC HC4.out) w2 ((below_zero hB4).trans hb2) (fun k hk _ => (hk2 k (by have := hB4.size; omega) ⟨by omega, by have := hbel.size; omega, by omega⟩).trans (hB4.block k hk))⟩
        obtain ⟨A1', hA1⟩ : ∃ A1' : Option Addr, (if c1 = 1 then some (⟨b1, o1, none⟩ : Addr) else some ⟨b1, o1 + 1, none⟩) = A1' := ⟨_, rfl⟩
        rw [hA1] at BX4 HWD ⊢
        clear hA1
        have HBn := Aside0.mk hB4
        clear HB hB4
        have HB := HBn
        clear HBn
        have hcc : vs.length ≤ c1 - 1 := by omega
        have hRr := HRR.out
        unfold parseW at hRr
        dsimp only at hRr
        have HLO : Aside0 (Calls Tryz.prog 20 #[.agg #[.string v, .slice A1' vs.length (c1 - 1), .bool false, .int .i64 ((m : Int) + 1), .slice A4 lr.length c4]] w4 (LoudR (fun k => k ≠ w.heap.size ∧ k ≠ D ∧ k ≠ gl) w4 (loudS v ((m : Int) + 1) vs).1 (loudS v ((m : Int) + 1) vs).2)) := ⟨loud_calls ⟨v, vs, false, (m : Int) + 1, lr⟩ _ (fun k => k ≠ w.heap.size ∧ k ≠ D ∧ k ≠ gl) w4 (fun w2 h1 h2 => kTextinLine_mk w2 ⟨v, vs, false, (m : Int) + 1, lr⟩ hcc (HWD.out w2 h1 h2) hl4 (HRS.out w2 h1 h2)) (Tabs.below HT.out HB.out) (by show vs.length ≤ _; rw [List.length_cons] at hlen; omega) (fun k hk => HSZ.out k (List.mem_cons_of_mem _ hk)) (by show (0 : Int) ≤ (m : Int) + 1; omega) (by show (m : Int) + 1 ≤ 1000000; omega) HR8.out hlrl rfl⟩
        obtain ⟨st, hst⟩ : ∃ st, (loudS v ((m : Int) + 1) vs).1 = st := ⟨_, rfl⟩
        obtain ⟨bb, hbb⟩ : ∃ bb, (loudS v ((m : Int) + 1) vs).2 = bb := ⟨_, rfl⟩
        rw [hst, hbb] at HLO hRr
        clear hst hbb t1 hcv HCV BX1d BX3 HST3 HST4 hob hbD hsz4 BX1 BR1 HROW HKD HCW hb1g HRR
        have x0 : w4.cell? ⟨gl, 0, none⟩ = some (.string v) := (blk_cell BX4.out 0).trans rfl
        have x1 : w4.cell? ⟨gl, 1, none⟩ = some (.slice A1' vs.length (c1 - 1)) := (blk_cell BX4.out 1).trans rfl
        have x2 : w4.cell? ⟨gl, 2, none⟩ = some (.bool false) := (blk_cell BX4.out 2).trans rfl
        have x3 : w4.cell? ⟨gl, 3, none⟩ = some (.int .i64 ((m : Int) + 1)) := (blk_cell BX4.out 3).trans rfl
        have x4 : w4.cell? ⟨gl, 4, none⟩ = some (.slice A4 lr.length c4) := (blk_cell BX4.out 4).trans rfl
        cases bb
        · rw [if_neg (by decide)] at hRr
          obtain ⟨ws7, n7, q7, hn7, hn7l, hC7, hs7, hR7, hU⟩ : ∃ ws7 n7 q7, ws7.length = n7 ∧ ws7.length ≤ vs.length ∧ (∀ w2, Kd.string.C w2 A1' vs.length vs → Kd.string.C w2 A1' ws7.length ws7) ∧ (∀ x ∈ ws7, x ∈ vs) ∧ otherS v q7 ((m : Int) + 1) ws7 lr = R ∧ (if hushB v vs = true then #[.string v, .slice A1' (vs.length - 1) (c1 - 1), .bool true, .int .i64 ((m : Int) + 1), .slice A4 lr.length c4] else #[.string v, .slice A1' vs.length (c1 - 1), .bool false, .int .i64 ((m : Int) + 1), .slice A4 lr.length c4]) = lineC v (.slice A1' n7 (c1 - 1)) q7 ((m : Int) + 1) A4 lr.length c4 := by
            by_cases hh : hushB v vs = true
            · rw [if_pos hh] at hRr ⊢
              exact ⟨vs.take (vs.length - 1), vs.length - 1, true, by rw [List.length_take]; omega, by rw [List.length_take]; omega, fun w2 h => Kd.C_take h (by omega), fun x hx => List.mem_of_mem_take hx, hRr, rfl⟩
            · rw [if_neg hh] at hRr ⊢
              exact ⟨vs, vs.length, false, rfl, Nat.le_refl _, fun w2 h => h, fun x hx => hx, hRr, rfl⟩
          have HU : Aside0 (∀ w' : World, w'.heap[gl]? = some (.cells (lineC v (.slice A1' vs.length (c1 - 1)) false ((m : Int) + 1) A4 lr.length c4) 50 (0, 0)) → Kd.string.C w' A1' vs.length vs → Calls Tryz.prog 21 #[.pointer (some ⟨gl, 0, none⟩)] w' (HushP gl (lineC v (.slice A1' n7 (c1 - 1)) q7 ((m : Int) + 1) A4 lr.length c4) w')) := ⟨fun w' h1 h2 => by
            have := hush_calls gl v A1' (c1 - 1) vs false ((m : Int) + 1) (.slice A4 lr.length c4) w' h1 h2 hcc (by rw [List.length_cons] at hlen; omega)
            rw [hU] at this
            exact this⟩
          have HOT : Aside0 (∀ w', HolF (fun k => k ≠ w.heap.size ∧ k ≠ D ∧ k ≠ gl) w' (fun w2 => Kd.string.C w2 A1' vs.length vs) → HolF (fun k => k ≠ w.heap.size ∧ k ≠ D ∧ k ≠ gl) w' (fun w2 => (Kd.int .u8).C w2 A4 lr.length lr) → Tabs w' → Calls Tryz.prog 22 #[.agg #[.string v, .slice A1' n7 (c1 - 1), .bool q7, .int .i64 ((m : Int) + 1), .slice A4 lr.length c4]] w' (StepR (fun k => k ≠ w.heap.size ∧ k ≠ D ∧ k ≠ gl) w' R)) := ⟨fun w' h1 h2 h3 => by
            rw [← hn7, ← hR7]
            exact other_calls ⟨v, ws7, q7, (m : Int) + 1, lr⟩ _ (fun k => k ≠ w.heap.size ∧ k ≠ D ∧ k ≠ gl) w' (fun w2 a1 a2 => kTextinLine_mk w2 ⟨v, ws7, q7, (m : Int) + 1, lr⟩ (show ws7.length ≤ c1 - 1 by omega) (hC7 w2 (h1 w2 a1 a2)) hl4 (h2 w2 a1 a2)) h3 (show ws7.length ≤ 1000000 by rw [List.length_cons] at hlen; omega) (fun k hk => HSZ.out k (List.mem_cons_of_mem _ (hs7 k hk))) (show (0 : Int) ≤ (m : Int) + 1 by omega) (show (m : Int) + 1 ≤ 1000000 by omega) HR8.out hlrl⟩
          clear hU hR7 hC7 hs7 hRr hn7 hn7l HSZ
          go_wp2_with (first | (go_at_call 20; (with_reducible refine (HLO.out).mono ?_); rintro e w5 ⟨⟨cs, rfl, hk⟩, hb⟩; have BX5 := Aside0.mk (blk_below BX4.out hb); have BR5 := Aside0.mk (blk_below BR4.out hb); have HK5 := Aside0.mk (blk_below HK4.out hb); have HWD5 := Aside0.mk (HWD.out.below hb); have HRS5 := Aside0.mk (HRS.out.below hb); have HBn := Aside0.mk (below_step (by repeat (first | (with_reducible first | exact HB.out | apply below_alloc | apply pw_below_drewN | apply below_drew1) | exact HB.out)) hb); clear HB; have HB := HBn; clear HBn; have HKS := Aside0.mk hk; clear hb hk; obtain ⟨B0, d0, B8, d8, B9, d9, rfl, -⟩ := kStep_open HKS.out.now; have hw45 : w.heap.size < w5.heap.size := blk_lt BR5.out; have hg45 : gl < w5.heap.size := blk_lt BX5.out; have hD45 : D < w5.heap.size := (Array.getElem?_eq_some_iff.1 HK5.out).1) | (go_at_call 21; (with_reducible refine (HU.out _ (blk_alloc BX5.out _) (HWD5.out.below ((Below.refl _ _).alloc (Nat.le_refl _) _)).now).mono ?_); rintro e w7 ⟨rfl, hbx, hlow, hsame⟩; have BX7 := Aside0.mk hbx; have BR7 := Aside0.mk ((hsame w.heap.size (by rw [World.size_alloc]; omega) hgr.out).trans (blk_alloc BR5.out _)); have HK7 := Aside0.mk ((hsame D (by rw [World.size_alloc]; omega) hDg.out).trans (blk_alloc HK5.out _)); have HWD7 := Aside0.mk ((HWD5.out.below ((Below.refl _ _).alloc (Nat.le_refl _) _)).kept (hlow 0 (Nat.zero_le _)) (fun k hk hF => hsame k hk hF.2.2)); have HRS7 := Aside0.mk ((HRS5.out.below ((Below.refl _ _).alloc (Nat.le_refl _) _)).kept (hlow 0 (Nat.zero_le _)) (fun k hk hF => hsame k hk hF.2.2)); have HB7 := Aside0.mk (Below.trans (below_alloc HB.out _) (hlow w.heap.size hle.out)); clear hbx hlow hsame HB; have HB := HB7; clear HB7; have y0 : w7.cell? ⟨gl, 0, none⟩ = some (.string v) := (blk_cell BX7.out 0).trans rfl; have y1 : w7.cell? ⟨gl, 1, none⟩ = some (.slice A1' n7 (c1 - 1)) := (blk_cell BX7.out 1).trans rfl; have y2 : w7.cell? ⟨gl, 2, none⟩ = some (.bool q7) := (blk_cell BX7.out 2).trans rfl; have y3 : w7.cell? ⟨gl, 3, none⟩ = some (.int .i64 ((m : Int) + 1)) := (blk_cell BX7.out 3).trans rfl; have y4 : w7.cell? ⟨gl, 4, none⟩ = some (.slice A4 lr.length c4) := (blk_cell BX7.out 4).trans rfl) | (go_at_call 22; (with_reducible refine (HOT.out _ HWD7.out HRS7.out (Tabs.below HT.out HB.out)).mono ?_); rintro e w9 ⟨⟨cs9, rfl, hk⟩, hb⟩; have BK := Aside0.mk (blk_below BR7.out hb); have HK9 := Aside0.mk (blk_below HK7.out hb); have hr9 := Aside0.mk (blk_lt BR7.out); have hD9 := Aside0.mk ((Array.getElem?_eq_some_iff.1 HK7.out).1); have HBn := Aside0.mk (below_step (by repeat (first | (with_reducible first | exact HB.out | apply below_alloc | apply pw_below_drewN | apply below_drew1) | exact HB.out)) hb); clear HB; have HB := HBn; clear HBn; have HKO := Aside0.mk hk; clear hb hk) | (refine wpList_store_K HKO.out.now rfl 34 _ _ rfl w.heap.size rfl rfl 34 _ BK.out (by kernel_rfl) rfl ?_; intro w8 hbk hlow hfar; have BR8 := Aside0.mk hbk; have HB8 := Aside0.mk (HB.out.trans (hlow w.heap.size (Nat.le_refl _))); have HK8 := Aside0.mk ((hfar (fun k => k = D) (fun w2 => w2.heap[D]? = some (.deferred (some []))) (fun e => hDr.out e.symm) (fun w2 _ hk => (hk D (Array.getElem?_eq_some_iff.1 HK9.out).1 rfl).trans HK9.out)).now); have HKS8 := Aside0.mk (hfar _ _ (fun h => (h hr9.out).1 rfl) HKO.out); clear hbk hlow hfar))
          refine ⟨by simp, .inl ⟨_, _, rfl, run_takeDeferred HK8.out, ?_⟩⟩; refine ⟨_, results_cell_row rfl _ _ w.heap.size 34 _ (0, 0) _ rfl ((World.putObj_heap_other (by have := hbel.size; omega)).trans BR8.out) Tryz.underlying34 rfl (by rw [List.size_toArray, kStep.K_len HKO.out.now]; kernel_rfl), ?_⟩
          exact ⟨⟨_, rfl, (HKS8.out.kept (belowK_b (w := w) (n₀ := 0) (Nat.zero_le _) w8 D _ _ (by have := hbel.size; have := HDn.out; omega) HK8.out rfl rfl) (fun k hk hF => World.putObj_heap_other (fun e => (hF (by rw [e]; exact hD9.out)).2.1 e))).mono (fun k _ _ => trivial)⟩, HB8.out.trans (belowK_b (w := w) (Nat.le_refl _) w8 D _ _ (by have := hbel.size; have := HDn.out; omega) HK8.out rfl rfl)⟩
        · rw [if_pos rfl] at hRr
          subst hRr
          clear HSZ
          go_wp2_with (first | (go_at_call 20; (with_reducible refine (HLO.out).mono ?_); rintro e w5 ⟨⟨cs, rfl, hk⟩, hb⟩; have BX5 := Aside0.mk (blk_below BX4.out hb); have BR5 := Aside0.mk (blk_below BR4.out hb); have HK5 := Aside0.mk (blk_below HK4.out hb); have HWD5 := Aside0.mk (HWD.out.below hb); have HRS5 := Aside0.mk (HRS.out.below hb); have HBn := Aside0.mk (below_step (by repeat (first | (with_reducible first | exact HB.out | apply below_alloc | apply pw_below_drewN | apply below_drew1) | exact HB.out)) hb); clear HB; have HB := HBn; clear HBn; have HKS := Aside0.mk hk; clear hb hk; obtain ⟨B0, d0, B8, d8, B9, d9, rfl, -⟩ := kStep_open HKS.out.now; have hw45 : w.heap.size < w5.heap.size := blk_lt BR5.out; have hg45 : gl < w5.heap.size := blk_lt BX5.out; have hD45 : D < w5.heap.size := (Array.getElem?_eq_some_iff.1 HK5.out).1) | (refine wpList_store_F rfl 34 _ _ rfl w.heap.size 0 _ rfl rfl (by simp [Value.oneCell']) 34 _ _ (blk_alloc BR5.out _) (by simp [zStepC]) (by kernel_rfl) rfl ?_; intro w8 hbk hst; have BR8 := Aside0.mk hbk; have HK8 := Aside0.mk (hst.blk (blk_alloc HK5.out _) hDr.out); have HB8 := Aside0.mk (hst.up (by repeat (first | (with_reducible first | exact HB.out | apply below_alloc | apply pw_below_drewN | apply below_drew1) | exact HB.out)) (Nat.le_refl _)); have HKS8 := Aside0.mk (hst.hol (HKS.out.below ((Below.refl _ _).alloc (Nat.le_refl _) _)) (fun h => (h hr4.out).1 rfl)); clear hbk hst))
          refine ⟨by simp, .inl ⟨_, _, rfl, run_takeDeferred HK8.out, ?_⟩⟩; refine ⟨_, results_cell_row rfl _ _ w.heap.size 34 _ (0, 0) _ rfl ((World.putObj_heap_other (by have := hbel.size; omega)).trans BR8.out) Tryz.underlying34 rfl (by kernel_rfl), ?_⟩
          exact ⟨⟨_, rfl, (HKS8.out.kept (belowK_b (w := w) (n₀ := 0) (Nat.zero_le _) w8 D _ _ (by have := hbel.size; have := HDn.out; omega) HK8.out rfl rfl) (fun k hk hF => World.putObj_heap_other (fun e => (hF (by rw [e]; exact hD4.out)).2.1 e))).mono (fun k _ _ => trivial)⟩, HB8.out.trans (belowK_b (w := w) (Nat.le_refl _) w8 D _ _ (by have := hbel.size; have := HDn.out; omega) HK8.out rfl rfl)⟩
end Go.Proofs.YtfljijpkeckeaaaGreatDoor.X
