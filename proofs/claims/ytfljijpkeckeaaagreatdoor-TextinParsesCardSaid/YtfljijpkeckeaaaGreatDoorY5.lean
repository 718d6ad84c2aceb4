/- Texts of this work, merged in build order: RGets, Kd. -/
import Derived.Test.YtfljijpkeckeaaaGreatDoorY4
import Derived.Laws.CopyOwn
namespace Go.Proofs.YtfljijpkeckeaaaGreatDoor.X
open Go.RowKit Go.Proofs.YtfljijpkeckeaaaGreatDoorW.PrintWords Go.Proofs.YtfljijpkeckeaaaGreatDoorW.PrintMore
set_option linter.unusedVariables false
set_option linter.unusedSimpArgs false
theorem C_dropS {w : World} {b o : Nat} {l : List ByteArray} (h : Kd.string.C w (some ⟨b, o, none⟩) l.length l) (k : Nat) : Kd.string.C w (some ⟨b, o + k, none⟩) (l.drop k).length (l.drop k) := by
  obtain ⟨h1, h2, h3⟩ := h
  refine ⟨rfl, by rw [List.length_drop]; omega, fun h0 => ⟨_, rfl, fun j p hj => ?_⟩⟩
  rw [List.getElem?_drop] at hj
  obtain ⟨ad, ha, hc⟩ := h3 (by have := (List.getElem?_eq_some_iff.1 hj).1; omega)
  obtain rfl := Option.some.inj ha
  obtain ⟨cs, hlen, hK, hcell⟩ := hc (k + j) p hj
  refine ⟨cs, hlen, hK, fun i u hu => ?_⟩
  rw [← hcell i u hu, add_plain, add_plain]
  congr 2
  show o + k + (j * 1 + i) = o + ((k + j) * 1 + i)
  omega
theorem take_dropS (ws : List ByteArray) (a j : Nat) (h1 : a ≤ j) (h2 : j < ws.length) : (ws.drop a).take (j + 1 - a) = (ws.drop a).take (j - a) ++ [ws.getD j ⟨#[]⟩] := by
  have hlt : j - a < (ws.drop a).length := by rw [List.length_drop]; omega
  rw [show j + 1 - a = (j - a) + 1 by omega, List.take_succ_eq_append_getElem hlt, List.getElem_drop, List.getD_eq_getElem?_getD, List.getElem?_eq_getElem h2]
  simp [show a + (j - a) = j by omega]
set_option maxRecDepth 100000 in
set_option maxHeartbeats 2000000 in
theorem rg_get_no (ws keys : List ByteArray) (A : Option Addr) (c : Nat) (used : Int) (F : Nat → Prop) (w : World) (hC : HolF F w (fun w2 => Kd.string.C w2 A ws.length ws)) (hc : ws.length ≤ c) (hs : ∀ k ∈ ws, k.size ≤ 1000000) (hl : ws.length ≤ 1000000) (h0 : ws.getD 0 ⟨#[]⟩ = (⟨#[103, 101, 116]⟩ : ByteArray)) (hkeys : ws.drop 1 = keys) (hn : ws.length ≤ 1) (hn0 : 0 < ws.length) :
    Calls Tryz.prog 26 #[.slice A ws.length c, .int .i64 used] w (StepR F w (stepF used (⟨#[69, 82, 82, 79, 82]⟩ : ByteArray))) := by
  obtain ⟨R, hR⟩ : ∃ R, (stepF used (⟨#[69, 82, 82, 79, 82]⟩ : ByteArray)) = R := ⟨_, rfl⟩
  rw [hR]
  have HR := Aside0.mk hR
  have HB := Aside0.mk (Below.refl w.heap.size w)
  obtain ⟨b, o, rfl, hb0, hcell0⟩ := S_cell hC.now 0 (by omega)
  rw [h0, Nat.add_zero] at hcell0
  have hcc : (ws.length : Int) ≤ ↑c := by omega
  have hi0 : (0 : Int) < ↑ws.length := by omega
  have HOF : Aside0 (∀ (t : ByteArray), t.size ≤ 1000 → ∀ w', Calls Tryz.prog 24 #[.int .i64 used, .string t] w' (StepR (fun k => k < w.heap.size ∧ F k) w' (stepF used t))) := ⟨fun t ht w' => rfault_calls used t _ w' ht⟩
  have HO : Aside0 (∀ w', Calls Tryz.prog 24 #[.int .i64 used, .string (⟨#[69, 82, 82, 79, 82]⟩ : ByteArray)] w' (StepR (fun k => k < w.heap.size ∧ F k) w' R)) := ⟨fun w' => by rw [← HR.out]; exact HOF.out _ (by decide) w'⟩
  have hg : (ws.length : Int) ≤ 1 := by omega
  have k0 : w.cell? ⟨b, o, none⟩ = some (.string (⟨#[103, 101, 116]⟩ : ByteArray)) := hcell0
  clear hC h0 hs hcell0 hR HOF hn hn0 hkeys
  go_enter Tryz.func26, Tryz.ntmps26
  go_wp2_with (first | (go_at_call 24; (with_reducible refine (HO.out _).mono ?_); rintro e w1 ⟨⟨cs, rfl, hk⟩, hb⟩; have BK := Aside0.mk (blk_below (g := w.heap.size) (o := .cells zStepC 34 (0, 0)) (by repeat (first | exact blk_at_new _ _ _ (by simp; done) | exact blk_at_new _ _ _ rfl | refine blk_alloc ?_ _ | refine blk_drew ?_ | refine blk_drewN ?_ _)) hb); have HBn := Aside0.mk (below_step (by repeat (first | (with_reducible first | exact HB.out | apply below_alloc | apply pw_below_drewN | apply below_drew1) | exact HB.out)) hb); clear HB; have HB := HBn; clear HBn; have HK := Aside0.mk hk; clear hb hk) | (refine wpList_store_K HK.out.now rfl 34 _ _ rfl w.heap.size rfl rfl 34 _ BK.out (by kernel_rfl) rfl ?_; intro w8 hbk hlow hfar; have HK2 := Aside0.mk (hfar _ _ (fun h => absurd (h (by simp <;> omega)).1 (by omega)) HK.out); clear BK; have BK := Aside0.mk hbk; have HL := Aside0.mk hlow; clear hbk hlow hfar))
  (try simp only [Exit.inBlock, Exit.then]); refine bodyPost_ret (results_cell_row rfl _ _ w.heap.size 34 _ (0, 0) _ rfl BK.out Tryz.underlying34 rfl (by rw [List.size_toArray, kStep.K_len HK.out.now]; kernel_rfl)) rfl ?_; exact ⟨⟨_, rfl, HK2.out.mono (fun k hk h3 => (hk (Nat.lt_of_lt_of_le h3 (by simp [Nat.add_assoc]))).2)⟩, HB.out.trans (HL.out _ (Nat.le_refl _))⟩
set_option maxRecDepth 100000 in
set_option maxHeartbeats 2000000 in
theorem rg_get_bad (ws keys : List ByteArray) (A : Option Addr) (c : Nat) (used : Int) (F : Nat → Prop) (w : World) (hC : HolF F w (fun w2 => Kd.string.C w2 A ws.length ws)) (hc : ws.length ≤ c) (hs : ∀ k ∈ ws, k.size ≤ 1000000) (hl : ws.length ≤ 1000000) (h0 : ws.getD 0 ⟨#[]⟩ = (⟨#[103, 101, 116]⟩ : ByteArray)) (hkeys : ws.drop 1 = keys) (hn : 1 < ws.length) (hk : keysS keys = false) :
    Calls Tryz.prog 26 #[.slice A ws.length c, .int .i64 used] w (StepR F w (stepF used badT)) := by
  obtain ⟨R, hR⟩ : ∃ R, (stepF used badT) = R := ⟨_, rfl⟩
  rw [hR]
  have HR := Aside0.mk hR
  have HB := Aside0.mk (Below.refl w.heap.size w)
  obtain ⟨b, o, rfl, hb0, hcell0⟩ := S_cell hC.now 0 (by omega)
  rw [h0, Nat.add_zero] at hcell0
  have hcc : (ws.length : Int) ≤ ↑c := by omega
  have hi0 : (0 : Int) < ↑ws.length := by omega
  have HOF : Aside0 (∀ (t : ByteArray), t.size ≤ 1000 → ∀ w', Calls Tryz.prog 24 #[.int .i64 used, .string t] w' (StepR (fun k => k < w.heap.size ∧ F k) w' (stepF used t))) := ⟨fun t ht w' => rfault_calls used t _ w' ht⟩
  have HO : Aside0 (∀ w', Calls Tryz.prog 24 #[.int .i64 used, .string (⟨#[67, 76, 73, 69, 78, 84, 95, 69, 82, 82, 79, 82, 32, 98, 97, 100, 32, 99, 111, 109, 109, 97, 110, 100, 32, 108, 105, 110, 101, 32, 102, 111, 114, 109, 97, 116]⟩ : ByteArray)] w' (StepR (fun k => k < w.heap.size ∧ F k) w' R)) := ⟨fun w' => by rw [← HR.out]; exact HOF.out _ (by decide) w'⟩
  have HBD : Aside0 (∀ w', Calls Tryz.prog 53 #[] w' fun e w'' => e = .returned (.string (⟨#[67, 76, 73, 69, 78, 84, 95, 69, 82, 82, 79, 82, 32, 98, 97, 100, 32, 99, 111, 109, 109, 97, 110, 100, 32, 108, 105, 110, 101, 32, 102, 111, 114, 109, 97, 116]⟩ : ByteArray)) ∧ Below w'.heap.size w' w'') := ⟨fun w' => bad_calls w'⟩
  have hwl : ws.length = keys.length + 1 := by rw [← hkeys, List.length_drop]; omega
  have hkn : keys.length ≠ 0 := by omega
  have hcn : ¬ (c = 1) := by omega
  have hKC : HolF F w (fun w2 => Kd.string.C w2 (some ⟨b, o + 1, none⟩) keys.length keys) := hC.imp (fun w2 h => by rw [← hkeys]; exact C_dropS h 1)
  have HKC := Aside0.mk hKC
  have hkc : keys.length ≤ c - 1 := by omega
  have HKY : Aside0 (∀ w', Below w.heap.size w w' → Calls Tryz.prog 52 #[.slice (some ⟨b, o + 1, none⟩) keys.length (c - 1)] w' fun e w'' => e = .returned (.bool (keysS keys)) ∧ Below w'.heap.size w' w'') := ⟨fun w' hb => rkeys_calls keys _ (c - 1) w' (Kd.C_below HKC.out.now hb) hkc (by omega) (fun k hk => hs k (by rw [← hkeys] at hk; exact List.mem_of_mem_drop hk))⟩
  rw [hk] at HKY
  have ha0 : (1 : Int) ≤ ↑keys.length + 1 := by omega
  have ha1 : (keys.length : Int) + 1 ≤ ↑c := by omega
  have ha2 : (0 : Int) < ↑keys.length := by omega
  have k0 : w.cell? ⟨b, o, none⟩ = some (.string (⟨#[103, 101, 116]⟩ : ByteArray)) := hcell0
  clear hC h0 hs hcell0 hR HOF hn hkeys hk hKC hkn hkc hl
  go_enter Tryz.func26, Tryz.ntmps26
  go_wp2_with (first | (go_at_call 52; (with_reducible refine (HKY.out _ (by repeat (first | (with_reducible first | exact HB.out | apply below_alloc | apply pw_below_drewN | apply below_drew1) | exact HB.out))).mono ?_); rintro e w3 ⟨rfl, hb⟩; have BC := Aside0.mk (blk_below (g := w.heap.size + 1) (o := .cells (cmdC 0 0 ⟨#[]⟩).toArray 40 (0, 0)) (by repeat (first | exact blk_at_new _ _ _ (by simp; done) | exact blk_at_new _ _ _ rfl | refine blk_alloc ?_ _ | refine blk_drew ?_ | refine blk_drewN ?_ _)) hb); have BR := Aside0.mk (blk_below (g := w.heap.size) (o := .cells zStepC 34 (0, 0)) (by repeat (first | exact blk_at_new _ _ _ (by simp; done) | exact blk_at_new _ _ _ rfl | refine blk_alloc ?_ _ | refine blk_drew ?_ | refine blk_drewN ?_ _)) hb); have HBn := Aside0.mk (below_step (by repeat (first | (with_reducible first | exact HB.out | apply below_alloc | apply pw_below_drewN | apply below_drew1) | exact HB.out)) hb); clear HB; have HB := HBn; clear HBn; clear hb; have hcl : w.heap.size + 1 < w3.heap.size := blk_lt BC.out) | (go_at_call 53; (with_reducible refine (HBD.out _).mono ?_); rintro e w4 ⟨rfl, hb⟩; have BRn := Aside0.mk (blk_below BR.out hb); clear BR; have BR := BRn; clear BRn; have GLT := Aside0.mk (blk_lt BR.out); have HBn := Aside0.mk (below_step (by repeat (first | (with_reducible first | exact HB.out | apply below_alloc | apply pw_below_drewN | apply below_drew1) | exact HB.out)) hb); clear HB; have HB := HBn; clear HBn; clear hb) | (go_at_call 24; (with_reducible refine (HO.out _).mono ?_); rintro e w1 ⟨⟨cs, rfl, hk⟩, hb⟩; have BK := Aside0.mk (blk_below (BR.out) hb); have HBn := Aside0.mk (below_step (by repeat (first | (with_reducible first | exact HB.out | apply below_alloc | apply pw_below_drewN | apply below_drew1) | exact HB.out)) hb); clear HB; have HB := HBn; clear HBn; have HK := Aside0.mk hk; clear hb hk) | (refine wpList_store_K HK.out.now rfl 34 _ _ rfl w.heap.size rfl rfl 34 _ BK.out (by kernel_rfl) rfl ?_; intro w8 hbk hlow hfar; have HK2 := Aside0.mk (hfar _ _ (fun h => absurd (h GLT.out).1 (by omega)) HK.out); clear BK; have BK := Aside0.mk hbk; have HL := Aside0.mk hlow; clear hbk hlow hfar))
  (try simp only [Exit.inBlock, Exit.then]); refine bodyPost_ret (results_cell_row rfl _ _ w.heap.size 34 _ (0, 0) _ rfl BK.out Tryz.underlying34 rfl (by rw [List.size_toArray, kStep.K_len HK.out.now]; kernel_rfl)) rfl ?_; exact ⟨⟨_, rfl, HK2.out.mono (fun k hk h3 => (hk (Nat.lt_trans h3 GLT.out)).2)⟩, HB.out.trans (HL.out _ (Nat.le_refl _))⟩
set_option maxRecDepth 100000 in
set_option maxHeartbeats 2000000 in
theorem rg_get_ok (ws keys : List ByteArray) (A : Option Addr) (c : Nat) (used : Int) (F : Nat → Prop) (w : World) (hC : HolF F w (fun w2 => Kd.string.C w2 A ws.length ws)) (hc : ws.length ≤ c) (hs : ∀ k ∈ ws, k.size ≤ 1000000) (hl : ws.length ≤ 1000000) (h0 : ws.getD 0 ⟨#[]⟩ = (⟨#[103, 101, 116]⟩ : ByteArray)) (hkeys : ws.drop 1 = keys) (hn : 1 < ws.length) (hk : keysS keys = true) :
    Calls Tryz.prog 26 #[.slice A ws.length c, .int .i64 used] w (StepR F w (stepG used (⟨#[103, 101, 116]⟩ : ByteArray) 0 0 keys)) := by
  obtain ⟨R, hR⟩ : ∃ R, (stepG used (⟨#[103, 101, 116]⟩ : ByteArray) 0 0 keys) = R := ⟨_, rfl⟩
  rw [hR]
  have HR := Aside0.mk hR
  have HB := Aside0.mk (Below.refl w.heap.size w)
  obtain ⟨b, o, rfl, hb0, hcell0⟩ := S_cell hC.now 0 (by omega)
  rw [h0, Nat.add_zero] at hcell0
  have hcc : (ws.length : Int) ≤ ↑c := by omega
  have hi0 : (0 : Int) < ↑ws.length := by omega
  have HOF : Aside0 (∀ (t : ByteArray), t.size ≤ 1000 → ∀ w', Calls Tryz.prog 24 #[.int .i64 used, .string t] w' (StepR (fun k => k < w.heap.size ∧ F k) w' (stepF used t))) := ⟨fun t ht w' => rfault_calls used t _ w' ht⟩
  have hwl : ws.length = keys.length + 1 := by rw [← hkeys, List.length_drop]; omega
  have hkn : keys.length ≠ 0 := by omega
  have hcn : ¬ (c = 1) := by omega
  have hKC : HolF F w (fun w2 => Kd.string.C w2 (some ⟨b, o + 1, none⟩) keys.length keys) := hC.imp (fun w2 h => by rw [← hkeys]; exact C_dropS h 1)
  have HKC := Aside0.mk hKC
  have hkc : keys.length ≤ c - 1 := by omega
  have HKY : Aside0 (∀ w', Below w.heap.size w w' → Calls Tryz.prog 52 #[.slice (some ⟨b, o + 1, none⟩) keys.length (c - 1)] w' fun e w'' => e = .returned (.bool (keysS keys)) ∧ Below w'.heap.size w' w'') := ⟨fun w' hb => rkeys_calls keys _ (c - 1) w' (Kd.C_below HKC.out.now hb) hkc (by omega) (fun k hk => hs k (by rw [← hkeys] at hk; exact List.mem_of_mem_drop hk))⟩
  rw [hk] at HKY
  have ha0 : (1 : Int) ≤ ↑keys.length + 1 := by omega
  have ha1 : (keys.length : Int) + 1 ≤ ↑c := by omega
  have ha2 : (0 : Int) < ↑keys.length := by omega
  have hl16 : keys.length ≤ 16 := by
    unfold keysS at hk
    rw [Bool.and_eq_true] at hk
    exact of_decide_eq_true hk.1
  have HWC := Aside0.mk hC.now
  have HKS := Aside0.mk hkeys
  have hend : endsS (⟨#[103, 101, 116]⟩ : ByteArray) = false := by decide
  have HEND := Aside0.mk hend
  have k0 : w.cell? ⟨b, o, none⟩ = some (.string (⟨#[103, 101, 116]⟩ : ByteArray)) := hcell0
  have HKCC := Aside0.mk hkc
  have HWL := Aside0.mk hwl
  clear hC h0 hs hcell0 hR HOF hn hkeys hk hKC hkn hkc hl hend
  go_enter Tryz.func26, Tryz.ntmps26
  go_wp2_with (first | (go_at_call 52; (with_reducible refine (HKY.out _ (by repeat (first | (with_reducible first | exact HB.out | apply below_alloc | apply pw_below_drewN | apply below_drew1) | exact HB.out))).mono ?_); rintro e w3 ⟨rfl, hb⟩; have BC := Aside0.mk (blk_below (g := w.heap.size + 1) (o := .cells (cmdC 0 0 ⟨#[]⟩).toArray 40 (0, 0)) (by repeat (first | exact blk_at_new _ _ _ (by simp; done) | exact blk_at_new _ _ _ rfl | refine blk_alloc ?_ _ | refine blk_drew ?_ | refine blk_drewN ?_ _)) hb); have BR := Aside0.mk (blk_below (g := w.heap.size) (o := .cells zStepC 34 (0, 0)) (by repeat (first | exact blk_at_new _ _ _ (by simp; done) | exact blk_at_new _ _ _ rfl | refine blk_alloc ?_ _ | refine blk_drew ?_ | refine blk_drewN ?_ _)) hb); have HBn := Aside0.mk (below_step (by repeat (first | (with_reducible first | exact HB.out | apply below_alloc | apply pw_below_drewN | apply below_drew1) | exact HB.out)) hb); clear HB; have HB := HBn; clear HBn; clear hb; have hcl : w.heap.size + 1 < w3.heap.size := blk_lt BC.out))
  go_loopw [12] (fun v wr => ∃ j : Nat, v = .int .i64 j ∧ 1 ≤ j ∧ j ≤ keys.length + 1 ∧ Aside0 (∃ V kk, wr.heap[w3.heap.size]? = some (.cells (reqC (V) (⟨#[103, 101, 116]⟩ : ByteArray) false (some ⟨b, o + 1, none⟩) keys.length (c - 1)) 31 (0, 0)) ∧ wr.heap[w.heap.size + 1]? = some (.cells (cmdC 0 0 kk).toArray 40 (0, 0)) ∧ wr.ownsRow (w3.heap.size + 1) 40 10 V (j - 1) (rowsC 0 0 (keys.take (j - 1))) ∧ wr.heap[w.heap.size]? = some (.cells zStepC 34 (0, 0)) ∧ Below w.heap.size w wr)) (fun v _ => keys.length + 1 - (intOf v).toNat)
  case atStart => exact ⟨1, rfl, Nat.le_refl _, by omega, ⟨⟨_, _, blk_at_new _ _ _ rfl, blk_alloc BC.out _, by simp only [Nat.sub_self, List.take_zero]; exact World.ownsRow_nil _ _ _ _, blk_alloc BR.out _, below_alloc HB.out _⟩⟩⟩
  case round =>
    obtain ⟨j, rfl, hj1, hj2, HI⟩ := hrel
    obtain ⟨V, kk, hq, hc0, ho, hr0, hB⟩ := HI.out
    have BQ := Aside0.mk hq
    have BCr := Aside0.mk hc0
    have HOw := Aside0.mk ho
    have BRr := Aside0.mk hr0
    have HBr := Aside0.mk hB
    clear hq hc0 ho hr0 hB HI BC BR HB
    have BC := BCr
    have BR := BRr
    have HB := HBr
    clear BCr BRr HBr
    have hgr : w3.heap.size < wr.heap.size := blk_lt BQ.out
    by_cases hlt : j < keys.length + 1
    · obtain ⟨b', o', e', hbw, hcell⟩ := S_cell (Kd.C_below HWC.out HB.out) j (by have := HWL.out; omega)
      obtain ⟨rfl, rfl⟩ : b = b' ∧ o = o' := by simpa using e'
      have htk := take_dropS ws 1 j hj1 (by have := HWL.out; omega)
      rw [HKS.out] at htk
      obtain ⟨kv, hkv⟩ : ∃ v, ws.getD j ⟨#[]⟩ = v := ⟨_, rfl⟩
      rw [hkv] at hcell htk
      have HTK := Aside0.mk htk
      clear htk hkv e'
      have hjl : (j : Int) < ↑keys.length + 1 := by omega
      go_wp2_with (first | (refine wpList_store_1 rfl 9 _ _ rfl (w.heap.size + 1) 1 (.string kv) rfl rfl rfl 40 _ (cmdC 0 0 kv).toArray BC.out (by simp [cmdC]) (by kernel_rfl) rfl ?_; intro x2 hbk hst; have BC2 := Aside0.mk hbk; have BQ2 := Aside0.mk (hst.blk BQ.out (by omega)); have BR2 := Aside0.mk (hst.blk BR.out (by omega)); have HO2 := Aside0.mk (hst.own HOw.out (by omega)); have HB2 := Aside0.mk (hst.up HB.out (by omega)); have hg2 : w3.heap.size < x2.heap.size := blk_lt BQ2.out; clear hbk hst; have e0 : x2.cell? ⟨w3.heap.size, 0, none⟩ = some V := (blk_cell BQ2.out 0).trans rfl; have d0 : x2.cell? ⟨w.heap.size + 1, 0, none⟩ = some (.int .i64 0) := (blk_cell BC2.out 0).trans rfl; have d1 : x2.cell? ⟨w.heap.size + 1, 1, none⟩ = some (.string kv) := (blk_cell BC2.out 1).trans rfl; have d2 : x2.cell? ⟨w.heap.size + 1, 2, none⟩ = some (.slice none 0 0) := (blk_cell BC2.out 2).trans rfl; have d3 : x2.cell? ⟨w.heap.size + 1, 3, none⟩ = some (.int .u32 0) := (blk_cell BC2.out 3).trans rfl; have d4 : x2.cell? ⟨w.heap.size + 1, 4, none⟩ = some (.int .i64 0) := (blk_cell BC2.out 4).trans rfl; have d5 : x2.cell? ⟨w.heap.size + 1, 5, none⟩ = some (.int .u64 0) := (blk_cell BC2.out 5).trans rfl; have d6 : x2.cell? ⟨w.heap.size + 1, 6, none⟩ = some (.int .u64 0) := (blk_cell BC2.out 6).trans rfl; have d7 : x2.cell? ⟨w.heap.size + 1, 7, none⟩ = some (.int .u64 0) := (blk_cell BC2.out 7).trans rfl; have d8 : x2.cell? ⟨w.heap.size + 1, 8, none⟩ = some (.bool false) := (blk_cell BC2.out 8).trans rfl; have d9 : x2.cell? ⟨w.heap.size + 1, 9, none⟩ = some (.bool false) := (blk_cell BC2.out 9).trans rfl) | ((with_reducible refine gate_builtin (b := .append) (xs := #[.tmp 80, .tmp 82]) rfl ?_); at_builtin; refine print_append_cells (w0 := x2) (W := x2) (w3.heap.size + 1) rfl (.tmp 80) (.tmp 82) 25 40 _ 10 96 rfl Tryz.underlying25 info40 rfl (by decide) (by decide) V (j - 1) (rowsC 0 0 (keys.take (j - 1))) (cmdC 0 0 kv) rfl rfl rfl (cmdC_one _ _ _) HO2.out (Below.refl _ _) (by omega) (by omega) ?_; intro v1' x3 ho3 hb3 hg3 hat3; have BQ3 := Aside0.mk (blk_grown BQ2.out hg3 (own_apart HO2.out (by omega))); have BC3 := Aside0.mk (blk_grown BC2.out hg3 (own_apart HO2.out (by omega))); have BR3 := Aside0.mk (blk_grown BR2.out hg3 (own_apart HO2.out (by omega))); have HO3 := Aside0.mk ho3; have HB3 := Aside0.mk (HB2.out.trans (hb3.mono (by omega))); clear ho3 hb3 hg3 hat3) | (refine wpList_store_1 rfl 25 _ _ rfl (w3.heap.size) 0 v1' rfl rfl (own_one HO3.out) 31 _ (reqC (v1') (⟨#[103, 101, 116]⟩ : ByteArray) false (some ⟨b, o + 1, none⟩) keys.length (c - 1)) BQ3.out (by simp [reqC]) (by kernel_rfl) rfl ?_; intro x4 hbk hst; have BQ4 := Aside0.mk hbk; have BC4 := Aside0.mk (hst.blk BC3.out (by omega)); have BR4 := Aside0.mk (hst.blk BR3.out (by omega)); have HO4 := Aside0.mk (hst.own HO3.out (by omega)); have HB4 := Aside0.mk (hst.up HB3.out (by omega)); clear hbk hst))
      go_round
      case rel => exact ⟨j + 1, by first | rfl | simp, by omega, by omega, ⟨⟨v1', kv, BQ4.out, BC4.out, by rw [HTK.out, rowsC_snoc, show j + 1 - 1 = j - 1 + 1 by omega]; exact HO4.out, BR4.out, HB4.out⟩⟩⟩
      case measure => simp [intOf]; omega
    · obtain rfl : j = keys.length + 1 := by omega
      have HO1 := HOw.out
      rw [Nat.add_sub_cancel, List.take_of_length_le (Nat.le_refl _)] at HO1
      obtain ⟨A', c', rfl, hc', -⟩ := own_C HO1
      have HO2 := Aside0.mk HO1
      clear HO1 HOw
      have e0 : wr.cell? ⟨w3.heap.size, 0, none⟩ = some (.slice A' keys.length c') := (blk_cell BQ.out 0).trans rfl; have e1 : wr.cell? ⟨w3.heap.size, 1, none⟩ = some (.int .i64 1) := (blk_cell BQ.out 1).trans rfl; have e2 : wr.cell? ⟨w3.heap.size, 2, none⟩ = some (.string (⟨#[103, 101, 116]⟩ : ByteArray)) := (blk_cell BQ.out 2).trans rfl; have e3 : wr.cell? ⟨w3.heap.size, 3, none⟩ = some (.int .i64 0) := (blk_cell BQ.out 3).trans rfl; have e4 : wr.cell? ⟨w3.heap.size, 4, none⟩ = some (.int .u32 0) := (blk_cell BQ.out 4).trans rfl; have e5 : wr.cell? ⟨w3.heap.size, 5, none⟩ = some (.bool false) := (blk_cell BQ.out 5).trans rfl; have e6 : wr.cell? ⟨w3.heap.size, 6, none⟩ = some (.bool false) := (blk_cell BQ.out 6).trans rfl; have e7 : wr.cell? ⟨w3.heap.size, 7, none⟩ = some (.string ⟨#[]⟩) := (blk_cell BQ.out 7).trans rfl; have e8 : wr.cell? ⟨w3.heap.size, 8, none⟩ = some (.slice none 0 0) := (blk_cell BQ.out 8).trans rfl; have e9 : wr.cell? ⟨w3.heap.size, 9, none⟩ = some (.slice (some ⟨b, o + 1, none⟩) keys.length (c - 1)) := (blk_cell BQ.out 9).trans rfl; have e10 : wr.cell? ⟨w3.heap.size, 10, none⟩ = some (.bool false) := (blk_cell BQ.out 10).trans rfl
      go_wp2_with (first | (refine wpList_store_F rfl 34 _ _ rfl w.heap.size 0 _ rfl rfl (by simp [Value.oneCell']) 34 _ _ BR.out (by simp [zStepC]) (by kernel_rfl) rfl ?_; intro w9 hbk hst; have BR9 := Aside0.mk hbk; have HO9 := Aside0.mk (hst.own HO2.out (by omega)); have HB9 := Aside0.mk (hst.up HB.out (Nat.le_refl _)); clear hbk hst))
      (try simp only [Exit.inBlock, Exit.then]); refine bodyPost_ret (results_cell_row rfl _ _ w.heap.size 34 _ (0, 0) _ rfl BR9.out Tryz.underlying34 rfl (by kernel_rfl)) rfl ?_
      have := stepG_R (F := F) (used := used) (verb := (⟨#[103, 101, 116]⟩ : ByteArray)) (own_weaken HO9.out (by omega)) HB9.out HKC.out HKCC.out
      unfold stepGC at this
      rw [HEND.out, HR.out] at this
      exact this
set_option maxRecDepth 100000 in
set_option maxHeartbeats 2000000 in
theorem rg_gets_no (ws keys : List ByteArray) (A : Option Addr) (c : Nat) (used : Int) (F : Nat → Prop) (w : World) (hC : HolF F w (fun w2 => Kd.string.C w2 A ws.length ws)) (hc : ws.length ≤ c) (hs : ∀ k ∈ ws, k.size ≤ 1000000) (hl : ws.length ≤ 1000000) (h0 : ws.getD 0 ⟨#[]⟩ = (⟨#[103, 101, 116, 115]⟩ : ByteArray)) (hkeys : ws.drop 1 = keys) (hn : ws.length ≤ 1) (hn0 : 0 < ws.length) :
    Calls Tryz.prog 26 #[.slice A ws.length c, .int .i64 used] w (StepR F w (stepF used (⟨#[69, 82, 82, 79, 82]⟩ : ByteArray))) := by
  obtain ⟨R, hR⟩ : ∃ R, (stepF used (⟨#[69, 82, 82, 79, 82]⟩ : ByteArray)) = R := ⟨_, rfl⟩
  rw [hR]
  have HR := Aside0.mk hR
  have HB := Aside0.mk (Below.refl w.heap.size w)
  obtain ⟨b, o, rfl, hb0, hcell0⟩ := S_cell hC.now 0 (by omega)
  rw [h0, Nat.add_zero] at hcell0
  have hcc : (ws.length : Int) ≤ ↑c := by omega
  have hi0 : (0 : Int) < ↑ws.length := by omega
  have HOF : Aside0 (∀ (t : ByteArray), t.size ≤ 1000 → ∀ w', Calls Tryz.prog 24 #[.int .i64 used, .string t] w' (StepR (fun k => k < w.heap.size ∧ F k) w' (stepF used t))) := ⟨fun t ht w' => rfault_calls used t _ w' ht⟩
  have HO : Aside0 (∀ w', Calls Tryz.prog 24 #[.int .i64 used, .string (⟨#[69, 82, 82, 79, 82]⟩ : ByteArray)] w' (StepR (fun k => k < w.heap.size ∧ F k) w' R)) := ⟨fun w' => by rw [← HR.out]; exact HOF.out _ (by decide) w'⟩
  have hg : (ws.length : Int) ≤ 1 := by omega
  have k0 : w.cell? ⟨b, o, none⟩ = some (.string (⟨#[103, 101, 116, 115]⟩ : ByteArray)) := hcell0
  clear hC h0 hs hcell0 hR HOF hn hn0 hkeys
  go_enter Tryz.func26, Tryz.ntmps26
  go_wp2_with (first | (go_at_call 24; (with_reducible refine (HO.out _).mono ?_); rintro e w1 ⟨⟨cs, rfl, hk⟩, hb⟩; have BK := Aside0.mk (blk_below (g := w.heap.size) (o := .cells zStepC 34 (0, 0)) (by repeat (first | exact blk_at_new _ _ _ (by simp; done) | exact blk_at_new _ _ _ rfl | refine blk_alloc ?_ _ | refine blk_drew ?_ | refine blk_drewN ?_ _)) hb); have HBn := Aside0.mk (below_step (by repeat (first | (with_reducible first | exact HB.out | apply below_alloc | apply pw_below_drewN | apply below_drew1) | exact HB.out)) hb); clear HB; have HB := HBn; clear HBn; have HK := Aside0.mk hk; clear hb hk) | (refine wpList_store_K HK.out.now rfl 34 _ _ rfl w.heap.size rfl rfl 34 _ BK.out (by kernel_rfl) rfl ?_; intro w8 hbk hlow hfar; have HK2 := Aside0.mk (hfar _ _ (fun h => absurd (h (by simp <;> omega)).1 (by omega)) HK.out); clear BK; have BK := Aside0.mk hbk; have HL := Aside0.mk hlow; clear hbk hlow hfar))
  (try simp only [Exit.inBlock, Exit.then]); refine bodyPost_ret (results_cell_row rfl _ _ w.heap.size 34 _ (0, 0) _ rfl BK.out Tryz.underlying34 rfl (by rw [List.size_toArray, kStep.K_len HK.out.now]; kernel_rfl)) rfl ?_; exact ⟨⟨_, rfl, HK2.out.mono (fun k hk h3 => (hk (Nat.lt_of_lt_of_le h3 (by simp [Nat.add_assoc]))).2)⟩, HB.out.trans (HL.out _ (Nat.le_refl _))⟩
set_option maxRecDepth 100000 in
set_option maxHeartbeats 2000000 in
theorem rg_gets_bad (ws keys : List ByteArray) (A : Option Addr) (c : Nat) (used : Int) (F : Nat → Prop) (w : World) (hC : HolF F w (fun w2 => Kd.string.C w2 A ws.length ws)) (hc : ws.length ≤ c) (hs : ∀ k ∈ ws, k.size ≤ 1000000) (hl : ws.length ≤ 1000000) (h0 : ws.getD 0 ⟨#[]⟩ = (⟨#[103, 101, 116, 115]⟩ : ByteArray)) (hkeys : ws.drop 1 = keys) (hn : 1 < ws.length) (hk : keysS keys = false) :
    Calls Tryz.prog 26 #[.slice A ws.length c, .int .i64 used] w (StepR F w (stepF used badT)) := by
  obtain ⟨R, hR⟩ : ∃ R, (stepF used badT) = R := ⟨_, rfl⟩
  rw [hR]
  have HR := Aside0.mk hR
  have HB := Aside0.mk (Below.refl w.heap.size w)
  obtain ⟨b, o, rfl, hb0, hcell0⟩ := S_cell hC.now 0 (by omega)
  rw [h0, Nat.add_zero] at hcell0
  have hcc : (ws.length : Int) ≤ ↑c := by omega
  have hi0 : (0 : Int) < ↑ws.length := by omega
  have HOF : Aside0 (∀ (t : ByteArray), t.size ≤ 1000 → ∀ w', Calls Tryz.prog 24 #[.int .i64 used, .string t] w' (StepR (fun k => k < w.heap.size ∧ F k) w' (stepF used t))) := ⟨fun t ht w' => rfault_calls used t _ w' ht⟩
  have HO : Aside0 (∀ w', Calls Tryz.prog 24 #[.int .i64 used, .string (⟨#[67, 76, 73, 69, 78, 84, 95, 69, 82, 82, 79, 82, 32, 98, 97, 100, 32, 99, 111, 109, 109, 97, 110, 100, 32, 108, 105, 110, 101, 32, 102, 111, 114, 109, 97, 116]⟩ : ByteArray)] w' (StepR (fun k => k < w.heap.size ∧ F k) w' R)) := ⟨fun w' => by rw [← HR.out]; exact HOF.out _ (by decide) w'⟩
  have HBD : Aside0 (∀ w', Calls Tryz.prog 53 #[] w' fun e w'' => e = .returned (.string (⟨#[67, 76, 73, 69, 78, 84, 95, 69, 82, 82, 79, 82, 32, 98, 97, 100, 32, 99, 111, 109, 109, 97, 110, 100, 32, 108, 105, 110, 101, 32, 102, 111, 114, 109, 97, 116]⟩ : ByteArray)) ∧ Below w'.heap.size w' w'') := ⟨fun w' => bad_calls w'⟩
  have hwl : ws.length = keys.length + 1 := by rw [← hkeys, List.length_drop]; omega
  have hkn : keys.length ≠ 0 := by omega
  have hcn : ¬ (c = 1) := by omega
  have hKC : HolF F w (fun w2 => Kd.string.C w2 (some ⟨b, o + 1, none⟩) keys.length keys) := hC.imp (fun w2 h => by rw [← hkeys]; exact C_dropS h 1)
  have HKC := Aside0.mk hKC
  have hkc : keys.length ≤ c - 1 := by omega
  have HKY : Aside0 (∀ w', Below w.heap.size w w' → Calls Tryz.prog 52 #[.slice (some ⟨b, o + 1, none⟩) keys.length (c - 1)] w' fun e w'' => e = .returned (.bool (keysS keys)) ∧ Below w'.heap.size w' w'') := ⟨fun w' hb => rkeys_calls keys _ (c - 1) w' (Kd.C_below HKC.out.now hb) hkc (by omega) (fun k hk => hs k (by rw [← hkeys] at hk; exact List.mem_of_mem_drop hk))⟩
  rw [hk] at HKY
  have ha0 : (1 : Int) ≤ ↑keys.length + 1 := by omega
  have ha1 : (keys.length : Int) + 1 ≤ ↑c := by omega
  have ha2 : (0 : Int) < ↑keys.length := by omega
  have k0 : w.cell? ⟨b, o, none⟩ = some (.string (⟨#[103, 101, 116, 115]⟩ : ByteArray)) := hcell0
  clear hC h0 hs hcell0 hR HOF hn hkeys hk hKC hkn hkc hl
  go_enter Tryz.func26, Tryz.ntmps26
  go_wp2_with (first | (go_at_call 52; (with_reducible refine (HKY.out _ (by repeat (first | (with_reducible first | exact HB.out | apply below_alloc | apply pw_below_drewN | apply below_drew1) | exact HB.out))).mono ?_); rintro e w3 ⟨rfl, hb⟩; have BC := Aside0.mk (blk_below (g := w.heap.size + 1) (o := .cells (cmdC 0 0 ⟨#[]⟩).toArray 40 (0, 0)) (by repeat (first | exact blk_at_new _ _ _ (by simp; done) | exact blk_at_new _ _ _ rfl | refine blk_alloc ?_ _ | refine blk_drew ?_ | refine blk_drewN ?_ _)) hb); have BR := Aside0.mk (blk_below (g := w.heap.size) (o := .cells zStepC 34 (0, 0)) (by repeat (first | exact blk_at_new _ _ _ (by simp; done) | exact blk_at_new _ _ _ rfl | refine blk_alloc ?_ _ | refine blk_drew ?_ | refine blk_drewN ?_ _)) hb); have HBn := Aside0.mk (below_step (by repeat (first | (with_reducible first | exact HB.out | apply below_alloc | apply pw_below_drewN | apply below_drew1) | exact HB.out)) hb); clear HB; have HB := HBn; clear HBn; clear hb; have hcl : w.heap.size + 1 < w3.heap.size := blk_lt BC.out) | (go_at_call 53; (with_reducible refine (HBD.out _).mono ?_); rintro e w4 ⟨rfl, hb⟩; have BRn := Aside0.mk (blk_below BR.out hb); clear BR; have BR := BRn; clear BRn; have GLT := Aside0.mk (blk_lt BR.out); have HBn := Aside0.mk (below_step (by repeat (first | (with_reducible first | exact HB.out | apply below_alloc | apply pw_below_drewN | apply below_drew1) | exact HB.out)) hb); clear HB; have HB := HBn; clear HBn; clear hb) | (go_at_call 24; (with_reducible refine (HO.out _).mono ?_); rintro e w1 ⟨⟨cs, rfl, hk⟩, hb⟩; have BK := Aside0.mk (blk_below (BR.out) hb); have HBn := Aside0.mk (below_step (by repeat (first | (with_reducible first | exact HB.out | apply below_alloc | apply pw_below_drewN | apply below_drew1) | exact HB.out)) hb); clear HB; have HB := HBn; clear HBn; have HK := Aside0.mk hk; clear hb hk) | (refine wpList_store_K HK.out.now rfl 34 _ _ rfl w.heap.size rfl rfl 34 _ BK.out (by kernel_rfl) rfl ?_; intro w8 hbk hlow hfar; have HK2 := Aside0.mk (hfar _ _ (fun h => absurd (h GLT.out).1 (by omega)) HK.out); clear BK; have BK := Aside0.mk hbk; have HL := Aside0.mk hlow; clear hbk hlow hfar))
  (try simp only [Exit.inBlock, Exit.then]); refine bodyPost_ret (results_cell_row rfl _ _ w.heap.size 34 _ (0, 0) _ rfl BK.out Tryz.underlying34 rfl (by rw [List.size_toArray, kStep.K_len HK.out.now]; kernel_rfl)) rfl ?_; exact ⟨⟨_, rfl, HK2.out.mono (fun k hk h3 => (hk (Nat.lt_trans h3 GLT.out)).2)⟩, HB.out.trans (HL.out _ (Nat.le_refl _))⟩
set_option maxRecDepth 100000 in
set_option maxHeartbeats 2000000 in
theorem rg_gets_ok (ws keys : List ByteArray) (A : Option Addr) (c : Nat) (used : Int) (F : Nat → Prop) (w : World) (hC : HolF F w (fun w2 => Kd.string.C w2 A ws.length ws)) (hc : ws.length ≤ c) (hs : ∀ k ∈ ws, k.size ≤ 1000000) (hl : ws.length ≤ 1000000) (h0 : ws.getD 0 ⟨#[]⟩ = (⟨#[103, 101, 116, 115]⟩ : ByteArray)) (hkeys : ws.drop 1 = keys) (hn : 1 < ws.length) (hk : keysS keys = true) :
    Calls Tryz.prog 26 #[.slice A ws.length c, .int .i64 used] w (StepR F w (stepG used (⟨#[103, 101, 116, 115]⟩ : ByteArray) 0 0 keys)) := by
  obtain ⟨R, hR⟩ : ∃ R, (stepG used (⟨#[103, 101, 116, 115]⟩ : ByteArray) 0 0 keys) = R := ⟨_, rfl⟩
  rw [hR]
  have HR := Aside0.mk hR
  have HB := Aside0.mk (Below.refl w.heap.size w)
  obtain ⟨b, o, rfl, hb0, hcell0⟩ := S_cell hC.now 0 (by omega)
  rw [h0, Nat.add_zero] at hcell0
  have hcc : (ws.length : Int) ≤ ↑c := by omega
  have hi0 : (0 : Int) < ↑ws.length := by omega
  have HOF : Aside0 (∀ (t : ByteArray), t.size ≤ 1000 → ∀ w', Calls Tryz.prog 24 #[.int .i64 used, .string t] w' (StepR (fun k => k < w.heap.size ∧ F k) w' (stepF used t))) := ⟨fun t ht w' => rfault_calls used t _ w' ht⟩
  have hwl : ws.length = keys.length + 1 := by rw [← hkeys, List.length_drop]; omega
  have hkn : keys.length ≠ 0 := by omega
  have hcn : ¬ (c = 1) := by omega
  have hKC : HolF F w (fun w2 => Kd.string.C w2 (some ⟨b, o + 1, none⟩) keys.length keys) := hC.imp (fun w2 h => by rw [← hkeys]; exact C_dropS h 1)
  have HKC := Aside0.mk hKC
  have hkc : keys.length ≤ c - 1 := by omega
  have HKY : Aside0 (∀ w', Below w.heap.size w w' → Calls Tryz.prog 52 #[.slice (some ⟨b, o + 1, none⟩) keys.length (c - 1)] w' fun e w'' => e = .returned (.bool (keysS keys)) ∧ Below w'.heap.size w' w'') := ⟨fun w' hb => rkeys_calls keys _ (c - 1) w' (Kd.C_below HKC.out.now hb) hkc (by omega) (fun k hk => hs k (by rw [← hkeys] at hk; exact List.mem_of_mem_drop hk))⟩
  rw [hk] at HKY
  have ha0 : (1 : Int) ≤ ↑keys.length + 1 := by omega
  have ha1 : (keys.length : Int) + 1 ≤ ↑c := by omega
  have ha2 : (0 : Int) < ↑keys.length := by omega
  have hl16 : keys.length ≤ 16 := by
    unfold keysS at hk
    rw [Bool.and_eq_true] at hk
    exact of_decide_eq_true hk.1
  have HWC := Aside0.mk hC.now
  have HKS := Aside0.mk hkeys
  have hend : endsS (⟨#[103, 101, 116, 115]⟩ : ByteArray) = true := by decide
  have HEND := Aside0.mk hend
  have k0 : w.cell? ⟨b, o, none⟩ = some (.string (⟨#[103, 101, 116, 115]⟩ : ByteArray)) := hcell0
  have HKCC := Aside0.mk hkc
  have HWL := Aside0.mk hwl
  clear hC h0 hs hcell0 hR HOF hn hkeys hk hKC hkn hkc hl hend
  go_enter Tryz.func26, Tryz.ntmps26
  go_wp2_with (first | (go_at_call 52; (with_reducible refine (HKY.out _ (by repeat (first | (with_reducible first | exact HB.out | apply below_alloc | apply pw_below_drewN | apply below_drew1) | exact HB.out))).mono ?_); rintro e w3 ⟨rfl, hb⟩; have BC := Aside0.mk (blk_below (g := w.heap.size + 1) (o := .cells (cmdC 0 0 ⟨#[]⟩).toArray 40 (0, 0)) (by repeat (first | exact blk_at_new _ _ _ (by simp; done) | exact blk_at_new _ _ _ rfl | refine blk_alloc ?_ _ | refine blk_drew ?_ | refine blk_drewN ?_ _)) hb); have BR := Aside0.mk (blk_below (g := w.heap.size) (o := .cells zStepC 34 (0, 0)) (by repeat (first | exact blk_at_new _ _ _ (by simp; done) | exact blk_at_new _ _ _ rfl | refine blk_alloc ?_ _ | refine blk_drew ?_ | refine blk_drewN ?_ _)) hb); have HBn := Aside0.mk (below_step (by repeat (first | (with_reducible first | exact HB.out | apply below_alloc | apply pw_below_drewN | apply below_drew1) | exact HB.out)) hb); clear HB; have HB := HBn; clear HBn; clear hb; have hcl : w.heap.size + 1 < w3.heap.size := blk_lt BC.out))
  go_loopw [12] (fun v wr => ∃ j : Nat, v = .int .i64 j ∧ 1 ≤ j ∧ j ≤ keys.length + 1 ∧ Aside0 (∃ V kk, wr.heap[w3.heap.size]? = some (.cells (reqC (V) (⟨#[103, 101, 116, 115]⟩ : ByteArray) true (some ⟨b, o + 1, none⟩) keys.length (c - 1)) 31 (0, 0)) ∧ wr.heap[w.heap.size + 1]? = some (.cells (cmdC 0 0 kk).toArray 40 (0, 0)) ∧ wr.ownsRow (w3.heap.size + 1) 40 10 V (j - 1) (rowsC 0 0 (keys.take (j - 1))) ∧ wr.heap[w.heap.size]? = some (.cells zStepC 34 (0, 0)) ∧ Below w.heap.size w wr)) (fun v _ => keys.length + 1 - (intOf v).toNat)
  case atStart => exact ⟨1, rfl, Nat.le_refl _, by omega, ⟨⟨_, _, blk_at_new _ _ _ rfl, blk_alloc BC.out _, by simp only [Nat.sub_self, List.take_zero]; exact World.ownsRow_nil _ _ _ _, blk_alloc BR.out _, below_alloc HB.out _⟩⟩⟩
  case round =>
    obtain ⟨j, rfl, hj1, hj2, HI⟩ := hrel
    obtain ⟨V, kk, hq, hc0, ho, hr0, hB⟩ := HI.out
    have BQ := Aside0.mk hq
    have BCr := Aside0.mk hc0
    have HOw := Aside0.mk ho
    have BRr := Aside0.mk hr0
    have HBr := Aside0.mk hB
    clear hq hc0 ho hr0 hB HI BC BR HB
    have BC := BCr
    have BR := BRr
    have HB := HBr
    clear BCr BRr HBr
    have hgr : w3.heap.size < wr.heap.size := blk_lt BQ.out
    by_cases hlt : j < keys.length + 1
    · obtain ⟨b', o', e', hbw, hcell⟩ := S_cell (Kd.C_below HWC.out HB.out) j (by have := HWL.out; omega)
      obtain ⟨rfl, rfl⟩ : b = b' ∧ o = o' := by simpa using e'
      have htk := take_dropS ws 1 j hj1 (by have := HWL.out; omega)
      rw [HKS.out] at htk
      obtain ⟨kv, hkv⟩ : ∃ v, ws.getD j ⟨#[]⟩ = v := ⟨_, rfl⟩
      rw [hkv] at hcell htk
      have HTK := Aside0.mk htk
      clear htk hkv e'
      have hjl : (j : Int) < ↑keys.length + 1 := by omega
      go_wp2_with (first | (refine wpList_store_1 rfl 9 _ _ rfl (w.heap.size + 1) 1 (.string kv) rfl rfl rfl 40 _ (cmdC 0 0 kv).toArray BC.out (by simp [cmdC]) (by kernel_rfl) rfl ?_; intro x2 hbk hst; have BC2 := Aside0.mk hbk; have BQ2 := Aside0.mk (hst.blk BQ.out (by omega)); have BR2 := Aside0.mk (hst.blk BR.out (by omega)); have HO2 := Aside0.mk (hst.own HOw.out (by omega)); have HB2 := Aside0.mk (hst.up HB.out (by omega)); have hg2 : w3.heap.size < x2.heap.size := blk_lt BQ2.out; clear hbk hst; have e0 : x2.cell? ⟨w3.heap.size, 0, none⟩ = some V := (blk_cell BQ2.out 0).trans rfl; have d0 : x2.cell? ⟨w.heap.size + 1, 0, none⟩ = some (.int .i64 0) := (blk_cell BC2.out 0).trans rfl; have d1 : x2.cell? ⟨w.heap.size + 1, 1, none⟩ = some (.string kv) := (blk_cell BC2.out 1).trans rfl; have d2 : x2.cell? ⟨w.heap.size + 1, 2, none⟩ = some (.slice none 0 0) := (blk_cell BC2.out 2).trans rfl; have d3 : x2.cell? ⟨w.heap.size + 1, 3, none⟩ = some (.int .u32 0) := (blk_cell BC2.out 3).trans rfl; have d4 : x2.cell? ⟨w.heap.size + 1, 4, none⟩ = some (.int .i64 0) := (blk_cell BC2.out 4).trans rfl; have d5 : x2.cell? ⟨w.heap.size + 1, 5, none⟩ = some (.int .u64 0) := (blk_cell BC2.out 5).trans rfl; have d6 : x2.cell? ⟨w.heap.size + 1, 6, none⟩ = some (.int .u64 0) := (blk_cell BC2.out 6).trans rfl; have d7 : x2.cell? ⟨w.heap.size + 1, 7, none⟩ = some (.int .u64 0) := (blk_cell BC2.out 7).trans rfl; have d8 : x2.cell? ⟨w.heap.size + 1, 8, none⟩ = some (.bool false) := (blk_cell BC2.out 8).trans rfl; have d9 : x2.cell? ⟨w.heap.size + 1, 9, none⟩ = some (.bool false) := (blk_cell BC2.out 9).trans rfl) | ((with_reducible refine gate_builtin (b := .append) (xs := #[.tmp 80, .tmp 82]) rfl ?_); at_builtin; refine print_append_cells (w0 := x2) (W := x2) (w3.heap.size + 1) rfl (.tmp 80) (.tmp 82) 25 40 _ 10 96 rfl Tryz.underlying25 info40 rfl (by decide) (by decide) V (j - 1) (rowsC 0 0 (keys.take (j - 1))) (cmdC 0 0 kv) rfl rfl rfl (cmdC_one _ _ _) HO2.out (Below.refl _ _) (by omega) (by omega) ?_; intro v1' x3 ho3 hb3 hg3 hat3; have BQ3 := Aside0.mk (blk_grown BQ2.out hg3 (own_apart HO2.out (by omega))); have BC3 := Aside0.mk (blk_grown BC2.out hg3 (own_apart HO2.out (by omega))); have BR3 := Aside0.mk (blk_grown BR2.out hg3 (own_apart HO2.out (by omega))); have HO3 := Aside0.mk ho3; have HB3 := Aside0.mk (HB2.out.trans (hb3.mono (by omega))); clear ho3 hb3 hg3 hat3) | (refine wpList_store_1 rfl 25 _ _ rfl (w3.heap.size) 0 v1' rfl rfl (own_one HO3.out) 31 _ (reqC (v1') (⟨#[103, 101, 116, 115]⟩ : ByteArray) true (some ⟨b, o + 1, none⟩) keys.length (c - 1)) BQ3.out (by simp [reqC]) (by kernel_rfl) rfl ?_; intro x4 hbk hst; have BQ4 := Aside0.mk hbk; have BC4 := Aside0.mk (hst.blk BC3.out (by omega)); have BR4 := Aside0.mk (hst.blk BR3.out (by omega)); have HO4 := Aside0.mk (hst.own HO3.out (by omega)); have HB4 := Aside0.mk (hst.up HB3.out (by omega)); clear hbk hst))
      go_round
      case rel => exact ⟨j + 1, by first | rfl | simp, by omega, by omega, ⟨⟨v1', kv, BQ4.out, BC4.out, by rw [HTK.out, rowsC_snoc, show j + 1 - 1 = j - 1 + 1 by omega]; exact HO4.out, BR4.out, HB4.out⟩⟩⟩
      case measure => simp [intOf]; omega
    · obtain rfl : j = keys.length + 1 := by omega
      have HO1 := HOw.out
      rw [Nat.add_sub_cancel, List.take_of_length_le (Nat.le_refl _)] at HO1
      obtain ⟨A', c', rfl, hc', -⟩ := own_C HO1
      have HO2 := Aside0.mk HO1
      clear HO1 HOw
      have e0 : wr.cell? ⟨w3.heap.size, 0, none⟩ = some (.slice A' keys.length c') := (blk_cell BQ.out 0).trans rfl; have e1 : wr.cell? ⟨w3.heap.size, 1, none⟩ = some (.int .i64 1) := (blk_cell BQ.out 1).trans rfl; have e2 : wr.cell? ⟨w3.heap.size, 2, none⟩ = some (.string (⟨#[103, 101, 116, 115]⟩ : ByteArray)) := (blk_cell BQ.out 2).trans rfl; have e3 : wr.cell? ⟨w3.heap.size, 3, none⟩ = some (.int .i64 0) := (blk_cell BQ.out 3).trans rfl; have e4 : wr.cell? ⟨w3.heap.size, 4, none⟩ = some (.int .u32 0) := (blk_cell BQ.out 4).trans rfl; have e5 : wr.cell? ⟨w3.heap.size, 5, none⟩ = some (.bool false) := (blk_cell BQ.out 5).trans rfl; have e6 : wr.cell? ⟨w3.heap.size, 6, none⟩ = some (.bool true) := (blk_cell BQ.out 6).trans rfl; have e7 : wr.cell? ⟨w3.heap.size, 7, none⟩ = some (.string ⟨#[]⟩) := (blk_cell BQ.out 7).trans rfl; have e8 : wr.cell? ⟨w3.heap.size, 8, none⟩ = some (.slice none 0 0) := (blk_cell BQ.out 8).trans rfl; have e9 : wr.cell? ⟨w3.heap.size, 9, none⟩ = some (.slice (some ⟨b, o + 1, none⟩) keys.length (c - 1)) := (blk_cell BQ.out 9).trans rfl; have e10 : wr.cell? ⟨w3.heap.size, 10, none⟩ = some (.bool false) := (blk_cell BQ.out 10).trans rfl
      go_wp2_with (first | (refine wpList_store_F rfl 34 _ _ rfl w.heap.size 0 _ rfl rfl (by simp [Value.oneCell']) 34 _ _ BR.out (by simp [zStepC]) (by kernel_rfl) rfl ?_; intro w9 hbk hst; have BR9 := Aside0.mk hbk; have HO9 := Aside0.mk (hst.own HO2.out (by omega)); have HB9 := Aside0.mk (hst.up HB.out (Nat.le_refl _)); clear hbk hst))
      (try simp only [Exit.inBlock, Exit.then]); refine bodyPost_ret (results_cell_row rfl _ _ w.heap.size 34 _ (0, 0) _ rfl BR9.out Tryz.underlying34 rfl (by kernel_rfl)) rfl ?_
      have := stepG_R (F := F) (used := used) (verb := (⟨#[103, 101, 116, 115]⟩ : ByteArray)) (own_weaken HO9.out (by omega)) HB9.out HKC.out HKCC.out
      unfold stepGC at this
      rw [HEND.out, HR.out] at this
      exact this
set_option maxRecDepth 100000 in
set_option maxHeartbeats 2000000 in
theorem rg_gat_no (ws keys : List ByteArray) (A : Option Addr) (c : Nat) (used : Int) (F : Nat → Prop) (w : World) (hC : HolF F w (fun w2 => Kd.string.C w2 A ws.length ws)) (hc : ws.length ≤ c) (hs : ∀ k ∈ ws, k.size ≤ 1000000) (hl : ws.length ≤ 1000000) (h0 : ws.getD 0 ⟨#[]⟩ = (⟨#[103, 97, 116]⟩ : ByteArray)) (hkeys : ws.drop 2 = keys) (hn : ws.length ≤ 2) (hn0 : 0 < ws.length) :
    Calls Tryz.prog 26 #[.slice A ws.length c, .int .i64 used] w (StepR F w (stepF used (⟨#[69, 82, 82, 79, 82]⟩ : ByteArray))) := by
  obtain ⟨R, hR⟩ : ∃ R, (stepF used (⟨#[69, 82, 82, 79, 82]⟩ : ByteArray)) = R := ⟨_, rfl⟩
  rw [hR]
  have HR := Aside0.mk hR
  have HB := Aside0.mk (Below.refl w.heap.size w)
  obtain ⟨b, o, rfl, hb0, hcell0⟩ := S_cell hC.now 0 (by omega)
  rw [h0, Nat.add_zero] at hcell0
  have hcc : (ws.length : Int) ≤ ↑c := by omega
  have hi0 : (0 : Int) < ↑ws.length := by omega
  have HOF : Aside0 (∀ (t : ByteArray), t.size ≤ 1000 → ∀ w', Calls Tryz.prog 24 #[.int .i64 used, .string t] w' (StepR (fun k => k < w.heap.size ∧ F k) w' (stepF used t))) := ⟨fun t ht w' => rfault_calls used t _ w' ht⟩
  have HO : Aside0 (∀ w', Calls Tryz.prog 24 #[.int .i64 used, .string (⟨#[69, 82, 82, 79, 82]⟩ : ByteArray)] w' (StepR (fun k => k < w.heap.size ∧ F k) w' R)) := ⟨fun w' => by rw [← HR.out]; exact HOF.out _ (by decide) w'⟩
  have hg : (ws.length : Int) ≤ 2 := by omega
  have k0 : w.cell? ⟨b, o, none⟩ = some (.string (⟨#[103, 97, 116]⟩ : ByteArray)) := hcell0
  clear hC h0 hs hcell0 hR HOF hn hn0 hkeys
  go_enter Tryz.func26, Tryz.ntmps26
  go_wp2_with (first | (go_at_call 24; (with_reducible refine (HO.out _).mono ?_); rintro e w1 ⟨⟨cs, rfl, hk⟩, hb⟩; have BK := Aside0.mk (blk_below (g := w.heap.size) (o := .cells zStepC 34 (0, 0)) (by repeat (first | exact blk_at_new _ _ _ (by simp; done) | exact blk_at_new _ _ _ rfl | refine blk_alloc ?_ _ | refine blk_drew ?_ | refine blk_drewN ?_ _)) hb); have HBn := Aside0.mk (below_step (by repeat (first | (with_reducible first | exact HB.out | apply below_alloc | apply pw_below_drewN | apply below_drew1) | exact HB.out)) hb); clear HB; have HB := HBn; clear HBn; have HK := Aside0.mk hk; clear hb hk) | (refine wpList_store_K HK.out.now rfl 34 _ _ rfl w.heap.size rfl rfl 34 _ BK.out (by kernel_rfl) rfl ?_; intro w8 hbk hlow hfar; have HK2 := Aside0.mk (hfar _ _ (fun h => absurd (h (by simp <;> omega)).1 (by omega)) HK.out); clear BK; have BK := Aside0.mk hbk; have HL := Aside0.mk hlow; clear hbk hlow hfar))
  (try simp only [Exit.inBlock, Exit.then]); refine bodyPost_ret (results_cell_row rfl _ _ w.heap.size 34 _ (0, 0) _ rfl BK.out Tryz.underlying34 rfl (by rw [List.size_toArray, kStep.K_len HK.out.now]; kernel_rfl)) rfl ?_; exact ⟨⟨_, rfl, HK2.out.mono (fun k hk h3 => (hk (Nat.lt_of_lt_of_le h3 (by simp [Nat.add_assoc]))).2)⟩, HB.out.trans (HL.out _ (Nat.le_refl _))⟩
set_option maxRecDepth 100000 in
set_option maxHeartbeats 2000000 in
theorem rg_gat_bad (ws keys : List ByteArray) (A : Option Addr) (c : Nat) (used : Int) (F : Nat → Prop) (w : World) (hC : HolF F w (fun w2 => Kd.string.C w2 A ws.length ws)) (hc : ws.length ≤ c) (hs : ∀ k ∈ ws, k.size ≤ 1000000) (hl : ws.length ≤ 1000000) (h0 : ws.getD 0 ⟨#[]⟩ = (⟨#[103, 97, 116]⟩ : ByteArray)) (hkeys : ws.drop 2 = keys) (hn : 2 < ws.length) (hk : keysS keys = false) :
    Calls Tryz.prog 26 #[.slice A ws.length c, .int .i64 used] w (StepR F w (stepF used badT)) := by
  obtain ⟨R, hR⟩ : ∃ R, (stepF used badT) = R := ⟨_, rfl⟩
  rw [hR]
  have HR := Aside0.mk hR
  have HB := Aside0.mk (Below.refl w.heap.size w)
  obtain ⟨b, o, rfl, hb0, hcell0⟩ := S_cell hC.now 0 (by omega)
  rw [h0, Nat.add_zero] at hcell0
  have hcc : (ws.length : Int) ≤ ↑c := by omega
  have hi0 : (0 : Int) < ↑ws.length := by omega
  have HOF : Aside0 (∀ (t : ByteArray), t.size ≤ 1000 → ∀ w', Calls Tryz.prog 24 #[.int .i64 used, .string t] w' (StepR (fun k => k < w.heap.size ∧ F k) w' (stepF used t))) := ⟨fun t ht w' => rfault_calls used t _ w' ht⟩
  have HO : Aside0 (∀ w', Calls Tryz.prog 24 #[.int .i64 used, .string (⟨#[67, 76, 73, 69, 78, 84, 95, 69, 82, 82, 79, 82, 32, 98, 97, 100, 32, 99, 111, 109, 109, 97, 110, 100, 32, 108, 105, 110, 101, 32, 102, 111, 114, 109, 97, 116]⟩ : ByteArray)] w' (StepR (fun k => k < w.heap.size ∧ F k) w' R)) := ⟨fun w' => by rw [← HR.out]; exact HOF.out _ (by decide) w'⟩
  have HBD : Aside0 (∀ w', Calls Tryz.prog 53 #[] w' fun e w'' => e = .returned (.string (⟨#[67, 76, 73, 69, 78, 84, 95, 69, 82, 82, 79, 82, 32, 98, 97, 100, 32, 99, 111, 109, 109, 97, 110, 100, 32, 108, 105, 110, 101, 32, 102, 111, 114, 109, 97, 116]⟩ : ByteArray)) ∧ Below w'.heap.size w' w'') := ⟨fun w' => bad_calls w'⟩
  have hwl : ws.length = keys.length + 2 := by rw [← hkeys, List.length_drop]; omega
  have hkn : keys.length ≠ 0 := by omega
  have hcn : ¬ (c = 2) := by omega
  have hKC : HolF F w (fun w2 => Kd.string.C w2 (some ⟨b, o + 2, none⟩) keys.length keys) := hC.imp (fun w2 h => by rw [← hkeys]; exact C_dropS h 2)
  have HKC := Aside0.mk hKC
  have hkc : keys.length ≤ c - 2 := by omega
  have HKY : Aside0 (∀ w', Below w.heap.size w w' → Calls Tryz.prog 52 #[.slice (some ⟨b, o + 2, none⟩) keys.length (c - 2)] w' fun e w'' => e = .returned (.bool (keysS keys)) ∧ Below w'.heap.size w' w'') := ⟨fun w' hb => rkeys_calls keys _ (c - 2) w' (Kd.C_below HKC.out.now hb) hkc (by omega) (fun k hk => hs k (by rw [← hkeys] at hk; exact List.mem_of_mem_drop hk))⟩
  rw [hk] at HKY
  have ha0 : (2 : Int) ≤ ↑keys.length + 2 := by omega
  have ha1 : (keys.length : Int) + 2 ≤ ↑c := by omega
  have ha2 : (0 : Int) < ↑keys.length := by omega
  have k0 : w.cell? ⟨b, o, none⟩ = some (.string (⟨#[103, 97, 116]⟩ : ByteArray)) := hcell0
  clear hC h0 hs hcell0 hR HOF hn hkeys hk hKC hkn hkc hl
  go_enter Tryz.func26, Tryz.ntmps26
  go_wp2_with (first | (go_at_call 52; (with_reducible refine (HKY.out _ (by repeat (first | (with_reducible first | exact HB.out | apply below_alloc | apply pw_below_drewN | apply below_drew1) | exact HB.out))).mono ?_); rintro e w3 ⟨rfl, hb⟩; have BC := Aside0.mk (blk_below (g := w.heap.size + 1) (o := .cells (cmdC 1 0 ⟨#[]⟩).toArray 40 (0, 0)) (by repeat (first | exact blk_at_new _ _ _ (by simp; done) | exact blk_at_new _ _ _ rfl | refine blk_alloc ?_ _ | refine blk_drew ?_ | refine blk_drewN ?_ _)) hb); have BR := Aside0.mk (blk_below (g := w.heap.size) (o := .cells zStepC 34 (0, 0)) (by repeat (first | exact blk_at_new _ _ _ (by simp; done) | exact blk_at_new _ _ _ rfl | refine blk_alloc ?_ _ | refine blk_drew ?_ | refine blk_drewN ?_ _)) hb); have HBn := Aside0.mk (below_step (by repeat (first | (with_reducible first | exact HB.out | apply below_alloc | apply pw_below_drewN | apply below_drew1) | exact HB.out)) hb); clear HB; have HB := HBn; clear HBn; clear hb; have hcl : w.heap.size + 1 < w3.heap.size := blk_lt BC.out) | (go_at_call 53; (with_reducible refine (HBD.out _).mono ?_); rintro e w4 ⟨rfl, hb⟩; have BRn := Aside0.mk (blk_below BR.out hb); clear BR; have BR := BRn; clear BRn; have GLT := Aside0.mk (blk_lt BR.out); have HBn := Aside0.mk (below_step (by repeat (first | (with_reducible first | exact HB.out | apply below_alloc | apply pw_below_drewN | apply below_drew1) | exact HB.out)) hb); clear HB; have HB := HBn; clear HBn; clear hb) | (go_at_call 24; (with_reducible refine (HO.out _).mono ?_); rintro e w1 ⟨⟨cs, rfl, hk⟩, hb⟩; have BK := Aside0.mk (blk_below (BR.out) hb); have HBn := Aside0.mk (below_step (by repeat (first | (with_reducible first | exact HB.out | apply below_alloc | apply pw_below_drewN | apply below_drew1) | exact HB.out)) hb); clear HB; have HB := HBn; clear HBn; have HK := Aside0.mk hk; clear hb hk) | (refine wpList_store_K HK.out.now rfl 34 _ _ rfl w.heap.size rfl rfl 34 _ BK.out (by kernel_rfl) rfl ?_; intro w8 hbk hlow hfar; have HK2 := Aside0.mk (hfar _ _ (fun h => absurd (h GLT.out).1 (by omega)) HK.out); clear BK; have BK := Aside0.mk hbk; have HL := Aside0.mk hlow; clear hbk hlow hfar))
  (try simp only [Exit.inBlock, Exit.then]); refine bodyPost_ret (results_cell_row rfl _ _ w.heap.size 34 _ (0, 0) _ rfl BK.out Tryz.underlying34 rfl (by rw [List.size_toArray, kStep.K_len HK.out.now]; kernel_rfl)) rfl ?_; exact ⟨⟨_, rfl, HK2.out.mono (fun k hk h3 => (hk (Nat.lt_trans h3 GLT.out)).2)⟩, HB.out.trans (HL.out _ (Nat.le_refl _))⟩
set_option maxRecDepth 100000 in
set_option maxHeartbeats 2000000 in
theorem rg_gat_nan (ws keys : List ByteArray) (A : Option Addr) (c : Nat) (used : Int) (F : Nat → Prop) (w : World) (hC : HolF F w (fun w2 => Kd.string.C w2 A ws.length ws)) (hc : ws.length ≤ c) (hs : ∀ k ∈ ws, k.size ≤ 1000000) (hl : ws.length ≤ 1000000) (h0 : ws.getD 0 ⟨#[]⟩ = (⟨#[103, 97, 116]⟩ : ByteArray)) (hkeys : ws.drop 2 = keys) (hn : 2 < ws.length) (hk : keysS keys = true) (v1 : ByteArray) (h1 : ws.getD 1 ⟨#[]⟩ = v1) (z : Int) (hz : sgnS v1 = (z, false)) :
    Calls Tryz.prog 26 #[.slice A ws.length c, .int .i64 used] w (StepR F w (stepF used badT)) := by
  obtain ⟨R, hR⟩ : ∃ R, (stepF used badT) = R := ⟨_, rfl⟩
  rw [hR]
  have HR := Aside0.mk hR
  have HB := Aside0.mk (Below.refl w.heap.size w)
  obtain ⟨b, o, rfl, hb0, hcell0⟩ := S_cell hC.now 0 (by omega)
  rw [h0, Nat.add_zero] at hcell0
  have hcc : (ws.length : Int) ≤ ↑c := by omega
  have hi0 : (0 : Int) < ↑ws.length := by omega
  have HOF : Aside0 (∀ (t : ByteArray), t.size ≤ 1000 → ∀ w', Calls Tryz.prog 24 #[.int .i64 used, .string t] w' (StepR (fun k => k < w.heap.size ∧ F k) w' (stepF used t))) := ⟨fun t ht w' => rfault_calls used t _ w' ht⟩
  have HO : Aside0 (∀ w', Calls Tryz.prog 24 #[.int .i64 used, .string (⟨#[67, 76, 73, 69, 78, 84, 95, 69, 82, 82, 79, 82, 32, 98, 97, 100, 32, 99, 111, 109, 109, 97, 110, 100, 32, 108, 105, 110, 101, 32, 102, 111, 114, 109, 97, 116]⟩ : ByteArray)] w' (StepR (fun k => k < w.heap.size ∧ F k) w' R)) := ⟨fun w' => by rw [← HR.out]; exact HOF.out _ (by decide) w'⟩
  have HBD : Aside0 (∀ w', Calls Tryz.prog 53 #[] w' fun e w'' => e = .returned (.string (⟨#[67, 76, 73, 69, 78, 84, 95, 69, 82, 82, 79, 82, 32, 98, 97, 100, 32, 99, 111, 109, 109, 97, 110, 100, 32, 108, 105, 110, 101, 32, 102, 111, 114, 109, 97, 116]⟩ : ByteArray)) ∧ Below w'.heap.size w' w'') := ⟨fun w' => bad_calls w'⟩
  obtain ⟨b', o', e', -, hcell1⟩ := S_cell hC.now 1 (by omega)
  obtain ⟨rfl, rfl⟩ : b = b' ∧ o = o' := by simpa using e'
  rw [h1] at hcell1
  have HC1 := Aside0.mk hcell1
  have HSG := Aside0.mk (fun w => rsgn_w v1 w (by rw [← h1, List.getD_eq_getElem?_getD, List.getElem?_eq_getElem (show 1 < ws.length by omega)]; exact hs _ (List.getElem_mem _)))
  rw [hz] at HSG
  have hwl : ws.length = keys.length + 2 := by rw [← hkeys, List.length_drop]; omega
  have hkn : keys.length ≠ 0 := by omega
  have hcn : ¬ (c = 2) := by omega
  have hKC : HolF F w (fun w2 => Kd.string.C w2 (some ⟨b, o + 2, none⟩) keys.length keys) := hC.imp (fun w2 h => by rw [← hkeys]; exact C_dropS h 2)
  have HKC := Aside0.mk hKC
  have hkc : keys.length ≤ c - 2 := by omega
  have HKY : Aside0 (∀ w', Below w.heap.size w w' → Calls Tryz.prog 52 #[.slice (some ⟨b, o + 2, none⟩) keys.length (c - 2)] w' fun e w'' => e = .returned (.bool (keysS keys)) ∧ Below w'.heap.size w' w'') := ⟨fun w' hb => rkeys_calls keys _ (c - 2) w' (Kd.C_below HKC.out.now hb) hkc (by omega) (fun k hk => hs k (by rw [← hkeys] at hk; exact List.mem_of_mem_drop hk))⟩
  rw [hk] at HKY
  have ha0 : (2 : Int) ≤ ↑keys.length + 2 := by omega
  have ha1 : (keys.length : Int) + 2 ≤ ↑c := by omega
  have ha2 : (0 : Int) < ↑keys.length := by omega
  have k0 : w.cell? ⟨b, o, none⟩ = some (.string (⟨#[103, 97, 116]⟩ : ByteArray)) := hcell0
  clear hC h0 hs hcell0 hR HOF hn hkeys hk hKC hkn hkc hl hcell1 h1 hz e'
  go_enter Tryz.func26, Tryz.ntmps26
  go_wp2_with (first | (go_at_call 52; (with_reducible refine (HKY.out _ (by repeat (first | (with_reducible first | exact HB.out | apply below_alloc | apply pw_below_drewN | apply below_drew1) | exact HB.out))).mono ?_); rintro e w3 ⟨rfl, hb⟩; have BC := Aside0.mk (blk_below (g := w.heap.size + 1) (o := .cells (cmdC 1 0 ⟨#[]⟩).toArray 40 (0, 0)) (by repeat (first | exact blk_at_new _ _ _ (by simp; done) | exact blk_at_new _ _ _ rfl | refine blk_alloc ?_ _ | refine blk_drew ?_ | refine blk_drewN ?_ _)) hb); have BR := Aside0.mk (blk_below (g := w.heap.size) (o := .cells zStepC 34 (0, 0)) (by repeat (first | exact blk_at_new _ _ _ (by simp; done) | exact blk_at_new _ _ _ rfl | refine blk_alloc ?_ _ | refine blk_drew ?_ | refine blk_drewN ?_ _)) hb); have HBn := Aside0.mk (below_step (by repeat (first | (with_reducible first | exact HB.out | apply below_alloc | apply pw_below_drewN | apply below_drew1) | exact HB.out)) hb); clear HB; have HB := HBn; clear HBn; clear hb; have hcl : w.heap.size + 1 < w3.heap.size := blk_lt BC.out; have k1 : w3.cell? ⟨b, o + 1, none⟩ = some (.string v1) := (Below.cell HB.out (p := ⟨b, o + 1, none⟩) hb0).trans HC1.out) | (go_at_call 54; (with_reducible refine (HSG.out _).mono ?_); rintro e w5 ⟨rfl, hb⟩; have BCn := Aside0.mk (blk_below BC.out hb); have BRn := Aside0.mk (blk_below BR.out hb); clear BC BR k1; have BC := BCn; have BR := BRn; clear BCn BRn; have HBn := Aside0.mk (below_step (by repeat (first | (with_reducible first | exact HB.out | apply below_alloc | apply pw_below_drewN | apply below_drew1) | exact HB.out)) hb); clear HB; have HB := HBn; clear HBn; clear hb) | (go_at_call 53; (with_reducible refine (HBD.out _).mono ?_); rintro e w4 ⟨rfl, hb⟩; have BRn := Aside0.mk (blk_below BR.out hb); clear BR; have BR := BRn; clear BRn; have GLT := Aside0.mk (blk_lt BR.out); have HBn := Aside0.mk (below_step (by repeat (first | (with_reducible first | exact HB.out | apply below_alloc | apply pw_below_drewN | apply below_drew1) | exact HB.out)) hb); clear HB; have HB := HBn; clear HBn; clear hb) | (go_at_call 24; (with_reducible refine (HO.out _).mono ?_); rintro e w1 ⟨⟨cs, rfl, hk⟩, hb⟩; have BK := Aside0.mk (blk_below (BR.out) hb); have HBn := Aside0.mk (below_step (by repeat (first | (with_reducible first | exact HB.out | apply below_alloc | apply pw_below_drewN | apply below_drew1) | exact HB.out)) hb); clear HB; have HB := HBn; clear HBn; have HK := Aside0.mk hk; clear hb hk) | (refine wpList_store_K HK.out.now rfl 34 _ _ rfl w.heap.size rfl rfl 34 _ BK.out (by kernel_rfl) rfl ?_; intro w8 hbk hlow hfar; have HK2 := Aside0.mk (hfar _ _ (fun h => absurd (h GLT.out).1 (by omega)) HK.out); clear BK; have BK := Aside0.mk hbk; have HL := Aside0.mk hlow; clear hbk hlow hfar))
  (try simp only [Exit.inBlock, Exit.then]); refine bodyPost_ret (results_cell_row rfl _ _ w.heap.size 34 _ (0, 0) _ rfl BK.out Tryz.underlying34 rfl (by rw [List.size_toArray, kStep.K_len HK.out.now]; kernel_rfl)) rfl ?_; exact ⟨⟨_, rfl, HK2.out.mono (fun k hk h3 => (hk (Nat.lt_trans h3 GLT.out)).2)⟩, HB.out.trans (HL.out _ (Nat.le_refl _))⟩
set_option maxRecDepth 100000 in
set_option maxHeartbeats 2000000 in
theorem rg_gat_ok (ws keys : List ByteArray) (A : Option Addr) (c : Nat) (used : Int) (F : Nat → Prop) (w : World) (hC : HolF F w (fun w2 => Kd.string.C w2 A ws.length ws)) (hc : ws.length ≤ c) (hs : ∀ k ∈ ws, k.size ≤ 1000000) (hl : ws.length ≤ 1000000) (h0 : ws.getD 0 ⟨#[]⟩ = (⟨#[103, 97, 116]⟩ : ByteArray)) (hkeys : ws.drop 2 = keys) (hn : 2 < ws.length) (hk : keysS keys = true) (v1 : ByteArray) (h1 : ws.getD 1 ⟨#[]⟩ = v1) (z : Int) (hz : sgnS v1 = (z, true)) :
    Calls Tryz.prog 26 #[.slice A ws.length c, .int .i64 used] w (StepR F w (stepG used (⟨#[103, 97, 116]⟩ : ByteArray) 1 z keys)) := by
  obtain ⟨R, hR⟩ : ∃ R, (stepG used (⟨#[103, 97, 116]⟩ : ByteArray) 1 z keys) = R := ⟨_, rfl⟩
  rw [hR]
  have HR := Aside0.mk hR
  have HB := Aside0.mk (Below.refl w.heap.size w)
  obtain ⟨b, o, rfl, hb0, hcell0⟩ := S_cell hC.now 0 (by omega)
  rw [h0, Nat.add_zero] at hcell0
  have hcc : (ws.length : Int) ≤ ↑c := by omega
  have hi0 : (0 : Int) < ↑ws.length := by omega
  have HOF : Aside0 (∀ (t : ByteArray), t.size ≤ 1000 → ∀ w', Calls Tryz.prog 24 #[.int .i64 used, .string t] w' (StepR (fun k => k < w.heap.size ∧ F k) w' (stepF used t))) := ⟨fun t ht w' => rfault_calls used t _ w' ht⟩
  obtain ⟨b', o', e', -, hcell1⟩ := S_cell hC.now 1 (by omega)
  obtain ⟨rfl, rfl⟩ : b = b' ∧ o = o' := by simpa using e'
  rw [h1] at hcell1
  have HC1 := Aside0.mk hcell1
  have HSG := Aside0.mk (fun w => rsgn_w v1 w (by rw [← h1, List.getD_eq_getElem?_getD, List.getElem?_eq_getElem (show 1 < ws.length by omega)]; exact hs _ (List.getElem_mem _)))
  rw [hz] at HSG
  have hwl : ws.length = keys.length + 2 := by rw [← hkeys, List.length_drop]; omega
  have hkn : keys.length ≠ 0 := by omega
  have hcn : ¬ (c = 2) := by omega
  have hKC : HolF F w (fun w2 => Kd.string.C w2 (some ⟨b, o + 2, none⟩) keys.length keys) := hC.imp (fun w2 h => by rw [← hkeys]; exact C_dropS h 2)
  have HKC := Aside0.mk hKC
  have hkc : keys.length ≤ c - 2 := by omega
  have HKY : Aside0 (∀ w', Below w.heap.size w w' → Calls Tryz.prog 52 #[.slice (some ⟨b, o + 2, none⟩) keys.length (c - 2)] w' fun e w'' => e = .returned (.bool (keysS keys)) ∧ Below w'.heap.size w' w'') := ⟨fun w' hb => rkeys_calls keys _ (c - 2) w' (Kd.C_below HKC.out.now hb) hkc (by omega) (fun k hk => hs k (by rw [← hkeys] at hk; exact List.mem_of_mem_drop hk))⟩
  rw [hk] at HKY
  have ha0 : (2 : Int) ≤ ↑keys.length + 2 := by omega
  have ha1 : (keys.length : Int) + 2 ≤ ↑c := by omega
  have ha2 : (0 : Int) < ↑keys.length := by omega
  have hl16 : keys.length ≤ 16 := by
    unfold keysS at hk
    rw [Bool.and_eq_true] at hk
    exact of_decide_eq_true hk.1
  have HWC := Aside0.mk hC.now
  have HKS := Aside0.mk hkeys
  have hend : endsS (⟨#[103, 97, 116]⟩ : ByteArray) = false := by decide
  have HEND := Aside0.mk hend
  have k0 : w.cell? ⟨b, o, none⟩ = some (.string (⟨#[103, 97, 116]⟩ : ByteArray)) := hcell0
  have HKCC := Aside0.mk hkc
  have HWL := Aside0.mk hwl
  clear hC h0 hs hcell0 hR HOF hn hkeys hk hKC hkn hkc hl hcell1 h1 hz e' hend
  go_enter Tryz.func26, Tryz.ntmps26
  go_wp2_with (first | (go_at_call 52; (with_reducible refine (HKY.out _ (by repeat (first | (with_reducible first | exact HB.out | apply below_alloc | apply pw_below_drewN | apply below_drew1) | exact HB.out))).mono ?_); rintro e w3 ⟨rfl, hb⟩; have BC := Aside0.mk (blk_below (g := w.heap.size + 1) (o := .cells (cmdC 1 0 ⟨#[]⟩).toArray 40 (0, 0)) (by repeat (first | exact blk_at_new _ _ _ (by simp; done) | exact blk_at_new _ _ _ rfl | refine blk_alloc ?_ _ | refine blk_drew ?_ | refine blk_drewN ?_ _)) hb); have BR := Aside0.mk (blk_below (g := w.heap.size) (o := .cells zStepC 34 (0, 0)) (by repeat (first | exact blk_at_new _ _ _ (by simp; done) | exact blk_at_new _ _ _ rfl | refine blk_alloc ?_ _ | refine blk_drew ?_ | refine blk_drewN ?_ _)) hb); have HBn := Aside0.mk (below_step (by repeat (first | (with_reducible first | exact HB.out | apply below_alloc | apply pw_below_drewN | apply below_drew1) | exact HB.out)) hb); clear HB; have HB := HBn; clear HBn; clear hb; have hcl : w.heap.size + 1 < w3.heap.size := blk_lt BC.out; have k1 : w3.cell? ⟨b, o + 1, none⟩ = some (.string v1) := (Below.cell HB.out (p := ⟨b, o + 1, none⟩) hb0).trans HC1.out) | (go_at_call 54; (with_reducible refine (HSG.out _).mono ?_); rintro e w5 ⟨rfl, hb⟩; have BCn := Aside0.mk (blk_below BC.out hb); have BRn := Aside0.mk (blk_below BR.out hb); clear BC BR k1; have BC := BCn; have BR := BRn; clear BCn BRn; have HBn := Aside0.mk (below_step (by repeat (first | (with_reducible first | exact HB.out | apply below_alloc | apply pw_below_drewN | apply below_drew1) | exact HB.out)) hb); clear HB; have HB := HBn; clear HBn; clear hb) | (refine wpList_store_1 rfl 3 _ _ rfl (w.heap.size + 1) 4 (.int .i64 z) rfl rfl rfl 40 _ (cmdC 1 z ⟨#[]⟩).toArray BC.out (by simp [cmdC]) (by kernel_rfl) rfl ?_; intro w6 hbk hst; have BC6 := Aside0.mk hbk; have BR6 := Aside0.mk (hst.blk BR.out (by omega)); have HB6 := Aside0.mk (hst.up HB.out (by omega)); clear hbk hst BC BR HB; have BC := BC6; have BR := BR6; have HB := HB6; clear BC6 BR6 HB6; have hcl6 : w.heap.size + 1 < w6.heap.size := blk_lt BC.out))
  go_loopw [12] (fun v wr => ∃ j : Nat, v = .int .i64 j ∧ 2 ≤ j ∧ j ≤ keys.length + 2 ∧ Aside0 (∃ V kk, wr.heap[w6.heap.size]? = some (.cells (reqC (V) (⟨#[103, 97, 116]⟩ : ByteArray) false (some ⟨b, o + 2, none⟩) keys.length (c - 2)) 31 (0, 0)) ∧ wr.heap[w.heap.size + 1]? = some (.cells (cmdC 1 z kk).toArray 40 (0, 0)) ∧ wr.ownsRow (w6.heap.size + 1) 40 10 V (j - 2) (rowsC 1 z (keys.take (j - 2))) ∧ wr.heap[w.heap.size]? = some (.cells zStepC 34 (0, 0)) ∧ Below w.heap.size w wr)) (fun v _ => keys.length + 2 - (intOf v).toNat)
  case atStart => exact ⟨2, rfl, Nat.le_refl _, by omega, ⟨⟨_, _, blk_at_new _ _ _ rfl, blk_alloc BC.out _, by simp only [Nat.sub_self, List.take_zero]; exact World.ownsRow_nil _ _ _ _, blk_alloc BR.out _, below_alloc HB.out _⟩⟩⟩
  case round =>
    obtain ⟨j, rfl, hj1, hj2, HI⟩ := hrel
    obtain ⟨V, kk, hq, hc0, ho, hr0, hB⟩ := HI.out
    have BQ := Aside0.mk hq
    have BCr := Aside0.mk hc0
    have HOw := Aside0.mk ho
    have BRr := Aside0.mk hr0
    have HBr := Aside0.mk hB
    clear hq hc0 ho hr0 hB HI BC BR HB
    have BC := BCr
    have BR := BRr
    have HB := HBr
    clear BCr BRr HBr
    have hgr : w6.heap.size < wr.heap.size := blk_lt BQ.out
    by_cases hlt : j < keys.length + 2
    · obtain ⟨b', o', e', hbw, hcell⟩ := S_cell (Kd.C_below HWC.out HB.out) j (by have := HWL.out; omega)
      obtain ⟨rfl, rfl⟩ : b = b' ∧ o = o' := by simpa using e'
      have htk := take_dropS ws 2 j hj1 (by have := HWL.out; omega)
      rw [HKS.out] at htk
      obtain ⟨kv, hkv⟩ : ∃ v, ws.getD j ⟨#[]⟩ = v := ⟨_, rfl⟩
      rw [hkv] at hcell htk
      have HTK := Aside0.mk htk
      clear htk hkv e'
      have hjl : (j : Int) < ↑keys.length + 2 := by omega
      go_wp2_with (first | (refine wpList_store_1 rfl 9 _ _ rfl (w.heap.size + 1) 1 (.string kv) rfl rfl rfl 40 _ (cmdC 1 z kv).toArray BC.out (by simp [cmdC]) (by kernel_rfl) rfl ?_; intro x2 hbk hst; have BC2 := Aside0.mk hbk; have BQ2 := Aside0.mk (hst.blk BQ.out (by omega)); have BR2 := Aside0.mk (hst.blk BR.out (by omega)); have HO2 := Aside0.mk (hst.own HOw.out (by omega)); have HB2 := Aside0.mk (hst.up HB.out (by omega)); have hg2 : w6.heap.size < x2.heap.size := blk_lt BQ2.out; clear hbk hst; have e0 : x2.cell? ⟨w6.heap.size, 0, none⟩ = some V := (blk_cell BQ2.out 0).trans rfl; have d0 : x2.cell? ⟨w.heap.size + 1, 0, none⟩ = some (.int .i64 1) := (blk_cell BC2.out 0).trans rfl; have d1 : x2.cell? ⟨w.heap.size + 1, 1, none⟩ = some (.string kv) := (blk_cell BC2.out 1).trans rfl; have d2 : x2.cell? ⟨w.heap.size + 1, 2, none⟩ = some (.slice none 0 0) := (blk_cell BC2.out 2).trans rfl; have d3 : x2.cell? ⟨w.heap.size + 1, 3, none⟩ = some (.int .u32 0) := (blk_cell BC2.out 3).trans rfl; have d4 : x2.cell? ⟨w.heap.size + 1, 4, none⟩ = some (.int .i64 z) := (blk_cell BC2.out 4).trans rfl; have d5 : x2.cell? ⟨w.heap.size + 1, 5, none⟩ = some (.int .u64 0) := (blk_cell BC2.out 5).trans rfl; have d6 : x2.cell? ⟨w.heap.size + 1, 6, none⟩ = some (.int .u64 0) := (blk_cell BC2.out 6).trans rfl; have d7 : x2.cell? ⟨w.heap.size + 1, 7, none⟩ = some (.int .u64 0) := (blk_cell BC2.out 7).trans rfl; have d8 : x2.cell? ⟨w.heap.size + 1, 8, none⟩ = some (.bool false) := (blk_cell BC2.out 8).trans rfl; have d9 : x2.cell? ⟨w.heap.size + 1, 9, none⟩ = some (.bool false) := (blk_cell BC2.out 9).trans rfl) | ((with_reducible refine gate_builtin (b := .append) (xs := #[.tmp 80, .tmp 82]) rfl ?_); at_builtin; refine print_append_cells (w0 := x2) (W := x2) (w6.heap.size + 1) rfl (.tmp 80) (.tmp 82) 25 40 _ 10 96 rfl Tryz.underlying25 info40 rfl (by decide) (by decide) V (j - 2) (rowsC 1 z (keys.take (j - 2))) (cmdC 1 z kv) rfl rfl rfl (cmdC_one _ _ _) HO2.out (Below.refl _ _) (by omega) (by omega) ?_; intro v1' x3 ho3 hb3 hg3 hat3; have BQ3 := Aside0.mk (blk_grown BQ2.out hg3 (own_apart HO2.out (by omega))); have BC3 := Aside0.mk (blk_grown BC2.out hg3 (own_apart HO2.out (by omega))); have BR3 := Aside0.mk (blk_grown BR2.out hg3 (own_apart HO2.out (by omega))); have HO3 := Aside0.mk ho3; have HB3 := Aside0.mk (HB2.out.trans (hb3.mono (by omega))); clear ho3 hb3 hg3 hat3) | (refine wpList_store_1 rfl 25 _ _ rfl (w6.heap.size) 0 v1' rfl rfl (own_one HO3.out) 31 _ (reqC (v1') (⟨#[103, 97, 116]⟩ : ByteArray) false (some ⟨b, o + 2, none⟩) keys.length (c - 2)) BQ3.out (by simp [reqC]) (by kernel_rfl) rfl ?_; intro x4 hbk hst; have BQ4 := Aside0.mk hbk; have BC4 := Aside0.mk (hst.blk BC3.out (by omega)); have BR4 := Aside0.mk (hst.blk BR3.out (by omega)); have HO4 := Aside0.mk (hst.own HO3.out (by omega)); have HB4 := Aside0.mk (hst.up HB3.out (by omega)); clear hbk hst))
      go_round
      case rel => exact ⟨j + 1, by first | rfl | simp, by omega, by omega, ⟨⟨v1', kv, BQ4.out, BC4.out, by rw [HTK.out, rowsC_snoc, show j + 1 - 2 = j - 2 + 1 by omega]; exact HO4.out, BR4.out, HB4.out⟩⟩⟩
      case measure => simp [intOf]; omega
    · obtain rfl : j = keys.length + 2 := by omega
      have HO1 := HOw.out
      rw [Nat.add_sub_cancel, List.take_of_length_le (Nat.le_refl _)] at HO1
      obtain ⟨A', c', rfl, hc', -⟩ := own_C HO1
      have HO2 := Aside0.mk HO1
      clear HO1 HOw
      have e0 : wr.cell? ⟨w6.heap.size, 0, none⟩ = some (.slice A' keys.length c') := (blk_cell BQ.out 0).trans rfl; have e1 : wr.cell? ⟨w6.heap.size, 1, none⟩ = some (.int .i64 1) := (blk_cell BQ.out 1).trans rfl; have e2 : wr.cell? ⟨w6.heap.size, 2, none⟩ = some (.string (⟨#[103, 97, 116]⟩ : ByteArray)) := (blk_cell BQ.out 2).trans rfl; have e3 : wr.cell? ⟨w6.heap.size, 3, none⟩ = some (.int .i64 0) := (blk_cell BQ.out 3).trans rfl; have e4 : wr.cell? ⟨w6.heap.size, 4, none⟩ = some (.int .u32 0) := (blk_cell BQ.out 4).trans rfl; have e5 : wr.cell? ⟨w6.heap.size, 5, none⟩ = some (.bool false) := (blk_cell BQ.out 5).trans rfl; have e6 : wr.cell? ⟨w6.heap.size, 6, none⟩ = some (.bool false) := (blk_cell BQ.out 6).trans rfl; have e7 : wr.cell? ⟨w6.heap.size, 7, none⟩ = some (.string ⟨#[]⟩) := (blk_cell BQ.out 7).trans rfl; have e8 : wr.cell? ⟨w6.heap.size, 8, none⟩ = some (.slice none 0 0) := (blk_cell BQ.out 8).trans rfl; have e9 : wr.cell? ⟨w6.heap.size, 9, none⟩ = some (.slice (some ⟨b, o + 2, none⟩) keys.length (c - 2)) := (blk_cell BQ.out 9).trans rfl; have e10 : wr.cell? ⟨w6.heap.size, 10, none⟩ = some (.bool false) := (blk_cell BQ.out 10).trans rfl
      go_wp2_with (first | (refine wpList_store_F rfl 34 _ _ rfl w.heap.size 0 _ rfl rfl (by simp [Value.oneCell']) 34 _ _ BR.out (by simp [zStepC]) (by kernel_rfl) rfl ?_; intro w9 hbk hst; have BR9 := Aside0.mk hbk; have HO9 := Aside0.mk (hst.own HO2.out (by omega)); have HB9 := Aside0.mk (hst.up HB.out (Nat.le_refl _)); clear hbk hst))
      (try simp only [Exit.inBlock, Exit.then]); refine bodyPost_ret (results_cell_row rfl _ _ w.heap.size 34 _ (0, 0) _ rfl BR9.out Tryz.underlying34 rfl (by kernel_rfl)) rfl ?_
      have := stepG_R (F := F) (used := used) (verb := (⟨#[103, 97, 116]⟩ : ByteArray)) (own_weaken HO9.out (by omega)) HB9.out HKC.out HKCC.out
      unfold stepGC at this
      rw [HEND.out, HR.out] at this
      exact this
set_option maxRecDepth 100000 in
set_option maxHeartbeats 2000000 in
theorem rg_gats_no (ws keys : List ByteArray) (A : Option Addr) (c : Nat) (used : Int) (F : Nat → Prop) (w : World) (hC : HolF F w (fun w2 => Kd.string.C w2 A ws.length ws)) (hc : ws.length ≤ c) (hs : ∀ k ∈ ws, k.size ≤ 1000000) (hl : ws.length ≤ 1000000) (h0 : ws.getD 0 ⟨#[]⟩ = (⟨#[103, 97, 116, 115]⟩ : ByteArray)) (hkeys : ws.drop 2 = keys) (hn : ws.length ≤ 2) (hn0 : 0 < ws.length) :
    Calls Tryz.prog 26 #[.slice A ws.length c, .int .i64 used] w (StepR F w (stepF used (⟨#[69, 82, 82, 79, 82]⟩ : ByteArray))) := by
  obtain ⟨R, hR⟩ : ∃ R, (stepF used (⟨#[69, 82, 82, 79, 82]⟩ : ByteArray)) = R := ⟨_, rfl⟩
  rw [hR]
  have HR := Aside0.mk hR
  have HB := Aside0.mk (Below.refl w.heap.size w)
  obtain ⟨b, o, rfl, hb0, hcell0⟩ := S_cell hC.now 0 (by omega)
  rw [h0, Nat.add_zero] at hcell0
  have hcc : (ws.length : Int) ≤ ↑c := by omega
  have hi0 : (0 : Int) < ↑ws.length := by omega
  have HOF : Aside0 (∀ (t : ByteArray), t.size ≤ 1000 → ∀ w', Calls Tryz.prog 24 #[.int .i64 used, .string t] w' (StepR (fun k => k < w.heap.size ∧ F k) w' (stepF used t))) := ⟨fun t ht w' => rfault_calls used t _ w' ht⟩
  have HO : Aside0 (∀ w', Calls Tryz.prog 24 #[.int .i64 used, .string (⟨#[69, 82, 82, 79, 82]⟩ : ByteArray)] w' (StepR (fun k => k < w.heap.size ∧ F k) w' R)) := ⟨fun w' => by rw [← HR.out]; exact HOF.out _ (by decide) w'⟩
  have hg : (ws.length : Int) ≤ 2 := by omega
  have k0 : w.cell? ⟨b, o, none⟩ = some (.string (⟨#[103, 97, 116, 115]⟩ : ByteArray)) := hcell0
  clear hC h0 hs hcell0 hR HOF hn hn0 hkeys
  go_enter Tryz.func26, Tryz.ntmps26
  go_wp2_with (first | (go_at_call 24; (with_reducible refine (HO.out _).mono ?_); rintro e w1 ⟨⟨cs, rfl, hk⟩, hb⟩; have BK := Aside0.mk (blk_below (g := w.heap.size) (o := .cells zStepC 34 (0, 0)) (by repeat (first | exact blk_at_new _ _ _ (by simp; done) | exact blk_at_new _ _ _ rfl | refine blk_alloc ?_ _ | refine blk_drew ?_ | refine blk_drewN ?_ _)) hb); have HBn := Aside0.mk (below_step (by repeat (first | (with_reducible first | exact HB.out | apply below_alloc | apply pw_below_drewN | apply below_drew1) | exact HB.out)) hb); clear HB; have HB := HBn; clear HBn; have HK := Aside0.mk hk; clear hb hk) | (refine wpList_store_K HK.out.now rfl 34 _ _ rfl w.heap.size rfl rfl 34 _ BK.out (by kernel_rfl) rfl ?_; intro w8 hbk hlow hfar; have HK2 := Aside0.mk (hfar _ _ (fun h => absurd (h (by simp <;> omega)).1 (by omega)) HK.out); clear BK; have BK := Aside0.mk hbk; have HL := Aside0.mk hlow; clear hbk hlow hfar))
  (try simp only [Exit.inBlock, Exit.then]); refine bodyPost_ret (results_cell_row rfl _ _ w.heap.size 34 _ (0, 0) _ rfl BK.out Tryz.underlying34 rfl (by rw [List.size_toArray, kStep.K_len HK.out.now]; kernel_rfl)) rfl ?_; exact ⟨⟨_, rfl, HK2.out.mono (fun k hk h3 => (hk (Nat.lt_of_lt_of_le h3 (by simp [Nat.add_assoc]))).2)⟩, HB.out.trans (HL.out _ (Nat.le_refl _))⟩
set_option maxRecDepth 100000 in
set_option maxHeartbeats 2000000 in
theorem rg_gats_bad (ws keys : List ByteArray) (A : Option Addr) (c : Nat) (used : Int) (F : Nat → Prop) (w : World) (hC : HolF F w (fun w2 => Kd.string.C w2 A ws.length ws)) (hc : ws.length ≤ c) (hs : ∀ k ∈ ws, k.size ≤ 1000000) (hl : ws.length ≤ 1000000) (h0 : ws.getD 0 ⟨#[]⟩ = (⟨#[103, 97, 116, 115]⟩ : ByteArray)) (hkeys : ws.drop 2 = keys) (hn : 2 < ws.length) (hk : keysS keys = false) :
    Calls Tryz.prog 26 #[.slice A ws.length c, .int .i64 used] w (StepR F w (stepF used badT)) := by
  obtain ⟨R, hR⟩ : ∃ R, (stepF used badT) = R := ⟨_, rfl⟩
  rw [hR]
  have HR := Aside0.mk hR
  have HB := Aside0.mk (Below.refl w.heap.size w)
  obtain ⟨b, o, rfl, hb0, hcell0⟩ := S_cell hC.now 0 (by omega)
  rw [h0, Nat.add_zero] at hcell0
  have hcc : (ws.length : Int) ≤ ↑c := by omega
  have hi0 : (0 : Int) < ↑ws.length := by omega
  have HOF : Aside0 (∀ (t : ByteArray), t.size ≤ 1000 → ∀ w', Calls Tryz.prog 24 #[.int .i64 used, .string t] w' (StepR (fun k => k < w.heap.size ∧ F k) w' (stepF used t))) := ⟨fun t ht w' => rfault_calls used t _ w' ht⟩
  have HO : Aside0 (∀ w', Calls Tryz.prog 24 #[.int .i64 used, .string (⟨#[67, 76, 73, 69, 78, 84, 95, 69, 82, 82, 79, 82, 32, 98, 97, 100, 32, 99, 111, 109, 109, 97, 110, 100, 32, 108, 105, 110, 101, 32, 102, 111, 114, 109, 97, 116]⟩ : ByteArray)] w' (StepR (fun k => k < w.heap.size ∧ F k) w' R)) := ⟨fun w' => by rw [← HR.out]; exact HOF.out _ (by decide) w'⟩
  have HBD : Aside0 (∀ w', Calls Tryz.prog 53 #[] w' fun e w'' => e = .returned (.string (⟨#[67, 76, 73, 69, 78, 84, 95, 69, 82, 82, 79, 82, 32, 98, 97, 100, 32, 99, 111, 109, 109, 97, 110, 100, 32, 108, 105, 110, 101, 32, 102, 111, 114, 109, 97, 116]⟩ : ByteArray)) ∧ Below w'.heap.size w' w'') := ⟨fun w' => bad_calls w'⟩
  have hwl : ws.length = keys.length + 2 := by rw [← hkeys, List.length_drop]; omega
  have hkn : keys.length ≠ 0 := by omega
  have hcn : ¬ (c = 2) := by omega
  have hKC : HolF F w (fun w2 => Kd.string.C w2 (some ⟨b, o + 2, none⟩) keys.length keys) := hC.imp (fun w2 h => by rw [← hkeys]; exact C_dropS h 2)
  have HKC := Aside0.mk hKC
  have hkc : keys.length ≤ c - 2 := by omega
  have HKY : Aside0 (∀ w', Below w.heap.size w w' → Calls Tryz.prog 52 #[.slice (some ⟨b, o + 2, none⟩) keys.length (c - 2)] w' fun e w'' => e = .returned (.bool (keysS keys)) ∧ Below w'.heap.size w' w'') := ⟨fun w' hb => rkeys_calls keys _ (c - 2) w' (Kd.C_below HKC.out.now hb) hkc (by omega) (fun k hk => hs k (by rw [← hkeys] at hk; exact List.mem_of_mem_drop hk))⟩
  rw [hk] at HKY
  have ha0 : (2 : Int) ≤ ↑keys.length + 2 := by omega
  have ha1 : (keys.length : Int) + 2 ≤ ↑c := by omega
  have ha2 : (0 : Int) < ↑keys.length := by omega
  have k0 : w.cell? ⟨b, o, none⟩ = some (.string (⟨#[103, 97, 116, 115]⟩ : ByteArray)) := hcell0
  clear hC h0 hs hcell0 hR HOF hn hkeys hk hKC hkn hkc hl
  go_enter Tryz.func26, Tryz.ntmps26
  go_wp2_with (first | (go_at_call 52; (with_reducible refine (HKY.out _ (by repeat (first | (with_reducible first | exact HB.out | apply below_alloc | apply pw_below_drewN | apply below_drew1) | exact HB.out))).mono ?_); rintro e w3 ⟨rfl, hb⟩; have BC := Aside0.mk (blk_below (g := w.heap.size + 1) (o := .cells (cmdC 1 0 ⟨#[]⟩).toArray 40 (0, 0)) (by repeat (first | exact blk_at_new _ _ _ (by simp; done) | exact blk_at_new _ _ _ rfl | refine blk_alloc ?_ _ | refine blk_drew ?_ | refine blk_drewN ?_ _)) hb); have BR := Aside0.mk (blk_below (g := w.heap.size) (o := .cells zStepC 34 (0, 0)) (by repeat (first | exact blk_at_new _ _ _ (by simp; done) | exact blk_at_new _ _ _ rfl | refine blk_alloc ?_ _ | refine blk_drew ?_ | refine blk_drewN ?_ _)) hb); have HBn := Aside0.mk (below_step (by repeat (first | (with_reducible first | exact HB.out | apply below_alloc | apply pw_below_drewN | apply below_drew1) | exact HB.out)) hb); clear HB; have HB := HBn; clear HBn; clear hb; have hcl : w.heap.size + 1 < w3.heap.size := blk_lt BC.out) | (go_at_call 53; (with_reducible refine (HBD.out _).mono ?_); rintro e w4 ⟨rfl, hb⟩; have BRn := Aside0.mk (blk_below BR.out hb); clear BR; have BR := BRn; clear BRn; have GLT := Aside0.mk (blk_lt BR.out); have HBn := Aside0.mk (below_step (by repeat (first | (with_reducible first | exact HB.out | apply below_alloc | apply pw_below_drewN | apply below_drew1) | exact HB.out)) hb); clear HB; have HB := HBn; clear HBn; clear hb) | (go_at_call 24; (with_reducible refine (HO.out _).mono ?_); rintro e w1 ⟨⟨cs, rfl, hk⟩, hb⟩; have BK := Aside0.mk (blk_below (BR.out) hb); have HBn := Aside0.mk (below_step (by repeat (first | (with_reducible first | exact HB.out | apply below_alloc | apply pw_below_drewN | apply below_drew1) | exact HB.out)) hb); clear HB; have HB := HBn; clear HBn; have HK := Aside0.mk hk; clear hb hk) | (refine wpList_store_K HK.out.now rfl 34 _ _ rfl w.heap.size rfl rfl 34 _ BK.out (by kernel_rfl) rfl ?_; intro w8 hbk hlow hfar; have HK2 := Aside0.mk (hfar _ _ (fun h => absurd (h GLT.out).1 (by omega)) HK.out); clear BK; have BK := Aside0.mk hbk; have HL := Aside0.mk hlow; clear hbk hlow hfar))
  (try simp only [Exit.inBlock, Exit.then]); refine bodyPost_ret (results_cell_row rfl _ _ w.heap.size 34 _ (0, 0) _ rfl BK.out Tryz.underlying34 rfl (by rw [List.size_toArray, kStep.K_len HK.out.now]; kernel_rfl)) rfl ?_; exact ⟨⟨_, rfl, HK2.out.mono (fun k hk h3 => (hk (Nat.lt_trans h3 GLT.out)).2)⟩, HB.out.trans (HL.out _ (Nat.le_refl _))⟩
set_option maxRecDepth 100000 in
set_option maxHeartbeats 2000000 in
theorem rg_gats_nan (ws keys : List ByteArray) (A : Option Addr) (c : Nat) (used : Int) (F : Nat → Prop) (w : World) (hC : HolF F w (fun w2 => Kd.string.C w2 A ws.length ws)) (hc : ws.length ≤ c) (hs : ∀ k ∈ ws, k.size ≤ 1000000) (hl : ws.length ≤ 1000000) (h0 : ws.getD 0 ⟨#[]⟩ = (⟨#[103, 97, 116, 115]⟩ : ByteArray)) (hkeys : ws.drop 2 = keys) (hn : 2 < ws.length) (hk : keysS keys = true) (v1 : ByteArray) (h1 : ws.getD 1 ⟨#[]⟩ = v1) (z : Int) (hz : sgnS v1 = (z, false)) :
    Calls Tryz.prog 26 #[.slice A ws.length c, .int .i64 used] w (StepR F w (stepF used badT)) := by
  obtain ⟨R, hR⟩ : ∃ R, (stepF used badT) = R := ⟨_, rfl⟩
  rw [hR]
  have HR := Aside0.mk hR
  have HB := Aside0.mk (Below.refl w.heap.size w)
  obtain ⟨b, o, rfl, hb0, hcell0⟩ := S_cell hC.now 0 (by omega)
  rw [h0, Nat.add_zero] at hcell0
  have hcc : (ws.length : Int) ≤ ↑c := by omega
  have hi0 : (0 : Int) < ↑ws.length := by omega
  have HOF : Aside0 (∀ (t : ByteArray), t.size ≤ 1000 → ∀ w', Calls Tryz.prog 24 #[.int .i64 used, .string t] w' (StepR (fun k => k < w.heap.size ∧ F k) w' (stepF used t))) := ⟨fun t ht w' => rfault_calls used t _ w' ht⟩
  have HO : Aside0 (∀ w', Calls Tryz.prog 24 #[.int .i64 used, .string (⟨#[67, 76, 73, 69, 78, 84, 95, 69, 82, 82, 79, 82, 32, 98, 97, 100, 32, 99, 111, 109, 109, 97, 110, 100, 32, 108, 105, 110, 101, 32, 102, 111, 114, 109, 97, 116]⟩ : ByteArray)] w' (StepR (fun k => k < w.heap.size ∧ F k) w' R)) := ⟨fun w' => by rw [← HR.out]; exact HOF.out _ (by decide) w'⟩
  have HBD : Aside0 (∀ w', Calls Tryz.prog 53 #[] w' fun e w'' => e = .returned (.string (⟨#[67, 76, 73, 69, 78, 84, 95, 69, 82, 82, 79, 82, 32, 98, 97, 100, 32, 99, 111, 109, 109, 97, 110, 100, 32, 108, 105, 110, 101, 32, 102, 111, 114, 109, 97, 116]⟩ : ByteArray)) ∧ Below w'.heap.size w' w'') := ⟨fun w' => bad_calls w'⟩
  obtain ⟨b', o', e', -, hcell1⟩ := S_cell hC.now 1 (by omega)
  obtain ⟨rfl, rfl⟩ : b = b' ∧ o = o' := by simpa using e'
  rw [h1] at hcell1
  have HC1 := Aside0.mk hcell1
  have HSG := Aside0.mk (fun w => rsgn_w v1 w (by rw [← h1, List.getD_eq_getElem?_getD, List.getElem?_eq_getElem (show 1 < ws.length by omega)]; exact hs _ (List.getElem_mem _)))
  rw [hz] at HSG
  have hwl : ws.length = keys.length + 2 := by rw [← hkeys, List.length_drop]; omega
  have hkn : keys.length ≠ 0 := by omega
  have hcn : ¬ (c = 2) := by omega
  have hKC : HolF F w (fun w2 => Kd.string.C w2 (some ⟨b, o + 2, none⟩) keys.length keys) := hC.imp (fun w2 h => by rw [← hkeys]; exact C_dropS h 2)
  have HKC := Aside0.mk hKC
  have hkc : keys.length ≤ c - 2 := by omega
  have HKY : Aside0 (∀ w', Below w.heap.size w w' → Calls Tryz.prog 52 #[.slice (some ⟨b, o + 2, none⟩) keys.length (c - 2)] w' fun e w'' => e = .returned (.bool (keysS keys)) ∧ Below w'.heap.size w' w'') := ⟨fun w' hb => rkeys_calls keys _ (c - 2) w' (Kd.C_below HKC.out.now hb) hkc (by omega) (fun k hk => hs k (by rw [← hkeys] at hk; exact List.mem_of_mem_drop hk))⟩
  rw [hk] at HKY
  have ha0 : (2 : Int) ≤ ↑keys.length + 2 := by omega
  have ha1 : (keys.length : Int) + 2 ≤ ↑c := by omega
  have ha2 : (0 : Int) < ↑keys.length := by omega
  have k0 : w.cell? ⟨b, o, none⟩ = some (.string (⟨#[103, 97, 116, 115]⟩ : ByteArray)) := hcell0
  clear hC h0 hs hcell0 hR HOF hn hkeys hk hKC hkn hkc hl hcell1 h1 hz e'
  go_enter Tryz.func26, Tryz.ntmps26
  go_wp2_with (first | (go_at_call 52; (with_reducible refine (HKY.out _ (by repeat (first | (with_reducible first | exact HB.out | apply below_alloc | apply pw_below_drewN | apply below_drew1) | exact HB.out))).mono ?_); rintro e w3 ⟨rfl, hb⟩; have BC := Aside0.mk (blk_below (g := w.heap.size + 1) (o := .cells (cmdC 1 0 ⟨#[]⟩).toArray 40 (0, 0)) (by repeat (first | exact blk_at_new _ _ _ (by simp; done) | exact blk_at_new _ _ _ rfl | refine blk_alloc ?_ _ | refine blk_drew ?_ | refine blk_drewN ?_ _)) hb); have BR := Aside0.mk (blk_below (g := w.heap.size) (o := .cells zStepC 34 (0, 0)) (by repeat (first | exact blk_at_new _ _ _ (by simp; done) | exact blk_at_new _ _ _ rfl | refine blk_alloc ?_ _ | refine blk_drew ?_ | refine blk_drewN ?_ _)) hb); have HBn := Aside0.mk (below_step (by repeat (first | (with_reducible first | exact HB.out | apply below_alloc | apply pw_below_drewN | apply below_drew1) | exact HB.out)) hb); clear HB; have HB := HBn; clear HBn; clear hb; have hcl : w.heap.size + 1 < w3.heap.size := blk_lt BC.out; have k1 : w3.cell? ⟨b, o + 1, none⟩ = some (.string v1) := (Below.cell HB.out (p := ⟨b, o + 1, none⟩) hb0).trans HC1.out) | (go_at_call 54; (with_reducible refine (HSG.out _).mono ?_); rintro e w5 ⟨rfl, hb⟩; have BCn := Aside0.mk (blk_below BC.out hb); have BRn := Aside0.mk (blk_below BR.out hb); clear BC BR k1; have BC := BCn; have BR := BRn; clear BCn BRn; have HBn := Aside0.mk (below_step (by repeat (first | (with_reducible first | exact HB.out | apply below_alloc | apply pw_below_drewN | apply below_drew1) | exact HB.out)) hb); clear HB; have HB := HBn; clear HBn; clear hb) | (go_at_call 53; (with_reducible refine (HBD.out _).mono ?_); rintro e w4 ⟨rfl, hb⟩; have BRn := Aside0.mk (blk_below BR.out hb); clear BR; have BR := BRn; clear BRn; have GLT := Aside0.mk (blk_lt BR.out); have HBn := Aside0.mk (below_step (by repeat (first | (with_reducible first | exact HB.out | apply below_alloc | apply pw_below_drewN | apply below_drew1) | exact HB.out)) hb); clear HB; have HB := HBn; clear HBn; clear hb) | (go_at_call 24; (with_reducible refine (HO.out _).mono ?_); rintro e w1 ⟨⟨cs, rfl, hk⟩, hb⟩; have BK := Aside0.mk (blk_below (BR.out) hb); have HBn := Aside0.mk (below_step (by repeat (first | (with_reducible first | exact HB.out | apply below_alloc | apply pw_below_drewN | apply below_drew1) | exact HB.out)) hb); clear HB; have HB := HBn; clear HBn; have HK := Aside0.mk hk; clear hb hk) | (refine wpList_store_K HK.out.now rfl 34 _ _ rfl w.heap.size rfl rfl 34 _ BK.out (by kernel_rfl) rfl ?_; intro w8 hbk hlow hfar; have HK2 := Aside0.mk (hfar _ _ (fun h => absurd (h GLT.out).1 (by omega)) HK.out); clear BK; have BK := Aside0.mk hbk; have HL := Aside0.mk hlow; clear hbk hlow hfar))
  (try simp only [Exit.inBlock, Exit.then]); refine bodyPost_ret (results_cell_row rfl _ _ w.heap.size 34 _ (0, 0) _ rfl BK.out Tryz.underlying34 rfl (by rw [List.size_toArray, kStep.K_len HK.out.now]; kernel_rfl)) rfl ?_; exact ⟨⟨_, rfl, HK2.out.mono (fun k hk h3 => (hk (Nat.lt_trans h3 GLT.out)).2)⟩, HB.out.trans (HL.out _ (Nat.le_refl _))⟩
set_option maxRecDepth 100000 in
set_option maxHeartbeats 2000000 in
theorem rg_gats_ok (ws keys : List ByteArray) (A : Option Addr) (c : Nat) (used : Int) (F : Nat → Prop) (w : World) (hC : HolF F w (fun w2 => Kd.string.C w2 A ws.length ws)) (hc : ws.length ≤ c) (hs : ∀ k ∈ ws, k.size ≤ 1000000) (hl : ws.length ≤ 1000000) (h0 : ws.getD 0 ⟨#[]⟩ = (⟨#[103, 97, 116, 115]⟩ : ByteArray)) (hkeys : ws.drop 2 = keys) (hn : 2 < ws.length) (hk : keysS keys = true) (v1 : ByteArray) (h1 : ws.getD 1 ⟨#[]⟩ = v1) (z : Int) (hz : sgnS v1 = (z, true)) :
    Calls Tryz.prog 26 #[.slice A ws.length c, .int .i64 used] w (StepR F w (stepG used (⟨#[103, 97, 116, 115]⟩ : ByteArray) 1 z keys)) := by
  obtain ⟨R, hR⟩ : ∃ R, (stepG used (⟨#[103, 97, 116, 115]⟩ : ByteArray) 1 z keys) = R := ⟨_, rfl⟩
  rw [hR]
  have HR := Aside0.mk hR
  have HB := Aside0.mk (Below.refl w.heap.size w)
  obtain ⟨b, o, rfl, hb0, hcell0⟩ := S_cell hC.now 0 (by omega)
  rw [h0, Nat.add_zero] at hcell0
  have hcc : (ws.length : Int) ≤ ↑c := by omega
  have hi0 : (0 : Int) < ↑ws.length := by omega
  have HOF : Aside0 (∀ (t : ByteArray), t.size ≤ 1000 → ∀ w', Calls Tryz.prog 24 #[.int .i64 used, .string t] w' (StepR (fun k => k < w.heap.size ∧ F k) w' (stepF used t))) := ⟨fun t ht w' => rfault_calls used t _ w' ht⟩
  obtain ⟨b', o', e', -, hcell1⟩ := S_cell hC.now 1 (by omega)
  obtain ⟨rfl, rfl⟩ : b = b' ∧ o = o' := by simpa using e'
  rw [h1] at hcell1
  have HC1 := Aside0.mk hcell1
  have HSG := Aside0.mk (fun w => rsgn_w v1 w (by rw [← h1, List.getD_eq_getElem?_getD, List.getElem?_eq_getElem (show 1 < ws.length by omega)]; exact hs _ (List.getElem_mem _)))
  rw [hz] at HSG
  have hwl : ws.length = keys.length + 2 := by rw [← hkeys, List.length_drop]; omega
  have hkn : keys.length ≠ 0 := by omega
  have hcn : ¬ (c = 2) := by omega
  have hKC : HolF F w (fun w2 => Kd.string.C w2 (some ⟨b, o + 2, none⟩) keys.length keys) := hC.imp (fun w2 h => by rw [← hkeys]; exact C_dropS h 2)
  have HKC := Aside0.mk hKC
  have hkc : keys.length ≤ c - 2 := by omega
  have HKY : Aside0 (∀ w', Below w.heap.size w w' → Calls Tryz.prog 52 #[.slice (some ⟨b, o + 2, none⟩) keys.length (c - 2)] w' fun e w'' => e = .returned (.bool (keysS keys)) ∧ Below w'.heap.size w' w'') := ⟨fun w' hb => rkeys_calls keys _ (c - 2) w' (Kd.C_below HKC.out.now hb) hkc (by omega) (fun k hk => hs k (by rw [← hkeys] at hk; exact List.mem_of_mem_drop hk))⟩
  rw [hk] at HKY
  have ha0 : (2 : Int) ≤ ↑keys.length + 2 := by omega
  have ha1 : (keys.length : Int) + 2 ≤ ↑c := by omega
  have ha2 : (0 : Int) < ↑keys.length := by omega
  have hl16 : keys.length ≤ 16 := by
    unfold keysS at hk
    rw [Bool.and_eq_true] at hk
    exact of_decide_eq_true hk.1
  have HWC := Aside0.mk hC.now
  have HKS := Aside0.mk hkeys
  have hend : endsS (⟨#[103, 97, 116, 115]⟩ : ByteArray) = true := by decide
  have HEND := Aside0.mk hend
  have k0 : w.cell? ⟨b, o, none⟩ = some (.string (⟨#[103, 97, 116, 115]⟩ : ByteArray)) := hcell0
  have HKCC := Aside0.mk hkc
  have HWL := Aside0.mk hwl
  clear hC h0 hs hcell0 hR HOF hn hkeys hk hKC hkn hkc hl hcell1 h1 hz e' hend
  go_enter Tryz.func26, Tryz.ntmps26
  go_wp2_with (first | (go_at_call 52; (with_reducible refine (HKY.out _ (by repeat (first | (with_reducible first | exact HB.out | apply below_alloc | apply pw_below_drewN | apply below_drew1) | exact HB.out))).mono ?_); rintro e w3 ⟨rfl, hb⟩; have BC := Aside0.mk (blk_below (g := w.heap.size + 1) (o := .cells (cmdC 1 0 ⟨#[]⟩).toArray 40 (0, 0)) (by repeat (first | exact blk_at_new _ _ _ (by simp; done) | exact blk_at_new _ _ _ rfl | refine blk_alloc ?_ _ | refine blk_drew ?_ | refine blk_drewN ?_ _)) hb); have BR := Aside0.mk (blk_below (g := w.heap.size) (o := .cells zStepC 34 (0, 0)) (by repeat (first | exact blk_at_new _ _ _ (by simp; done) | exact blk_at_new _ _ _ rfl | refine blk_alloc ?_ _ | refine blk_drew ?_ | refine blk_drewN ?_ _)) hb); have HBn := Aside0.mk (below_step (by repeat (first | (with_reducible first | exact HB.out | apply below_alloc | apply pw_below_drewN | apply below_drew1) | exact HB.out)) hb); clear HB; have HB := HBn; clear HBn; clear hb; have hcl : w.heap.size + 1 < w3.heap.size := blk_lt BC.out; have k1 : w3.cell? ⟨b, o + 1, none⟩ = some (.string v1) := (Below.cell HB.out (p := ⟨b, o + 1, none⟩) hb0).trans HC1.out) | (go_at_call 54; (with_reducible refine (HSG.out _).mono ?_); rintro e w5 ⟨rfl, hb⟩; have BCn := Aside0.mk (blk_below BC.out hb); have BRn := Aside0.mk (blk_below BR.out hb); clear BC BR k1; have BC := BCn; have BR := BRn; clear BCn BRn; have HBn := Aside0.mk (below_step (by repeat (first | (with_reducible first | exact HB.out | apply below_alloc | apply pw_below_drewN | apply below_drew1) | exact HB.out)) hb); clear HB; have HB := HBn; clear HBn; clear hb) | (refine wpList_store_1 rfl 3 _ _ rfl (w.heap.size + 1) 4 (.int .i64 z) rfl rfl rfl 40 _ (cmdC 1 z ⟨#[]⟩).toArray BC.out (by simp [cmdC]) (by kernel_rfl) rfl ?_; intro w6 hbk hst; have BC6 := Aside0.mk hbk; have BR6 := Aside0.mk (hst.blk BR.out (by omega)); have HB6 := Aside0.mk (hst.up HB.out (by omega)); clear hbk hst BC BR HB; have BC := BC6; have BR := BR6; have HB := HB6; clear BC6 BR6 HB6; have hcl6 : w.heap.size + 1 < w6.heap.size := blk_lt BC.out))
  go_loopw [12] (fun v wr => ∃ j : Nat, v = .int .i64 j ∧ 2 ≤ j ∧ j ≤ keys.length + 2 ∧ Aside0 (∃ V kk, wr.heap[w6.heap.size]? = some (.cells (reqC (V) (⟨#[103, 97, 116, 115]⟩ : ByteArray) true (some ⟨b, o + 2, none⟩) keys.length (c - 2)) 31 (0, 0)) ∧ wr.heap[w.heap.size + 1]? = some (.cells (cmdC 1 z kk).toArray 40 (0, 0)) ∧ wr.ownsRow (w6.heap.size + 1) 40 10 V (j - 2) (rowsC 1 z (keys.take (j - 2))) ∧ wr.heap[w.heap.size]? = some (.cells zStepC 34 (0, 0)) ∧ Below w.heap.size w wr)) (fun v _ => keys.length + 2 - (intOf v).toNat)
  case atStart => exact ⟨2, rfl, Nat.le_refl _, by omega, ⟨⟨_, _, blk_at_new _ _ _ rfl, blk_alloc BC.out _, by simp only [Nat.sub_self, List.take_zero]; exact World.ownsRow_nil _ _ _ _, blk_alloc BR.out _, below_alloc HB.out _⟩⟩⟩
  case round =>
    obtain ⟨j, rfl, hj1, hj2, HI⟩ := hrel
    obtain ⟨V, kk, hq, hc0, ho, hr0, hB⟩ := HI.out
    have BQ := Aside0.mk hq
    have BCr := Aside0.mk hc0
    have HOw := Aside0.mk ho
    have BRr := Aside0.mk hr0
    have HBr := Aside0.mk hB
    clear hq hc0 ho hr0 hB HI BC BR HB
    have BC := BCr
    have BR := BRr
    have HB := HBr
    clear BCr BRr HBr
    have hgr : w6.heap.size < wr.heap.size := blk_lt BQ.out
    by_cases hlt : j < keys.length + 2
    · obtain ⟨b', o', e', hbw, hcell⟩ := S_cell (Kd.C_below HWC.out HB.out) j (by have := HWL.out; omega)
      obtain ⟨rfl, rfl⟩ : b = b' ∧ o = o' := by simpa using e'
      have htk := take_dropS ws 2 j hj1 (by have := HWL.out; omega)
      rw [HKS.out] at htk
      obtain ⟨kv, hkv⟩ : ∃ v, ws.getD j ⟨#[]⟩ = v := ⟨_, rfl⟩
      rw [hkv] at hcell htk
      have HTK := Aside0.mk htk
      clear htk hkv e'
      have hjl : (j : Int) < ↑keys.length + 2 := by omega
      go_wp2_with (first | (refine wpList_store_1 rfl 9 _ _ rfl (w.heap.size + 1) 1 (.string kv) rfl rfl rfl 40 _ (cmdC 1 z kv).toArray BC.out (by simp [cmdC]) (by kernel_rfl) rfl ?_; intro x2 hbk hst; have BC2 := Aside0.mk hbk; have BQ2 := Aside0.mk (hst.blk BQ.out (by omega)); have BR2 := Aside0.mk (hst.blk BR.out (by omega)); have HO2 := Aside0.mk (hst.own HOw.out (by omega)); have HB2 := Aside0.mk (hst.up HB.out (by omega)); have hg2 : w6.heap.size < x2.heap.size := blk_lt BQ2.out; clear hbk hst; have e0 : x2.cell? ⟨w6.heap.size, 0, none⟩ = some V := (blk_cell BQ2.out 0).trans rfl; have d0 : x2.cell? ⟨w.heap.size + 1, 0, none⟩ = some (.int .i64 1) := (blk_cell BC2.out 0).trans rfl; have d1 : x2.cell? ⟨w.heap.size + 1, 1, none⟩ = some (.string kv) := (blk_cell BC2.out 1).trans rfl; have d2 : x2.cell? ⟨w.heap.size + 1, 2, none⟩ = some (.slice none 0 0) := (blk_cell BC2.out 2).trans rfl; have d3 : x2.cell? ⟨w.heap.size + 1, 3, none⟩ = some (.int .u32 0) := (blk_cell BC2.out 3).trans rfl; have d4 : x2.cell? ⟨w.heap.size + 1, 4, none⟩ = some (.int .i64 z) := (blk_cell BC2.out 4).trans rfl; have d5 : x2.cell? ⟨w.heap.size + 1, 5, none⟩ = some (.int .u64 0) := (blk_cell BC2.out 5).trans rfl; have d6 : x2.cell? ⟨w.heap.size + 1, 6, none⟩ = some (.int .u64 0) := (blk_cell BC2.out 6).trans rfl; have d7 : x2.cell? ⟨w.heap.size + 1, 7, none⟩ = some (.int .u64 0) := (blk_cell BC2.out 7).trans rfl; have d8 : x2.cell? ⟨w.heap.size + 1, 8, none⟩ = some (.bool false) := (blk_cell BC2.out 8).trans rfl; have d9 : x2.cell? ⟨w.heap.size + 1, 9, none⟩ = some (.bool false) := (blk_cell BC2.out 9).trans rfl) | ((with_reducible refine gate_builtin (b := .append) (xs := #[.tmp 80, .tmp 82]) rfl ?_); at_builtin; refine print_append_cells (w0 := x2) (W := x2) (w6.heap.size + 1) rfl (.tmp 80) (.tmp 82) 25 40 _ 10 96 rfl Tryz.underlying25 info40 rfl (by decide) (by decide) V (j - 2) (rowsC 1 z (keys.take (j - 2))) (cmdC 1 z kv) rfl rfl rfl (cmdC_one _ _ _) HO2.out (Below.refl _ _) (by omega) (by omega) ?_; intro v1' x3 ho3 hb3 hg3 hat3; have BQ3 := Aside0.mk (blk_grown BQ2.out hg3 (own_apart HO2.out (by omega))); have BC3 := Aside0.mk (blk_grown BC2.out hg3 (own_apart HO2.out (by omega))); have BR3 := Aside0.mk (blk_grown BR2.out hg3 (own_apart HO2.out (by omega))); have HO3 := Aside0.mk ho3; have HB3 := Aside0.mk (HB2.out.trans (hb3.mono (by omega))); clear ho3 hb3 hg3 hat3) | (refine wpList_store_1 rfl 25 _ _ rfl (w6.heap.size) 0 v1' rfl rfl (own_one HO3.out) 31 _ (reqC (v1') (⟨#[103, 97, 116, 115]⟩ : ByteArray) true (some ⟨b, o + 2, none⟩) keys.length (c - 2)) BQ3.out (by simp [reqC]) (by kernel_rfl) rfl ?_; intro x4 hbk hst; have BQ4 := Aside0.mk hbk; have BC4 := Aside0.mk (hst.blk BC3.out (by omega)); have BR4 := Aside0.mk (hst.blk BR3.out (by omega)); have HO4 := Aside0.mk (hst.own HO3.out (by omega)); have HB4 := Aside0.mk (hst.up HB3.out (by omega)); clear hbk hst))
      go_round
      case rel => exact ⟨j + 1, by first | rfl | simp, by omega, by omega, ⟨⟨v1', kv, BQ4.out, BC4.out, by rw [HTK.out, rowsC_snoc, show j + 1 - 2 = j - 2 + 1 by omega]; exact HO4.out, BR4.out, HB4.out⟩⟩⟩
      case measure => simp [intOf]; omega
    · obtain rfl : j = keys.length + 2 := by omega
      have HO1 := HOw.out
      rw [Nat.add_sub_cancel, List.take_of_length_le (Nat.le_refl _)] at HO1
      obtain ⟨A', c', rfl, hc', -⟩ := own_C HO1
      have HO2 := Aside0.mk HO1
      clear HO1 HOw
      have e0 : wr.cell? ⟨w6.heap.size, 0, none⟩ = some (.slice A' keys.length c') := (blk_cell BQ.out 0).trans rfl; have e1 : wr.cell? ⟨w6.heap.size, 1, none⟩ = some (.int .i64 1) := (blk_cell BQ.out 1).trans rfl; have e2 : wr.cell? ⟨w6.heap.size, 2, none⟩ = some (.string (⟨#[103, 97, 116, 115]⟩ : ByteArray)) := (blk_cell BQ.out 2).trans rfl; have e3 : wr.cell? ⟨w6.heap.size, 3, none⟩ = some (.int .i64 0) := (blk_cell BQ.out 3).trans rfl; have e4 : wr.cell? ⟨w6.heap.size, 4, none⟩ = some (.int .u32 0) := (blk_cell BQ.out 4).trans rfl; have e5 : wr.cell? ⟨w6.heap.size, 5, none⟩ = some (.bool false) := (blk_cell BQ.out 5).trans rfl; have e6 : wr.cell? ⟨w6.heap.size, 6, none⟩ = some (.bool true) := (blk_cell BQ.out 6).trans rfl; have e7 : wr.cell? ⟨w6.heap.size, 7, none⟩ = some (.string ⟨#[]⟩) := (blk_cell BQ.out 7).trans rfl; have e8 : wr.cell? ⟨w6.heap.size, 8, none⟩ = some (.slice none 0 0) := (blk_cell BQ.out 8).trans rfl; have e9 : wr.cell? ⟨w6.heap.size, 9, none⟩ = some (.slice (some ⟨b, o + 2, none⟩) keys.length (c - 2)) := (blk_cell BQ.out 9).trans rfl; have e10 : wr.cell? ⟨w6.heap.size, 10, none⟩ = some (.bool false) := (blk_cell BQ.out 10).trans rfl
      go_wp2_with (first | (refine wpList_store_F rfl 34 _ _ rfl w.heap.size 0 _ rfl rfl (by simp [Value.oneCell']) 34 _ _ BR.out (by simp [zStepC]) (by kernel_rfl) rfl ?_; intro w9 hbk hst; have BR9 := Aside0.mk hbk; have HO9 := Aside0.mk (hst.own HO2.out (by omega)); have HB9 := Aside0.mk (hst.up HB.out (Nat.le_refl _)); clear hbk hst))
      (try simp only [Exit.inBlock, Exit.then]); refine bodyPost_ret (results_cell_row rfl _ _ w.heap.size 34 _ (0, 0) _ rfl BR9.out Tryz.underlying34 rfl (by kernel_rfl)) rfl ?_
      have := stepG_R (F := F) (used := used) (verb := (⟨#[103, 97, 116, 115]⟩ : ByteArray)) (own_weaken HO9.out (by omega)) HB9.out HKC.out HKCC.out
      unfold stepGC at this
      rw [HEND.out, HR.out] at this
      exact this
end Go.Proofs.YtfljijpkeckeaaaGreatDoor.X
namespace Go.Proofs.YtfljijpkeckeaaaGreatDoor.X
open Go.RowKit Go.Proofs.YtfljijpkeckeaaaGreatDoorW.PrintWords Go.Proofs.YtfljijpkeckeaaaGreatDoorW.PrintMore
set_option linter.unusedVariables false
set_option linter.unusedSimpArgs false
theorem kd_bad {v k : ByteArray} {q : Bool} {used op exp delta : Int} {words : List ByteArray} {many : Nat} {wrong : ByteArray} (hn : words.length = many) (h0 : words.getD 0 ⟨#[]⟩ = k) (hk : keyS k = false) : keyedSt v q used words many op exp delta wrong = stepF used badT := by
  unfold keyedSt
  rw [if_neg (fun h => h hn), h0, if_pos hk]
theorem kd_wrong {v k : ByteArray} {q : Bool} {used op exp delta : Int} {words : List ByteArray} {many : Nat} {wrong : ByteArray} (hn : words.length = many) (h0 : words.getD 0 ⟨#[]⟩ = k) (hk : keyS k = true) (hw : wrong.size ≠ 0) : keyedSt v q used words many op exp delta wrong = stepF used wrong := by
  unfold keyedSt
  rw [if_neg (fun h => h hn), h0, if_neg (by rw [hk]; decide), if_pos hw]
theorem kd_ok {v k : ByteArray} {q : Bool} {used op exp delta : Int} {words : List ByteArray} {many : Nat} (hn : words.length = many) (h0 : words.getD 0 ⟨#[]⟩ = k) (hk : keyS k = true) : keyedSt v q used words many op exp delta ⟨#[]⟩ = stepO used (formT v q [k]) (cmdK op exp delta k) := by
  unfold keyedSt
  rw [if_neg (fun h => h hn), h0, if_neg (by rw [hk]; decide), if_neg (by decide)]
theorem sgn0 : sgnS (⟨#[48]⟩ : ByteArray) = (0, true) := by decide
end Go.Proofs.YtfljijpkeckeaaaGreatDoor.X
