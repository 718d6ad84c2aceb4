/- Texts of this work, merged in build order: RParse, ParseT, ParseC, Steps, Pl2, Pl3, LawA, LawM, LawM2, LawP, Opens, Open32. -/
import Derived.Test.YtfljijpkeckeaaaGreatDoorY7
import Derived.Laws.CopyOwn
import Derived.Deep.DeepCutAuto
import Derived.Deep.MidRow
import Derived.ChangeArms
import Derived.Deep.Slices
namespace Go.Proofs.YtfljijpkeckeaaaGreatDoor.X
open Go.RowKit Go.Proofs.YtfljijpkeckeaaaGreatDoorW.PrintWords Go.Proofs.YtfljijpkeckeaaaGreatDoorW.PrintMore
set_option linter.unusedVariables false
set_option linter.unusedSimpArgs false
theorem rfault_ex2 (used : Int) (reply : ByteArray) (w : World) (hr : reply.size ≤ 1000) : Calls Tryz.prog 24 #[.int .i64 used, .string reply] w fun e w' => e = .returned (.agg (stepFC used reply 0 false).toArray) ∧ Below w.heap.size w w' := by
  have HB := Aside0.mk (Below.refl w.heap.size w)
  go_enter Tryz.func24, Tryz.ntmps24
  go_wp2
  ((try simp only [Exit.inBlock, Exit.then]); refine bodyPost_ret (results_cell_row rfl _ _ (w.heap.size) 34 _ (0, 0) _ rfl (by repeat (first | exact blk_at_new _ _ _ (by simp; done) | exact blk_at_new _ _ _ rfl | refine blk_alloc ?_ _ | refine blk_drew ?_ | refine blk_drewN ?_ _)) Tryz.underlying34 rfl (by kernel_rfl)) rfl ?_)
  exact ⟨rfl, (by repeat (first | (with_reducible first | exact HB.out | apply below_alloc | apply pw_below_drewN | apply below_drew1) | exact HB.out))⟩
set_option maxRecDepth 100000 in
set_option maxHeartbeats 1000000 in
theorem rp_more (l : List Int) (A : Option Addr) (c : Nat) (F : Nat → Prop) (w : World) (hC : (Kd.int .u8).C w A l.length l) (hc : l.length ≤ c) (hl : l.length ≤ 1000000) (he : lineS l = (⟨#[]⟩, 0, 3)) :
    Calls Tryz.prog 13 #[.slice A l.length c] w (StepR F w stepM) := by
  have HB := Aside0.mk (Below.refl w.heap.size w)
  have HC := Aside0.mk hC
  have HLN : Aside0 (∀ w', Below w.heap.size w w' → Calls Tryz.prog 23 #[.slice A l.length c] w' fun e w'' => e = .returned (.tuple #[.string ⟨#[]⟩, .int .i64 0, .int .i64 3]) ∧ Below w'.heap.size w' w'') := ⟨fun w' hb => by
    have := rline_calls l A c w' (Kd.C_below HC.out hb) hc hl
    rw [he] at this
    exact this⟩
  clear hC he
  go_enter Tryz.func13, Tryz.ntmps13
  go_wp2_with (first | (go_at_call 23; (with_reducible refine (HLN.out _ (by repeat (first | (with_reducible first | exact HB.out | apply below_alloc | apply pw_below_drewN | apply below_drew1) | exact HB.out))).mono ?_); rintro e w1 ⟨rfl, hb⟩; have BR := Aside0.mk (blk_below (g := w.heap.size) (o := .cells zStepC 34 (0, 0)) (by repeat (first | exact blk_at_new _ _ _ (by simp; done) | exact blk_at_new _ _ _ rfl | refine blk_alloc ?_ _ | refine blk_drew ?_ | refine blk_drewN ?_ _)) hb); have HBn := Aside0.mk (below_step (by repeat (first | (with_reducible first | exact HB.out | apply below_alloc | apply pw_below_drewN | apply below_drew1) | exact HB.out)) hb); clear HB; have HB := HBn; clear HBn; clear hb; have hr1 : w.heap.size < w1.heap.size := blk_lt BR.out) | (refine wpList_store_F rfl 34 _ _ rfl w.heap.size 0 stepMC rfl rfl (by simp [stepMC, Value.oneCell']) 34 _ _ BR.out (by simp [zStepC, stepMC]) (by kernel_rfl) rfl ?_; intro w8 hbk hst; have BR8 := Aside0.mk hbk; have HB8 := Aside0.mk (hst.up HB.out (Nat.le_refl _)); clear hbk hst))
  ((try simp only [Exit.inBlock, Exit.then]); refine bodyPost_ret (results_cell_row rfl _ _ w.heap.size 34 _ (0, 0) _ rfl BR8.out Tryz.underlying34 rfl (by kernel_rfl)) rfl ?_)
  exact ⟨⟨_, rfl, fun w2 _ _ => stepM_K w2⟩, HB8.out⟩
set_option maxRecDepth 100000 in
set_option maxHeartbeats 1000000 in
theorem rp_long (l : List Int) (A : Option Addr) (c m : Nat) (F : Nat → Prop) (w : World) (hC : (Kd.int .u8).C w A l.length l) (hc : l.length ≤ c) (hl : l.length ≤ 1000000) (he : lineS l = (⟨#[]⟩, (m : Int) + 1, 4)) (hm : m < l.length) :
    Calls Tryz.prog 13 #[.slice A l.length c] w (StepR F w (stepFS ((m : Int) + 1) longT 0 (l.getD m 0 != 10))) := by
  have HB := Aside0.mk (Below.refl w.heap.size w)
  have HC := Aside0.mk hC
  have HLN : Aside0 (∀ w', Below w.heap.size w w' → Calls Tryz.prog 23 #[.slice A l.length c] w' fun e w'' => e = .returned (.tuple #[.string ⟨#[]⟩, .int .i64 ((m : Int) + 1), .int .i64 4]) ∧ Below w'.heap.size w' w'') := ⟨fun w' hb => by
    have := rline_calls l A c w' (Kd.C_below HC.out hb) hc hl
    rw [he] at this
    exact this⟩
  obtain ⟨b, o, rfl, hb0, hcell⟩ := C_cell hC m hm
  obtain ⟨z, hz⟩ : ∃ z, l.getD m 0 = z := ⟨_, rfl⟩
  rw [hz] at hcell ⊢
  have HCL := Aside0.mk hcell
  obtain ⟨q, hq⟩ : ∃ q, (z != 10) = q := ⟨_, rfl⟩
  rw [hq]
  have HOL : Aside0 (∀ w', Calls Tryz.prog 24 #[.int .i64 ((m : Int) + 1), .string (⟨#[67, 76, 73, 69, 78, 84, 95, 69, 82, 82, 79, 82, 32, 108, 105, 110, 101, 32, 116, 111, 111, 32, 108, 111, 110, 103]⟩ : ByteArray)] w' fun e w'' => e = .returned (.agg (stepFC ((m : Int) + 1) longT 0 false).toArray) ∧ Below w'.heap.size w' w'') := ⟨fun w' => rfault_ex2 ((m : Int) + 1) longT w' (by decide)⟩
  clear hC he hz hcell
  have hi0 : (0 : Int) ≤ ↑m + 1 := by omega
  have hi1 : (m : Int) + 1 ≤ ↑l.length := by omega
  have hi2 : (m : Int) < ↑l.length := by omega
  have hi3 : (l.length : Int) ≤ ↑c := by omega
  have hi4 : (0 : Int) ≤ ↑m := by omega
  go_enter Tryz.func13, Tryz.ntmps13
  go_wp2_with (first | (go_at_call 23; (with_reducible refine (HLN.out _ (by repeat (first | (with_reducible first | exact HB.out | apply below_alloc | apply pw_below_drewN | apply below_drew1) | exact HB.out))).mono ?_); rintro e w1 ⟨rfl, hb⟩; have BR := Aside0.mk (blk_below (g := w.heap.size) (o := .cells zStepC 34 (0, 0)) (by repeat (first | exact blk_at_new _ _ _ (by simp; done) | exact blk_at_new _ _ _ rfl | refine blk_alloc ?_ _ | refine blk_drew ?_ | refine blk_drewN ?_ _)) hb); have HBn := Aside0.mk (below_step (by repeat (first | (with_reducible first | exact HB.out | apply below_alloc | apply pw_below_drewN | apply below_drew1) | exact HB.out)) hb); clear HB; have HB := HBn; clear HBn; clear hb; have hr1 : w.heap.size < w1.heap.size := blk_lt BR.out) | (go_at_call 24; (with_reducible refine (HOL.out _).mono ?_); rintro e w3 ⟨rfl, hb⟩; unfold stepFC; have BR3 := Aside0.mk (blk_below BR.out hb); have HBn := Aside0.mk (below_step (by repeat (first | (with_reducible first | exact HB.out | apply below_alloc | apply pw_below_drewN | apply below_drew1) | exact HB.out)) hb); clear HB; have HB := HBn; clear HBn; clear hb; have hr3 : w.heap.size < w3.heap.size := blk_lt BR3.out; have hb3 : b < w3.heap.size := Nat.lt_of_lt_of_le hb0 HB.out.size; have t5 : w3.cell? ⟨b, o + m, none⟩ = some (.int .u8 z) := (Below.cell HB.out (p := ⟨b, o + m, none⟩) hb0).trans HCL.out) | (refine wpList_store_1 rfl 4 _ _ rfl w3.heap.size 14 (.bool q) rfl rfl rfl 34 _ (stepFC ((m : Int) + 1) longT 0 q).toArray (blk_at_new _ _ _ rfl) (by simp) (by kernel_rfl) rfl ?_; intro w4 hbk hst; have BS4 := Aside0.mk hbk; have BR4 := Aside0.mk (hst.blk (blk_alloc BR3.out _) (by omega)); have HB4 := Aside0.mk (hst.up (by repeat (first | (with_reducible first | exact HB.out | apply below_alloc | apply pw_below_drewN | apply below_drew1) | exact HB.out)) (by omega)); clear hbk hst HB; have HB := HB4; clear HB4) | (refine wpList_load_row rfl 34 _ rfl (w3.heap.size) rfl 34 _ (0, 0) _ BS4.out Tryz.underlying34 rfl (by kernel_rfl) ?_) | (refine wpList_store_F rfl 34 _ _ rfl w.heap.size 0 (stepFC ((m : Int) + 1) longT 0 q) rfl rfl (by simp [stepFC, Value.oneCell']) 34 _ (stepFC ((m : Int) + 1) longT 0 q).toArray BR4.out (by simp [zStepC, stepFC]) (by kernel_rfl) rfl ?_; intro w8 hbk hst; have BR8 := Aside0.mk hbk; have HB8 := Aside0.mk (hst.up HB.out (Nat.le_refl _)); clear hbk hst))
  ((try simp only [Exit.inBlock, Exit.then]); refine bodyPost_ret (results_cell_row rfl _ _ w.heap.size 34 _ (0, 0) _ rfl BR8.out Tryz.underlying34 rfl (by kernel_rfl)) rfl ?_)
  exact ⟨⟨_, rfl, fun w2 _ _ => stepFS_K w2 ((m : Int) + 1) longT 0 q⟩, HB8.out⟩
set_option maxRecDepth 100000 in
set_option maxHeartbeats 1000000 in
theorem rp_nil (l : List Int) (A : Option Addr) (c m : Nat) (t : ByteArray) (W : List ByteArray) (F : Nat → Prop) (w : World) (hC : (Kd.int .u8).C w A l.length l) (hc : l.length ≤ c) (hl : l.length ≤ 1000000) (he : lineS l = (t, (m : Int) + 1, 0)) (hm : m < l.length) (ht : t.size ≤ 2048) (hW : wordsB t = W) (h0 : W.length = 0) :
    Calls Tryz.prog 13 #[.slice A l.length c] w (StepR F w (stepF ((m : Int) + 1) (⟨#[69, 82, 82, 79, 82]⟩ : ByteArray))) := by
  have HB := Aside0.mk (Below.refl w.heap.size w)
  have HC := Aside0.mk hC; have HLN : Aside0 (∀ w', Below w.heap.size w w' → Calls Tryz.prog 23 #[.slice A l.length c] w' fun e w'' => e = .returned (.tuple #[.string t, .int .i64 ((m : Int) + 1), .int .i64 0]) ∧ Below w'.heap.size w' w'') := ⟨fun w' hb => (by have := rline_calls l A c w' (Kd.C_below HC.out hb) hc hl; rw [he] at this; exact this)⟩
  have HWD : Aside0 (∀ w', Calls Tryz.prog 25 #[.string t] w' fun e w'' => ∃ v, e = .returned v ∧ RowS w'.heap.size W w'' v ∧ Below w'.heap.size w' w'') := ⟨fun w' => (by have := rwords_w t (by omega) w'; rw [hW] at this; exact this)⟩
  have HOE : Aside0 (∀ w', Calls Tryz.prog 24 #[.int .i64 ((m : Int) + 1), .string (⟨#[69, 82, 82, 79, 82]⟩ : ByteArray)] w' fun e w'' => e = .returned (.agg (stepFC ((m : Int) + 1) (⟨#[69, 82, 82, 79, 82]⟩ : ByteArray) 0 false).toArray) ∧ Below w'.heap.size w' w'') := ⟨fun w' => rfault_ex2 ((m : Int) + 1) _ w' (by decide)⟩
  clear hC he hW
  have hn0 : (W.length : Int) = 0 := by omega
  have H0 := Aside0.mk h0
  clear h0
  go_enter Tryz.func13, Tryz.ntmps13
  go_wp2_with (first | (go_at_call 23; (with_reducible refine (HLN.out _ (by repeat (first | (with_reducible first | exact HB.out | apply below_alloc | apply pw_below_drewN | apply below_drew1) | exact HB.out))).mono ?_); rintro e w1 ⟨rfl, hb⟩; have BR := Aside0.mk (blk_below (g := w.heap.size) (o := .cells zStepC 34 (0, 0)) (by repeat (first | exact blk_at_new _ _ _ (by simp; done) | exact blk_at_new _ _ _ rfl | refine blk_alloc ?_ _ | refine blk_drew ?_ | refine blk_drewN ?_ _)) hb); have HBn := Aside0.mk (below_step (by repeat (first | (with_reducible first | exact HB.out | apply below_alloc | apply pw_below_drewN | apply below_drew1) | exact HB.out)) hb); clear HB; have HB := HBn; clear HBn; clear hb; have hr1 : w.heap.size < w1.heap.size := blk_lt BR.out) | (go_at_call 25; (with_reducible refine (HWD.out _).mono ?_); rintro e w2 ⟨V, rfl, hrow, hb⟩; have BR2 := Aside0.mk (blk_below BR.out hb); have HRW := Aside0.mk hrow; have HBn := Aside0.mk (below_step (by repeat (first | (with_reducible first | exact HB.out | apply below_alloc | apply pw_below_drewN | apply below_drew1) | exact HB.out)) hb); clear HB; have HB := HBn; clear HBn; clear hrow hb BR; have BR := BR2; clear BR2; obtain ⟨A1, c1, rfl, hc1, -⟩ := HRW.out.read) | (go_at_call 24; (with_reducible refine (HOE.out _).mono ?_); rintro e w3 ⟨rfl, hb⟩; unfold stepFC; have BR3 := Aside0.mk (blk_below BR.out hb); have HBn := Aside0.mk (below_step (by repeat (first | (with_reducible first | exact HB.out | apply below_alloc | apply pw_below_drewN | apply below_drew1) | exact HB.out)) hb); clear HB; have HB := HBn; clear HBn; clear hb) | (refine wpList_store_F rfl 34 _ _ rfl w.heap.size 0 (stepFC ((m : Int) + 1) (⟨#[69, 82, 82, 79, 82]⟩ : ByteArray) 0 false) rfl rfl (by simp [stepFC, Value.oneCell']) 34 _ (stepFC ((m : Int) + 1) (⟨#[69, 82, 82, 79, 82]⟩ : ByteArray) 0 false).toArray BR3.out (by simp [zStepC, stepFC]) (by kernel_rfl) rfl ?_; intro w8 hbk hst; have BR8 := Aside0.mk hbk; have HB8 := Aside0.mk (hst.up HB.out (Nat.le_refl _)); clear hbk hst))
  ((try simp only [Exit.inBlock, Exit.then]); refine bodyPost_ret (results_cell_row rfl _ _ w.heap.size 34 _ (0, 0) _ rfl BR8.out Tryz.underlying34 rfl (by kernel_rfl)) rfl ?_)
  exact ⟨⟨_, rfl, fun w2 _ _ => stepFS_K w2 ((m : Int) + 1) (⟨#[69, 82, 82, 79, 82]⟩ : ByteArray) 0 false⟩, HB8.out⟩
set_option maxRecDepth 100000 in
set_option maxHeartbeats 1000000 in
theorem rp_get (l : List Int) (A : Option Addr) (c m : Nat) (t : ByteArray) (W : List ByteArray) (F : Nat → Prop) (w : World) (hC : (Kd.int .u8).C w A l.length l) (hc : l.length ≤ c) (hl : l.length ≤ 1000000) (he : lineS l = (t, (m : Int) + 1, 0)) (hm : m < l.length) (ht : t.size ≤ 2048) (hW : wordsB t = W) (v : ByteArray) (hp : 0 < W.length) (hv : W.getD 0 ⟨#[]⟩ = v) (q1 q2 q3 q4 : Bool) (hq1 : (v.toList == [103, 101, 116]) = q1) (hq2 : (v.toList == [103, 101, 116, 115]) = q2) (hq3 : (v.toList == [103, 97, 116]) = q3) (hq4 : (v.toList == [103, 97, 116, 115]) = q4) (hq : q1 = true ∨ q2 = true ∨ q3 = true ∨ q4 = true) (R : Step)
    (hg : ∀ (A1 : Option Addr) (c1 : Nat) (w' : World), HolF (fun k => k ≠ w.heap.size ∧ (k < w.heap.size → F k)) w' (fun w2 => Kd.string.C w2 A1 W.length W) → W.length ≤ c1 → Calls Tryz.prog 26 #[.slice A1 W.length c1, .int .i64 ((m : Int) + 1)] w' (StepR (fun k => k ≠ w.heap.size ∧ (k < w.heap.size → F k)) w' R)) :
    Calls Tryz.prog 13 #[.slice A l.length c] w (StepR F w R) := by
  have HB := Aside0.mk (Below.refl w.heap.size w)
  have HC := Aside0.mk hC; have HLN : Aside0 (∀ w', Below w.heap.size w w' → Calls Tryz.prog 23 #[.slice A l.length c] w' fun e w'' => e = .returned (.tuple #[.string t, .int .i64 ((m : Int) + 1), .int .i64 0]) ∧ Below w'.heap.size w' w'') := ⟨fun w' hb => (by have := rline_calls l A c w' (Kd.C_below HC.out hb) hc hl; rw [he] at this; exact this)⟩
  have HWD : Aside0 (∀ w', Calls Tryz.prog 25 #[.string t] w' fun e w'' => ∃ v, e = .returned v ∧ RowS w'.heap.size W w'' v ∧ Below w'.heap.size w' w'') := ⟨fun w' => (by have := rwords_w t (by omega) w'; rw [hW] at this; exact this)⟩
  have HP := Aside0.mk hp; have HV := Aside0.mk hv; have hn0 : (0 : Int) < ↑W.length := (by omega); have hnN : 0 < W.length := hp; have hnn : ((W.length : Int) == 0) = false := beq_eq_false_iff_ne.2 (by omega)
  have HG := Aside0.mk hg
  have HQ := Aside0.mk hq
  clear hC he hW hv hp hg hq
  go_enter Tryz.func13, Tryz.ntmps13
  go_upto_if 41 with (first | (go_at_call 23; (with_reducible refine (HLN.out _ (by repeat (first | (with_reducible first | exact HB.out | apply below_alloc | apply pw_below_drewN | apply below_drew1) | exact HB.out))).mono ?_); rintro e w1 ⟨rfl, hb⟩; have BR := Aside0.mk (blk_below (g := w.heap.size) (o := .cells zStepC 34 (0, 0)) (by repeat (first | exact blk_at_new _ _ _ (by simp; done) | exact blk_at_new _ _ _ rfl | refine blk_alloc ?_ _ | refine blk_drew ?_ | refine blk_drewN ?_ _)) hb); have HBn := Aside0.mk (below_step (by repeat (first | (with_reducible first | exact HB.out | apply below_alloc | apply pw_below_drewN | apply below_drew1) | exact HB.out)) hb); clear HB; have HB := HBn; clear HBn; clear hb; have hr1 : w.heap.size < w1.heap.size := blk_lt BR.out) | (go_at_call 25; (with_reducible refine (HWD.out _).mono ?_); rintro e w2 ⟨V, rfl, hrow, hb⟩; have BR2 := Aside0.mk (blk_below BR.out hb); have HRW := Aside0.mk hrow; have HBn := Aside0.mk (below_step (by repeat (first | (with_reducible first | exact HB.out | apply below_alloc | apply pw_below_drewN | apply below_drew1) | exact HB.out)) hb); clear HB; have HB := HBn; clear HBn; clear hrow hb BR; have BR := BR2; clear BR2; obtain ⟨A1, c1, rfl, hc1, -⟩ := HRW.out.read; obtain ⟨b1, o1, rfl, hb1, hcell⟩ := S_cell HRW.out.C 0 HP.out; rw [HV.out, Nat.add_zero] at hcell; have hcc : (W.length : Int) ≤ ↑c1 := (by omega)))
  go_cut [41] (fun s wx => s = .bool true ∧ wx = w2)
  case first =>
    cases q1
    · cases q2
      · cases q3
        · cases q4
          · exact absurd HQ.out (by decide)
          · (go_wp2; go_meet; case rel => exact ⟨rfl, rfl⟩)
        · (go_wp2; go_meet; case rel => exact ⟨rfl, rfl⟩)
      · (go_wp2; go_meet; case rel => exact ⟨rfl, rfl⟩)
    · (go_wp2; go_meet; case rel => exact ⟨rfl, rfl⟩)
  case rest =>
    obtain ⟨rfl, rfl⟩ := hcut
    clear hq1 hq2 hq3 hq4
    go_wp2_with (first | (go_at_call 26; (with_reducible refine (HG.out _ _ _ ((HRW.out.hol (F := (fun k => k ≠ w.heap.size ∧ (k < w.heap.size → F k))) (fun k hk => ⟨by omega, fun h => by omega⟩)).imp (fun _ h => h.C)) hc1).mono ?_); rintro e w3 ⟨⟨cs, rfl, hk⟩, hb⟩; have hr2 := Aside0.mk (blk_lt BR.out); have BK := Aside0.mk (blk_below BR.out hb); have HBn := Aside0.mk (below_step (by repeat (first | (with_reducible first | exact HB.out | apply below_alloc | apply pw_below_drewN | apply below_drew1) | exact HB.out)) hb); clear HB; have HB := HBn; clear HBn; have HK := Aside0.mk hk; clear hb hk) | (refine wpList_store_K HK.out.now rfl 34 _ _ rfl w.heap.size rfl rfl 34 _ BK.out (by kernel_rfl) rfl ?_; intro w8 hbk hlow hfar; have BR8 := Aside0.mk hbk; have HK2 := Aside0.mk (hfar _ _ (fun h => (h hr2.out).1 rfl) HK.out); have HB8 := Aside0.mk (HB.out.trans (hlow w.heap.size (Nat.le_refl _))); clear hbk hlow hfar))
    ((try simp only [Exit.inBlock, Exit.then]); refine bodyPost_ret (results_cell_row rfl _ _ w.heap.size 34 _ (0, 0) _ rfl BR8.out Tryz.underlying34 rfl (by rw [List.size_toArray, kStep.K_len HK.out.now]; kernel_rfl)) rfl ?_)
    exact ⟨⟨_, rfl, HK2.out.mono (fun k hk h3 => (hk (by have := hr2.out; omega)).2 h3)⟩, HB8.out⟩
set_option maxRecDepth 100000 in
set_option maxHeartbeats 1000000 in
theorem rp_bare (l : List Int) (A : Option Addr) (c m : Nat) (t : ByteArray) (W : List ByteArray) (F : Nat → Prop) (w : World) (hC : (Kd.int .u8).C w A l.length l) (hc : l.length ≤ c) (hl : l.length ≤ 1000000) (he : lineS l = (t, (m : Int) + 1, 0)) (hm : m < l.length) (ht : t.size ≤ 2048) (hW : wordsB t = W) (v : ByteArray) (hp : 0 < W.length) (hv : W.getD 0 ⟨#[]⟩ = v) (q5 q6 : Bool) (hq1 : (v.toList == [103, 101, 116]) = false) (hq2 : (v.toList == [103, 101, 116, 115]) = false) (hq3 : (v.toList == [103, 97, 116]) = false) (hq4 : (v.toList == [103, 97, 116, 115]) = false) (hq5 : (v.toList == [118, 101, 114, 115, 105, 111, 110]) = q5) (hq6 : (v.toList == [113, 117, 105, 116]) = q6) (hq : q5 = true ∨ q6 = true) (R : Step)
    (hg : ∀ (A1 : Option Addr) (c1 : Nat) (w' : World), Kd.string.C w' A1 W.length W → W.length ≤ c1 → Calls Tryz.prog 27 #[.slice A1 W.length c1, .int .i64 ((m : Int) + 1)] w' (StepR (fun k => k ≠ w.heap.size ∧ (k < w.heap.size → F k)) w' R)) :
    Calls Tryz.prog 13 #[.slice A l.length c] w (StepR F w R) := by
  have HB := Aside0.mk (Below.refl w.heap.size w)
  have HC := Aside0.mk hC; have HLN : Aside0 (∀ w', Below w.heap.size w w' → Calls Tryz.prog 23 #[.slice A l.length c] w' fun e w'' => e = .returned (.tuple #[.string t, .int .i64 ((m : Int) + 1), .int .i64 0]) ∧ Below w'.heap.size w' w'') := ⟨fun w' hb => (by have := rline_calls l A c w' (Kd.C_below HC.out hb) hc hl; rw [he] at this; exact this)⟩
  have HWD : Aside0 (∀ w', Calls Tryz.prog 25 #[.string t] w' fun e w'' => ∃ v, e = .returned v ∧ RowS w'.heap.size W w'' v ∧ Below w'.heap.size w' w'') := ⟨fun w' => (by have := rwords_w t (by omega) w'; rw [hW] at this; exact this)⟩
  have HP := Aside0.mk hp; have HV := Aside0.mk hv; have hn0 : (0 : Int) < ↑W.length := (by omega); have hnN : 0 < W.length := hp; have hnn : ((W.length : Int) == 0) = false := beq_eq_false_iff_ne.2 (by omega)
  have HG := Aside0.mk hg
  have HQ := Aside0.mk hq
  clear hC he hW hv hp hg hq
  go_enter Tryz.func13, Tryz.ntmps13
  go_upto_if 49 with (first | (go_at_call 23; (with_reducible refine (HLN.out _ (by repeat (first | (with_reducible first | exact HB.out | apply below_alloc | apply pw_below_drewN | apply below_drew1) | exact HB.out))).mono ?_); rintro e w1 ⟨rfl, hb⟩; have BR := Aside0.mk (blk_below (g := w.heap.size) (o := .cells zStepC 34 (0, 0)) (by repeat (first | exact blk_at_new _ _ _ (by simp; done) | exact blk_at_new _ _ _ rfl | refine blk_alloc ?_ _ | refine blk_drew ?_ | refine blk_drewN ?_ _)) hb); have HBn := Aside0.mk (below_step (by repeat (first | (with_reducible first | exact HB.out | apply below_alloc | apply pw_below_drewN | apply below_drew1) | exact HB.out)) hb); clear HB; have HB := HBn; clear HBn; clear hb; have hr1 : w.heap.size < w1.heap.size := blk_lt BR.out) | (go_at_call 25; (with_reducible refine (HWD.out _).mono ?_); rintro e w2 ⟨V, rfl, hrow, hb⟩; have BR2 := Aside0.mk (blk_below BR.out hb); have HRW := Aside0.mk hrow; have HBn := Aside0.mk (below_step (by repeat (first | (with_reducible first | exact HB.out | apply below_alloc | apply pw_below_drewN | apply below_drew1) | exact HB.out)) hb); clear HB; have HB := HBn; clear HBn; clear hrow hb BR; have BR := BR2; clear BR2; obtain ⟨A1, c1, rfl, hc1, -⟩ := HRW.out.read; obtain ⟨b1, o1, rfl, hb1, hcell⟩ := S_cell HRW.out.C 0 HP.out; rw [HV.out, Nat.add_zero] at hcell; have hcc : (W.length : Int) ≤ ↑c1 := (by omega)))
  go_cut [49] (fun s wx => s = .bool true ∧ wx = w2)
  case first =>
    cases q5
    · cases q6
      · exact absurd HQ.out (by decide)
      · (go_wp2; go_meet; case rel => exact ⟨rfl, rfl⟩)
    · (go_wp2; go_meet; case rel => exact ⟨rfl, rfl⟩)
  case rest =>
    obtain ⟨rfl, rfl⟩ := hcut
    clear hq1 hq2 hq3 hq4 hq5 hq6
    go_wp2_with (first | (go_at_call 27; (with_reducible refine (HG.out _ _ _ HRW.out.C hc1).mono ?_); rintro e w3 ⟨⟨cs, rfl, hk⟩, hb⟩; have hr2 := Aside0.mk (blk_lt BR.out); have BK := Aside0.mk (blk_below BR.out hb); have HBn := Aside0.mk (below_step (by repeat (first | (with_reducible first | exact HB.out | apply below_alloc | apply pw_below_drewN | apply below_drew1) | exact HB.out)) hb); clear HB; have HB := HBn; clear HBn; have HK := Aside0.mk hk; clear hb hk) | (refine wpList_store_K HK.out.now rfl 34 _ _ rfl w.heap.size rfl rfl 34 _ BK.out (by kernel_rfl) rfl ?_; intro w8 hbk hlow hfar; have BR8 := Aside0.mk hbk; have HK2 := Aside0.mk (hfar _ _ (fun h => (h hr2.out).1 rfl) HK.out); have HB8 := Aside0.mk (HB.out.trans (hlow w.heap.size (Nat.le_refl _))); clear hbk hlow hfar))
    ((try simp only [Exit.inBlock, Exit.then]); refine bodyPost_ret (results_cell_row rfl _ _ w.heap.size 34 _ (0, 0) _ rfl BR8.out Tryz.underlying34 rfl (by rw [List.size_toArray, kStep.K_len HK.out.now]; kernel_rfl)) rfl ?_)
    exact ⟨⟨_, rfl, HK2.out.mono (fun k hk h3 => (hk (by have := hr2.out; omega)).2 h3)⟩, HB8.out⟩
set_option maxRecDepth 100000 in
set_option maxHeartbeats 4000000 in
theorem rp_rest (l : List Int) (A : Option Addr) (c m : Nat) (t : ByteArray) (W : List ByteArray) (F : Nat → Prop) (w : World) (hC : (Kd.int .u8).C w A l.length l) (hc : l.length ≤ c) (hl : l.length ≤ 1000000) (he : lineS l = (t, (m : Int) + 1, 0)) (hm : m < l.length) (ht : t.size ≤ 2048) (hW : wordsB t = W) (v : ByteArray) (n : Nat) (hn : W.length = n) (hp : 0 < W.length) (hv : W.getD 0 ⟨#[]⟩ = v) (hq1 : (v.toList == [103, 101, 116]) = false) (hq2 : (v.toList == [103, 101, 116, 115]) = false) (hq3 : (v.toList == [103, 97, 116]) = false) (hq4 : (v.toList == [103, 97, 116, 115]) = false) (hq5 : (v.toList == [118, 101, 114, 115, 105, 111, 110]) = false) (hq6 : (v.toList == [113, 117, 105, 116]) = false)
    (z o : Int) (hz : manyL v.toList = z) (hz0 : 0 ≤ z) (hz1 : z ≤ 6) (fl mo qh : Bool) (hfl : (v.toList == [102, 108, 117, 115, 104, 95, 97, 108, 108]) = fl) (hmo : (decide ((n : Int) = z + 1) || (fl && decide (n ≤ 3))) = mo)
    (hqh : (decide (1 < n) && (mo && ((W.getD (n - 1) ⟨#[]⟩).toList == [110, 111, 114, 101, 112, 108, 121]))) = qh) (W7 : List ByteArray) (n7 : Nat) (h7 : (if qh = true then W.take (n - 1) else W) = W7) (hn7 : (if qh = true then n - 1 else n) = n7) (h70 : 0 < n7) (hop : opL v.toList = o)
    (p1 p2 p3 p4 : Bool) (hp1 : (v.toList == [100, 101, 108, 101, 116, 101]) = p1) (hp2 : (v.toList == [105, 110, 99, 114]) = p2) (hp3 : (v.toList == [100, 101, 99, 114]) = p3) (hp4 : (v.toList == [116, 111, 117, 99, 104]) = p4) (R : Step)
    (hst : 0 ≤ o → ∀ (A1 : Option Addr) (c1 : Nat) (w' : World), HolF (fun k => k ≠ w.heap.size ∧ (k < w.heap.size → F k)) w' (fun w2 => Kd.string.C w2 A1 n7 W7) → n7 ≤ c1 → (Kd.int .u8).C w' A l.length l → Calls Tryz.prog 30 #[.slice A1 n7 c1, .bool qh, .int .i64 ((m : Int) + 1), .slice A l.length c] w' (StepR (fun k => k ≠ w.heap.size ∧ (k < w.heap.size → F k)) w' R))
    (hot : ¬ 0 ≤ o → (p1 || (p2 || (p3 || (p4 || fl)))) = true → ∀ (A1 : Option Addr) (c1 : Nat) (w' : World), HolF (fun k => k ≠ w.heap.size ∧ (k < w.heap.size → F k)) w' (fun w2 => Kd.string.C w2 A1 n7 W7) → n7 ≤ c1 → Calls Tryz.prog 31 #[.slice A1 n7 c1, .bool qh, .int .i64 ((m : Int) + 1)] w' (StepR (fun k => k ≠ w.heap.size ∧ (k < w.heap.size → F k)) w' R))
    (hoe : ¬ 0 ≤ o → (p1 || (p2 || (p3 || (p4 || fl)))) = false → R = stepF ((m : Int) + 1) (⟨#[69, 82, 82, 79, 82]⟩ : ByteArray)) :
    Calls Tryz.prog 13 #[.slice A l.length c] w (StepR F w R) := by
  have HB := Aside0.mk (Below.refl w.heap.size w)
  have HC := Aside0.mk hC; have HLN : Aside0 (∀ w', Below w.heap.size w w' → Calls Tryz.prog 23 #[.slice A l.length c] w' fun e w'' => e = .returned (.tuple #[.string t, .int .i64 ((m : Int) + 1), .int .i64 0]) ∧ Below w'.heap.size w' w'') := ⟨fun w' hb => (by have := rline_calls l A c w' (Kd.C_below HC.out hb) hc hl; rw [he] at this; exact this)⟩
  have HWN : Aside0 (∀ w', Calls Tryz.prog 25 #[.string t] w' fun e w'' => ∃ A1 c1, e = .returned (.slice A1 n c1) ∧ n ≤ c1 ∧ RowS w'.heap.size W w'' (.slice A1 n c1) ∧ Below w'.heap.size w' w'') := ⟨fun w' => by
    have := rwords_w t (by omega) w'
    rw [hW] at this
    refine this.mono ?_
    rintro e w'' ⟨V, rfl, hr, hb⟩
    obtain ⟨A1, c1, rfl, hl, -⟩ := hr.read
    rw [hn] at hl hr ⊢
    exact ⟨A1, c1, rfl, hl, hr, hb⟩⟩
  have HP := Aside0.mk hp
  have HV := Aside0.mk hv
  have hn0 : (0 : Int) < ↑n := by omega
  have hnN : 0 < n := by omega
  have hnn : ((n : Int) == 0) = false := by rw [beq_eq_false_iff_ne]; omega
  have HMN := Aside0.mk (fun w => many_w v w)
  rw [hz] at HMN
  have HOP := Aside0.mk (fun w => op_w v w)
  rw [hop] at HOP
  have HMO := Aside0.mk hmo
  have HQH := Aside0.mk hqh
  have HN7 := Aside0.mk hn7
  have HST0 := Aside0.mk hst
  have HOT0 := Aside0.mk hot
  have HOE0 := Aside0.mk hoe
  have HN := Aside0.mk hn
  have HT7 : Aside0 (∀ (A1 : Option Addr) (w' : World), Kd.string.C w' A1 W.length W → Kd.string.C w' A1 n7 W7) := ⟨fun A1 w' h => by
    rw [← h7, ← hn7]
    cases qh
    · rw [if_neg (by decide), if_neg (by decide), ← hn]
      exact h
    · rw [if_pos rfl, if_pos rfl]
      have := Kd.C_take (m := n - 1) h (by omega)
      rw [List.length_take, show min (n - 1) W.length = n - 1 by omega] at this
      exact this⟩
  have hs0 : (0 : Int) ≤ z + 1 := by omega
  have hs1 : z + 1 ≤ 9223372036854775807 := by omega
  have hle7 : n7 ≤ n := by rw [← hn7]; split <;> omega
  have hq1n : qh = true → 1 < n := fun h => by
    rw [h, Bool.and_eq_true, decide_eq_true_eq] at hqh
    exact hqh.1
  have HQ1 := Aside0.mk hq1n
  have HNL : Aside0 (n ≤ 2048) := ⟨by have := words_len t; rw [hW, hn] at this; omega⟩
  clear hC he hW hv hp hz hmo hqh h7 hn7 hop hst hot hoe hn hq1n
  go_enter Tryz.func13, Tryz.ntmps13
  go_upto_region 20 with (first | (go_at_call 23; (with_reducible refine (HLN.out _ (by repeat (first | (with_reducible first | exact HB.out | apply below_alloc | apply pw_below_drewN | apply below_drew1) | exact HB.out))).mono ?_); rintro e w1 ⟨rfl, hb⟩; have BR := Aside0.mk (blk_below (g := w.heap.size) (o := .cells zStepC 34 (0, 0)) (by repeat (first | exact blk_at_new _ _ _ (by simp; done) | exact blk_at_new _ _ _ rfl | refine blk_alloc ?_ _ | refine blk_drew ?_ | refine blk_drewN ?_ _)) hb); have HBn := Aside0.mk (below_step (by repeat (first | (with_reducible first | exact HB.out | apply below_alloc | apply pw_below_drewN | apply below_drew1) | exact HB.out)) hb); clear HB; have HB := HBn; clear HBn; clear hb; have hr1 : w.heap.size < w1.heap.size := blk_lt BR.out) | (go_at_call 25; (with_reducible refine (HWN.out _).mono ?_); rintro e w2 ⟨A1, c1, rfl, hc1, hrow, hb⟩; have BR2 := Aside0.mk (blk_below BR.out hb); have HRW := Aside0.mk hrow; have HBn := Aside0.mk (below_step (by repeat (first | (with_reducible first | exact HB.out | apply below_alloc | apply pw_below_drewN | apply below_drew1) | exact HB.out)) hb); clear HB; have HB := HBn; clear HBn; clear hrow hb BR; have BR := BR2; clear BR2; obtain ⟨b1, o1, rfl, hb1, hcell⟩ := S_cell HRW.out.C 0 HP.out; rw [HV.out, Nat.add_zero] at hcell; have hcc : (n : Int) ≤ ↑c1 := (by omega)))
  have hr1n := Aside0.mk hr1
  clear hr1
  have hr1 := hr1n
  clear hr1n
  go_cut [8] (fun s wx => s = .bool mo ∧ Aside0 (wx.heap[w.heap.size]? = some (.cells zStepC 34 (0, 0)) ∧ RowS w1.heap.size W wx (.slice (some ⟨b1, o1, none⟩) n c1) ∧ Below w.heap.size w wx ∧ w.heap.size < w1.heap.size))
  case first =>
    by_cases h1 : (n : Int) = z + 1
    · have h1b : ((n : Int) == z + 1) = true := beq_iff_eq.2 h1
      have H1 := Aside0.mk h1
      clear h1
      go_wp2_with (first | (go_at_call 28; (with_reducible refine (HMN.out _).mono ?_); rintro e w3 ⟨rfl, hb⟩; have BR3 := Aside0.mk (blk_below BR.out hb); have HRW3 := Aside0.mk (RowS.below HRW.out hb); have HBn := Aside0.mk (below_step (by repeat (first | (with_reducible first | exact HB.out | apply below_alloc | apply pw_below_drewN | apply below_drew1) | exact HB.out)) hb); clear HB; have HB := HBn; clear HBn; clear hb; have h3c : w3.cell? ⟨b1, o1, none⟩ = some (.string v) := (by obtain ⟨b', o', e', -, h⟩ := S_cell (RowS.C HRW3.out) 0 HP.out; obtain ⟨rfl, rfl⟩ : b1 = b' ∧ o1 = o' := (by simpa using e'); rw [HV.out, Nat.add_zero] at h; exact h)))
      go_meet
      case rel => exact ⟨(by have h1 := H1.out; rw [← HMO.out]; first | rfl | (simp [*]; done) | (simp [*]; omega)), ⟨BR3.out, HRW3.out, HB.out, hr1.out⟩⟩
    have h1b : ((n : Int) == z + 1) = false := beq_eq_false_iff_ne.2 h1
    have H1 := Aside0.mk h1
    clear h1
    cases fl
    · go_wp2_with (first | (go_at_call 28; (with_reducible refine (HMN.out _).mono ?_); rintro e w3 ⟨rfl, hb⟩; have BR3 := Aside0.mk (blk_below BR.out hb); have HRW3 := Aside0.mk (RowS.below HRW.out hb); have HBn := Aside0.mk (below_step (by repeat (first | (with_reducible first | exact HB.out | apply below_alloc | apply pw_below_drewN | apply below_drew1) | exact HB.out)) hb); clear HB; have HB := HBn; clear HBn; clear hb; have h3c : w3.cell? ⟨b1, o1, none⟩ = some (.string v) := (by obtain ⟨b', o', e', -, h⟩ := S_cell (RowS.C HRW3.out) 0 HP.out; obtain ⟨rfl, rfl⟩ : b1 = b' ∧ o1 = o' := (by simpa using e'); rw [HV.out, Nat.add_zero] at h; exact h)))
      go_meet
      case rel => exact ⟨(by have h1 := H1.out; rw [← HMO.out]; first | rfl | (simp [*]; done) | (simp [*]; omega)), ⟨BR3.out, HRW3.out, HB.out, hr1.out⟩⟩
    by_cases h2 : (n : Int) ≤ 3
    · go_wp2_with (first | (go_at_call 28; (with_reducible refine (HMN.out _).mono ?_); rintro e w3 ⟨rfl, hb⟩; have BR3 := Aside0.mk (blk_below BR.out hb); have HRW3 := Aside0.mk (RowS.below HRW.out hb); have HBn := Aside0.mk (below_step (by repeat (first | (with_reducible first | exact HB.out | apply below_alloc | apply pw_below_drewN | apply below_drew1) | exact HB.out)) hb); clear HB; have HB := HBn; clear HBn; clear hb; have h3c : w3.cell? ⟨b1, o1, none⟩ = some (.string v) := (by obtain ⟨b', o', e', -, h⟩ := S_cell (RowS.C HRW3.out) 0 HP.out; obtain ⟨rfl, rfl⟩ : b1 = b' ∧ o1 = o' := (by simpa using e'); rw [HV.out, Nat.add_zero] at h; exact h)))
      go_meet
      case rel => exact ⟨(by have h1 := H1.out; rw [← HMO.out]; first | rfl | (simp [*]; done) | (simp [*]; omega)), ⟨BR3.out, HRW3.out, HB.out, hr1.out⟩⟩
    · go_wp2_with (first | (go_at_call 28; (with_reducible refine (HMN.out _).mono ?_); rintro e w3 ⟨rfl, hb⟩; have BR3 := Aside0.mk (blk_below BR.out hb); have HRW3 := Aside0.mk (RowS.below HRW.out hb); have HBn := Aside0.mk (below_step (by repeat (first | (with_reducible first | exact HB.out | apply below_alloc | apply pw_below_drewN | apply below_drew1) | exact HB.out)) hb); clear HB; have HB := HBn; clear HBn; clear hb; have h3c : w3.cell? ⟨b1, o1, none⟩ = some (.string v) := (by obtain ⟨b', o', e', -, h⟩ := S_cell (RowS.C HRW3.out) 0 HP.out; obtain ⟨rfl, rfl⟩ : b1 = b' ∧ o1 = o' := (by simpa using e'); rw [HV.out, Nat.add_zero] at h; exact h)))
      go_meet
      case rel => exact ⟨(by have h1 := H1.out; rw [← HMO.out]; first | rfl | (simp [*]; done) | (simp [*]; omega)), ⟨BR3.out, HRW3.out, HB.out, hr1.out⟩⟩
  case rest =>
  obtain ⟨rfl, HT3⟩ := hcut
  clear HB BR HRW hcell
  have BR := Aside0.mk HT3.out.1; have HRW := Aside0.mk HT3.out.2.1; have HB := Aside0.mk HT3.out.2.2.1; clear HT3; have hcell : wc.cell? ⟨b1, o1, none⟩ = some (.string v) := (by obtain ⟨b', o', e', -, h⟩ := S_cell HRW.out.C 0 HP.out; obtain ⟨rfl, rfl⟩ : b1 = b' ∧ o1 = o' := (by simpa using e'); rw [HV.out, Nat.add_zero] at h; exact h)
  clear hs0 hs1 hz0 hz1 hq1 hq2 hq3 hq4 hq5 hq6
  go_upto_region 21 with fail
  go_cut [9] (fun s wx => s = .bool qh ∧ wx = wc)
  case first =>
    by_cases h1 : 1 < n
    · obtain ⟨k, rfl⟩ : ∃ k, n = k + 1 := ⟨n - 1, by omega⟩
      have hk : 0 < k := by omega
      have hk1 : (0 : Int) < ↑k := by omega
      have hk2 : (1 : Int) < ↑k + 1 := by omega
      have hk3 : (0 : Int) ≤ ↑k := by omega
      have hk5 : (k : Int) ≤ 9223372036854775807 := by have := HNL.out; omega
      have hqh := HQH.out
      rw [decide_eq_true h1, Bool.true_and, Nat.add_sub_cancel] at hqh
      cases mo
      · have HQ := Aside0.mk hqh
        clear h1 hqh
        go_wp2
        go_meet
        case rel => exact ⟨by rw [← HQ.out]; rfl, rfl⟩
      · obtain ⟨b', o', e', -, hc2⟩ := S_cell HRW.out.C k (by rw [HN.out]; omega)
        obtain ⟨rfl, rfl⟩ : b1 = b' ∧ o1 = o' := by simpa using e'
        obtain ⟨x, hx⟩ : ∃ x, W.getD k ⟨#[]⟩ = x := ⟨_, rfl⟩
        rw [hx] at hc2 hqh
        rw [Bool.true_and] at hqh
        have HQ := Aside0.mk hqh
        clear h1 hqh hx e'
        go_wp2
        go_meet
        case rel => exact ⟨by rw [← HQ.out], rfl⟩
    · have h1b : decide ((n : Int) > 1) = false := decide_eq_false (by omega)
      have h1c : ¬ (1 : Int) < ↑n := by omega
      have hqh := HQH.out
      rw [decide_eq_false h1, Bool.false_and] at hqh
      subst hqh
      clear h1
      go_wp2
      go_meet
      case rel => exact ⟨rfl, rfl⟩
  case rest =>
  obtain ⟨rfl, rfl⟩ := hcut
  go_upto_if 89 with fail
  go_cut [7] (fun s wx => s = .slice (some ⟨b1, o1, none⟩) n7 c1 ∧ wx = wc)
  case first =>
    have hn7 := HN7.out
    cases qh
    · rw [if_neg (by decide)] at hn7
      subst hn7
      go_wp2
      go_meet
      case rel => exact ⟨rfl, rfl⟩
    · rw [if_pos rfl] at hn7
      have h1 := HQ1.out rfl
      obtain ⟨k, rfl⟩ : ∃ k, n = k + 1 := ⟨n - 1, by omega⟩
      rw [Nat.add_sub_cancel] at hn7
      subst hn7
      have hk3 : (0 : Int) ≤ ↑k := by omega
      have hk5 : (k : Int) ≤ 9223372036854775807 := by have := HNL.out; omega
      have hk4 : (k : Int) ≤ ↑c1 := by omega
      clear h1
      go_wp2
      go_meet
      case rel => exact ⟨rfl, rfl⟩
  case rest =>
  obtain ⟨rfl, rfl⟩ := hcut
  have hc7 : n7 ≤ c1 := by omega
  have hm0 : (0 : Int) < ↑n7 := by omega
  clear hcc hle7 hn0 hnN hnn
  by_cases ho : 0 ≤ o
  · have HST := Aside0.mk (HST0.out ho)
    clear HST0 HOT0 HOE0
    go_wp2_with (first | (go_at_call 29; (with_reducible refine (HOP.out _).mono ?_); rintro e w3 ⟨rfl, hb⟩; have BR3 := Aside0.mk (blk_below BR.out hb); have HRW3 := Aside0.mk (RowS.below HRW.out hb); have HBn := Aside0.mk (below_step (by repeat (first | (with_reducible first | exact HB.out | apply below_alloc | apply pw_below_drewN | apply below_drew1) | exact HB.out)) hb); clear HB; have HB := HBn; clear HBn; clear hb hcell BR HRW; have BR := BR3; have HRW := HRW3; clear BR3 HRW3; have hcell : w3.cell? ⟨b1, o1, none⟩ = some (.string v) := (by obtain ⟨b', o', e', -, h⟩ := S_cell (RowS.C HRW.out) 0 HP.out; obtain ⟨rfl, rfl⟩ : b1 = b' ∧ o1 = o' := (by simpa using e'); rw [HV.out, Nat.add_zero] at h; exact h)) | (go_at_call 30; (with_reducible refine (HST.out _ _ _ (((RowS.hol HRW.out (F := (fun k => k ≠ w.heap.size ∧ (k < w.heap.size → F k))) (fun k hk => ⟨by have := hr1.out; omega, fun h => by have := hr1.out; omega⟩)).imp (fun _ h => HT7.out _ _ h.C))) hc7 (Kd.C_below HC.out HB.out)).mono ?_); rintro e w4 ⟨⟨cs, rfl, hk⟩, hb⟩; have hr2 := Aside0.mk (blk_lt BR.out); have BK := Aside0.mk (blk_below BR.out hb); have HBn := Aside0.mk (below_step (by repeat (first | (with_reducible first | exact HB.out | apply below_alloc | apply pw_below_drewN | apply below_drew1) | exact HB.out)) hb); clear HB; have HB := HBn; clear HBn; have HK := Aside0.mk hk; clear hb hk) | (refine wpList_store_K HK.out.now rfl 34 _ _ rfl w.heap.size rfl rfl 34 _ BK.out (by kernel_rfl) rfl ?_; intro w8 hbk hlow hfar; have BR8 := Aside0.mk hbk; have HK2 := Aside0.mk (hfar _ _ (fun h => (h hr2.out).1 rfl) HK.out); have HB8 := Aside0.mk (HB.out.trans (hlow w.heap.size (Nat.le_refl _))); clear hbk hlow hfar))
    ((try simp only [Exit.inBlock, Exit.then]); refine bodyPost_ret (results_cell_row rfl _ _ w.heap.size 34 _ (0, 0) _ rfl BR8.out Tryz.underlying34 rfl (by rw [List.size_toArray, kStep.K_len HK.out.now]; kernel_rfl)) rfl ?_)
    exact ⟨⟨_, rfl, HK2.out.mono (fun k hk h3 => (hk (by have := hr2.out; omega)).2 h3)⟩, HB8.out⟩
  · have hol : o < 0 := by omega
    obtain ⟨b3, hb3⟩ : ∃ b3, (p1 || (p2 || (p3 || (p4 || fl)))) = b3 := ⟨_, rfl⟩
    have HB3 := Aside0.mk hb3
    have hot := HOT0.out (by first | exact ho | exact hol)
    have hoe := HOE0.out (by first | exact ho | exact hol)
    rw [hb3] at hot hoe
    clear HST0 HOT0 HOE0 hb3 ho
    have HOT1 := Aside0.mk hot
    have HOE1 := Aside0.mk hoe
    clear hot hoe
    go_upto_if 108 with (first | (go_at_call 29; (with_reducible refine (HOP.out _).mono ?_); rintro e w3 ⟨rfl, hb⟩; have BR3 := Aside0.mk (blk_below BR.out hb); have HRW3 := Aside0.mk (RowS.below HRW.out hb); have HBn := Aside0.mk (below_step (by repeat (first | (with_reducible first | exact HB.out | apply below_alloc | apply pw_below_drewN | apply below_drew1) | exact HB.out)) hb); clear HB; have HB := HBn; clear HBn; clear hb hcell BR HRW; have BR := BR3; have HRW := HRW3; clear BR3 HRW3; have hcell : w3.cell? ⟨b1, o1, none⟩ = some (.string v) := (by obtain ⟨b', o', e', -, h⟩ := S_cell (RowS.C HRW.out) 0 HP.out; obtain ⟨rfl, rfl⟩ : b1 = b' ∧ o1 = o' := (by simpa using e'); rw [HV.out, Nat.add_zero] at h; exact h)))
    go_cut [108] (fun s wx => s = .bool b3 ∧ wx = w3)
    case first =>
      cases p1
      · cases p2
        · cases p3
          · cases p4
            · (go_wp2; go_meet; case rel => exact ⟨by rw [← HB3.out]; rfl, rfl⟩)
            · (go_wp2; go_meet; case rel => exact ⟨by rw [← HB3.out]; rfl, rfl⟩)
          · (go_wp2; go_meet; case rel => exact ⟨by rw [← HB3.out]; rfl, rfl⟩)
        · (go_wp2; go_meet; case rel => exact ⟨by rw [← HB3.out]; rfl, rfl⟩)
      · (go_wp2; go_meet; case rel => exact ⟨by rw [← HB3.out]; rfl, rfl⟩)
    case rest =>
    obtain ⟨rfl, rfl⟩ := hcut
    clear hp1 hp2 hp3 hp4 hfl
    cases b3
    · have HOE : Aside0 (∀ w', Calls Tryz.prog 24 #[.int .i64 ((m : Int) + 1), .string (⟨#[69, 82, 82, 79, 82]⟩ : ByteArray)] w' (StepR (fun k => k ≠ w.heap.size ∧ (k < w.heap.size → F k)) w' R)) := ⟨fun w' => HOE1.out rfl ▸ rfault_calls _ _ _ w' (by decide)⟩
      go_wp2_with (first | (go_at_call 24; (with_reducible refine (HOE.out _).mono ?_); rintro e w4 ⟨⟨cs, rfl, hk⟩, hb⟩; have hr2 := Aside0.mk (blk_lt BR.out); have BK := Aside0.mk (blk_below BR.out hb); have HBn := Aside0.mk (below_step (by repeat (first | (with_reducible first | exact HB.out | apply below_alloc | apply pw_below_drewN | apply below_drew1) | exact HB.out)) hb); clear HB; have HB := HBn; clear HBn; have HK := Aside0.mk hk; clear hb hk) | (refine wpList_store_K HK.out.now rfl 34 _ _ rfl w.heap.size rfl rfl 34 _ BK.out (by kernel_rfl) rfl ?_; intro w8 hbk hlow hfar; have BR8 := Aside0.mk hbk; have HK2 := Aside0.mk (hfar _ _ (fun h => (h hr2.out).1 rfl) HK.out); have HB8 := Aside0.mk (HB.out.trans (hlow w.heap.size (Nat.le_refl _))); clear hbk hlow hfar))
      ((try simp only [Exit.inBlock, Exit.then]); refine bodyPost_ret (results_cell_row rfl _ _ w.heap.size 34 _ (0, 0) _ rfl BR8.out Tryz.underlying34 rfl (by rw [List.size_toArray, kStep.K_len HK.out.now]; kernel_rfl)) rfl ?_)
      exact ⟨⟨_, rfl, HK2.out.mono (fun k hk h3 => (hk (by have := hr2.out; omega)).2 h3)⟩, HB8.out⟩
    · have HOT := Aside0.mk (HOT1.out rfl)
      go_wp2_with (first | (go_at_call 31; (with_reducible refine (HOT.out _ _ _ (((RowS.hol HRW.out (F := (fun k => k ≠ w.heap.size ∧ (k < w.heap.size → F k))) (fun k hk => ⟨by have := hr1.out; omega, fun h => by have := hr1.out; omega⟩)).imp (fun _ h => HT7.out _ _ h.C))) hc7).mono ?_); rintro e w4 ⟨⟨cs, rfl, hk⟩, hb⟩; have hr2 := Aside0.mk (blk_lt BR.out); have BK := Aside0.mk (blk_below BR.out hb); have HBn := Aside0.mk (below_step (by repeat (first | (with_reducible first | exact HB.out | apply below_alloc | apply pw_below_drewN | apply below_drew1) | exact HB.out)) hb); clear HB; have HB := HBn; clear HBn; have HK := Aside0.mk hk; clear hb hk) | (refine wpList_store_K HK.out.now rfl 34 _ _ rfl w.heap.size rfl rfl 34 _ BK.out (by kernel_rfl) rfl ?_; intro w8 hbk hlow hfar; have BR8 := Aside0.mk hbk; have HK2 := Aside0.mk (hfar _ _ (fun h => (h hr2.out).1 rfl) HK.out); have HB8 := Aside0.mk (HB.out.trans (hlow w.heap.size (Nat.le_refl _))); clear hbk hlow hfar))
      ((try simp only [Exit.inBlock, Exit.then]); refine bodyPost_ret (results_cell_row rfl _ _ w.heap.size 34 _ (0, 0) _ rfl BR8.out Tryz.underlying34 rfl (by rw [List.size_toArray, kStep.K_len HK.out.now]; kernel_rfl)) rfl ?_)
      exact ⟨⟨_, rfl, HK2.out.mono (fun k hk h3 => (hk (by have := hr2.out; omega)).2 h3)⟩, HB8.out⟩
end Go.Proofs.YtfljijpkeckeaaaGreatDoor.X
namespace Go.Proofs.YtfljijpkeckeaaaGreatDoor.X
open Go.RowKit Go.Proofs.YtfljijpkeckeaaaGreatDoorW.PrintWords Go.Proofs.YtfljijpkeckeaaaGreatDoorW.PrintMore
set_option linter.unusedVariables false
set_option linter.unusedSimpArgs false
theorem parse_calls (l : List Int) (A : Option Addr) (c : Nat) (w : World) (hC : (Kd.int .u8).C w A l.length l) (hc : l.length ≤ c) (hl : l.length ≤ 1000000) (h8 : B8 l) (hT : Tabs w) :
    Calls Tryz.prog 12 #[.slice A l.length c] w (StepR (fun _ => True) w (parseS l)) := by
  rcases lineS_cases l with h | ⟨m, hm, h⟩ | ⟨m, t, hm, h, ht⟩
  · rw [parse_M h]
    exact parse_more l A c _ w hC hc hl h8 h
  · rw [parse_L h]
    exact parse_long l A c m _ w hC hc hl h8 h hm
  · rw [parse_T h]
    exact parse_go l A c m t w hC hc hl h8 h hm (by omega) hT
end Go.Proofs.YtfljijpkeckeaaaGreatDoor.X
namespace Go.Proofs.YtfljijpkeckeaaaGreatDoor.X
open Go.RowKit Go.Proofs.YtfljijpkeckeaaaGreatDoorW.PrintWords Go.Proofs.YtfljijpkeckeaaaGreatDoorW.PrintMore
set_option linter.unusedVariables false
set_option linter.unusedSimpArgs false
theorem tb (v : ByteArray) (l : List UInt8) : (v.toList == l) = decide (v = ⟨l.toArray⟩) := by
  rw [Bool.eq_iff_iff, beq_iff_eq, decide_eq_true_eq, ByteArray.toList_eq]
  constructor
  · intro h
    obtain ⟨⟨x⟩⟩ := v
    have h : x = l := h
    rw [h]
  · rintro rfl
    rfl
theorem op_six (v : ByteArray) : 0 ≤ opL v.toList ↔ v = (⟨#[115, 101, 116]⟩ : ByteArray) ∨ v = (⟨#[97, 100, 100]⟩ : ByteArray) ∨ v = (⟨#[114, 101, 112, 108, 97, 99, 101]⟩ : ByteArray) ∨ v = (⟨#[97, 112, 112, 101, 110, 100]⟩ : ByteArray) ∨ v = (⟨#[112, 114, 101, 112, 101, 110, 100]⟩ : ByteArray) ∨ v = (⟨#[99, 97, 115]⟩ : ByteArray) := by
  have e : ∀ l : List UInt8, v.toList = l ↔ v = ⟨l.toArray⟩ := fun l => by
    have := tb v l
    rw [Bool.eq_iff_iff, beq_iff_eq, decide_eq_true_eq] at this
    exact this
  unfold opL
  simp only [e]
  by_cases q0 : v = (⟨#[115, 101, 116]⟩ : ByteArray)
  · simp [q0]
  by_cases q1 : v = (⟨#[97, 100, 100]⟩ : ByteArray)
  · simp [q1]
  by_cases q2 : v = (⟨#[114, 101, 112, 108, 97, 99, 101]⟩ : ByteArray)
  · simp [q2]
  by_cases q3 : v = (⟨#[97, 112, 112, 101, 110, 100]⟩ : ByteArray)
  · simp [q3]
  by_cases q4 : v = (⟨#[112, 114, 101, 112, 101, 110, 100]⟩ : ByteArray)
  · simp [q4]
  by_cases q5 : v = (⟨#[99, 97, 115]⟩ : ByteArray)
  · simp [q5]
  · simp [q0, q1, q2, q3, q4, q5]
theorem other_store (v : ByteArray) (q : Bool) (u : Int) (ws : List ByteArray) (r : List Int) (h : 0 ≤ opL v.toList) : otherS v q u ws r = storesS v q u ws r (opL v.toList) (if v = (⟨#[99, 97, 115]⟩ : ByteArray) then 5 else 4) := by
  rcases (op_six v).1 h with rfl | rfl | rfl | rfl | rfl | rfl <;> (unfold opL; rw [ByteArray.toList_eq]; rfl)
theorem rparse_calls (l : List Int) (A : Option Addr) (c : Nat) (w : World) (hC : (Kd.int .u8).C w A l.length l) (hc : l.length ≤ c) (hl : l.length ≤ 1000000) :
    Calls Tryz.prog 13 #[.slice A l.length c] w (StepR (fun _ => True) w (parseS l)) := by
  rcases lineS_cases l with h | ⟨m, hm, h⟩ | ⟨m, t, hm, h, ht⟩
  · rw [parse_M h]
    exact rp_more l A c _ w hC hc hl h
  · rw [parse_L h]
    exact rp_long l A c m _ w hC hc hl h hm
  rw [parse_T h]
  obtain ⟨W, hW⟩ : ∃ W, wordsB t = W := ⟨_, rfl⟩
  rw [hW]
  have hsz : ∀ k ∈ W, k.size ≤ 1000000 := fun k hk => by
    have := wordsB_size t k (by rw [hW]; exact hk)
    omega
  have hlen : W.length ≤ 1000000 := by
    have := words_len t
    rw [hW] at this
    omega
  cases W with
  | nil => exact rp_nil l A c m t [] _ w hC hc hl h hm ht hW rfl
  | cons v ws =>
  have hp : 0 < (v :: ws).length := by rw [List.length_cons]; omega
  have k1 := tb v [103, 101, 116]
  have k2 := tb v [103, 101, 116, 115]
  have k3 := tb v [103, 97, 116]
  have k4 := tb v [103, 97, 116, 115]
  have k5 := tb v [118, 101, 114, 115, 105, 111, 110]
  have k6 := tb v [113, 117, 105, 116]
  unfold parseW
  dsimp only
  unfold loudS
  by_cases h1 : v = (⟨#[103, 101, 116]⟩ : ByteArray) ∨ v = (⟨#[103, 101, 116, 115]⟩ : ByteArray)
  · simp only [if_pos h1, if_true]
    refine rp_get l A c m t (v :: ws) _ w hC hc hl h hm ht hW v hp rfl _ _ _ _ k1 k2 k3 k4 ?_ _ ?_
    · rcases h1 with h1 | h1
      · exact .inl (decide_eq_true h1)
      · exact .inr (.inl (decide_eq_true h1))
    · intro A1 c1 w' hC1 hc1
      exact rgets1 v ws A1 c1 _ _ w' hC1 hc1 hsz hlen h1
  by_cases h2 : v = (⟨#[103, 97, 116]⟩ : ByteArray) ∨ v = (⟨#[103, 97, 116, 115]⟩ : ByteArray)
  · simp only [if_neg h1, if_pos h2, if_true]
    refine rp_get l A c m t (v :: ws) _ w hC hc hl h hm ht hW v hp rfl _ _ _ _ k1 k2 k3 k4 ?_ _ ?_
    · rcases h2 with h2 | h2
      · exact .inr (.inr (.inl (decide_eq_true h2)))
      · exact .inr (.inr (.inr (decide_eq_true h2)))
    · intro A1 c1 w' hC1 hc1
      exact rgets2 v ws A1 c1 _ _ w' hC1 hc1 hsz hlen h2
  have f1 : (v.toList == [103, 101, 116]) = false := k1.trans (decide_eq_false (fun e => h1 (.inl e)))
  have f2 : (v.toList == [103, 101, 116, 115]) = false := k2.trans (decide_eq_false (fun e => h1 (.inr e)))
  have f3 : (v.toList == [103, 97, 116]) = false := k3.trans (decide_eq_false (fun e => h2 (.inl e)))
  have f4 : (v.toList == [103, 97, 116, 115]) = false := k4.trans (decide_eq_false (fun e => h2 (.inr e)))
  by_cases h3 : v = (⟨#[118, 101, 114, 115, 105, 111, 110]⟩ : ByteArray) ∨ v = (⟨#[113, 117, 105, 116]⟩ : ByteArray)
  · have hb : (if v = (⟨#[118, 101, 114, 115, 105, 111, 110]⟩ : ByteArray) then (bareS v ws.length ((m : Int) + 1) 15, true) else if v = (⟨#[113, 117, 105, 116]⟩ : ByteArray) then (bareS v ws.length ((m : Int) + 1) 16, true) else (zStep, false)) = (rbareS ((m : Int) + 1) (v :: ws), true) := by
      unfold rbareS bareS
      rcases h3 with rfl | rfl
      · rw [if_pos rfl]
        congr 1
        rw [List.length_cons]
        by_cases h0 : ws.length = 0
        · rw [if_pos h0, if_neg (by omega)]
          simp only [List.getD_cons_zero, ByteArray.toList_eq]
          rfl
        · rw [if_neg h0, if_pos (by omega)]
      · rw [if_neg (by decide), if_pos rfl]
        congr 1
        rw [List.length_cons]
        by_cases h0 : ws.length = 0
        · rw [if_pos h0, if_neg (by omega)]
          simp only [List.getD_cons_zero, ByteArray.toList_eq]
          rfl
        · rw [if_neg h0, if_pos (by omega)]
    simp only [if_neg h1, if_neg h2]
    rw [hb]
    simp only [if_true]
    refine rp_bare l A c m t (v :: ws) _ w hC hc hl h hm ht hW v hp rfl _ _ f1 f2 f3 f4 k5 k6 ?_ _ ?_
    · rcases h3 with h3 | h3
      · exact .inl (decide_eq_true h3)
      · exact .inr (decide_eq_true h3)
    · intro A1 c1 w' hC1 hc1
      exact rbare_calls (v :: ws) A1 c1 _ _ w' hC1 hc1
  have h5 : ¬ v = (⟨#[118, 101, 114, 115, 105, 111, 110]⟩ : ByteArray) := fun e => h3 (.inl e)
  have h6 : ¬ v = (⟨#[113, 117, 105, 116]⟩ : ByteArray) := fun e => h3 (.inr e)
  have f5 : (v.toList == [118, 101, 114, 115, 105, 111, 110]) = false := k5.trans (decide_eq_false h5)
  have f6 : (v.toList == [113, 117, 105, 116]) = false := k6.trans (decide_eq_false h6)
  simp only [if_neg h1, if_neg h2, if_neg h5, if_neg h6]
  rw [if_neg (show ¬ false = true by decide)]
  obtain ⟨qh, hqh⟩ : ∃ qh, hushB v ws = qh := ⟨_, rfl⟩
  obtain ⟨ws7, h7⟩ : ∃ ws7, (if qh = true then ws.take (ws.length - 1) else ws) = ws7 := ⟨_, rfl⟩
  have hR : (if hushB v ws = true then otherS v true ((m : Int) + 1) (ws.take (ws.length - 1)) (l.drop (m + 1)) else otherS v false ((m : Int) + 1) ws (l.drop (m + 1))) = otherS v qh ((m : Int) + 1) ws7 (l.drop (m + 1)) := by
    rw [hqh, ← h7]
    cases qh
    · rw [if_neg (by decide), if_neg (by decide)]
    · rw [if_pos rfl, if_pos rfl]
  rw [hR]
  have hin := asksL_in v.toList
  have hq0 : qh = true → 0 < ws.length := fun e => by
    rw [e] at hqh
    unfold hushB at hqh
    rw [Bool.and_eq_true, decide_eq_true_eq] at hqh
    exact hqh.1
  have h77 : (if qh = true then (v :: ws).take ((v :: ws).length - 1) else v :: ws) = v :: ws7 := by
    rw [← h7, List.length_cons, Nat.add_sub_cancel]
    cases qh
    · rw [if_neg (by decide), if_neg (by decide)]
    · rw [if_pos rfl, if_pos rfl]
      have := hq0 rfl
      obtain ⟨k, hk⟩ : ∃ k, ws.length = k + 1 := ⟨ws.length - 1, by omega⟩
      rw [hk, List.take_succ_cons, Nat.add_sub_cancel]
  have hn7 : (if qh = true then (v :: ws).length - 1 else (v :: ws).length) = (v :: ws7).length := by
    rw [← h77]
    cases qh
    · rw [if_neg (by decide), if_neg (by decide)]
    · rw [if_pos rfl, if_pos rfl, List.length_take]
      omega
  have hs7 : ∀ k ∈ v :: ws7, k.size ≤ 1000000 := fun k hk => by
    rw [← h77] at hk
    split at hk
    · exact hsz k (List.mem_of_mem_take hk)
    · exact hsz k hk
  have hl7 : (v :: ws7).length ≤ 1000000 := by rw [← hn7]; split <;> omega
  have hmany : manyL v.toList = if asksL v.toList = -1 then 0 else asksL v.toList + 1 := rfl
  refine rp_rest l A c m t (v :: ws) _ w hC hc hl h hm ht hW v (ws.length + 1) rfl hp rfl f1 f2 f3 f4 f5 f6 (manyL v.toList) (opL v.toList) rfl (by rw [hmany]; split <;> omega) (by rw [hmany]; split <;> omega) _ (moreB v ws.length) qh rfl ?_ ?_ (v :: ws7) (v :: ws7).length h77 hn7 (by rw [List.length_cons]; omega) rfl _ _ _ _ rfl rfl rfl rfl _ ?_ ?_ ?_
  · unfold moreB
    rw [hmany]
    have e1 : decide (((ws.length + 1 : Nat) : Int) = (if asksL v.toList = -1 then 0 else asksL v.toList + 1) + 1) = decide ((ws.length : Int) = asksL v.toList + 1) := by
      rw [Bool.eq_iff_iff, decide_eq_true_eq, decide_eq_true_eq]
      split <;> omega
    have e2 : decide (ws.length + 1 ≤ 3) = decide (ws.length ≤ 2) := by
      rw [Bool.eq_iff_iff, decide_eq_true_eq, decide_eq_true_eq]
      omega
    rw [e1, e2]
  · rw [← hqh]
    unfold hushB
    rw [Nat.add_sub_cancel]
    by_cases h0 : 0 < ws.length
    · obtain ⟨k, hk⟩ : ∃ k, ws.length = k + 1 := ⟨ws.length - 1, by omega⟩
      rw [decide_eq_true h0, decide_eq_true (show 1 < ws.length + 1 by omega), hk, Nat.add_sub_cancel]
      rfl
    · rw [decide_eq_false h0, decide_eq_false (show ¬ 1 < ws.length + 1 by omega), Bool.false_and, Bool.false_and]
  · intro ho A1 c1 w' hC1 hc1 hCb
    rw [other_store _ _ _ _ _ ho]
    exact rstores_calls v ws7 A1 c1 qh m l A c _ w' hC1 hc1 hs7 hCb hc hl hm _ rfl
  · intro ho hb A1 c1 w' hC1 hc1
    have hne := fun e => ho ((op_six v).2 e)
    have g0 : ¬ v = (⟨#[115, 101, 116]⟩ : ByteArray) := fun e => hne (.inl e)
    have g1 : ¬ v = (⟨#[97, 100, 100]⟩ : ByteArray) := fun e => hne (.inr (.inl e))
    have g2 : ¬ v = (⟨#[114, 101, 112, 108, 97, 99, 101]⟩ : ByteArray) := fun e => hne (.inr (.inr (.inl e)))
    have g3 : ¬ v = (⟨#[97, 112, 112, 101, 110, 100]⟩ : ByteArray) := fun e => hne (.inr (.inr (.inr (.inl e))))
    have g4 : ¬ v = (⟨#[112, 114, 101, 112, 101, 110, 100]⟩ : ByteArray) := fun e => hne (.inr (.inr (.inr (.inr (.inl e)))))
    have g5 : ¬ v = (⟨#[99, 97, 115]⟩ : ByteArray) := fun e => hne (.inr (.inr (.inr (.inr (.inr e)))))
    unfold otherS
    rw [if_neg g0, if_neg g1, if_neg g2, if_neg g3, if_neg g4, if_neg g5]
    rw [tb, tb, tb, tb, tb] at hb
    by_cases d1 : v = (⟨#[100, 101, 108, 101, 116, 101]⟩ : ByteArray)
    · rw [if_pos d1]
      exact ro_delete v ws7 A1 c1 qh _ _ w' hC1 hc1 hs7 d1
    rw [if_neg d1]
    by_cases d2 : v = (⟨#[105, 110, 99, 114]⟩ : ByteArray)
    · rw [if_pos d2]
      exact ro_incr v ws7 A1 c1 qh _ _ w' hC1 hc1 hs7 d2
    rw [if_neg d2]
    by_cases d3 : v = (⟨#[100, 101, 99, 114]⟩ : ByteArray)
    · rw [if_pos d3]
      exact ro_decr v ws7 A1 c1 qh _ _ w' hC1 hc1 hs7 d3
    rw [if_neg d3]
    by_cases d4 : v = (⟨#[116, 111, 117, 99, 104]⟩ : ByteArray)
    · rw [if_pos d4]
      exact ro_touch v ws7 A1 c1 qh _ _ w' hC1 hc1 hs7 d4
    rw [if_neg d4]
    by_cases d5 : v = (⟨#[102, 108, 117, 115, 104, 95, 97, 108, 108]⟩ : ByteArray)
    · rw [if_pos d5]
      exact ro_flush v ws7 A1 c1 qh _ _ w' hC1 hc1 hs7 d5
    · rw [decide_eq_false d1, decide_eq_false d2, decide_eq_false d3, decide_eq_false d4, decide_eq_false d5] at hb
      cases hb
  · intro ho hb
    have hne := fun e => ho ((op_six v).2 e)
    have g0 : ¬ v = (⟨#[115, 101, 116]⟩ : ByteArray) := fun e => hne (.inl e)
    have g1 : ¬ v = (⟨#[97, 100, 100]⟩ : ByteArray) := fun e => hne (.inr (.inl e))
    have g2 : ¬ v = (⟨#[114, 101, 112, 108, 97, 99, 101]⟩ : ByteArray) := fun e => hne (.inr (.inr (.inl e)))
    have g3 : ¬ v = (⟨#[97, 112, 112, 101, 110, 100]⟩ : ByteArray) := fun e => hne (.inr (.inr (.inr (.inl e))))
    have g4 : ¬ v = (⟨#[112, 114, 101, 112, 101, 110, 100]⟩ : ByteArray) := fun e => hne (.inr (.inr (.inr (.inr (.inl e)))))
    have g5 : ¬ v = (⟨#[99, 97, 115]⟩ : ByteArray) := fun e => hne (.inr (.inr (.inr (.inr (.inr e)))))
    unfold otherS
    rw [if_neg g0, if_neg g1, if_neg g2, if_neg g3, if_neg g4, if_neg g5]
    rw [tb, tb, tb, tb, tb] at hb
    simp only [Bool.or_eq_false_iff, decide_eq_false_iff_not] at hb
    obtain ⟨d1, d2, d3, d4, d5⟩ := hb
    rw [if_neg d1, if_neg d2, if_neg d3, if_neg d4, if_neg d5]
end Go.Proofs.YtfljijpkeckeaaaGreatDoor.X
namespace Go.Proofs.YtfljijpkeckeaaaGreatDoor.X
open Go.RowKit Go.Proofs.YtfljijpkeckeaaaGreatDoorW.PrintWords Go.Proofs.YtfljijpkeckeaaaGreatDoorW.PrintMore Go.Proofs.YtfljijpkeckeaaaGreatDoorW.PrintLast
set_option linter.unusedVariables false
set_option linter.unusedSimpArgs false
theorem texts_ev (a : List ByteArray) (hl : a.length ≤ 9223372036854775807) : Ev (fun k => butterylaw14_texts.f k a a) true := by
  have g : ∀ (d i : Nat), i + d = a.length → Ev (fun k => butterylaw14_texts.l0 k a a i) true := by
    intro d
    induction d with
    | zero =>
      intro i hd
      exact Ev.step (fun k => by rw [butterylaw14_texts.l0]) (Ev.neg (by omega) (Ev.now _))
    | succ d ih =>
      intro i hd
      refine Ev.step (fun k => by rw [butterylaw14_texts.l0]) (Ev.pos (by omega) (Ev.pos (by omega) (Ev.pos (by omega) (Ev.pos rfl ?_))))
      rw [w64 _ (by omega) (by omega)]
      exact ih (i + 1) (by omega)
  unfold butterylaw14_texts.f
  exact Ev.pos rfl (g a.length 0 (by omega))
theorem texts_same (l : List ByteArray) (A B : Option Addr) (n c d : Nat) (w : World) (hn : l.length = n) (hA : Kd.string.C w A n l) (hc : n ≤ c) (hB : Kd.string.C w B n l) (hd : n ≤ d) :
    Calls Tryz.prog 35 #[.slice A n c, .slice B n d] w fun e w' => e = .returned (.bool true) ∧ Below w.heap.size w w' := by
  subst hn
  obtain ⟨K, hK⟩ := texts_ev l hA.2.1
  exact (butterylaw14_texts.calls K A c l B d l true w hA hc hB hd (hK K (Nat.le_refl _))).mono fun e w' ⟨he, hd⟩ => ⟨he, hd.below⟩
section
variable {P : Program} {ops : Array Oper} {rest : List Oper} {o : Oper} {a : Act} {Q : Exit → Act → World → Prop} {W : World}
end
set_option maxRecDepth 100000 in
set_option maxHeartbeats 1000000 in
theorem cmds_same (x : Cmd) (cx cy : List Value) (w : World) (hx : kCmd.K w x cx) (hy : kCmd.K w x cy) :
    Calls Tryz.prog 34 #[.agg cx.toArray, .agg cy.toArray] w fun e w' => e = .returned (.bool true) ∧ Below w.heap.size w w' := by
  have HB := Aside0.mk (Below.refl w.heap.size w)
  obtain ⟨A2, c2, rfl, hl2, hg2⟩ := kCmd_open hx
  obtain ⟨A3, c3, rfl, hl3, hg3⟩ := kCmd_open hy
  have HX := Aside0.mk hg2
  have HY := Aside0.mk hg3
  have r2 : (convert 22 9 (.slice A2 x.value.length c2)).run Tryz.prog ((w.alloc (.cells #[.int .i64 x.op, .string x.key, .slice A2 x.value.length c2, .int .u32 x.flags, .int .i64 x.exp, .int .u64 x.cas, .int .u64 x.delta, .int .u64 x.initial, .bool x.makes, .bool x.sets] 40 (0, 0))).alloc (.cells #[.int .i64 x.op, .string x.key, .slice A3 x.value.length c3, .int .u32 x.flags, .int .i64 x.exp, .int .u64 x.cas, .int .u64 x.delta, .int .u64 x.initial, .bool x.makes, .bool x.sets] 40 (0, 0))) = .ok (.string (strOfNums x.value)) ((w.alloc (.cells #[.int .i64 x.op, .string x.key, .slice A2 x.value.length c2, .int .u32 x.flags, .int .i64 x.exp, .int .u64 x.cas, .int .u64 x.delta, .int .u64 x.initial, .bool x.makes, .bool x.sets] 40 (0, 0))).alloc (.cells #[.int .i64 x.op, .string x.key, .slice A3 x.value.length c3, .int .u32 x.flags, .int .i64 x.exp, .int .u64 x.cas, .int .u64 x.delta, .int .u64 x.initial, .bool x.makes, .bool x.sets] 40 (0, 0))) := Kd.C_string Tryz.underlying22 Tryz.underlying5 Tryz.underlying9 (Kd.C_below HX.out (by repeat (first | (with_reducible first | exact HB.out | apply below_alloc | apply pw_below_drewN | apply below_drew1) | exact HB.out)))
  have r3 : (convert 22 9 (.slice A3 x.value.length c3)).run Tryz.prog ((w.alloc (.cells #[.int .i64 x.op, .string x.key, .slice A2 x.value.length c2, .int .u32 x.flags, .int .i64 x.exp, .int .u64 x.cas, .int .u64 x.delta, .int .u64 x.initial, .bool x.makes, .bool x.sets] 40 (0, 0))).alloc (.cells #[.int .i64 x.op, .string x.key, .slice A3 x.value.length c3, .int .u32 x.flags, .int .i64 x.exp, .int .u64 x.cas, .int .u64 x.delta, .int .u64 x.initial, .bool x.makes, .bool x.sets] 40 (0, 0))) = .ok (.string (strOfNums x.value)) ((w.alloc (.cells #[.int .i64 x.op, .string x.key, .slice A2 x.value.length c2, .int .u32 x.flags, .int .i64 x.exp, .int .u64 x.cas, .int .u64 x.delta, .int .u64 x.initial, .bool x.makes, .bool x.sets] 40 (0, 0))).alloc (.cells #[.int .i64 x.op, .string x.key, .slice A3 x.value.length c3, .int .u32 x.flags, .int .i64 x.exp, .int .u64 x.cas, .int .u64 x.delta, .int .u64 x.initial, .bool x.makes, .bool x.sets] 40 (0, 0))) := Kd.C_string Tryz.underlying22 Tryz.underlying5 Tryz.underlying9 (Kd.C_below HY.out (by repeat (first | (with_reducible first | exact HB.out | apply below_alloc | apply pw_below_drewN | apply below_drew1) | exact HB.out)))
  clear hx hy hg2 hg3
  go_enter Tryz.func34, Tryz.ntmps34
  go_wp2
  go_ret
  exact ⟨rfl, (by repeat (first | (with_reducible first | exact HB.out | apply below_alloc | apply pw_below_drewN | apply below_drew1) | exact HB.out))⟩

theorem cmd_v {w : World} {A : Option Addr} {n : Nat} {xs : List Cmd} (h : kCmd.C w A n xs) (i : Nat) (x : Cmd) (hx : xs[i]? = some x) : ∃ b o A2 c2, A = some ⟨b, o, none⟩ ∧ b < w.heap.size ∧
    w.rangeAt b (o + i * 10) [.int .i64 x.op, .string x.key, .slice A2 x.value.length c2, .int .u32 x.flags, .int .i64 x.exp, .int .u64 x.cas, .int .u64 x.delta, .int .u64 x.initial, .bool x.makes, .bool x.sets] ∧ x.value.length ≤ c2 ∧ (Kd.int .u8).C w A2 x.value.length x.value := by
  have hlt := (List.getElem?_eq_some_iff.1 hx).1
  obtain ⟨ad, rfl, hc⟩ := h.2.2 (by rw [← h.1]; omega)
  obtain ⟨cs, hlen, hK, hcell⟩ := hc i x hx
  obtain ⟨A2, c2, rfl, hl2, hC2⟩ := kCmd_open hK
  obtain ⟨cs0, hlen0, hK0, hcell0⟩ := hc 0 _ (List.getElem?_eq_getElem (show 0 < xs.length by omega))
  have h0 := hcell0 0 _ (List.getElem?_eq_getElem (show 0 < cs0.length by rw [hlen0]; decide))
  rw [Nat.zero_mul, Nat.zero_add, Addr.add_zero'] at h0
  obtain ⟨b, o, rfl, hb0⟩ := addr_plain h0
  refine ⟨b, o, A2, c2, rfl, hb0, fun j v hj => ?_, hl2, hC2⟩
  have := hcell j v hj
  have e1 : (⟨b, o, none⟩ : Addr).add (i * kCmd.sz + j) = ⟨b, o + i * 10 + j, none⟩ := by
    rw [Addr.add_mid]
    congr 1
    show o + (i * 10 + j) = o + i * 10 + j
    omega
  rw [e1] at this
  exact this
theorem range_below {w w1 : World} {b o : Nat} {cs : List Value} (h : w.rangeAt b o cs) {B : Nat} (hB : Below B w w1) (hbB : b < B) : w1.rangeAt b o cs := fun j v hj =>
  (hB.cell (p := ⟨b, o + j, none⟩) hbB).trans (h j v hj)
set_option maxRecDepth 100000 in
set_option maxHeartbeats 2000000 in
theorem requests_same (q : Request) (cx cy : List Value) (w : World) (hx : kRequest.K w q cx) (hy : kRequest.K w q cy) :
    Calls Tryz.prog 16 #[.agg cx.toArray, .agg cy.toArray] w fun e w' => e = .returned (.bool true) ∧ Below w.heap.size w w' := by
  obtain ⟨A0, c0, A8, c8, A9, c9, rfl, hl0, hC0, hl8, hC8, hl9, hC9⟩ := kRequest_open hx
  obtain ⟨D0, d0, D8, d8, D9, d9, rfl, hm0, hD0, hm8, hD8, hm9, hD9⟩ := kRequest_open hy
  have hcl : q.cmds.length ≤ 9223372036854775807 := hC0.2.1
  have HCX := Aside0.mk hC0
  have HCY := Aside0.mk hD0
  have HT := Aside0.mk (And.intro hC8 (And.intro hD8 (And.intro hC9 hD9)))
  clear hx hy hC0 hC8 hC9 hD0 hD8 hD9
  go_enter Tryz.func16, Tryz.ntmps16
  go_upto_region 3 with fail
  obtain ⟨W0, hW0⟩ : ∃ W0, (((w.alloc (.cells #[.slice A0 q.cmds.length c0, .int .i64 q.form.dialect, .string q.form.verb, .int .i64 q.form.code, .int .u32 q.form.opq, .bool q.form.quiet, .bool q.form.withcas, .string q.form.flags, .slice A8 q.form.tokens.length c8, .slice A9 q.form.keys.length c9, .bool q.form.base64] 31 (0, 0))).alloc (.cells #[.slice D0 q.cmds.length d0, .int .i64 q.form.dialect, .string q.form.verb, .int .i64 q.form.code, .int .u32 q.form.opq, .bool q.form.quiet, .bool q.form.withcas, .string q.form.flags, .slice D8 q.form.tokens.length d8, .slice D9 q.form.keys.length d9, .bool q.form.base64] 31 (0, 0))).alloc (.cells #[.int .i64 q.form.dialect, .string q.form.verb, .int .i64 q.form.code, .int .u32 q.form.opq, .bool q.form.quiet, .bool q.form.withcas, .string q.form.flags, .slice A8 q.form.tokens.length c8, .slice A9 q.form.keys.length c9, .bool q.form.base64] 29 (0, 0))).alloc (.cells #[.int .i64 q.form.dialect, .string q.form.verb, .int .i64 q.form.code, .int .u32 q.form.opq, .bool q.form.quiet, .bool q.form.withcas, .string q.form.flags, .slice D8 q.form.tokens.length d8, .slice D9 q.form.keys.length d9, .bool q.form.base64] 29 (0, 0)) = W0 := ⟨_, rfl⟩
  rw [hW0]
  have B2 := Aside0.mk (show W0.heap[w.heap.size]? = _ from hW0 ▸ blk_alloc (blk_alloc (blk_alloc (blk_at_new _ _ _ rfl) _) _) _)
  have B3 := Aside0.mk (show W0.heap[w.heap.size + 1]? = _ from hW0 ▸ blk_alloc (blk_alloc (blk_at_new _ _ _ (by simp)) _) _)
  have B5 := Aside0.mk (show W0.heap[w.heap.size + 1 + 1]? = _ from hW0 ▸ blk_alloc (blk_at_new _ _ _ (by simp)) _)
  have B6 := Aside0.mk (show W0.heap[w.heap.size + 1 + 1 + 1]? = _ from hW0 ▸ blk_at_new _ _ _ (by simp))
  have HBW : Aside0 (Below w.heap.size w W0) := ⟨hW0 ▸ below_alloc (below_alloc (below_alloc (below_alloc (Below.refl _ _) _) _) _) _⟩
  have HB0 := Aside0.mk (Below.refl W0.heap.size W0)
  have l0 := Aside0.mk (blk_lt B2.out)
  have l1 := Aside0.mk (blk_lt B3.out)
  have l2 := Aside0.mk (blk_lt B5.out)
  have l3 := Aside0.mk (blk_lt B6.out)
  have HCX0 := Aside0.mk (Kd.C_below HCX.out HBW.out)
  have HCY0 := Aside0.mk (Kd.C_below HCY.out HBW.out)
  have HTX : Aside0 (∀ w', Below W0.heap.size W0 w' → Calls Tryz.prog 35 #[.slice A8 q.form.tokens.length c8, .slice D8 q.form.tokens.length d8] w' fun e w'' => e = .returned (.bool true) ∧ Below w'.heap.size w' w'') := ⟨fun w' hb => texts_same _ _ _ _ _ _ w' rfl (Kd.C_below (Kd.C_below HT.out.1 HBW.out) hb) hl8 (Kd.C_below (Kd.C_below HT.out.2.1 HBW.out) hb) hm8⟩
  have HTY : Aside0 (∀ w', Below W0.heap.size W0 w' → Calls Tryz.prog 35 #[.slice A9 q.form.keys.length c9, .slice D9 q.form.keys.length d9] w' fun e w'' => e = .returned (.bool true) ∧ Below w'.heap.size w' w'') := ⟨fun w' hb => texts_same _ _ _ _ _ _ w' rfl (Kd.C_below (Kd.C_below HT.out.2.2.1 HBW.out) hb) hl9 (Kd.C_below (Kd.C_below HT.out.2.2.2 HBW.out) hb) hm9⟩
  clear hW0 HCX HCY HT hl8 hl9 hm8 hm9
  obtain ⟨g0, hg0⟩ : ∃ g, w.heap.size = g := ⟨_, rfl⟩
  rw [hg0] at B2 B3 B5 B6 l0 l1 l2 l3 HBW ⊢
  obtain ⟨g1, hg1⟩ : ∃ g, g0 + 1 = g := ⟨_, rfl⟩
  rw [hg1] at B3 B5 B6 l1 l2 l3 ⊢
  obtain ⟨g2, hg2⟩ : ∃ g, g1 + 1 = g := ⟨_, rfl⟩
  rw [hg2] at B5 B6 l2 l3 ⊢
  obtain ⟨g3, hg3⟩ : ∃ g, g2 + 1 = g := ⟨_, rfl⟩
  rw [hg3] at B6 l3 ⊢
  have HG0 := Aside0.mk hg0
  clear hg0 hg1 hg2 hg3
  have t0 : W0.cell? ⟨g0, 0, none⟩ = some (.slice A0 q.cmds.length c0) := (blk_cell B2.out 0).trans rfl
  have t1 : W0.cell? ⟨g1, 0, none⟩ = some (.slice D0 q.cmds.length d0) := (blk_cell B3.out 0).trans rfl
  have f0 : W0.cell? ⟨g2, 0, none⟩ = some (.int .i64 q.form.dialect) := (blk_cell B5.out 0).trans rfl
  have f1 : W0.cell? ⟨g2, 1, none⟩ = some (.string q.form.verb) := (blk_cell B5.out 1).trans rfl
  have f2 : W0.cell? ⟨g2, 2, none⟩ = some (.int .i64 q.form.code) := (blk_cell B5.out 2).trans rfl
  have f3 : W0.cell? ⟨g2, 3, none⟩ = some (.int .u32 q.form.opq) := (blk_cell B5.out 3).trans rfl
  have f4 : W0.cell? ⟨g2, 4, none⟩ = some (.bool q.form.quiet) := (blk_cell B5.out 4).trans rfl
  have f5 : W0.cell? ⟨g2, 5, none⟩ = some (.bool q.form.withcas) := (blk_cell B5.out 5).trans rfl
  have f6 : W0.cell? ⟨g2, 6, none⟩ = some (.string q.form.flags) := (blk_cell B5.out 6).trans rfl
  have f9 : W0.cell? ⟨g2, 9, none⟩ = some (.bool q.form.base64) := (blk_cell B5.out 9).trans rfl
  have h0 : W0.cell? ⟨g3, 0, none⟩ = some (.int .i64 q.form.dialect) := (blk_cell B6.out 0).trans rfl
  have h1 : W0.cell? ⟨g3, 1, none⟩ = some (.string q.form.verb) := (blk_cell B6.out 1).trans rfl
  have h2 : W0.cell? ⟨g3, 2, none⟩ = some (.int .i64 q.form.code) := (blk_cell B6.out 2).trans rfl
  have h3 : W0.cell? ⟨g3, 3, none⟩ = some (.int .u32 q.form.opq) := (blk_cell B6.out 3).trans rfl
  have h4 : W0.cell? ⟨g3, 4, none⟩ = some (.bool q.form.quiet) := (blk_cell B6.out 4).trans rfl
  have h5 : W0.cell? ⟨g3, 5, none⟩ = some (.bool q.form.withcas) := (blk_cell B6.out 5).trans rfl
  have h6 : W0.cell? ⟨g3, 6, none⟩ = some (.string q.form.flags) := (blk_cell B6.out 6).trans rfl
  have h9 : W0.cell? ⟨g3, 9, none⟩ = some (.bool q.form.base64) := (blk_cell B6.out 9).trans rfl
  go_wp2
  clear f0 f1 f2 f3 f4 f5 f6 f9 h0 h1 h2 h3 h4 h5 h6 h9 t0 t1
  go_loopw [7] (fun v wr => ∃ k : Nat, v = .int .i64 k ∧ k ≤ q.cmds.length ∧ Aside0 (Below W0.heap.size W0 wr)) (fun v _ => q.cmds.length - (intOf v).toNat)
  case atStart => exact ⟨0, rfl, by omega, ⟨Below.refl _ _⟩⟩
  case round =>
    obtain ⟨k, rfl, hk, HI⟩ := hrel
    clear HB0
    have HB0 := HI
    clear HI
    have t0 : wr.cell? ⟨g0, 0, none⟩ = some (.slice A0 q.cmds.length c0) := (Below.cell HB0.out (p := ⟨g0, 0, none⟩) l0.out).trans ((blk_cell B2.out 0).trans rfl)
    have t1 : wr.cell? ⟨g1, 0, none⟩ = some (.slice D0 q.cmds.length d0) := (Below.cell HB0.out (p := ⟨g1, 0, none⟩) l1.out).trans ((blk_cell B3.out 0).trans rfl)
    by_cases hlt : k < q.cmds.length
    · obtain ⟨x, hx⟩ : ∃ x, q.cmds[k]? = some x := ⟨_, List.getElem?_eq_getElem hlt⟩
      obtain ⟨b1, o1, A2, c2, rfl, hb1, hr1, hl2, hC2⟩ := cmd_v HCX0.out k x hx
      obtain ⟨b2, o2, A3, c3, rfl, hb2, hr2, hl3, hC3⟩ := cmd_v HCY0.out k x hx
      have HR1 := Aside0.mk hr1
      have HR2 := Aside0.mk hr2
      have HK : Aside0 (∀ w', Below W0.heap.size W0 w' → Calls Tryz.prog 34 #[.agg #[.int .i64 x.op, .string x.key, .slice A2 x.value.length c2, .int .u32 x.flags, .int .i64 x.exp, .int .u64 x.cas, .int .u64 x.delta, .int .u64 x.initial, .bool x.makes, .bool x.sets], .agg #[.int .i64 x.op, .string x.key, .slice A3 x.value.length c3, .int .u32 x.flags, .int .i64 x.exp, .int .u64 x.cas, .int .u64 x.delta, .int .u64 x.initial, .bool x.makes, .bool x.sets]] w' fun e w'' => e = .returned (.bool true) ∧ Below w'.heap.size w' w'') := ⟨fun w' hb => cmds_same x _ _ w' (kCmd_mk w' x hl2 (Kd.C_below hC2 hb)) (kCmd_mk w' x hl3 (Kd.C_below hC3 hb))⟩
      have hki : (k : Int) < ↑q.cmds.length := by omega
      clear hx hr1 hr2 hC2 hC3 hl2 hl3
      go_wp2
      (refine wp_region_noPanic ?_; refine wp_region_held_drew (S := fun w' => Below W0.heap.size W0 w') (by kernel_rfl) (below_drew1 HB0.out) ?_; intro hHeld)
      clear t0 t1
      (refine wpAnyH_take (i := 0) (v := ?_) (by simp only [List.getElem?_toArray, List.getElem?_cons_succ, List.getElem?_cons_zero]; rfl) (by kernel_rfl) (by kernel_rfl) (by kernel_rfl) (fun _ _ _ h => h) (Or.inl ⟨by rfl, ?_⟩) (by exact hHeld) ?_; rotate_left; (focus (intro w' hSw; have t0 : w'.cell? ⟨g0, 0, none⟩ = some (.slice (some ⟨b1, o1, none⟩) q.cmds.length c0) := (Below.cell hSw (p := ⟨g0, 0, none⟩) l0.out).trans ((blk_cell B2.out 0).trans rfl); have t1 : w'.cell? ⟨g1, 0, none⟩ = some (.slice (some ⟨b2, o2, none⟩) q.cmds.length d0) := (Below.cell hSw (p := ⟨g1, 0, none⟩) l1.out).trans ((blk_cell B3.out 0).trans rfl); clear hSw; go_simp; (try with_reducible rfl); done)); (try simp only [Act.put, List.setIfInBounds_toArray, List.set_cons_zero, List.set_cons_succ]))
      (refine wpAnyH_take (i := 1) (v := ?_) (by simp only [List.getElem?_toArray, List.getElem?_cons_succ, List.getElem?_cons_zero]; rfl) (by kernel_rfl) (by kernel_rfl) (by kernel_rfl) (fun _ _ _ h => h) (Or.inl ⟨by rfl, ?_⟩) (by exact hHeld) ?_; rotate_left; (focus (intro w' hSw; have t0 : w'.cell? ⟨g0, 0, none⟩ = some (.slice (some ⟨b1, o1, none⟩) q.cmds.length c0) := (Below.cell hSw (p := ⟨g0, 0, none⟩) l0.out).trans ((blk_cell B2.out 0).trans rfl); have t1 : w'.cell? ⟨g1, 0, none⟩ = some (.slice (some ⟨b2, o2, none⟩) q.cmds.length d0) := (Below.cell hSw (p := ⟨g1, 0, none⟩) l1.out).trans ((blk_cell B3.out 0).trans rfl); clear hSw; go_simp; (try with_reducible rfl); done)); (try simp only [Act.put, List.setIfInBounds_toArray, List.set_cons_zero, List.set_cons_succ]))
      (refine wpAnyH_take (i := 2) (v := ?_) (by simp only [List.getElem?_toArray, List.getElem?_cons_succ, List.getElem?_cons_zero]; rfl) (by kernel_rfl) (by kernel_rfl) (by kernel_rfl) (fun _ _ _ h => h) (Or.inl ⟨by rfl, ?_⟩) (by exact hHeld) ?_; rotate_left; (focus (intro w' hSw; have t0 : w'.cell? ⟨g0, 0, none⟩ = some (.slice (some ⟨b1, o1, none⟩) q.cmds.length c0) := (Below.cell hSw (p := ⟨g0, 0, none⟩) l0.out).trans ((blk_cell B2.out 0).trans rfl); have t1 : w'.cell? ⟨g1, 0, none⟩ = some (.slice (some ⟨b2, o2, none⟩) q.cmds.length d0) := (Below.cell hSw (p := ⟨g1, 0, none⟩) l1.out).trans ((blk_cell B3.out 0).trans rfl); clear hSw; go_simp; (try with_reducible rfl); done)); (try simp only [Act.put, List.setIfInBounds_toArray, List.set_cons_zero, List.set_cons_succ]))
      (refine wpAnyH_take (i := 3) (v := ?_) (by simp only [List.getElem?_toArray, List.getElem?_cons_succ, List.getElem?_cons_zero]; rfl) (by kernel_rfl) (by kernel_rfl) (by kernel_rfl) (fun _ _ _ h => h) (Or.inl ⟨by rfl, ?_⟩) (by exact hHeld) ?_; rotate_left; (focus (intro w' hSw; have t0 : w'.cell? ⟨g0, 0, none⟩ = some (.slice (some ⟨b1, o1, none⟩) q.cmds.length c0) := (Below.cell hSw (p := ⟨g0, 0, none⟩) l0.out).trans ((blk_cell B2.out 0).trans rfl); have t1 : w'.cell? ⟨g1, 0, none⟩ = some (.slice (some ⟨b2, o2, none⟩) q.cmds.length d0) := (Below.cell hSw (p := ⟨g1, 0, none⟩) l1.out).trans ((blk_cell B3.out 0).trans rfl); clear hSw; go_simp; (try with_reducible rfl); done)); (try simp only [Act.put, List.setIfInBounds_toArray, List.set_cons_zero, List.set_cons_succ]))
      (refine wpAnyH_take (i := 4) (v := .agg #[.int .i64 x.op, .string x.key, .slice A2 x.value.length c2, .int .u32 x.flags, .int .i64 x.exp, .int .u64 x.cas, .int .u64 x.delta, .int .u64 x.initial, .bool x.makes, .bool x.sets]) (by simp only [List.getElem?_toArray, List.getElem?_cons_succ, List.getElem?_cons_zero]; rfl) (by kernel_rfl) (by kernel_rfl) (by kernel_rfl) (fun _ _ _ h => h) (yieldsIf_load_mid (by rfl) _ _ rfl b1 (o1 + k * 10) rfl _ _ (fun w' hS => range_below HR1.out hS hb1) Tryz.underlying40 rfl (by kernel_rfl)) (by exact hHeld) ?_; (try simp only [Act.put, List.setIfInBounds_toArray, List.set_cons_zero, List.set_cons_succ]))
      (refine wpAnyH_take (i := 5) (v := ?_) (by simp only [List.getElem?_toArray, List.getElem?_cons_succ, List.getElem?_cons_zero]; rfl) (by kernel_rfl) (by kernel_rfl) (by kernel_rfl) (fun _ _ _ h => h) (Or.inl ⟨by rfl, ?_⟩) (by exact hHeld) ?_; rotate_left; (focus (intro w' hSw; have t0 : w'.cell? ⟨g0, 0, none⟩ = some (.slice (some ⟨b1, o1, none⟩) q.cmds.length c0) := (Below.cell hSw (p := ⟨g0, 0, none⟩) l0.out).trans ((blk_cell B2.out 0).trans rfl); have t1 : w'.cell? ⟨g1, 0, none⟩ = some (.slice (some ⟨b2, o2, none⟩) q.cmds.length d0) := (Below.cell hSw (p := ⟨g1, 0, none⟩) l1.out).trans ((blk_cell B3.out 0).trans rfl); clear hSw; go_simp; (try with_reducible rfl); done)); (try simp only [Act.put, List.setIfInBounds_toArray, List.set_cons_zero, List.set_cons_succ]))
      (refine wpAnyH_take (i := 6) (v := ?_) (by simp only [List.getElem?_toArray, List.getElem?_cons_succ, List.getElem?_cons_zero]; rfl) (by kernel_rfl) (by kernel_rfl) (by kernel_rfl) (fun _ _ _ h => h) (Or.inl ⟨by rfl, ?_⟩) (by exact hHeld) ?_; rotate_left; (focus (intro w' hSw; have t0 : w'.cell? ⟨g0, 0, none⟩ = some (.slice (some ⟨b1, o1, none⟩) q.cmds.length c0) := (Below.cell hSw (p := ⟨g0, 0, none⟩) l0.out).trans ((blk_cell B2.out 0).trans rfl); have t1 : w'.cell? ⟨g1, 0, none⟩ = some (.slice (some ⟨b2, o2, none⟩) q.cmds.length d0) := (Below.cell hSw (p := ⟨g1, 0, none⟩) l1.out).trans ((blk_cell B3.out 0).trans rfl); clear hSw; go_simp; (try with_reducible rfl); done)); (try simp only [Act.put, List.setIfInBounds_toArray, List.set_cons_zero, List.set_cons_succ]))
      (refine wpAnyH_take (i := 7) (v := ?_) (by simp only [List.getElem?_toArray, List.getElem?_cons_succ, List.getElem?_cons_zero]; rfl) (by kernel_rfl) (by kernel_rfl) (by kernel_rfl) (fun _ _ _ h => h) (Or.inl ⟨by rfl, ?_⟩) (by exact hHeld) ?_; rotate_left; (focus (intro w' hSw; have t0 : w'.cell? ⟨g0, 0, none⟩ = some (.slice (some ⟨b1, o1, none⟩) q.cmds.length c0) := (Below.cell hSw (p := ⟨g0, 0, none⟩) l0.out).trans ((blk_cell B2.out 0).trans rfl); have t1 : w'.cell? ⟨g1, 0, none⟩ = some (.slice (some ⟨b2, o2, none⟩) q.cmds.length d0) := (Below.cell hSw (p := ⟨g1, 0, none⟩) l1.out).trans ((blk_cell B3.out 0).trans rfl); clear hSw; go_simp; (try with_reducible rfl); done)); (try simp only [Act.put, List.setIfInBounds_toArray, List.set_cons_zero, List.set_cons_succ]))
      (refine wpAnyH_take (i := 8) (v := ?_) (by simp only [List.getElem?_toArray, List.getElem?_cons_succ, List.getElem?_cons_zero]; rfl) (by kernel_rfl) (by kernel_rfl) (by kernel_rfl) (fun _ _ _ h => h) (Or.inl ⟨by rfl, ?_⟩) (by exact hHeld) ?_; rotate_left; (focus (intro w' hSw; have t0 : w'.cell? ⟨g0, 0, none⟩ = some (.slice (some ⟨b1, o1, none⟩) q.cmds.length c0) := (Below.cell hSw (p := ⟨g0, 0, none⟩) l0.out).trans ((blk_cell B2.out 0).trans rfl); have t1 : w'.cell? ⟨g1, 0, none⟩ = some (.slice (some ⟨b2, o2, none⟩) q.cmds.length d0) := (Below.cell hSw (p := ⟨g1, 0, none⟩) l1.out).trans ((blk_cell B3.out 0).trans rfl); clear hSw; go_simp; (try with_reducible rfl); done)); (try simp only [Act.put, List.setIfInBounds_toArray, List.set_cons_zero, List.set_cons_succ]))
      (refine wpAnyH_take (i := 9) (v := .agg #[.int .i64 x.op, .string x.key, .slice A3 x.value.length c3, .int .u32 x.flags, .int .i64 x.exp, .int .u64 x.cas, .int .u64 x.delta, .int .u64 x.initial, .bool x.makes, .bool x.sets]) (by simp only [List.getElem?_toArray, List.getElem?_cons_succ, List.getElem?_cons_zero]; rfl) (by kernel_rfl) (by kernel_rfl) (by kernel_rfl) (fun _ _ _ h => h) (yieldsIf_load_mid (by rfl) _ _ rfl b2 (o2 + k * 10) rfl _ _ (fun w' hS => range_below HR2.out hS hb2) Tryz.underlying40 rfl (by kernel_rfl)) (by exact hHeld) ?_; (try simp only [Act.put, List.setIfInBounds_toArray, List.set_cons_zero, List.set_cons_succ]))
      refine wpAnyH_ready (rs := [10]) (by kernel_rfl) (by simp) ?_
      refine AllReadyH.cons (by simp only [List.getElem?_toArray, List.getElem?_cons_succ, List.getElem?_cons_zero]; rfl) (fun K hK => ?_) AllReadyH.nil
      go_simp
      (go_at_call 34; (with_reducible refine (HK.out _ hHeld).mono ?_); rintro e w5 ⟨rfl, hb⟩)
      have HB5 := Aside0.mk (below_step hHeld hb)
      refine hK.out _ _ HB5.out ?_
      clear hK K hHeld hb HB0
      have HB0 := HB5
      clear HB5
      intro hHeld
      (try simp only [Act.put, List.setIfInBounds_toArray, List.set_cons_zero, List.set_cons_succ])
      (refine wpAnyH_take (i := 11) (v := ?_) (by simp only [List.getElem?_toArray, List.getElem?_cons_succ, List.getElem?_cons_zero]; rfl) (by kernel_rfl) (by kernel_rfl) (by kernel_rfl) (fun _ _ _ h => h) (Or.inl ⟨by rfl, ?_⟩) (by exact hHeld) ?_; rotate_left; (focus (intro w' hSw; skip; clear hSw; go_simp; (try with_reducible rfl); done)); (try simp only [Act.put, List.setIfInBounds_toArray, List.set_cons_zero, List.set_cons_succ]))
      (refine wpAnyH_done (by kernel_rfl) ?_ _; refine NoPanic.normal ?_)
      go_wp2
      go_roundw
      case rel => exact ⟨k + 1, by first | rfl | simp, by omega, ⟨HB0.out⟩⟩
      case measure => simp [intOf]; omega
    · have hki : ¬ (k : Int) < ↑q.cmds.length := by omega
      have f7 : wr.cell? ⟨g2, 7, none⟩ = some (.slice A8 q.form.tokens.length c8) := (Below.cell HB0.out (p := ⟨g2, 7, none⟩) l2.out).trans (blk_cell B5.out 7); have f8 : wr.cell? ⟨g2, 8, none⟩ = some (.slice A9 q.form.keys.length c9) := (Below.cell HB0.out (p := ⟨g2, 8, none⟩) l2.out).trans (blk_cell B5.out 8); have h7 : wr.cell? ⟨g3, 7, none⟩ = some (.slice D8 q.form.tokens.length d8) := (Below.cell HB0.out (p := ⟨g3, 7, none⟩) l3.out).trans (blk_cell B6.out 7); have h8 : wr.cell? ⟨g3, 8, none⟩ = some (.slice D9 q.form.keys.length d9) := (Below.cell HB0.out (p := ⟨g3, 8, none⟩) l3.out).trans (blk_cell B6.out 8)
      go_wp2_with (first | (go_at_call 35; (with_reducible refine (HTX.out _ HB0.out).mono ?_); rintro e w5 ⟨rfl, hb⟩; have HBn := Aside0.mk (below_step HB0.out hb); clear HB0 hb; have HB0 := HBn; clear HBn; have f7 : w5.cell? ⟨g2, 7, none⟩ = some (.slice A8 q.form.tokens.length c8) := (Below.cell HB0.out (p := ⟨g2, 7, none⟩) l2.out).trans (blk_cell B5.out 7); have f8 : w5.cell? ⟨g2, 8, none⟩ = some (.slice A9 q.form.keys.length c9) := (Below.cell HB0.out (p := ⟨g2, 8, none⟩) l2.out).trans (blk_cell B5.out 8); have h7 : w5.cell? ⟨g3, 7, none⟩ = some (.slice D8 q.form.tokens.length d8) := (Below.cell HB0.out (p := ⟨g3, 7, none⟩) l3.out).trans (blk_cell B6.out 7); have h8 : w5.cell? ⟨g3, 8, none⟩ = some (.slice D9 q.form.keys.length d9) := (Below.cell HB0.out (p := ⟨g3, 8, none⟩) l3.out).trans (blk_cell B6.out 8)) | (go_at_call 35; (with_reducible refine (HTY.out _ HB0.out).mono ?_); rintro e w5 ⟨rfl, hb⟩; have HBn := Aside0.mk (below_step HB0.out hb); clear HB0 hb; have HB0 := HBn; clear HBn; have f7 : w5.cell? ⟨g2, 7, none⟩ = some (.slice A8 q.form.tokens.length c8) := (Below.cell HB0.out (p := ⟨g2, 7, none⟩) l2.out).trans (blk_cell B5.out 7); have f8 : w5.cell? ⟨g2, 8, none⟩ = some (.slice A9 q.form.keys.length c9) := (Below.cell HB0.out (p := ⟨g2, 8, none⟩) l2.out).trans (blk_cell B5.out 8); have h7 : w5.cell? ⟨g3, 7, none⟩ = some (.slice D8 q.form.tokens.length d8) := (Below.cell HB0.out (p := ⟨g3, 7, none⟩) l3.out).trans (blk_cell B6.out 7); have h8 : w5.cell? ⟨g3, 8, none⟩ = some (.slice D9 q.form.keys.length d9) := (Below.cell HB0.out (p := ⟨g3, 8, none⟩) l3.out).trans (blk_cell B6.out 8)))
      go_ret
      exact ⟨rfl, HG0.out ▸ HBW.out.trans (HB0.out.mono (by have := HBW.out.size; have := HG0.out; omega))⟩
set_option maxRecDepth 100000 in
set_option maxHeartbeats 2000000 in
theorem steps_same (s : Step) (cx cy : List Value) (w : World) (hx : kStep.K w s cx) (hy : kStep.K w s cy) :
    Calls Tryz.prog 11 #[.agg cx.toArray, .agg cy.toArray] w fun e w' => e = .returned (.bool true) ∧ Below w.heap.size w w' := by
  have HB := Aside0.mk (Below.refl w.heap.size w)
  obtain ⟨A0, c0, A8, c8, A9, c9, rfl, hl0, hC0, hl8, hC8, hl9, hC9⟩ := kStep_open hx
  obtain ⟨D0, d0, D8, d8, D9, d9, rfl, hm0, hD0, hm8, hD8, hm9, hD9⟩ := kStep_open hy
  have HR : Aside0 (∀ w', Below w.heap.size w w' → Calls Tryz.prog 16 #[.agg #[.slice A0 s.req.cmds.length c0, .int .i64 s.req.form.dialect, .string s.req.form.verb, .int .i64 s.req.form.code, .int .u32 s.req.form.opq, .bool s.req.form.quiet, .bool s.req.form.withcas, .string s.req.form.flags, .slice A8 s.req.form.tokens.length c8, .slice A9 s.req.form.keys.length c9, .bool s.req.form.base64], .agg #[.slice D0 s.req.cmds.length d0, .int .i64 s.req.form.dialect, .string s.req.form.verb, .int .i64 s.req.form.code, .int .u32 s.req.form.opq, .bool s.req.form.quiet, .bool s.req.form.withcas, .string s.req.form.flags, .slice D8 s.req.form.tokens.length d8, .slice D9 s.req.form.keys.length d9, .bool s.req.form.base64]] w' fun e w'' => e = .returned (.bool true) ∧ Below w'.heap.size w' w'') := ⟨fun w' hb => requests_same s.req _ _ w' (kRequest_mk w' s.req hl0 (Kd.C_below hC0 hb) hl8 (Kd.C_below hC8 hb) hl9 (Kd.C_below hC9 hb)) (kRequest_mk w' s.req hm0 (Kd.C_below hD0 hb) hm8 (Kd.C_below hD8 hb) hm9 (Kd.C_below hD9 hb))⟩
  clear hx hy hC0 hC8 hC9 hD0 hD8 hD9
  go_enter Tryz.func11, Tryz.ntmps11
  go_wp2_with (first | (go_at_call 16; (with_reducible refine (HR.out _ (by repeat (first | (with_reducible first | exact HB.out | apply below_alloc | apply pw_below_drewN | apply below_drew1) | exact HB.out))).mono ?_); rintro e w1 ⟨rfl, hb⟩; have B2 := Aside0.mk (blk_below (g := w.heap.size) (o := .cells #[.slice A0 s.req.cmds.length c0, .int .i64 s.req.form.dialect, .string s.req.form.verb, .int .i64 s.req.form.code, .int .u32 s.req.form.opq, .bool s.req.form.quiet, .bool s.req.form.withcas, .string s.req.form.flags, .slice A8 s.req.form.tokens.length c8, .slice A9 s.req.form.keys.length c9, .bool s.req.form.base64, .string s.reply, .int .i64 s.used, .int .i64 s.skip, .bool s.line, .int .i64 s.e] 34 (0, 0)) (by repeat (first | exact blk_at_new _ _ _ (by simp; done) | exact blk_at_new _ _ _ rfl | refine blk_alloc ?_ _ | refine blk_drew ?_ | refine blk_drewN ?_ _)) hb); have B3 := Aside0.mk (blk_below (g := w.heap.size + 1) (o := .cells #[.slice D0 s.req.cmds.length d0, .int .i64 s.req.form.dialect, .string s.req.form.verb, .int .i64 s.req.form.code, .int .u32 s.req.form.opq, .bool s.req.form.quiet, .bool s.req.form.withcas, .string s.req.form.flags, .slice D8 s.req.form.tokens.length d8, .slice D9 s.req.form.keys.length d9, .bool s.req.form.base64, .string s.reply, .int .i64 s.used, .int .i64 s.skip, .bool s.line, .int .i64 s.e] 34 (0, 0)) (by repeat (first | exact blk_at_new _ _ _ (by simp; done) | exact blk_at_new _ _ _ rfl | refine blk_alloc ?_ _ | refine blk_drew ?_ | refine blk_drewN ?_ _)) hb); have HBn := Aside0.mk (below_step (by repeat (first | (with_reducible first | exact HB.out | apply below_alloc | apply pw_below_drewN | apply below_drew1) | exact HB.out)) hb); clear HB; have HB := HBn; clear HBn; clear hb; have $Xr : w1.cell? ⟨w.heap.size, 11, none⟩ = some (.string s.reply) := (blk_cell B2.out 11).trans rfl; have $Xu : w1.cell? ⟨w.heap.size, 12, none⟩ = some (.int .i64 s.used) := (blk_cell B2.out 12).trans rfl; have $Xk : w1.cell? ⟨w.heap.size, 13, none⟩ = some (.int .i64 s.skip) := (blk_cell B2.out 13).trans rfl; have $Xl : w1.cell? ⟨w.heap.size, 14, none⟩ = some (.bool s.line) := (blk_cell B2.out 14).trans rfl; have $Xe : w1.cell? ⟨w.heap.size, 15, none⟩ = some (.int .i64 s.e) := (blk_cell B2.out 15).trans rfl; have $Xr : w1.cell? ⟨w.heap.size + 1, 11, none⟩ = some (.string s.reply) := (blk_cell B3.out 11).trans rfl; have $Xu : w1.cell? ⟨w.heap.size + 1, 12, none⟩ = some (.int .i64 s.used) := (blk_cell B3.out 12).trans rfl; have $Xk : w1.cell? ⟨w.heap.size + 1, 13, none⟩ = some (.int .i64 s.skip) := (blk_cell B3.out 13).trans rfl; have $Xl : w1.cell? ⟨w.heap.size + 1, 14, none⟩ = some (.bool s.line) := (blk_cell B3.out 14).trans rfl; have $Xe : w1.cell? ⟨w.heap.size + 1, 15, none⟩ = some (.int .i64 s.e) := (blk_cell B3.out 15).trans rfl))
  go_ret
  exact ⟨rfl, (by repeat (first | (with_reducible first | exact HB.out | apply below_alloc | apply pw_below_drewN | apply below_drew1) | exact HB.out))⟩
end Go.Proofs.YtfljijpkeckeaaaGreatDoor.X
namespace Go.Proofs.YtfljijpkeckeaaaGreatDoor.X
open Go.RowKit Go.Proofs.YtfljijpkeckeaaaGreatDoorW.PrintWords Go.Proofs.YtfljijpkeckeaaaGreatDoorW.PrintMore
set_option linter.unusedVariables false
set_option linter.unusedSimpArgs false
def numsL (l : List UInt8) : List Int := l.map fun b => (b.toNat : Int)
theorem numsL_len (l : List UInt8) : (numsL l).length = l.length := List.length_map ..
theorem B8_nums (l : List UInt8) : B8 (numsL l) := fun z hz => by
  obtain ⟨b, _, rfl⟩ := List.mem_map.1 hz
  have := b.toNat_lt
  omega
theorem str_nums (l : List UInt8) : strOfNums (numsL l) = baOf l := by
  unfold strOfNums baOf numsL
  congr 1
  simp
  exact (List.map_congr_left (fun b _ => by simp)).trans (List.map_id l)
theorem nlI_app (l r : List Int) (h : ∀ z ∈ l, z ≠ 10) : nlI (l ++ 10 :: r) = some l.length := by
  induction l with
  | nil => simp [nlI]
  | cons z l ih =>
    have h1 := h z (by simp)
    rw [List.cons_append, nlI, if_neg h1, ih (fun x hx => h x (by simp [hx]))]
    rfl
def NoNl (l : List UInt8) : Prop := ∀ b ∈ l, b ≠ 10 ∧ b ≠ 13
theorem nums_ne {l : List UInt8} {c : UInt8} {k : Int} (hk : (c.toNat : Int) = k) (h : ∀ b ∈ l, b ≠ c) : ∀ z ∈ numsL l, z ≠ k := fun z hz e => by
  obtain ⟨b, hb, rfl⟩ := List.mem_map.1 hz
  have : b = c := by
    apply UInt8.toNat_inj.1
    have e : (b.toNat : Int) = k := e
    omega
  exact h b hb this
theorem line_crlf (l : List UInt8) (r : List Int) (h : NoNl l) (hl : l.length ≤ 2048) : lineS (numsL l ++ 13 :: 10 :: r) = (baOf l, ((l.length + 1 : Nat) : Int) + 1, 0) := by
  have hn : nlI (numsL l ++ 13 :: 10 :: r) = some (l.length + 1) := by
    have := nlI_app (numsL l ++ [13]) r (fun z hz => by
      rcases List.mem_append.1 hz with hz | hz
      · exact nums_ne (c := 10) (by decide) (fun b hb => (h b hb).1) z hz
      · obtain rfl := List.mem_singleton.1 hz
        decide)
    rw [List.length_append, numsL_len, List.append_assoc] at this
    exact this
  unfold lineS
  rw [hn]
  dsimp only
  have e1 : (numsL l ++ 13 :: 10 :: r).getD (l.length + 1 - 1) 0 = 13 := by
    rw [Nat.add_sub_cancel, List.getD_eq_getElem?_getD, List.getElem?_append_right (by rw [numsL_len]; omega), numsL_len, Nat.sub_self]
    rfl
  rw [show (if 0 < l.length + 1 ∧ (numsL l ++ 13 :: 10 :: r).getD (l.length + 1 - 1) 0 = 13 then l.length + 1 - 1 else l.length + 1) = l.length from (if_pos ⟨by omega, e1⟩).trans (Nat.add_sub_cancel ..), if_neg (by omega), List.take_left' (numsL_len l), str_nums]
theorem wordsB_ba (l : List UInt8) : wordsB (baOf l) = (wordsL l).map baOf := rfl
theorem parse_crlf (l : List UInt8) (r : List Int) (h : NoNl l) (hl : l.length ≤ 2048) : parseS (numsL l ++ 13 :: 10 :: r) = parseW ((l.length : Int) + 2) r ((wordsL l).map baOf) := by
  rw [parse_T (line_crlf l r h hl), wordsB_ba]
  have e : (numsL l ++ 13 :: 10 :: r).drop (l.length + 1 + 1) = r := by
    rw [show numsL l ++ 13 :: 10 :: r = (numsL l ++ [13, 10]) ++ r by simp]
    exact List.drop_left' (by rw [List.length_append, numsL_len]; rfl)
  rw [e, show (((l.length + 1 : Nat) : Int) + 1) = (l.length : Int) + 2 by omega]
end Go.Proofs.YtfljijpkeckeaaaGreatDoor.X
namespace Go.Proofs.YtfljijpkeckeaaaGreatDoor.X
open Go.RowKit Go.Proofs.YtfljijpkeckeaaaGreatDoorW.PrintWords Go.Proofs.YtfljijpkeckeaaaGreatDoorW.PrintMore
set_option linter.unusedVariables false
set_option linter.unusedSimpArgs false
instance (w : List UInt8) : Decidable (NoB w) := by unfold NoB; infer_instance
instance (w : List UInt8) : Decidable (NoNl w) := by unfold NoNl; infer_instance
theorem more_lit {v : ByteArray} {n : Nat} {l : List UInt8} (hv : v.data.toList = l) {k : Nat} (hn : n = k) (h1 : ¬ (k : Int) = asksL l + 1) (h2 : l ≠ [102, 108, 117, 115, 104, 95, 97, 108, 108]) : moreB v n = false := by
  subst hn
  unfold moreB
  rw [ByteArray.toList_eq, hv, decide_eq_false h1, Bool.false_or, beq_eq_false_iff_ne.2 h2, Bool.false_and]
theorem W_loud {v : ByteArray} {u : Int} {r : List Int} {ws : List ByteArray} (h1 : ¬ (v = (⟨#[103, 101, 116]⟩ : ByteArray) ∨ v = (⟨#[103, 101, 116, 115]⟩ : ByteArray))) (h2 : ¬ (v = (⟨#[103, 97, 116]⟩ : ByteArray) ∨ v = (⟨#[103, 97, 116, 115]⟩ : ByteArray))) (h3 : v ≠ (⟨#[118, 101, 114, 115, 105, 111, 110]⟩ : ByteArray)) (h4 : v ≠ (⟨#[113, 117, 105, 116]⟩ : ByteArray)) (hh : moreB v ws.length = false) : parseW u r (v :: ws) = otherS v false u ws r := by
  have hb : (loudS v u ws).2 = false := by
    unfold loudS
    rw [if_neg h1, if_neg h2, if_neg h3, if_neg h4]
  have hu : hushB v ws = false := by
    unfold hushB
    rw [hh, Bool.false_and, Bool.and_false]
  unfold parseW
  dsimp only
  rw [hb, hu, if_neg (by decide), if_neg (by decide)]
theorem ex_a : parseS (numsL [103, 101, 116, 32, 97, 32, 98, 13, 10]) = stepG 9 (⟨#[103, 101, 116]⟩ : ByteArray) 0 0 [(⟨#[97]⟩ : ByteArray), (⟨#[98]⟩ : ByteArray)] := by
  rw [show numsL [103, 101, 116, 32, 97, 32, 98, 13, 10] = numsL [103, 101, 116, 32, 97, 32, 98] ++ 13 :: 10 :: [] from rfl, parse_crlf _ [] (by decide) (by decide), show wordsL [103, 101, 116, 32, 97, 32, 98] = [[103, 101, 116], [97], [98]] from wordsL_jn [[103, 101, 116], [97], [98]] (by decide)]
  rfl
theorem ex_b : parseS (numsL [115, 101, 116, 32, 107, 32, 49, 32, 48, 32, 50, 13, 10, 120, 121, 13, 10]) = stepO 17 (formT (⟨#[115, 101, 116]⟩ : ByteArray) false [(⟨#[107]⟩ : ByteArray)]) (cmdS 3 (⟨#[107]⟩ : ByteArray) [120, 121] 1 0 0) := by
  rw [show numsL [115, 101, 116, 32, 107, 32, 49, 32, 48, 32, 50, 13, 10, 120, 121, 13, 10] = numsL [115, 101, 116, 32, 107, 32, 49, 32, 48, 32, 50] ++ 13 :: 10 :: [120, 121, 13, 10] from rfl, parse_crlf _ _ (by decide) (by decide), show wordsL [115, 101, 116, 32, 107, 32, 49, 32, 48, 32, 50] = [[115, 101, 116], [107], [49], [48], [50]] from wordsL_jn [[115, 101, 116], [107], [49], [48], [50]] (by decide)]
  show parseW _ _ ((⟨#[115, 101, 116]⟩ : ByteArray) :: [(⟨#[107]⟩ : ByteArray), (⟨#[49]⟩ : ByteArray), (⟨#[48]⟩ : ByteArray), (⟨#[50]⟩ : ByteArray)]) = _
  rw [W_loud (by decide) (by decide) (by decide) (by decide) (more_lit rfl (k := 4) rfl (by decide) (by decide))]
  unfold otherS
  rw [if_pos rfl]
  unfold storesS
  rw [if_neg (fun h => h rfl)]
  show storesR (⟨#[115, 101, 116]⟩ : ByteArray) false 13 [120, 121, 13, 10] 3 (⟨#[107]⟩ : ByteArray) (⟨#[49]⟩ : ByteArray) (⟨#[48]⟩ : ByteArray) (⟨#[50]⟩ : ByteArray) (0, true) = _
  unfold storesR
  rw [sgn0, show decS (⟨#[49]⟩ : ByteArray) = (1, true) by decide, show decS (⟨#[50]⟩ : ByteArray) = (2, true) by decide, show keyS (⟨#[107]⟩ : ByteArray) = true by decide, if_neg (by decide), if_neg (by decide)]
  rfl
theorem ex_c : parseS (numsL [103, 101, 116, 13, 10]) = stepF 5 (⟨#[69, 82, 82, 79, 82]⟩ : ByteArray) := by
  rw [show numsL [103, 101, 116, 13, 10] = numsL [103, 101, 116] ++ 13 :: 10 :: [] from rfl, parse_crlf _ [] (by decide) (by decide), show wordsL [103, 101, 116] = [[103, 101, 116]] from wordsL_jn [[103, 101, 116]] (by decide)]
  rfl
end Go.Proofs.YtfljijpkeckeaaaGreatDoor.X
namespace Go.Proofs.YtfljijpkeckeaaaGreatDoor.X
open Go.RowKit Go.Proofs.YtfljijpkeckeaaaGreatDoorW.PrintWords Go.Proofs.YtfljijpkeckeaaaGreatDoorW.PrintMore Go.Proofs.YtfljijpkeckeaaaGreatDoorW.PrintLast
set_option linter.unusedVariables false
set_option linter.unusedSimpArgs false
def PV (w : World) (st : Step) (n : Nat) (q : Bool) (r : ByteArray) (u k : Int) (b : Bool) (er : Int) (e : Ending) (w' : World) : Prop := ∃ (A0 : Option Addr) (c0 : Nat) (x1 : Int) (x2 : ByteArray) (x3 x4 : Int) (x6 : Bool) (x7 : ByteArray) (A8 : Option Addr) (n8 c8 : Nat) (A9 : Option Addr) (n9 c9 : Nat) (x10 : Bool), e = .returned (.agg ([.slice A0 n c0, .int .i64 x1, .string x2, .int .i64 x3, .int .u32 x4, .bool q, .bool x6, .string x7, .slice A8 n8 c8, .slice A9 n9 c9, .bool x10, .string r, .int .i64 u, .int .i64 k, .bool b, .int .i64 er] : List Value).toArray) ∧ kStep.K w' st [.slice A0 n c0, .int .i64 x1, .string x2, .int .i64 x3, .int .u32 x4, .bool q, .bool x6, .string x7, .slice A8 n8 c8, .slice A9 n9 c9, .bool x10, .string r, .int .i64 u, .int .i64 k, .bool b, .int .i64 er] ∧ Below w.heap.size w w'
theorem parse_v (l : List Int) (N : Nat) (hN : l.length = N) (st : Step) (hst : parseS l = st) (n : Nat) (q : Bool) (r : ByteArray) (u k : Int) (b : Bool) (er : Int) (hn : st.req.cmds.length = n) (hq : st.req.form.quiet = q) (hr : st.reply = r) (hu : st.used = u) (hk : st.skip = k) (hb : st.line = b) (he : st.e = er)
    (A : Option Addr) (c : Nat) (w : World) (hC : (Kd.int .u8).C w A l.length l) (hc : N ≤ c) (hl : l.length ≤ 1000000) (h8 : B8 l) (hT : Tabs w) : Calls Tryz.prog 12 #[.slice A N c] w (PV w st n q r u k b er) := by
  subst hN hst hn hq hr hu hk hb he
  refine (parse_calls l A c w hC hc hl h8 hT).mono ?_
  rintro e w' ⟨⟨cs, rfl, hk⟩, hb⟩
  have hK := hk.now
  obtain ⟨A0, c0, A8, c8, A9, c9, rfl, -⟩ := kStep_open hK
  exact ⟨A0, c0, _, _, _, _, _, _, A8, _, c8, A9, _, c9, _, rfl, hK, hb⟩
theorem step_C {w : World} {st : Step} {A0 : Option Addr} {n c0 : Nat} {cs : List Value} (h : kStep.K w st (.slice A0 n c0 :: cs)) : kCmd.C w A0 st.req.cmds.length st.req.cmds := by
  obtain ⟨A0', c0', A8, c8, A9, c9, e, h1, h2, -⟩ := kStep_open h
  obtain ⟨rfl, -, -⟩ := Value.slice.inj (List.cons.inj e).1
  exact h2
def awA : List Int := numsL [103, 101, 116, 32, 97, 32, 98, 13, 10]
def awB : List Int := numsL [115, 101, 116, 32, 107, 32, 49, 32, 48, 32, 50, 13, 10, 120, 121, 13, 10]
def awC : List Int := numsL [103, 101, 116, 13, 10]
theorem awA_at {W : World} {b : Nat} {e : TypeId} {fr : Nat × Nat} (hb : W.heap[b]? = some (.cells #[.int .u8 103, .int .u8 101, .int .u8 116, .int .u8 32, .int .u8 97, .int .u8 32, .int .u8 98, .int .u8 13, .int .u8 10] e fr)) : Bytes W (some ⟨b, 0, none⟩) awA := Bytes_at hb awA (by decide) rfl
theorem awB_at {W : World} {b : Nat} {e : TypeId} {fr : Nat × Nat} (hb : W.heap[b]? = some (.cells #[.int .u8 115, .int .u8 101, .int .u8 116, .int .u8 32, .int .u8 107, .int .u8 32, .int .u8 49, .int .u8 32, .int .u8 48, .int .u8 32, .int .u8 50, .int .u8 13, .int .u8 10, .int .u8 120, .int .u8 121, .int .u8 13, .int .u8 10] e fr)) : Bytes W (some ⟨b, 0, none⟩) awB := Bytes_at hb awB (by decide) rfl
theorem awC_at {W : World} {b : Nat} {e : TypeId} {fr : Nat × Nat} (hb : W.heap[b]? = some (.cells #[.int .u8 103, .int .u8 101, .int .u8 116, .int .u8 13, .int .u8 10] e fr)) : Bytes W (some ⟨b, 0, none⟩) awC := Bytes_at hb awC (by decide) rfl
theorem xy_eq : (strOfNums [120, 121]).toList = [120, 121] := by
  rw [ByteArray.toList_eq]
  rfl
set_option maxRecDepth 100000 in
set_option maxHeartbeats 2000000 in
theorem awake_calls (w : World) (hT : Tabs w) : Calls Tryz.prog 10 #[] w fun e w' => e = .returned (.bool true) ∧ Below w.heap.size w w' := by
  have HB := Aside0.mk (Below.refl w.heap.size w)
  have HT := Aside0.mk hT
  have HPA := Aside0.mk (fun (A : Option Addr) (c : Nat) (w' : World) (hC : Bytes w' A awA) (hc : 9 ≤ c) (hT : Tabs w') => parse_v awA 9 rfl _ ex_a 2 false ⟨#[]⟩ 9 0 false 0 rfl rfl rfl rfl rfl rfl rfl A c w' hC hc (by decide) (B8_nums _) hT)
  have HPB := Aside0.mk (fun (A : Option Addr) (c : Nat) (w' : World) (hC : Bytes w' A awB) (hc : 17 ≤ c) (hT : Tabs w') => parse_v awB 17 rfl _ ex_b 1 false ⟨#[]⟩ 17 0 false 0 rfl rfl rfl rfl rfl rfl rfl A c w' hC hc (by decide) (B8_nums _) hT)
  have HPC := Aside0.mk (fun (A : Option Addr) (c : Nat) (w' : World) (hC : Bytes w' A awC) (hc : 5 ≤ c) (hT : Tabs w') => parse_v awC 5 rfl _ ex_c 0 false (⟨#[69, 82, 82, 79, 82, 13, 10]⟩ : ByteArray) 5 0 false 2 rfl rfl rfl rfl rfl rfl rfl A c w' hC hc (by decide) (B8_nums _) hT)
  clear hT
  go_enter Tryz.func10, Tryz.ntmps10
  go_wp2_with (first
    | ((with_reducible refine gate_dst (N := 6) rfl ?_); (first | (refine wp_const_drew rfl _ _ _ rfl _ _ _ _ rfl ?_ Tryz.underlying22 Tryz.underlying5 ?_) | (refine wp_const rfl _ _ _ rfl _ _ _ _ rfl ?_ Tryz.underlying22 Tryz.underlying5 ?_)); (case _ => simp)) | ((with_reducible refine gate_dst (N := 9) rfl ?_); (first | (refine wp_const_drew rfl _ _ _ rfl _ _ _ _ rfl ?_ Tryz.underlying22 Tryz.underlying5 ?_) | (refine wp_const rfl _ _ _ rfl _ _ _ _ rfl ?_ Tryz.underlying22 Tryz.underlying5 ?_)); (case _ => simp)) | ((with_reducible refine gate_dst (N := 12) rfl ?_); (first | (refine wp_const_drew rfl _ _ _ rfl _ _ _ _ rfl ?_ Tryz.underlying22 Tryz.underlying5 ?_) | (refine wp_const rfl _ _ _ rfl _ _ _ _ rfl ?_ Tryz.underlying22 Tryz.underlying5 ?_)); (case _ => simp))
    | (go_at_call 12; (with_reducible refine (HPA.out _ _ _ (awA_at (by repeat first | (apply ha_at; (simp; done)) | apply ha_old)) (by decide) (Tabs.below HT.out (by repeat (first | (with_reducible first | exact HB.out | apply below_alloc | apply pw_below_drewN | apply below_drew1) | exact HB.out)))).mono ?_); rintro e w1 ⟨A0, c0, x1, x2, x3, x4, x6, x7, A8, n8, c8, A9, n9, c9, x10, rfl, hk, hb⟩; have HBn := Aside0.mk (below_step (by repeat (first | (with_reducible first | exact HB.out | apply below_alloc | apply pw_below_drewN | apply below_drew1) | exact HB.out)) hb); clear HB; have HB := HBn; clear HBn; have HK1 := Aside0.mk hk; have HB1 := Aside0.mk (Below.refl w1.heap.size w1); clear hk hb)
    | (go_at_call 12; (with_reducible refine (HPB.out _ _ _ (awB_at (by repeat first | (apply ha_at; (simp; done)) | apply ha_old)) (by decide) (Tabs.below HT.out (by repeat (first | (with_reducible first | exact HB.out | apply below_alloc | apply pw_below_drewN | apply below_drew1) | exact HB.out)))).mono ?_); rintro e w2 ⟨B0, d0, y1, y2, y3, y4, y6, y7, B8, m8, d8, B9, m9, d9, y10, rfl, hk, hb⟩; have B1 := Aside0.mk (blk_below (g := w1.heap.size) (o := .cells #[.slice A0 2 c0, .int .i64 x1, .string x2, .int .i64 x3, .int .u32 x4, .bool false, .bool x6, .string x7, .slice A8 n8 c8, .slice A9 n9 c9, .bool x10, .string ⟨#[]⟩, .int .i64 9, .int .i64 0, .bool false, .int .i64 0] 34 (0, 0)) (by repeat (first | exact blk_at_new _ _ _ (by simp; done) | exact blk_at_new _ _ _ rfl | refine blk_alloc ?_ _ | refine blk_drew ?_ | refine blk_drewN ?_ _)) hb); have HB1n := Aside0.mk (below_step (by repeat (first | (with_reducible first | exact HB1.out | apply below_alloc | apply pw_below_drewN | apply below_drew1) | exact HB1.out)) hb); clear HB1; have HB1 := HB1n; clear HB1n; have HBn := Aside0.mk (below_step (by repeat (first | (with_reducible first | exact HB.out | apply below_alloc | apply pw_below_drewN | apply below_drew1) | exact HB.out)) hb); clear HB; have HB := HBn; clear HBn; have HK2 := Aside0.mk hk; have HB2 := Aside0.mk (Below.refl w2.heap.size w2); clear hk hb)
    | (go_at_call 12; (with_reducible refine (HPC.out _ _ _ (awC_at (by repeat first | (apply ha_at; (simp; done)) | apply ha_old)) (by decide) (Tabs.below HT.out (by repeat (first | (with_reducible first | exact HB.out | apply below_alloc | apply pw_below_drewN | apply below_drew1) | exact HB.out)))).mono ?_); rintro e w3 ⟨C0, e0, z1, z2, z3, z4, z6, z7, C8, k8, e8, C9, k9, e9, z10, rfl, hk, hb⟩; have B1n := Aside0.mk (blk_below (g := w1.heap.size) (o := .cells #[.slice A0 2 c0, .int .i64 x1, .string x2, .int .i64 x3, .int .u32 x4, .bool false, .bool x6, .string x7, .slice A8 n8 c8, .slice A9 n9 c9, .bool x10, .string ⟨#[]⟩, .int .i64 9, .int .i64 0, .bool false, .int .i64 0] 34 (0, 0)) (by repeat (first | exact B1.out | refine blk_alloc ?_ _ | refine blk_drew ?_ | refine blk_drewN ?_ _)) hb); have B2 := Aside0.mk (blk_below (g := w2.heap.size) (o := .cells #[.slice B0 1 d0, .int .i64 y1, .string y2, .int .i64 y3, .int .u32 y4, .bool false, .bool y6, .string y7, .slice B8 m8 d8, .slice B9 m9 d9, .bool y10, .string ⟨#[]⟩, .int .i64 17, .int .i64 0, .bool false, .int .i64 0] 34 (0, 0)) (by repeat (first | exact blk_at_new _ _ _ (by simp; done) | exact blk_at_new _ _ _ rfl | refine blk_alloc ?_ _ | refine blk_drew ?_ | refine blk_drewN ?_ _)) hb); have HB1n := Aside0.mk (below_step (by repeat (first | (with_reducible first | exact HB1.out | apply below_alloc | apply pw_below_drewN | apply below_drew1) | exact HB1.out)) hb); clear HB1; have HB1 := HB1n; clear HB1n; have HB2n := Aside0.mk (below_step (by repeat (first | (with_reducible first | exact HB2.out | apply below_alloc | apply pw_below_drewN | apply below_drew1) | exact HB2.out)) hb); clear HB2; have HB2 := HB2n; clear HB2n; have HBn := Aside0.mk (below_step (by repeat (first | (with_reducible first | exact HB.out | apply below_alloc | apply pw_below_drewN | apply below_drew1) | exact HB.out)) hb); clear HB; have HB := HBn; clear HBn; clear hk hb; (have l1 : w1.heap.size < w3.heap.size := blk_lt B1n.out; have l2 : w2.heap.size < w3.heap.size := blk_lt B2.out; obtain ⟨b1, o1, E1, f1, rfl, hb1, hr1, -, -⟩ := cmd_v (step_C HK1.out) 1 (cmdK 0 0 0 (⟨#[98]⟩ : ByteArray)) rfl; obtain ⟨b2, o2, E2, f2, rfl, hb2, hr2, hl2, hC2⟩ := cmd_v (step_C HK2.out) 0 (cmdS 3 (⟨#[107]⟩ : ByteArray) [120, 121] 1 0 0) rfl; have HR2 : Aside0 (w2.rangeAt b2 o2 [.int .i64 3, .string (⟨#[107]⟩ : ByteArray), .slice E2 2 f2, .int .u32 1, .int .i64 0, .int .u64 0, .int .u64 0, .int .u64 0, .bool false, .bool false]) := ⟨hr2⟩; have HC2 : Aside0 ((Kd.int .u8).C w2 E2 2 [120, 121]) := ⟨hC2⟩; have lb1 : b1 < w3.heap.size := Nat.lt_of_lt_of_le hb1 HB1.out.size; have lb2 : b2 < w3.heap.size := Nat.lt_of_lt_of_le hb2 HB2.out.size; have k1 : w3.cell? ⟨b1, o1 + 11, none⟩ = some (.string (⟨#[98]⟩ : ByteArray)) := (HB1.out.cell (p := ⟨b1, o1 + 11, none⟩) hb1).trans (hr1 1 _ rfl); have k2 : w3.cell? ⟨b1, o1 + 10 + 1, none⟩ = some (.string (⟨#[98]⟩ : ByteArray)) := k1; clear hr1 hr2 hC2 hl2; have a0 : w3.cell? ⟨w1.heap.size, 0, none⟩ = some (.slice (some ⟨b1, o1, none⟩) 2 c0) := (blk_cell B1n.out 0).trans rfl; have g0 : w3.cell? ⟨w2.heap.size, 0, none⟩ = some (.slice (some ⟨b2, o2, none⟩) 1 d0) := (blk_cell B2.out 0).trans rfl; have g12 : w3.cell? ⟨w2.heap.size, 12, none⟩ = some (.int .i64 17) := (blk_cell B2.out 12).trans rfl; have r2 : (convert 22 9 (.slice E2 2 f2)).run Tryz.prog ((w3.alloc (.cells #[.slice C0 0 e0, .int .i64 z1, .string z2, .int .i64 z3, .int .u32 z4, .bool false, .bool z6, .string z7, .slice C8 k8 e8, .slice C9 k9 e9, .bool z10, .string (⟨#[69, 82, 82, 79, 82, 13, 10]⟩ : ByteArray), .int .i64 5, .int .i64 0, .bool false, .int .i64 2] 34 (0, 0))).alloc (.cells #[.int .i64 3, .string (⟨#[107]⟩ : ByteArray), .slice E2 2 f2, .int .u32 1, .int .i64 0, .int .u64 0, .int .u64 0, .int .u64 0, .bool false, .bool false] 40 (0, 0))) = .ok (.string (strOfNums [120, 121])) ((w3.alloc (.cells #[.slice C0 0 e0, .int .i64 z1, .string z2, .int .i64 z3, .int .u32 z4, .bool false, .bool z6, .string z7, .slice C8 k8 e8, .slice C9 k9 e9, .bool z10, .string (⟨#[69, 82, 82, 79, 82, 13, 10]⟩ : ByteArray), .int .i64 5, .int .i64 0, .bool false, .int .i64 2] 34 (0, 0))).alloc (.cells #[.int .i64 3, .string (⟨#[107]⟩ : ByteArray), .slice E2 2 f2, .int .u32 1, .int .i64 0, .int .u64 0, .int .u64 0, .int .u64 0, .bool false, .bool false] 40 (0, 0))) := Kd.C_string Tryz.underlying22 Tryz.underlying5 Tryz.underlying9 (Kd.C_below HC2.out (by repeat (first | (with_reducible first | exact HB2.out | apply below_alloc | apply pw_below_drewN | apply below_drew1) | exact HB2.out))); have hxy : ((strOfNums [120, 121]).toList == [120, 121]) = true := beq_iff_eq.2 xy_eq))
    | (refine wpList_load_mid rfl 40 _ rfl b2 o2 rfl [.int .i64 3, .string (⟨#[107]⟩ : ByteArray), .slice E2 2 f2, .int .u32 1, .int .i64 0, .int .u64 0, .int .u64 0, .int .u64 0, .bool false, .bool false] _ (range_below HR2.out (by repeat (first | (with_reducible first | exact HB2.out | apply below_alloc | apply pw_below_drewN | apply below_drew1) | exact HB2.out)) hb2) Tryz.underlying40 rfl (by kernel_rfl) ?_))
  go_ret
  exact ⟨rfl, (by repeat (first | (with_reducible first | exact HB.out | apply below_alloc | apply pw_below_drewN | apply below_drew1) | exact HB.out))⟩
end Go.Proofs.YtfljijpkeckeaaaGreatDoor.X
namespace Go.Proofs.YtfljijpkeckeaaaGreatDoor.X
open Go.RowKit Go.Proofs.YtfljijpkeckeaaaGreatDoorW.PrintWords Go.Proofs.YtfljijpkeckeaaaGreatDoorW.PrintMore Go.Proofs.YtfljijpkeckeaaaGreatDoorW.PrintLast
set_option linter.unusedVariables false
set_option linter.unusedSimpArgs false
end Go.Proofs.YtfljijpkeckeaaaGreatDoor.X
namespace Go.Proofs.YtfljijpkeckeaaaGreatDoor.X
open Go.RowKit Go.Proofs.YtfljijpkeckeaaaGreatDoorW.PrintWords Go.Proofs.YtfljijpkeckeaaaGreatDoorW.PrintMore Go.Proofs.YtfljijpkeckeaaaGreatDoorW.PrintLast
set_option linter.unusedVariables false
set_option linter.unusedSimpArgs false
theorem app_row {P : Program} {ops : Array Oper} {rest : List Oper} {o : Oper} {a : Act} {Q : Exit → Act → World → Prop} {w0 W : World} (base : Nat) (hgd : o.guard = none) (s x : Operand) (t e : TypeId)
    (ho : o.op = .call { callee := .builtin .append, args := #[s, x], argTypes := #[t, t] })
    (ht : P.underlying t = some (.slice e)) (hinfo : (P.info? e).map (fun i => (i.zero, i.size, i.bytes)) = some (some (.int .u8 0), 1, 1))
    (v : Value) (xs ys : List Int) (A : Option Addr) (c : Nat) (hs : a.eval s = v) (hx : a.eval x = .slice A ys.length c)
    (HO : W.ownsRow base e 1 v xs.length (encs (Value.int .u8) xs)) (HR : (Kd.int .u8).C W A ys.length ys) (HB : Below base w0 W) (hbase : base ≤ W.heap.size) (hl : xs.length + ys.length ≤ 1000000)
    (h : ∀ v1 w1, w1.ownsRow base e 1 v1 (xs ++ ys).length (encs (Value.int .u8) (xs ++ ys)) → Below base w0 w1 → wpList P ops Q rest (a.put o.dst v1) w1) :
    wpList P ops Q (o :: rest) a W := by
  obtain ⟨i0, hi, hzz⟩ := Option.map_eq_some_iff.1 hinfo
  simp only [Prod.mk.injEq] at hzz
  obtain ⟨hz0, hz1, hz2⟩ := hzz
  have hrun : ∃ v1 w1, (Builtin.append_ #[t, t] o.type #[v, .slice A ys.length c]).run P W = .ok v1 w1 ∧ w1.ownsRow base e 1 v1 (xs ++ ys).length (encs (Value.int .u8) (xs ++ ys)) ∧ W.grownBy w1 v.ownBlock := by
    rcases A with _ | ad
    · have h0 : ys.length = 0 := by
        rcases Nat.eq_zero_or_pos ys.length with h0 | h0
        · exact h0
        · obtain ⟨ad, h, _⟩ := HR.2.2 h0
          cases h
      obtain rfl : ys = [] := List.eq_nil_of_length_eq_zero h0
      refine ⟨v, W, ?_, by simpa using HO, World.grownBy.refl W _⟩
      rcases HO.2 with ⟨rfl, hn⟩ | ⟨g, cap, cur, rfl, _, _, hnc, _⟩
      · simp [Builtin.append_, run_underlying ht, sizeOf, typeInfo, hi, Builtin.lenOf, Builtin.firstCells]
      · simp [Builtin.append_, run_underlying ht, sizeOf, typeInfo, hi, Builtin.lenOf, Builtin.firstCells, hnc, storeCells]
    · have hcells : ∀ j u, (encs (Value.int .u8) ys)[j]? = some u → W.cell? (ad.add j) = some u := by
        intro j u hu
        have hj : j < ys.length := by
          rcases Nat.lt_or_ge j ys.length with h | h
          · exact h
          · simp [encs, List.getElem?_eq_none h] at hu
        obtain ⟨ad', h', hc⟩ := HR.2.2 (by omega)
        injection h' with h'
        subst h'
        obtain ⟨cs, hlen, hK, hcell⟩ := hc j _ (List.getElem?_eq_getElem hj)
        obtain rfl : cs = [Value.int .u8 ys[j]] := hK
        have := hcell 0 _ rfl
        simp [encs, List.getElem?_eq_getElem hj] at hu
        subst hu
        rw [← this]
        congr 2
        show j = j * 1 + 0
        omega
      obtain ⟨v1, w1, hr, h2, h3, _, h5⟩ := run_append_own_at (P := P) W base t o.type e i0 (.int .u8 0) 1 1 ht hi hz0 hz1 hz2 rfl (by omega) v xs.length (encs (Value.int .u8) xs) HO ad ys.length c (encs (Value.int .u8) ys) (by simp [encs]) hcells
        (by intro u hu; simp only [encs, List.mem_map] at hu; obtain ⟨q, _, rfl⟩ := hu; rfl) (by simp only [maxLen]; omega) (by omega) hbase
      exact ⟨v1, w1, hr, by simpa [encs] using h2, h3⟩
  obtain ⟨v1, w1, hr, hown, hg⟩ := hrun
  refine wpList_plain hgd fun K hK => ?_
  unfold Oper.wp execOp
  simp only [ho, resolve, invoke, builtin, Sem.run_bind, Sem.run_pure, Result.andThen_ok, List.map_toArray, List.map_cons, List.map_nil, hs, hx, hr]
  exact hK _ _ (h v1 w1 hown (HB.grown hg hbase (own_base HO)))
theorem own_rd {W : World} {base : Nat} {v : Value} {l : List Int} (h : W.ownsRow base 5 1 v l.length (encs (Value.int .u8) l)) : ∃ A c, v = .slice A l.length c ∧ l.length ≤ c ∧ (Kd.int .u8).C W A l.length l := Kd.R_reads (Kd.R_of_own (h1 := fun _ => rfl) (ok := fun _ => True) h (fun _ _ => trivial))
end Go.Proofs.YtfljijpkeckeaaaGreatDoor.X
namespace Go.Proofs.YtfljijpkeckeaaaGreatDoor.X
open Go.RowKit Go.Proofs.YtfljijpkeckeaaaGreatDoorW.PrintWords Go.Proofs.YtfljijpkeckeaaaGreatDoorW.PrintMore Go.Proofs.YtfljijpkeckeaaaGreatDoorW.PrintLast
set_option linter.unusedVariables false
set_option linter.unusedSimpArgs false
set_option maxRecDepth 100000 in
set_option maxHeartbeats 2000000 in
theorem parses_walk (l : List Int) (A : Option Addr) (c : Nat) (w : World) (hT : Tabs w) (hC : (Kd.int .u8).C w A l.length l) (hc : l.length ≤ c) (h8 : B8 l) (hl : l.length ≤ 5000) :
    Calls Tryz.prog 3 #[.slice A l.length c] w fun e w' => e = .returned (.bool true) ∧ Below w.heap.size w w' := by
  have HB := Aside0.mk (Below.refl w.heap.size w)
  obtain ⟨p1, hp1⟩ : ∃ p, parseS l = p := ⟨_, rfl⟩
  have HT := Aside0.mk hT
  have HC := Aside0.mk hC
  have HP1 := Aside0.mk (fun (A' : Option Addr) (c' : Nat) (w' : World) (hC : (Kd.int .u8).C w' A' l.length l) (hc : l.length ≤ c') (hT : Tabs w') => parse_calls l A' c' w' hC hc (by omega) h8 hT)
  have HP2 := Aside0.mk (fun (w' : World) (hC : (Kd.int .u8).C w' A l.length l) => rparse_calls l A c w' hC hc (by omega))
  rw [hp1] at HP1 HP2
  have h5i : ¬ (5000 : Int) < ↑l.length := by omega
  clear hT hC hp1 h8 hc
  go_enter Tryz.func3, Tryz.ntmps3
  go_wp2_with (first | (go_at_call 10; (with_reducible refine (awake_calls _ (Tabs.below HT.out (by repeat (first | (with_reducible first | exact HB.out | apply below_alloc | apply pw_below_drewN | apply below_drew1) | exact HB.out)))).mono ?_); rintro e w0 ⟨rfl, hb⟩; have HBn := Aside0.mk (below_step (by repeat (first | (with_reducible first | exact HB.out | apply below_alloc | apply pw_below_drewN | apply below_drew1) | exact HB.out)) hb); clear HB; have HB := HBn; clear HBn; clear hb) | ((with_reducible refine gate_dst (N := 12) rfl ?_); at_builtin; refine app_row w.heap.size rfl _ _ 22 5 rfl Tryz.underlying22 (by kernel_rfl) (.slice none 0 0) [] l A c rfl rfl (own_nil _ _ _ _) (Kd.C_below HC.out (by repeat (first | (with_reducible first | exact HB.out | apply below_alloc | apply pw_below_drewN | apply below_drew1) | exact HB.out))) (Below.refl _ _) HB.out.size (by simp; omega) ?_; intro v1 wa hown hB; have hown : wa.ownsRow w.heap.size 5 1 v1 l.length (encs (Value.int .u8) l) := hown; have HBn : Aside0 (Below w.heap.size w wa) := ⟨HB.out.trans hB⟩; clear HB; have HB := HBn; clear HBn; obtain ⟨A2, cc, rfl, hcc, hC2⟩ := own_rd hown; have HC2 := Aside0.mk hC2; have HCC := Aside0.mk hcc; clear hown hB hcc hC2) | (go_at_call 12; (with_reducible refine (HP1.out _ _ _ HC2.out HCC.out (Tabs.below HT.out (by repeat (first | (with_reducible first | exact HB.out | apply below_alloc | apply pw_below_drewN | apply below_drew1) | exact HB.out)))).mono ?_); rintro e w1 ⟨⟨cs1, rfl, hk⟩, hb⟩; have HK1 := Aside0.mk hk.now; have HBa1 := Aside0.mk hb; have HBn := Aside0.mk (below_step (by repeat (first | (with_reducible first | exact HB.out | apply below_alloc | apply pw_below_drewN | apply below_drew1) | exact HB.out)) hb); clear HB; have HB := HBn; clear HBn; clear hk hb) | (go_at_call 13; (with_reducible refine (HP2.out _ (Kd.C_below HC.out (by repeat (first | (with_reducible first | exact HB.out | apply below_alloc | apply pw_below_drewN | apply below_drew1) | exact HB.out)))).mono ?_); rintro e w2 ⟨⟨cs2, rfl, hk⟩, hb⟩; have HK2 := Aside0.mk hk.now; have HBa2 := Aside0.mk hb; have HBn := Aside0.mk (below_step (by repeat (first | (with_reducible first | exact HB.out | apply below_alloc | apply pw_below_drewN | apply below_drew1) | exact HB.out)) hb); clear HB; have HB := HBn; clear HBn; clear hk hb) | (go_at_call 11; (with_reducible refine (steps_same p1 cs1 cs2 w2 (kStep.K_below HBa2.out HK1.out) HK2.out).mono ?_); rintro e w5 ⟨rfl, hb⟩; have HBa5 := Aside0.mk (below_step (below_step HBa1.out HBa2.out) hb); have HBn := Aside0.mk (below_step (by repeat (first | (with_reducible first | exact HB.out | apply below_alloc | apply pw_below_drewN | apply below_drew1) | exact HB.out)) hb); clear HB; have HB := HBn; clear HBn; clear hb; have r2 : (convert 22 9 (.slice A2 l.length cc)).run Tryz.prog w5 = .ok (.string (strOfNums l)) w5 := Kd.C_string Tryz.underlying22 Tryz.underlying5 Tryz.underlying9 (Kd.C_below HC2.out HBa5.out); have r3 : (convert 22 9 (.slice A l.length c)).run Tryz.prog w5 = .ok (.string (strOfNums l)) w5 := Kd.C_string Tryz.underlying22 Tryz.underlying5 Tryz.underlying9 (Kd.C_below HC.out HB.out)))
  go_ret
  exact ⟨rfl, (by repeat (first | (with_reducible first | exact HB.out | apply below_alloc | apply pw_below_drewN | apply below_drew1) | exact HB.out))⟩
set_option maxRecDepth 100000 in
set_option maxHeartbeats 1000000 in
theorem parses_w (l : List Int) (A : Option Addr) (c : Nat) (w : World) (hT : Tabs w) (hC : (Kd.int .u8).C w A l.length l) (hc : l.length ≤ c) (wf : l.length ≤ 9223372036854775807 ∧ B8 l) :
    Calls Tryz.prog 3 #[.slice A l.length c] w fun e w' => e = .returned (.bool true) ∧ Below w.heap.size w w' := by
  by_cases h : l.length ≤ 5000
  · exact parses_walk l A c w hT hC hc wf.2 h
  have HB := Aside0.mk (Below.refl w.heap.size w)
  have HT := Aside0.mk hT
  have h5i : (5000 : Int) < ↑l.length := by omega
  clear hT
  go_enter Tryz.func3, Tryz.ntmps3
  go_wp2_with (first | (go_at_call 10; (with_reducible refine (awake_calls _ (Tabs.below HT.out (by repeat (first | (with_reducible first | exact HB.out | apply below_alloc | apply pw_below_drewN | apply below_drew1) | exact HB.out)))).mono ?_); rintro e w0 ⟨rfl, hb⟩; have HBn := Aside0.mk (below_step (by repeat (first | (with_reducible first | exact HB.out | apply below_alloc | apply pw_below_drewN | apply below_drew1) | exact HB.out)) hb); clear HB; have HB := HBn; clear HBn; clear hb))
  go_ret
  exact ⟨rfl, (by repeat (first | (with_reducible first | exact HB.out | apply below_alloc | apply pw_below_drewN | apply below_drew1) | exact HB.out))⟩
end Go.Proofs.YtfljijpkeckeaaaGreatDoor.X
namespace Go.Proofs.YtfljijpkeckeaaaGreatDoor.X
open Go.RowKit Go.Proofs.YtfljijpkeckeaaaGreatDoorW.PrintWords Go.Deep
set_option linter.unusedVariables false
set_option linter.unusedSimpArgs false

def OpensAt (P : Program) (t : TypeId) {α : Type} (d : Kd α) (wf : α → Prop) : Prop :=
  ∀ (H : Type) (enc : TypeId × Value → H) (W : World) (fuel : Nat) (cs : List Value) (x : DataW H × List MemPlace), DataW.trod enc P W 0 (fun _ => true) true fuel t cs = some x → ∃ y, d.K W y cs ∧ wf y
section
variable {P : Program} {α β : Type} {d : Kd α} {e : Kd β} {wf : α → Prop} {wg : β → Prop}
theorem opens_int {t : TypeId} {k : IntKind} (ht : P.underlying t = some (.int k)) : OpensAt P t (Kd.int k) (fun n => (Lit.int k n).wf = true) := fun H enc W fuel cs x h => by
  obtain ⟨n, rfl, _, hw⟩ := DataW.trod_int ht h
  exact ⟨n, rfl, hw⟩
theorem cells_some {W : World} {a : Addr} {n : Nat} {cs : List Value} (h : W.cells? 0 a n = some cs) : cs.length = n ∧ ∀ i u, cs[i]? = some u → W.cell? (a.add i) = some u := by
  unfold World.cells? at h
  rw [if_pos (Nat.zero_le _)] at h
  have hl : cs.length = n := by simpa using mapM_some_length h
  refine ⟨hl, fun i u hu => ?_⟩
  have hi : i < n := by rw [← hl]; exact (List.getElem?_eq_some_iff.1 hu).1
  have := mapM_some_get h i i (by simp [hi])
  rw [this, hu]
theorem opens_slice {t et : TypeId} (ht : P.underlying t = some (.slice et)) (hs : P.cellsOf et = d.sz) (he : OpensAt P et d wf) : OpensAt P t (Kd.slice et d) (fun l => l.length ≤ 9223372036854775807 ∧ ∀ y ∈ l, wf y) := fun H enc W fuel cs x h => by
  rcases open_slice ht h with ⟨rfl, _⟩ | ⟨a, len, cap, m, n, D, Pl, rfl, _, hl, hm, hmm, hxx, hel⟩
  · exact ⟨[], ⟨none, 0, rfl, Nat.le_refl _, ⟨rfl, Nat.zero_le _, fun h => absurd h (Nat.lt_irrefl _)⟩⟩, Nat.zero_le _, fun y hy => by cases hy⟩
  · have hmc : m = cap := by simpa using hmm
    have hex : ∀ i, i < len → ∃ y, (∃ cs', (cs'.length = d.sz ∧ ∀ j u, cs'[j]? = some u → W.cell? ((a.add (i * d.sz)).add j) = some u) ∧ d.K W y cs') ∧ wf y := fun i hi => by
      obtain ⟨cs', h1, h2⟩ := hel i (by omega)
      obtain ⟨y, hK, hw⟩ := he H enc W n cs' _ h2
      rw [hs] at h1
      exact ⟨y, ⟨cs', cells_some h1, hK⟩, hw⟩
    have hch : ∃ l : List α, l.length = len ∧ ∀ i y, l[i]? = some y → (∃ cs', (cs'.length = d.sz ∧ ∀ j u, cs'[j]? = some u → W.cell? ((a.add (i * d.sz)).add j) = some u) ∧ d.K W y cs') ∧ wf y := by
      clear hel h hmm hl hm hxx
      induction len with
      | zero => exact ⟨[], rfl, fun i y h => by simp at h⟩
      | succ k ih =>
        obtain ⟨l, hll, hl2⟩ := ih (fun i hi => hex i (by omega))
        obtain ⟨y, hy⟩ := hex k (by omega)
        refine ⟨l ++ [y], by simp [hll], fun i z hz => ?_⟩
        rcases Nat.lt_or_ge i l.length with hi | hi
        · rw [List.getElem?_append_left hi] at hz
          exact hl2 i z hz
        · have : i = k := by
            have := (List.getElem?_eq_some_iff.1 hz).1
            rw [List.length_append, List.length_singleton] at this
            omega
          subst this
          rw [List.getElem?_append_right hi, show i - l.length = 0 by omega] at hz
          obtain rfl := Option.some.inj hz
          exact hy
    obtain ⟨l, rfl, hl2⟩ := hch
    have hmx : l.length ≤ 9223372036854775807 := Nat.le_trans hl hm
    refine ⟨l, ⟨some a, cap, rfl, hl, rfl, hmx, fun _ => ⟨a, rfl, fun j p hj => ?_⟩⟩, hmx, fun y hy => ?_⟩
    · obtain ⟨⟨cs', ⟨hcl, hcc⟩, hK⟩, _⟩ := hl2 j p hj
      refine ⟨cs', hcl, hK, fun i u hu => ?_⟩
      have := hcc i u hu
      rwa [Go.Deep.add_add] at this
    · obtain ⟨i, hi, rfl⟩ := List.mem_iff_getElem.1 hy
      exact (hl2 i _ (List.getElem?_eq_getElem hi)).2
end
theorem u8_lo {n : Int} (h : (Lit.int .u8 n).wf = true) : 0 ≤ n ∧ n < 256 := by
  have e1 : IntKind.u8.max = 255 := rfl
  have e0 : IntKind.u8.min = 0 := rfl
  simp [Lit.wf, e1, e0] at h
  omega
end Go.Proofs.YtfljijpkeckeaaaGreatDoor.X
namespace Go.Proofs.YtfljijpkeckeaaaGreatDoor.X
open Go.RowKit Go.Proofs.YtfljijpkeckeaaaGreatDoorW.PrintWords Go.Deep
set_option linter.unusedVariables false
end Go.Proofs.YtfljijpkeckeaaaGreatDoor.X
