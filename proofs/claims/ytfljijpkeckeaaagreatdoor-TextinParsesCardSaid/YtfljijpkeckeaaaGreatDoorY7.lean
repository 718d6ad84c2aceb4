/- Texts of this work, merged in build order: RStores, RSt, LRWords, WdP, RWords, Pl. -/
import Derived.Test.YtfljijpkeckeaaaGreatDoorY6
import Derived.Laws.CopyOwn
import Derived.Deep.RegionHeld3
import Derived.Deep.DeepCutAuto
import Derived.Test.YtfljijpkeckeaaaGreatDoorProg
import Derived.Below
import Derived.Deep.Draws
import Derived.Deep.AppendLies
import Derived.Maps.AppendAt
import Derived.OwnWalk
import Derived.Laws.BytesArg
import Derived.Laws.MakeOwn
import Derived.Laws.OwnMore
import Derived.Deep.OwnRows
import Derived.Tactics
import Derived.Lib.ConvBytes
import Derived.Laws.Slices
import Derived.WalkKit
import Derived.KernelRfl
import Derived.RowKit3
import Derived.Deep.LoopGhost
import Derived.Deep.QuietTactic
import Derived.BigQuiet
import Derived.WideLaws
import Derived.Deep.CutBlock
import Derived.Laws.Rows
import Derived.Lib.AppendStr
import Derived.ArgAppend
import Derived.Laws.IdiomCopy
import Derived.OrdersHeld
import Derived.Laws.BitsLemmas
import Derived.RowKit
namespace Go.Proofs.YtfljijpkeckeaaaGreatDoor.X
open Go.RowKit Go.Proofs.YtfljijpkeckeaaaGreatDoorW.PrintWords Go.Proofs.YtfljijpkeckeaaaGreatDoorW.PrintMore
set_option linter.unusedVariables false
set_option linter.unusedSimpArgs false
set_option maxRecDepth 100000 in
set_option maxHeartbeats 1000000 in
theorem rfault_ex (used : Int) (reply : ByteArray) (w : World) (hr : reply.size ≤ 1000) : Calls Tryz.prog 24 #[.int .i64 used, .string reply] w fun e w' => e = .returned (.agg (stepFC used reply 0 false).toArray) ∧ Below w.heap.size w w' := by
  have HB := Aside0.mk (Below.refl w.heap.size w)
  go_enter Tryz.func24, Tryz.ntmps24
  go_wp2
  ((try simp only [Exit.inBlock, Exit.then]); refine bodyPost_ret (results_cell_row rfl _ _ (w.heap.size) 34 _ (0, 0) _ rfl (by repeat (first | exact blk_at_new _ _ _ (by simp; done) | exact blk_at_new _ _ _ rfl | refine blk_alloc ?_ _ | refine blk_drew ?_ | refine blk_drewN ?_ _)) Tryz.underlying34 rfl (by kernel_rfl)) rfl ?_)
  exact ⟨rfl, (by repeat (first | (with_reducible first | exact HB.out | apply below_alloc | apply pw_below_drewN | apply below_drew1) | exact HB.out))⟩
theorem largeE : ((⟨#[83, 69, 82, 86, 69, 82, 95, 69, 82, 82, 79, 82, 32, 111, 98, 106, 101, 99, 116, 32, 116, 111, 111, 32, 108, 97, 114, 103, 101, 32, 102, 111, 114, 32, 99, 97, 99, 104, 101, 13, 10]⟩ : ByteArray) : ByteArray) = largeT ++ (⟨#[13, 10]⟩ : ByteArray) := by decide
def lastW (n : Nat) (v : ByteArray) : ByteArray := if n = 6 then v else (⟨#[48]⟩ : ByteArray)
set_option maxRecDepth 100000 in
set_option maxHeartbeats 4000000 in
theorem rstores_bad (ws : List ByteArray) (A : Option Addr) (c : Nat) (quiet : Bool) (m : Nat) (l : List Int) (Ab : Option Addr) (cb : Nat) (v0 v1 v2 v3 v4 v5 : ByteArray) (F : Nat → Prop) (w : World) (hC : HolF F w (fun w2 => Kd.string.C w2 A ws.length ws)) (hc : ws.length ≤ c) (hs : ∀ k ∈ ws, k.size ≤ 1000000)
    (h0 : ws.getD 0 ⟨#[]⟩ = v0) (h1 : ws.getD 1 ⟨#[]⟩ = v1) (h2 : ws.getD 2 ⟨#[]⟩ = v2) (h3 : ws.getD 3 ⟨#[]⟩ = v3) (h4 : ws.getD 4 ⟨#[]⟩ = v4) (h5 : ws.getD 5 ⟨#[]⟩ = v5) (hn : (v0.toList == [99, 97, 115]) = true ∧ ws.length = 6 ∨ (v0.toList == [99, 97, 115]) = false ∧ ws.length = 5)
    (hCb : (Kd.int .u8).C w Ab l.length l) (hcb : l.length ≤ cb) (hl : l.length ≤ 1000000) (hm : m < l.length) (hsel : badA (keyS v1) (decS v2).2 (decS v2).1 (sgnS v3).2 (decS v4).2 (decS (lastW ws.length v5)).2 = true ∨ ((decS v4).1 : Int) > 1000) :
    Calls Tryz.prog 30 #[.slice A ws.length c, .bool quiet, .int .i64 ((m : Int) + 1), .slice Ab l.length cb] w (StepR F w (storesR v0 quiet ((m : Int) + 1) (l.drop (m + 1)) (opL v0.toList) v1 v2 v3 v4 (decS (lastW ws.length v5)))) := by
  have HB := Aside0.mk (Below.refl w.heap.size w)
  have HCF := Aside0.mk hC
  obtain ⟨qc, hqc⟩ : ∃ qc, (v0.toList == [99, 97, 115]) = qc := ⟨_, rfl⟩
  rw [hqc] at hn
  have HN := Aside0.mk hn
  have HCB := Aside0.mk hCb
  obtain ⟨b2, o2, rfl, hb2, -⟩ := C_cell hCb m hm
  have hlen5 : 5 ≤ ws.length := by omega
  obtain ⟨b, o, rfl, hb0, hcell0⟩ := S_cell hC.now 0 (by omega)
  rw [h0, Nat.add_zero] at hcell0
  have HC0 := Aside0.mk hcell0
  have HC1 : Aside0 (w.cell? ⟨b, o + 1, none⟩ = some (.string v1)) := by
    obtain ⟨b', o', e', -, h⟩ := S_cell hC.now 1 (by omega)
    obtain ⟨rfl, rfl⟩ : b = b' ∧ o = o' := by simpa using e'
    rw [h1] at h
    exact ⟨h⟩
  have HC2 : Aside0 (w.cell? ⟨b, o + 2, none⟩ = some (.string v2)) := by
    obtain ⟨b', o', e', -, h⟩ := S_cell hC.now 2 (by omega)
    obtain ⟨rfl, rfl⟩ : b = b' ∧ o = o' := by simpa using e'
    rw [h2] at h
    exact ⟨h⟩
  have HC3 : Aside0 (w.cell? ⟨b, o + 3, none⟩ = some (.string v3)) := by
    obtain ⟨b', o', e', -, h⟩ := S_cell hC.now 3 (by omega)
    obtain ⟨rfl, rfl⟩ : b = b' ∧ o = o' := by simpa using e'
    rw [h3] at h
    exact ⟨h⟩
  have HC4 : Aside0 (w.cell? ⟨b, o + 4, none⟩ = some (.string v4)) := by
    obtain ⟨b', o', e', -, h⟩ := S_cell hC.now 4 (by omega)
    obtain ⟨rfl, rfl⟩ : b = b' ∧ o = o' := by simpa using e'
    rw [h4] at h
    exact ⟨h⟩
  have HKC : Aside0 (HolF F w (fun w2 => Kd.string.C w2 (some ⟨b, o + 1, none⟩) 1 [v1])) := ⟨hC.imp (fun w2 h => by rw [← h1]; exact C_second h (by omega))⟩
  have HC5 : Aside0 (ws.length = 6 → w.cell? ⟨b, o + 5, none⟩ = some (.string v5)) := ⟨fun h6 => by
    obtain ⟨b', o', e', -, h⟩ := S_cell hC.now 5 (by omega)
    obtain ⟨rfl, rfl⟩ : b = b' ∧ o = o' := by simpa using e'
    rw [h5] at h
    exact h⟩
  have hsz : ∀ i, i < ws.length → (ws.getD i ⟨#[]⟩).size ≤ 1000000 := fun i hi => by
    rw [List.getD_eq_getElem?_getD, List.getElem?_eq_getElem hi]
    exact hs _ (List.getElem_mem _)
  have HK1 := Aside0.mk (fun w => rkey_calls v1 w (by rw [← h1]; exact hsz 1 (by omega)))
  have HD2 := Aside0.mk (fun w => rdec_w v2 w)
  have HS3 := Aside0.mk (fun w => rsgn_w v3 w (by rw [← h3]; exact hsz 3 (by omega)))
  have HD4 := Aside0.mk (fun w => rdec_w v4 w)
  have HD5 := Aside0.mk (fun w => rdec_w (lastW ws.length v5) w)
  have HBAD : Aside0 (∀ w', Calls Tryz.prog 53 #[] w' fun e w'' => e = .returned (.string (⟨#[67, 76, 73, 69, 78, 84, 95, 69, 82, 82, 79, 82, 32, 98, 97, 100, 32, 99, 111, 109, 109, 97, 110, 100, 32, 108, 105, 110, 101, 32, 102, 111, 114, 109, 97, 116]⟩ : ByteArray)) ∧ Below w'.heap.size w' w'') := ⟨fun w' => bad_calls w'⟩
  have HFX : Aside0 (∀ w', Calls Tryz.prog 24 #[.int .i64 ((m : Int) + 1), .string (⟨#[67, 76, 73, 69, 78, 84, 95, 69, 82, 82, 79, 82, 32, 98, 97, 100, 32, 99, 111, 109, 109, 97, 110, 100, 32, 108, 105, 110, 101, 32, 102, 111, 114, 109, 97, 116]⟩ : ByteArray)] w' fun e w'' => e = .returned (.agg (stepFC ((m : Int) + 1) badT 0 false).toArray) ∧ Below w'.heap.size w' w'') := ⟨fun w' => rfault_ex _ _ w' (by decide)⟩
  obtain ⟨lr, hlr⟩ : ∃ lr, l.drop (m + 1) = lr := ⟨_, rfl⟩
  have HLRN : Aside0 (l.length - (m + 1) = lr.length) := ⟨by rw [← hlr, List.length_drop]⟩
  have HLR := Aside0.mk hlr
  have HLRL : Aside0 (lr.length ≤ 1000000) := ⟨by have := HLRN.out; omega⟩
  rw [hlr]
  obtain ⟨R, hR⟩ : ∃ R, storesR v0 quiet ((m : Int) + 1) lr (opL v0.toList) v1 v2 v3 v4 (decS (lastW ws.length v5)) = R := ⟨_, rfl⟩
  rw [hR]
  unfold storesR at hR
  obtain ⟨q, hq⟩ : ∃ q, keyS v1 = q := ⟨_, rfl⟩
  obtain ⟨⟨z1, p1⟩, hz1⟩ : ∃ z, decS v2 = z := ⟨_, rfl⟩
  obtain ⟨⟨z2, p2⟩, hz2⟩ : ∃ z, sgnS v3 = z := ⟨_, rfl⟩
  obtain ⟨⟨z3, p3⟩, hz3⟩ : ∃ z, decS v4 = z := ⟨_, rfl⟩
  obtain ⟨⟨z4, p4⟩, hz4⟩ : ∃ z, decS (lastW ws.length v5) = z := ⟨_, rfl⟩
  rw [hq] at HK1
  rw [hz1] at HD2
  rw [hz2] at HS3
  rw [hz3] at HD4
  rw [hz4] at HD5
  rw [hz1, hz2, hz3, hz4, hq] at hR
  rw [hz1, hz2, hz3, hz4, hq] at hsel
  dsimp only at hsel
  obtain ⟨last, hlast⟩ : ∃ v, lastW ws.length v5 = v := ⟨_, rfl⟩
  have HLA := Aside0.mk hlast
  rw [hlast] at HD5
  obtain ⟨bd, hbd⟩ : ∃ bd, badA q p1 z1 p2 p3 p4 = bd := ⟨_, rfl⟩
  have HBD := Aside0.mk hbd
  obtain ⟨sk, hsk⟩ : ∃ s, skipN (z3, p3) = s := ⟨_, rfl⟩
  have HSK := Aside0.mk hsk
  rw [hbd, hsk] at hR
  rw [hbd] at hsel
  have HSEL := Aside0.mk hsel
  clear hsel
  have HRR := Aside0.mk hR
  clear hR hlr
  have HQ := Aside0.mk hq
  have hn0 : (4 : Int) < ↑ws.length := by omega
  have hnN : 4 < ws.length := by omega
  have hcc : (ws.length : Int) ≤ ↑c := by omega
  have hu1 : (m : Int) + 1 ≤ ↑l.length := by omega
  have hu2 : (l.length : Int) ≤ ↑cb := by omega
  have hu3 : (0 : Int) ≤ (m : Int) + 1 := by omega
  clear hC hCb h0 h1 h2 h3 h4 h5 hcell0 hsz hs hq hz1 hz2 hz3 hz4 hlast hbd hsk hlen5 hn hm
  go_enter Tryz.func30, Tryz.ntmps30
  go_upto_region 1 with fail
  obtain ⟨W, hW⟩ : ∃ W, w.alloc (.cells zStepC 34 (0, 0)) = W := ⟨_, rfl⟩
  have hW2 := hW
  unfold zStepC at hW2
  rw [hW2]
  have BR := Aside0.mk (show W.heap[w.heap.size]? = _ from hW ▸ blk_at_new _ _ _ rfl)
  have HBn : Aside0 (Below w.heap.size w W) := ⟨hW ▸ (by repeat (first | (with_reducible first | exact HB.out | apply below_alloc | apply pw_below_drewN | apply below_drew1) | exact HB.out))⟩
  clear HB hW hW2
  have HB := HBn
  clear HBn
  have k0 : W.cell? ⟨b, o, none⟩ = some (.string v0) := (Below.cell HB.out (p := ⟨b, o, none⟩) hb0).trans HC0.out
  have k1 : W.cell? ⟨b, o + 1, none⟩ = some (.string v1) := (Below.cell HB.out (p := ⟨b, o + 1, none⟩) hb0).trans HC1.out
  have k2 : W.cell? ⟨b, o + 2, none⟩ = some (.string v2) := (Below.cell HB.out (p := ⟨b, o + 2, none⟩) hb0).trans HC2.out
  have k3 : W.cell? ⟨b, o + 3, none⟩ = some (.string v3) := (Below.cell HB.out (p := ⟨b, o + 3, none⟩) hb0).trans HC3.out
  have k4 : W.cell? ⟨b, o + 4, none⟩ = some (.string v4) := (Below.cell HB.out (p := ⟨b, o + 4, none⟩) hb0).trans HC4.out
  go_upto_if 30 with fail
  go_cut [9] (fun s9 wx => s9 = .int .i64 ↑ws.length ∧ wx = W)
  case first =>
    clear hqc
    cases qc
    · have hw : Aside0 (ws.length = 5) := ⟨by rcases HN.out with ⟨h, _⟩ | ⟨_, h⟩ <;> first | exact h | cases h⟩
      go_wp2
      go_meet
      case rel => exact ⟨by rw [hw.out]; rfl, rfl⟩
    · have hw : Aside0 (ws.length = 6) := ⟨by rcases HN.out with ⟨_, h⟩ | ⟨h, _⟩ <;> first | exact h | cases h⟩
      go_wp2
      go_meet
      case rel => exact ⟨by rw [hw.out]; rfl, rfl⟩
  case rest =>
  obtain ⟨rfl, rfl⟩ := hcut
  go_upto_region 8 with (first | (go_at_call 56; (with_reducible refine (HD4.out _).mono ?_); rintro e w1 ⟨rfl, hb⟩; have BRn := Aside0.mk (blk_below BR.out hb); clear BR k0 k1 k2 k3 k4; have BR := BRn; clear BRn; have HBn := Aside0.mk (below_step (by repeat (first | (with_reducible first | exact HB.out | apply below_alloc | apply pw_below_drewN | apply below_drew1) | exact HB.out)) hb); clear HB; have HB := HBn; clear HBn; clear hb; have k0 : w1.cell? ⟨b, o, none⟩ = some (.string v0) := (Below.cell HB.out (p := ⟨b, o, none⟩) hb0).trans HC0.out; have k1 : w1.cell? ⟨b, o + 1, none⟩ = some (.string v1) := (Below.cell HB.out (p := ⟨b, o + 1, none⟩) hb0).trans HC1.out; have k2 : w1.cell? ⟨b, o + 2, none⟩ = some (.string v2) := (Below.cell HB.out (p := ⟨b, o + 2, none⟩) hb0).trans HC2.out; have k3 : w1.cell? ⟨b, o + 3, none⟩ = some (.string v3) := (Below.cell HB.out (p := ⟨b, o + 3, none⟩) hb0).trans HC3.out; have k4 : w1.cell? ⟨b, o + 4, none⟩ = some (.string v4) := (Below.cell HB.out (p := ⟨b, o + 4, none⟩) hb0).trans HC4.out))
  go_cut [48] (fun st wx => st = .bool (p3 && decide ((z3 : Int) ≤ 1073741824)) ∧ Aside0 (wx.heap[w.heap.size]? = some (.cells zStepC 34 (0, 0)) ∧ Below w.heap.size w wx))
  case first =>
    cases p3
    · go_wp2
      go_meet
      case rel => exact ⟨rfl, ⟨BR.out, HB.out⟩⟩
    · go_wp2
      go_meet
      case rel => exact ⟨by simp, ⟨BR.out, HB.out⟩⟩
  case rest =>
  obtain ⟨rfl, HW⟩ := hcut
  clear HB BR k0 k1 k2 k3 k4
  have BR := Aside0.mk HW.out.1
  have HB := Aside0.mk HW.out.2
  clear HW
  have k0 : wc.cell? ⟨b, o, none⟩ = some (.string v0) := (Below.cell HB.out (p := ⟨b, o, none⟩) hb0).trans HC0.out
  have k1 : wc.cell? ⟨b, o + 1, none⟩ = some (.string v1) := (Below.cell HB.out (p := ⟨b, o + 1, none⟩) hb0).trans HC1.out
  have k2 : wc.cell? ⟨b, o + 2, none⟩ = some (.string v2) := (Below.cell HB.out (p := ⟨b, o + 2, none⟩) hb0).trans HC2.out
  have k3 : wc.cell? ⟨b, o + 3, none⟩ = some (.string v3) := (Below.cell HB.out (p := ⟨b, o + 3, none⟩) hb0).trans HC3.out
  have k4 : wc.cell? ⟨b, o + 4, none⟩ = some (.string v4) := (Below.cell HB.out (p := ⟨b, o + 4, none⟩) hb0).trans HC4.out
  go_upto_if 48 with fail
  go_cut [12] (fun st wx => st = .int .i64 sk ∧ Aside0 (wx.heap[w.heap.size]? = some (.cells zStepC 34 (0, 0)) ∧ Below w.heap.size w wx))
  case first =>
    have hsk := HSK.out
    unfold skipN at hsk
    by_cases hs : p3 = true ∧ (z3 : Int) ≤ 1073741824
    · rw [if_pos hs] at hsk
      obtain ⟨rfl, hs2⟩ := hs
      have hd : decide ((z3 : Int) ≤ 1073741824) = true := decide_eq_true hs2
      have hz0 : (0 : Int) ≤ ↑z3 := by omega
      subst hsk
      rw [hd]
      go_wp2
      go_meet
      case rel => exact ⟨by first | rfl | simp, ⟨BR.out, HB.out⟩⟩
    · rw [if_neg hs] at hsk
      have hd : (p3 && decide ((z3 : Int) ≤ 1073741824)) = false := by
        cases p3
        · rfl
        · rw [Bool.true_and]
          exact decide_eq_false (fun h => hs ⟨rfl, h⟩)
      subst hsk
      rw [hd]
      clear hs
      go_wp2
      go_meet
      case rel => exact ⟨by first | rfl | simp, ⟨BR.out, HB.out⟩⟩
  case rest =>
  obtain ⟨rfl, HW⟩ := hcut
  clear HB BR k0 k1 k2 k3 k4
  have BR := Aside0.mk HW.out.1
  have HB := Aside0.mk HW.out.2
  clear HW
  have k0 : wc.cell? ⟨b, o, none⟩ = some (.string v0) := (Below.cell HB.out (p := ⟨b, o, none⟩) hb0).trans HC0.out
  have k1 : wc.cell? ⟨b, o + 1, none⟩ = some (.string v1) := (Below.cell HB.out (p := ⟨b, o + 1, none⟩) hb0).trans HC1.out
  have k2 : wc.cell? ⟨b, o + 2, none⟩ = some (.string v2) := (Below.cell HB.out (p := ⟨b, o + 2, none⟩) hb0).trans HC2.out
  have k3 : wc.cell? ⟨b, o + 3, none⟩ = some (.string v3) := (Below.cell HB.out (p := ⟨b, o + 3, none⟩) hb0).trans HC3.out
  have k4 : wc.cell? ⟨b, o + 4, none⟩ = some (.string v4) := (Below.cell HB.out (p := ⟨b, o + 4, none⟩) hb0).trans HC4.out
  go_upto_if 71 with (first | (go_at_call 32; (with_reducible refine (HK1.out _).mono ?_); rintro e w1 ⟨rfl, hb⟩; have BRn := Aside0.mk (blk_below BR.out hb); clear BR k0 k1 k2 k3 k4; have BR := BRn; clear BRn; have HBn := Aside0.mk (below_step (by repeat (first | (with_reducible first | exact HB.out | apply below_alloc | apply pw_below_drewN | apply below_drew1) | exact HB.out)) hb); clear HB; have HB := HBn; clear HBn; clear hb; have k0 : w1.cell? ⟨b, o, none⟩ = some (.string v0) := (Below.cell HB.out (p := ⟨b, o, none⟩) hb0).trans HC0.out; have k1 : w1.cell? ⟨b, o + 1, none⟩ = some (.string v1) := (Below.cell HB.out (p := ⟨b, o + 1, none⟩) hb0).trans HC1.out; have k2 : w1.cell? ⟨b, o + 2, none⟩ = some (.string v2) := (Below.cell HB.out (p := ⟨b, o + 2, none⟩) hb0).trans HC2.out; have k3 : w1.cell? ⟨b, o + 3, none⟩ = some (.string v3) := (Below.cell HB.out (p := ⟨b, o + 3, none⟩) hb0).trans HC3.out; have k4 : w1.cell? ⟨b, o + 4, none⟩ = some (.string v4) := (Below.cell HB.out (p := ⟨b, o + 4, none⟩) hb0).trans HC4.out) | (go_at_call 56; (with_reducible refine (HD2.out _).mono ?_); rintro e w1 ⟨rfl, hb⟩; have BRn := Aside0.mk (blk_below BR.out hb); clear BR k0 k1 k2 k3 k4; have BR := BRn; clear BRn; have HBn := Aside0.mk (below_step (by repeat (first | (with_reducible first | exact HB.out | apply below_alloc | apply pw_below_drewN | apply below_drew1) | exact HB.out)) hb); clear HB; have HB := HBn; clear HBn; clear hb; have k0 : w1.cell? ⟨b, o, none⟩ = some (.string v0) := (Below.cell HB.out (p := ⟨b, o, none⟩) hb0).trans HC0.out; have k1 : w1.cell? ⟨b, o + 1, none⟩ = some (.string v1) := (Below.cell HB.out (p := ⟨b, o + 1, none⟩) hb0).trans HC1.out; have k2 : w1.cell? ⟨b, o + 2, none⟩ = some (.string v2) := (Below.cell HB.out (p := ⟨b, o + 2, none⟩) hb0).trans HC2.out; have k3 : w1.cell? ⟨b, o + 3, none⟩ = some (.string v3) := (Below.cell HB.out (p := ⟨b, o + 3, none⟩) hb0).trans HC3.out; have k4 : w1.cell? ⟨b, o + 4, none⟩ = some (.string v4) := (Below.cell HB.out (p := ⟨b, o + 4, none⟩) hb0).trans HC4.out) | (go_at_call 54; (with_reducible refine (HS3.out _).mono ?_); rintro e w1 ⟨rfl, hb⟩; have BRn := Aside0.mk (blk_below BR.out hb); clear BR k0 k1 k2 k3 k4; have BR := BRn; clear BRn; have HBn := Aside0.mk (below_step (by repeat (first | (with_reducible first | exact HB.out | apply below_alloc | apply pw_below_drewN | apply below_drew1) | exact HB.out)) hb); clear HB; have HB := HBn; clear HBn; clear hb; have k0 : w1.cell? ⟨b, o, none⟩ = some (.string v0) := (Below.cell HB.out (p := ⟨b, o, none⟩) hb0).trans HC0.out; have k1 : w1.cell? ⟨b, o + 1, none⟩ = some (.string v1) := (Below.cell HB.out (p := ⟨b, o + 1, none⟩) hb0).trans HC1.out; have k2 : w1.cell? ⟨b, o + 2, none⟩ = some (.string v2) := (Below.cell HB.out (p := ⟨b, o + 2, none⟩) hb0).trans HC2.out; have k3 : w1.cell? ⟨b, o + 3, none⟩ = some (.string v3) := (Below.cell HB.out (p := ⟨b, o + 3, none⟩) hb0).trans HC3.out; have k4 : w1.cell? ⟨b, o + 4, none⟩ = some (.string v4) := (Below.cell HB.out (p := ⟨b, o + 4, none⟩) hb0).trans HC4.out))
  go_cut [18] (fun st wx => st = .string last ∧ Aside0 (wx.heap[w.heap.size]? = some (.cells zStepC 34 (0, 0)) ∧ Below w.heap.size w wx))
  case first =>
    have hla := HLA.out
    unfold lastW at hla
    by_cases h6 : ws.length = 6
    · have k5 : w1.cell? ⟨b, o + 5, none⟩ = some (.string v5) := (Below.cell HB.out (p := ⟨b, o + 5, none⟩) hb0).trans (HC5.out h6)
      rw [if_pos h6] at hla
      subst hla
      have h6i : ((ws.length : Int) == 6) = true := by simp [h6]
      have h6n : (5 : Int) < ↑ws.length := by omega
      clear h6
      go_wp2
      go_meet
      case rel => exact ⟨rfl, ⟨BR.out, HB.out⟩⟩
    · rw [if_neg h6] at hla
      subst hla
      have h6i : ((ws.length : Int) == 6) = false := by simp; omega
      clear h6
      go_wp2
      go_meet
      case rel => exact ⟨rfl, ⟨BR.out, HB.out⟩⟩
  case rest =>
  obtain ⟨rfl, HW⟩ := hcut
  clear HB BR k0 k1 k2 k3 k4
  have BR := Aside0.mk HW.out.1
  have HB := Aside0.mk HW.out.2
  clear HW
  have k0 : wc.cell? ⟨b, o, none⟩ = some (.string v0) := (Below.cell HB.out (p := ⟨b, o, none⟩) hb0).trans HC0.out
  have k1 : wc.cell? ⟨b, o + 1, none⟩ = some (.string v1) := (Below.cell HB.out (p := ⟨b, o + 1, none⟩) hb0).trans HC1.out
  have k2 : wc.cell? ⟨b, o + 2, none⟩ = some (.string v2) := (Below.cell HB.out (p := ⟨b, o + 2, none⟩) hb0).trans HC2.out
  have k3 : wc.cell? ⟨b, o + 3, none⟩ = some (.string v3) := (Below.cell HB.out (p := ⟨b, o + 3, none⟩) hb0).trans HC3.out
  have k4 : wc.cell? ⟨b, o + 4, none⟩ = some (.string v4) := (Below.cell HB.out (p := ⟨b, o + 4, none⟩) hb0).trans HC4.out
  go_upto_region 19 with (first | (go_at_call 56; (with_reducible refine (HD5.out _).mono ?_); rintro e w1 ⟨rfl, hb⟩; have BRn := Aside0.mk (blk_below BR.out hb); clear BR k0 k1 k2 k3 k4; have BR := BRn; clear BRn; have HBn := Aside0.mk (below_step (by repeat (first | (with_reducible first | exact HB.out | apply below_alloc | apply pw_below_drewN | apply below_drew1) | exact HB.out)) hb); clear HB; have HB := HBn; clear HBn; clear hb; have k0 : w1.cell? ⟨b, o, none⟩ = some (.string v0) := (Below.cell HB.out (p := ⟨b, o, none⟩) hb0).trans HC0.out; have k1 : w1.cell? ⟨b, o + 1, none⟩ = some (.string v1) := (Below.cell HB.out (p := ⟨b, o + 1, none⟩) hb0).trans HC1.out; have k2 : w1.cell? ⟨b, o + 2, none⟩ = some (.string v2) := (Below.cell HB.out (p := ⟨b, o + 2, none⟩) hb0).trans HC2.out; have k3 : w1.cell? ⟨b, o + 3, none⟩ = some (.string v3) := (Below.cell HB.out (p := ⟨b, o + 3, none⟩) hb0).trans HC3.out; have k4 : w1.cell? ⟨b, o + 4, none⟩ = some (.string v4) := (Below.cell HB.out (p := ⟨b, o + 4, none⟩) hb0).trans HC4.out) | (go_at_call 53; (with_reducible refine (HBAD.out _).mono ?_); rintro e w1 ⟨rfl, hb⟩; have BRn := Aside0.mk (blk_below BR.out hb); clear BR k0 k1 k2 k3 k4; have BR := BRn; clear BRn; have HBn := Aside0.mk (below_step (by repeat (first | (with_reducible first | exact HB.out | apply below_alloc | apply pw_below_drewN | apply below_drew1) | exact HB.out)) hb); clear HB; have HB := HBn; clear HBn; clear hb; have k0 : w1.cell? ⟨b, o, none⟩ = some (.string v0) := (Below.cell HB.out (p := ⟨b, o, none⟩) hb0).trans HC0.out; have k1 : w1.cell? ⟨b, o + 1, none⟩ = some (.string v1) := (Below.cell HB.out (p := ⟨b, o + 1, none⟩) hb0).trans HC1.out; have k2 : w1.cell? ⟨b, o + 2, none⟩ = some (.string v2) := (Below.cell HB.out (p := ⟨b, o + 2, none⟩) hb0).trans HC2.out; have k3 : w1.cell? ⟨b, o + 3, none⟩ = some (.string v3) := (Below.cell HB.out (p := ⟨b, o + 3, none⟩) hb0).trans HC3.out; have k4 : w1.cell? ⟨b, o + 4, none⟩ = some (.string v4) := (Below.cell HB.out (p := ⟨b, o + 4, none⟩) hb0).trans HC4.out) | (go_at_call 24; (with_reducible refine (HFX.out _).mono ?_); rintro e w2 ⟨rfl, hb⟩; unfold stepFC; have BRn := Aside0.mk (blk_below BR.out hb); clear BR k0 k1 k2 k3 k4; have BR := BRn; clear BRn; have HBn := Aside0.mk (below_step (by repeat (first | (with_reducible first | exact HB.out | apply below_alloc | apply pw_below_drewN | apply below_drew1) | exact HB.out)) hb); clear HB; have HB := HBn; clear HBn; clear hb; have k0 : w2.cell? ⟨b, o, none⟩ = some (.string v0) := (Below.cell HB.out (p := ⟨b, o, none⟩) hb0).trans HC0.out; have k1 : w2.cell? ⟨b, o + 1, none⟩ = some (.string v1) := (Below.cell HB.out (p := ⟨b, o + 1, none⟩) hb0).trans HC1.out; have k2 : w2.cell? ⟨b, o + 2, none⟩ = some (.string v2) := (Below.cell HB.out (p := ⟨b, o + 2, none⟩) hb0).trans HC2.out; have k3 : w2.cell? ⟨b, o + 3, none⟩ = some (.string v3) := (Below.cell HB.out (p := ⟨b, o + 3, none⟩) hb0).trans HC3.out; have k4 : w2.cell? ⟨b, o + 4, none⟩ = some (.string v4) := (Below.cell HB.out (p := ⟨b, o + 4, none⟩) hb0).trans HC4.out; have hr2 : w.heap.size < w2.heap.size := blk_lt BR.out; have hb2w : b < w2.heap.size := Nat.lt_of_lt_of_le hb0 HB.out.size) | (refine wpList_store_1 rfl 3 _ _ rfl w2.heap.size 13 (.int .i64 sk) rfl rfl rfl 34 _ (stepFC ((m : Int) + 1) badT sk false).toArray (blk_at_new _ _ _ rfl) (by simp) (by kernel_rfl) rfl ?_; intro w3 hbk hst; have BO := Aside0.mk hbk; have BRn := Aside0.mk (hst.blk (blk_alloc BR.out _) (by omega)); have HBn := Aside0.mk (hst.up (by repeat (first | (with_reducible first | exact HB.out | apply below_alloc | apply pw_below_drewN | apply below_drew1) | exact HB.out)) (by omega)); clear hbk hst BR HB k0 k1 k2 k3 k4; have BR := BRn; have HB := HBn; clear BRn HBn; have k0 : w3.cell? ⟨b, o, none⟩ = some (.string v0) := (Below.cell HB.out (p := ⟨b, o, none⟩) hb0).trans HC0.out; have k1 : w3.cell? ⟨b, o + 1, none⟩ = some (.string v1) := (Below.cell HB.out (p := ⟨b, o + 1, none⟩) hb0).trans HC1.out; have k2 : w3.cell? ⟨b, o + 2, none⟩ = some (.string v2) := (Below.cell HB.out (p := ⟨b, o + 2, none⟩) hb0).trans HC2.out; have k3 : w3.cell? ⟨b, o + 3, none⟩ = some (.string v3) := (Below.cell HB.out (p := ⟨b, o + 3, none⟩) hb0).trans HC3.out; have k4 : w3.cell? ⟨b, o + 4, none⟩ = some (.string v4) := (Below.cell HB.out (p := ⟨b, o + 4, none⟩) hb0).trans HC4.out))
  (try simp only [Act.put, List.setIfInBounds_toArray, List.set_cons_zero, List.set_cons_succ])
  go_cut [106] (fun st wx => st = .bool bd ∧ Aside0 (wx = w3))
  case first =>
    clear k0 k1 k2 k3 k4
    cases q
    · (go_wp2; go_meet; case rel => exact ⟨by rw [← HBD.out]; first | rfl | (simp [badA, hf]; done) | (simp [badA]; done) | (simp [badA]; omega), ⟨rfl⟩⟩)
    cases p1
    · (go_wp2; go_meet; case rel => exact ⟨by rw [← HBD.out]; first | rfl | (simp [badA, hf]; done) | (simp [badA]; done) | (simp [badA]; omega), ⟨rfl⟩⟩)
    by_cases hf : (z1 : Int) > 4294967295
    · (go_wp2; go_meet; case rel => exact ⟨by rw [← HBD.out]; first | rfl | (simp [badA, hf]; done) | (simp [badA]; done) | (simp [badA]; omega), ⟨rfl⟩⟩)
    cases p2
    · (go_wp2; go_meet; case rel => exact ⟨by rw [← HBD.out]; first | rfl | (simp [badA, hf]; done) | (simp [badA]; done) | (simp [badA]; omega), ⟨rfl⟩⟩)
    cases p3
    · (go_wp2; go_meet; case rel => exact ⟨by rw [← HBD.out]; first | rfl | (simp [badA, hf]; done) | (simp [badA]; done) | (simp [badA]; omega), ⟨rfl⟩⟩)
    cases p4
    · (go_wp2; go_meet; case rel => exact ⟨by rw [← HBD.out]; first | rfl | (simp [badA, hf]; done) | (simp [badA]; done) | (simp [badA]; omega), ⟨rfl⟩⟩)
    · (go_wp2; go_meet; case rel => exact ⟨by rw [← HBD.out]; first | rfl | (simp [badA, hf]; done) | (simp [badA]; done) | (simp [badA]; omega), ⟨rfl⟩⟩)
  case rest =>
  obtain ⟨rfl, HW⟩ := hcut
  have hww := HW.out.symm
  subst hww
  clear HW
  have hR := HRR.out
  cases bd
  · rw [if_neg (show ¬ (false = true) by decide)] at hR
    by_cases hl3 : (z3 : Int) > 1000
    · rw [if_pos (by exact hl3)] at hR
      subst hR
      clear HRR
      clear k0 k1 k2 k3 k4
      go_wp2_with (first | (refine wpList_store_1 rfl 9 _ _ rfl w2.heap.size 11 (.string (⟨#[83, 69, 82, 86, 69, 82, 95, 69, 82, 82, 79, 82, 32, 111, 98, 106, 101, 99, 116, 32, 116, 111, 111, 32, 108, 97, 114, 103, 101, 32, 102, 111, 114, 32, 99, 97, 99, 104, 101, 13, 10]⟩ : ByteArray)) rfl rfl rfl 34 _ (stepFC ((m : Int) + 1) largeT sk false).toArray BO.out (by simp [stepFC]) (by kernel_rfl) (by rw [largeE]; rfl) ?_; intro w4 hbk hst; have BO4 := Aside0.mk hbk; have BR4 := Aside0.mk (hst.blk BR.out (by omega)); have HB4 := Aside0.mk (hst.up HB.out (by omega)); clear hbk hst HB; have HB := HB4; clear HB4) | (refine wpList_load_row rfl 34 _ rfl (w2.heap.size) rfl 34 _ (0, 0) _ BO4.out Tryz.underlying34 rfl (by kernel_rfl) ?_) | (refine wpList_store_F rfl 34 _ _ rfl w.heap.size 0 (stepFC ((m : Int) + 1) largeT sk false) rfl rfl (by simp [stepFC, Value.oneCell']) 34 _ (stepFC ((m : Int) + 1) largeT sk false).toArray BR4.out (by simp [zStepC, stepFC]) (by kernel_rfl) rfl ?_; intro w8 hbk hst; have BR8 := Aside0.mk hbk; have HB8 := Aside0.mk (hst.up HB.out (Nat.le_refl _)); clear hbk hst))
      ((try simp only [Exit.inBlock, Exit.then]); refine bodyPost_ret (results_cell_row rfl _ _ w.heap.size 34 _ (0, 0) _ rfl BR8.out Tryz.underlying34 rfl (by kernel_rfl)) rfl ?_)
      exact ⟨⟨_, rfl, fun w2 _ _ => stepFS_K w2 ((m : Int) + 1) largeT sk false⟩, HB8.out⟩
    · exact absurd (HSEL.out.resolve_left (by decide)) hl3
  · rw [if_pos rfl] at hR
    subst hR
    clear HRR
    clear k0 k1 k2 k3 k4
    go_wp2_with (first | (refine wpList_load_row rfl 34 _ rfl (w2.heap.size) rfl 34 _ (0, 0) _ BO.out Tryz.underlying34 rfl (by kernel_rfl) ?_) | (refine wpList_store_F rfl 34 _ _ rfl w.heap.size 0 (stepFC ((m : Int) + 1) badT sk false) rfl rfl (by simp [stepFC, Value.oneCell']) 34 _ (stepFC ((m : Int) + 1) badT sk false).toArray BR.out (by simp [zStepC, stepFC]) (by kernel_rfl) rfl ?_; intro w8 hbk hst; have BR8 := Aside0.mk hbk; have HB8 := Aside0.mk (hst.up HB.out (Nat.le_refl _)); clear hbk hst))
    ((try simp only [Exit.inBlock, Exit.then]); refine bodyPost_ret (results_cell_row rfl _ _ w.heap.size 34 _ (0, 0) _ rfl BR8.out Tryz.underlying34 rfl (by kernel_rfl)) rfl ?_)
    exact ⟨⟨_, rfl, fun w2 _ _ => stepFS_K w2 ((m : Int) + 1) badT sk false⟩, HB8.out⟩
set_option maxRecDepth 100000 in
set_option maxHeartbeats 4000000 in
theorem rstores_more (ws : List ByteArray) (A : Option Addr) (c : Nat) (quiet : Bool) (m : Nat) (l : List Int) (Ab : Option Addr) (cb : Nat) (v0 v1 v2 v3 v4 v5 : ByteArray) (F : Nat → Prop) (w : World) (hC : HolF F w (fun w2 => Kd.string.C w2 A ws.length ws)) (hc : ws.length ≤ c) (hs : ∀ k ∈ ws, k.size ≤ 1000000)
    (h0 : ws.getD 0 ⟨#[]⟩ = v0) (h1 : ws.getD 1 ⟨#[]⟩ = v1) (h2 : ws.getD 2 ⟨#[]⟩ = v2) (h3 : ws.getD 3 ⟨#[]⟩ = v3) (h4 : ws.getD 4 ⟨#[]⟩ = v4) (h5 : ws.getD 5 ⟨#[]⟩ = v5) (hn : (v0.toList == [99, 97, 115]) = true ∧ ws.length = 6 ∨ (v0.toList == [99, 97, 115]) = false ∧ ws.length = 5)
    (hCb : (Kd.int .u8).C w Ab l.length l) (hcb : l.length ≤ cb) (hl : l.length ≤ 1000000) (hm : m < l.length) (hsel : badA (keyS v1) (decS v2).2 (decS v2).1 (sgnS v3).2 (decS v4).2 (decS (lastW ws.length v5)).2 = false ∧ ¬ ((decS v4).1 : Int) > 1000 ∧ (bodyS (l.drop (m + 1)) ((decS v4).1 : Int)).2.2 ≠ 0) :
    Calls Tryz.prog 30 #[.slice A ws.length c, .bool quiet, .int .i64 ((m : Int) + 1), .slice Ab l.length cb] w (StepR F w (storesR v0 quiet ((m : Int) + 1) (l.drop (m + 1)) (opL v0.toList) v1 v2 v3 v4 (decS (lastW ws.length v5)))) := by
  have HB := Aside0.mk (Below.refl w.heap.size w)
  have HCF := Aside0.mk hC
  obtain ⟨qc, hqc⟩ : ∃ qc, (v0.toList == [99, 97, 115]) = qc := ⟨_, rfl⟩
  rw [hqc] at hn
  have HN := Aside0.mk hn
  have HCB := Aside0.mk hCb
  obtain ⟨b2, o2, rfl, hb2, -⟩ := C_cell hCb m hm
  have hlen5 : 5 ≤ ws.length := by omega
  obtain ⟨b, o, rfl, hb0, hcell0⟩ := S_cell hC.now 0 (by omega)
  rw [h0, Nat.add_zero] at hcell0
  have HC0 := Aside0.mk hcell0
  have HC1 : Aside0 (w.cell? ⟨b, o + 1, none⟩ = some (.string v1)) := by
    obtain ⟨b', o', e', -, h⟩ := S_cell hC.now 1 (by omega)
    obtain ⟨rfl, rfl⟩ : b = b' ∧ o = o' := by simpa using e'
    rw [h1] at h
    exact ⟨h⟩
  have HC2 : Aside0 (w.cell? ⟨b, o + 2, none⟩ = some (.string v2)) := by
    obtain ⟨b', o', e', -, h⟩ := S_cell hC.now 2 (by omega)
    obtain ⟨rfl, rfl⟩ : b = b' ∧ o = o' := by simpa using e'
    rw [h2] at h
    exact ⟨h⟩
  have HC3 : Aside0 (w.cell? ⟨b, o + 3, none⟩ = some (.string v3)) := by
    obtain ⟨b', o', e', -, h⟩ := S_cell hC.now 3 (by omega)
    obtain ⟨rfl, rfl⟩ : b = b' ∧ o = o' := by simpa using e'
    rw [h3] at h
    exact ⟨h⟩
  have HC4 : Aside0 (w.cell? ⟨b, o + 4, none⟩ = some (.string v4)) := by
    obtain ⟨b', o', e', -, h⟩ := S_cell hC.now 4 (by omega)
    obtain ⟨rfl, rfl⟩ : b = b' ∧ o = o' := by simpa using e'
    rw [h4] at h
    exact ⟨h⟩
  have HKC : Aside0 (HolF F w (fun w2 => Kd.string.C w2 (some ⟨b, o + 1, none⟩) 1 [v1])) := ⟨hC.imp (fun w2 h => by rw [← h1]; exact C_second h (by omega))⟩
  have HC5 : Aside0 (ws.length = 6 → w.cell? ⟨b, o + 5, none⟩ = some (.string v5)) := ⟨fun h6 => by
    obtain ⟨b', o', e', -, h⟩ := S_cell hC.now 5 (by omega)
    obtain ⟨rfl, rfl⟩ : b = b' ∧ o = o' := by simpa using e'
    rw [h5] at h
    exact h⟩
  have hsz : ∀ i, i < ws.length → (ws.getD i ⟨#[]⟩).size ≤ 1000000 := fun i hi => by
    rw [List.getD_eq_getElem?_getD, List.getElem?_eq_getElem hi]
    exact hs _ (List.getElem_mem _)
  have HK1 := Aside0.mk (fun w => rkey_calls v1 w (by rw [← h1]; exact hsz 1 (by omega)))
  have HD2 := Aside0.mk (fun w => rdec_w v2 w)
  have HS3 := Aside0.mk (fun w => rsgn_w v3 w (by rw [← h3]; exact hsz 3 (by omega)))
  have HD4 := Aside0.mk (fun w => rdec_w v4 w)
  have HD5 := Aside0.mk (fun w => rdec_w (lastW ws.length v5) w)
  have HBAD : Aside0 (∀ w', Calls Tryz.prog 53 #[] w' fun e w'' => e = .returned (.string (⟨#[67, 76, 73, 69, 78, 84, 95, 69, 82, 82, 79, 82, 32, 98, 97, 100, 32, 99, 111, 109, 109, 97, 110, 100, 32, 108, 105, 110, 101, 32, 102, 111, 114, 109, 97, 116]⟩ : ByteArray)) ∧ Below w'.heap.size w' w'') := ⟨fun w' => bad_calls w'⟩
  have HFX : Aside0 (∀ w', Calls Tryz.prog 24 #[.int .i64 ((m : Int) + 1), .string (⟨#[67, 76, 73, 69, 78, 84, 95, 69, 82, 82, 79, 82, 32, 98, 97, 100, 32, 99, 111, 109, 109, 97, 110, 100, 32, 108, 105, 110, 101, 32, 102, 111, 114, 109, 97, 116]⟩ : ByteArray)] w' fun e w'' => e = .returned (.agg (stepFC ((m : Int) + 1) badT 0 false).toArray) ∧ Below w'.heap.size w' w'') := ⟨fun w' => rfault_ex _ _ w' (by decide)⟩
  obtain ⟨lr, hlr⟩ : ∃ lr, l.drop (m + 1) = lr := ⟨_, rfl⟩
  have HLRN : Aside0 (l.length - (m + 1) = lr.length) := ⟨by rw [← hlr, List.length_drop]⟩
  have HLR := Aside0.mk hlr
  have HLRL : Aside0 (lr.length ≤ 1000000) := ⟨by have := HLRN.out; omega⟩
  rw [hlr]
  obtain ⟨R, hR⟩ : ∃ R, storesR v0 quiet ((m : Int) + 1) lr (opL v0.toList) v1 v2 v3 v4 (decS (lastW ws.length v5)) = R := ⟨_, rfl⟩
  rw [hR]
  unfold storesR at hR
  obtain ⟨q, hq⟩ : ∃ q, keyS v1 = q := ⟨_, rfl⟩
  obtain ⟨⟨z1, p1⟩, hz1⟩ : ∃ z, decS v2 = z := ⟨_, rfl⟩
  obtain ⟨⟨z2, p2⟩, hz2⟩ : ∃ z, sgnS v3 = z := ⟨_, rfl⟩
  obtain ⟨⟨z3, p3⟩, hz3⟩ : ∃ z, decS v4 = z := ⟨_, rfl⟩
  obtain ⟨⟨z4, p4⟩, hz4⟩ : ∃ z, decS (lastW ws.length v5) = z := ⟨_, rfl⟩
  rw [hq] at HK1
  rw [hz1] at HD2
  rw [hz2] at HS3
  rw [hz3] at HD4
  rw [hz4] at HD5
  rw [hz1, hz2, hz3, hz4, hq] at hR
  rw [hz1, hz2, hz3, hz4, hq, hlr] at hsel
  dsimp only at hsel
  obtain ⟨last, hlast⟩ : ∃ v, lastW ws.length v5 = v := ⟨_, rfl⟩
  have HLA := Aside0.mk hlast
  rw [hlast] at HD5
  obtain ⟨bd, hbd⟩ : ∃ bd, badA q p1 z1 p2 p3 p4 = bd := ⟨_, rfl⟩
  have HBD := Aside0.mk hbd
  obtain ⟨sk, hsk⟩ : ∃ s, skipN (z3, p3) = s := ⟨_, rfl⟩
  have HSK := Aside0.mk hsk
  rw [hbd, hsk] at hR
  rw [hbd] at hsel
  have HSEL := Aside0.mk hsel
  clear hsel
  have HRR := Aside0.mk hR
  clear hR hlr
  have HQ := Aside0.mk hq
  have hn0 : (4 : Int) < ↑ws.length := by omega
  have hnN : 4 < ws.length := by omega
  have hcc : (ws.length : Int) ≤ ↑c := by omega
  have hu1 : (m : Int) + 1 ≤ ↑l.length := by omega
  have hu2 : (l.length : Int) ≤ ↑cb := by omega
  have hu3 : (0 : Int) ≤ (m : Int) + 1 := by omega
  clear hC hCb h0 h1 h2 h3 h4 h5 hcell0 hsz hs hq hz1 hz2 hz3 hz4 hlast hbd hsk hlen5 hn hm
  go_enter Tryz.func30, Tryz.ntmps30
  go_upto_region 1 with fail
  obtain ⟨W, hW⟩ : ∃ W, w.alloc (.cells zStepC 34 (0, 0)) = W := ⟨_, rfl⟩
  have hW2 := hW
  unfold zStepC at hW2
  rw [hW2]
  have BR := Aside0.mk (show W.heap[w.heap.size]? = _ from hW ▸ blk_at_new _ _ _ rfl)
  have HBn : Aside0 (Below w.heap.size w W) := ⟨hW ▸ (by repeat (first | (with_reducible first | exact HB.out | apply below_alloc | apply pw_below_drewN | apply below_drew1) | exact HB.out))⟩
  clear HB hW hW2
  have HB := HBn
  clear HBn
  have k0 : W.cell? ⟨b, o, none⟩ = some (.string v0) := (Below.cell HB.out (p := ⟨b, o, none⟩) hb0).trans HC0.out
  have k1 : W.cell? ⟨b, o + 1, none⟩ = some (.string v1) := (Below.cell HB.out (p := ⟨b, o + 1, none⟩) hb0).trans HC1.out
  have k2 : W.cell? ⟨b, o + 2, none⟩ = some (.string v2) := (Below.cell HB.out (p := ⟨b, o + 2, none⟩) hb0).trans HC2.out
  have k3 : W.cell? ⟨b, o + 3, none⟩ = some (.string v3) := (Below.cell HB.out (p := ⟨b, o + 3, none⟩) hb0).trans HC3.out
  have k4 : W.cell? ⟨b, o + 4, none⟩ = some (.string v4) := (Below.cell HB.out (p := ⟨b, o + 4, none⟩) hb0).trans HC4.out
  go_upto_if 30 with fail
  go_cut [9] (fun s9 wx => s9 = .int .i64 ↑ws.length ∧ wx = W)
  case first =>
    clear hqc
    cases qc
    · have hw : Aside0 (ws.length = 5) := ⟨by rcases HN.out with ⟨h, _⟩ | ⟨_, h⟩ <;> first | exact h | cases h⟩
      go_wp2
      go_meet
      case rel => exact ⟨by rw [hw.out]; rfl, rfl⟩
    · have hw : Aside0 (ws.length = 6) := ⟨by rcases HN.out with ⟨_, h⟩ | ⟨h, _⟩ <;> first | exact h | cases h⟩
      go_wp2
      go_meet
      case rel => exact ⟨by rw [hw.out]; rfl, rfl⟩
  case rest =>
  obtain ⟨rfl, rfl⟩ := hcut
  go_upto_region 8 with (first | (go_at_call 56; (with_reducible refine (HD4.out _).mono ?_); rintro e w1 ⟨rfl, hb⟩; have BRn := Aside0.mk (blk_below BR.out hb); clear BR k0 k1 k2 k3 k4; have BR := BRn; clear BRn; have HBn := Aside0.mk (below_step (by repeat (first | (with_reducible first | exact HB.out | apply below_alloc | apply pw_below_drewN | apply below_drew1) | exact HB.out)) hb); clear HB; have HB := HBn; clear HBn; clear hb; have k0 : w1.cell? ⟨b, o, none⟩ = some (.string v0) := (Below.cell HB.out (p := ⟨b, o, none⟩) hb0).trans HC0.out; have k1 : w1.cell? ⟨b, o + 1, none⟩ = some (.string v1) := (Below.cell HB.out (p := ⟨b, o + 1, none⟩) hb0).trans HC1.out; have k2 : w1.cell? ⟨b, o + 2, none⟩ = some (.string v2) := (Below.cell HB.out (p := ⟨b, o + 2, none⟩) hb0).trans HC2.out; have k3 : w1.cell? ⟨b, o + 3, none⟩ = some (.string v3) := (Below.cell HB.out (p := ⟨b, o + 3, none⟩) hb0).trans HC3.out; have k4 : w1.cell? ⟨b, o + 4, none⟩ = some (.string v4) := (Below.cell HB.out (p := ⟨b, o + 4, none⟩) hb0).trans HC4.out))
  go_cut [48] (fun st wx => st = .bool (p3 && decide ((z3 : Int) ≤ 1073741824)) ∧ Aside0 (wx.heap[w.heap.size]? = some (.cells zStepC 34 (0, 0)) ∧ Below w.heap.size w wx))
  case first =>
    cases p3
    · go_wp2
      go_meet
      case rel => exact ⟨rfl, ⟨BR.out, HB.out⟩⟩
    · go_wp2
      go_meet
      case rel => exact ⟨by simp, ⟨BR.out, HB.out⟩⟩
  case rest =>
  obtain ⟨rfl, HW⟩ := hcut
  clear HB BR k0 k1 k2 k3 k4
  have BR := Aside0.mk HW.out.1
  have HB := Aside0.mk HW.out.2
  clear HW
  have k0 : wc.cell? ⟨b, o, none⟩ = some (.string v0) := (Below.cell HB.out (p := ⟨b, o, none⟩) hb0).trans HC0.out
  have k1 : wc.cell? ⟨b, o + 1, none⟩ = some (.string v1) := (Below.cell HB.out (p := ⟨b, o + 1, none⟩) hb0).trans HC1.out
  have k2 : wc.cell? ⟨b, o + 2, none⟩ = some (.string v2) := (Below.cell HB.out (p := ⟨b, o + 2, none⟩) hb0).trans HC2.out
  have k3 : wc.cell? ⟨b, o + 3, none⟩ = some (.string v3) := (Below.cell HB.out (p := ⟨b, o + 3, none⟩) hb0).trans HC3.out
  have k4 : wc.cell? ⟨b, o + 4, none⟩ = some (.string v4) := (Below.cell HB.out (p := ⟨b, o + 4, none⟩) hb0).trans HC4.out
  go_upto_if 48 with fail
  go_cut [12] (fun st wx => st = .int .i64 sk ∧ Aside0 (wx.heap[w.heap.size]? = some (.cells zStepC 34 (0, 0)) ∧ Below w.heap.size w wx))
  case first =>
    have hsk := HSK.out
    unfold skipN at hsk
    by_cases hs : p3 = true ∧ (z3 : Int) ≤ 1073741824
    · rw [if_pos hs] at hsk
      obtain ⟨rfl, hs2⟩ := hs
      have hd : decide ((z3 : Int) ≤ 1073741824) = true := decide_eq_true hs2
      have hz0 : (0 : Int) ≤ ↑z3 := by omega
      subst hsk
      rw [hd]
      go_wp2
      go_meet
      case rel => exact ⟨by first | rfl | simp, ⟨BR.out, HB.out⟩⟩
    · rw [if_neg hs] at hsk
      have hd : (p3 && decide ((z3 : Int) ≤ 1073741824)) = false := by
        cases p3
        · rfl
        · rw [Bool.true_and]
          exact decide_eq_false (fun h => hs ⟨rfl, h⟩)
      subst hsk
      rw [hd]
      clear hs
      go_wp2
      go_meet
      case rel => exact ⟨by first | rfl | simp, ⟨BR.out, HB.out⟩⟩
  case rest =>
  obtain ⟨rfl, HW⟩ := hcut
  clear HB BR k0 k1 k2 k3 k4
  have BR := Aside0.mk HW.out.1
  have HB := Aside0.mk HW.out.2
  clear HW
  have k0 : wc.cell? ⟨b, o, none⟩ = some (.string v0) := (Below.cell HB.out (p := ⟨b, o, none⟩) hb0).trans HC0.out
  have k1 : wc.cell? ⟨b, o + 1, none⟩ = some (.string v1) := (Below.cell HB.out (p := ⟨b, o + 1, none⟩) hb0).trans HC1.out
  have k2 : wc.cell? ⟨b, o + 2, none⟩ = some (.string v2) := (Below.cell HB.out (p := ⟨b, o + 2, none⟩) hb0).trans HC2.out
  have k3 : wc.cell? ⟨b, o + 3, none⟩ = some (.string v3) := (Below.cell HB.out (p := ⟨b, o + 3, none⟩) hb0).trans HC3.out
  have k4 : wc.cell? ⟨b, o + 4, none⟩ = some (.string v4) := (Below.cell HB.out (p := ⟨b, o + 4, none⟩) hb0).trans HC4.out
  go_upto_if 71 with (first | (go_at_call 32; (with_reducible refine (HK1.out _).mono ?_); rintro e w1 ⟨rfl, hb⟩; have BRn := Aside0.mk (blk_below BR.out hb); clear BR k0 k1 k2 k3 k4; have BR := BRn; clear BRn; have HBn := Aside0.mk (below_step (by repeat (first | (with_reducible first | exact HB.out | apply below_alloc | apply pw_below_drewN | apply below_drew1) | exact HB.out)) hb); clear HB; have HB := HBn; clear HBn; clear hb; have k0 : w1.cell? ⟨b, o, none⟩ = some (.string v0) := (Below.cell HB.out (p := ⟨b, o, none⟩) hb0).trans HC0.out; have k1 : w1.cell? ⟨b, o + 1, none⟩ = some (.string v1) := (Below.cell HB.out (p := ⟨b, o + 1, none⟩) hb0).trans HC1.out; have k2 : w1.cell? ⟨b, o + 2, none⟩ = some (.string v2) := (Below.cell HB.out (p := ⟨b, o + 2, none⟩) hb0).trans HC2.out; have k3 : w1.cell? ⟨b, o + 3, none⟩ = some (.string v3) := (Below.cell HB.out (p := ⟨b, o + 3, none⟩) hb0).trans HC3.out; have k4 : w1.cell? ⟨b, o + 4, none⟩ = some (.string v4) := (Below.cell HB.out (p := ⟨b, o + 4, none⟩) hb0).trans HC4.out) | (go_at_call 56; (with_reducible refine (HD2.out _).mono ?_); rintro e w1 ⟨rfl, hb⟩; have BRn := Aside0.mk (blk_below BR.out hb); clear BR k0 k1 k2 k3 k4; have BR := BRn; clear BRn; have HBn := Aside0.mk (below_step (by repeat (first | (with_reducible first | exact HB.out | apply below_alloc | apply pw_below_drewN | apply below_drew1) | exact HB.out)) hb); clear HB; have HB := HBn; clear HBn; clear hb; have k0 : w1.cell? ⟨b, o, none⟩ = some (.string v0) := (Below.cell HB.out (p := ⟨b, o, none⟩) hb0).trans HC0.out; have k1 : w1.cell? ⟨b, o + 1, none⟩ = some (.string v1) := (Below.cell HB.out (p := ⟨b, o + 1, none⟩) hb0).trans HC1.out; have k2 : w1.cell? ⟨b, o + 2, none⟩ = some (.string v2) := (Below.cell HB.out (p := ⟨b, o + 2, none⟩) hb0).trans HC2.out; have k3 : w1.cell? ⟨b, o + 3, none⟩ = some (.string v3) := (Below.cell HB.out (p := ⟨b, o + 3, none⟩) hb0).trans HC3.out; have k4 : w1.cell? ⟨b, o + 4, none⟩ = some (.string v4) := (Below.cell HB.out (p := ⟨b, o + 4, none⟩) hb0).trans HC4.out) | (go_at_call 54; (with_reducible refine (HS3.out _).mono ?_); rintro e w1 ⟨rfl, hb⟩; have BRn := Aside0.mk (blk_below BR.out hb); clear BR k0 k1 k2 k3 k4; have BR := BRn; clear BRn; have HBn := Aside0.mk (below_step (by repeat (first | (with_reducible first | exact HB.out | apply below_alloc | apply pw_below_drewN | apply below_drew1) | exact HB.out)) hb); clear HB; have HB := HBn; clear HBn; clear hb; have k0 : w1.cell? ⟨b, o, none⟩ = some (.string v0) := (Below.cell HB.out (p := ⟨b, o, none⟩) hb0).trans HC0.out; have k1 : w1.cell? ⟨b, o + 1, none⟩ = some (.string v1) := (Below.cell HB.out (p := ⟨b, o + 1, none⟩) hb0).trans HC1.out; have k2 : w1.cell? ⟨b, o + 2, none⟩ = some (.string v2) := (Below.cell HB.out (p := ⟨b, o + 2, none⟩) hb0).trans HC2.out; have k3 : w1.cell? ⟨b, o + 3, none⟩ = some (.string v3) := (Below.cell HB.out (p := ⟨b, o + 3, none⟩) hb0).trans HC3.out; have k4 : w1.cell? ⟨b, o + 4, none⟩ = some (.string v4) := (Below.cell HB.out (p := ⟨b, o + 4, none⟩) hb0).trans HC4.out))
  go_cut [18] (fun st wx => st = .string last ∧ Aside0 (wx.heap[w.heap.size]? = some (.cells zStepC 34 (0, 0)) ∧ Below w.heap.size w wx))
  case first =>
    have hla := HLA.out
    unfold lastW at hla
    by_cases h6 : ws.length = 6
    · have k5 : w1.cell? ⟨b, o + 5, none⟩ = some (.string v5) := (Below.cell HB.out (p := ⟨b, o + 5, none⟩) hb0).trans (HC5.out h6)
      rw [if_pos h6] at hla
      subst hla
      have h6i : ((ws.length : Int) == 6) = true := by simp [h6]
      have h6n : (5 : Int) < ↑ws.length := by omega
      clear h6
      go_wp2
      go_meet
      case rel => exact ⟨rfl, ⟨BR.out, HB.out⟩⟩
    · rw [if_neg h6] at hla
      subst hla
      have h6i : ((ws.length : Int) == 6) = false := by simp; omega
      clear h6
      go_wp2
      go_meet
      case rel => exact ⟨rfl, ⟨BR.out, HB.out⟩⟩
  case rest =>
  obtain ⟨rfl, HW⟩ := hcut
  clear HB BR k0 k1 k2 k3 k4
  have BR := Aside0.mk HW.out.1
  have HB := Aside0.mk HW.out.2
  clear HW
  have k0 : wc.cell? ⟨b, o, none⟩ = some (.string v0) := (Below.cell HB.out (p := ⟨b, o, none⟩) hb0).trans HC0.out
  have k1 : wc.cell? ⟨b, o + 1, none⟩ = some (.string v1) := (Below.cell HB.out (p := ⟨b, o + 1, none⟩) hb0).trans HC1.out
  have k2 : wc.cell? ⟨b, o + 2, none⟩ = some (.string v2) := (Below.cell HB.out (p := ⟨b, o + 2, none⟩) hb0).trans HC2.out
  have k3 : wc.cell? ⟨b, o + 3, none⟩ = some (.string v3) := (Below.cell HB.out (p := ⟨b, o + 3, none⟩) hb0).trans HC3.out
  have k4 : wc.cell? ⟨b, o + 4, none⟩ = some (.string v4) := (Below.cell HB.out (p := ⟨b, o + 4, none⟩) hb0).trans HC4.out
  go_upto_region 19 with (first | (go_at_call 56; (with_reducible refine (HD5.out _).mono ?_); rintro e w1 ⟨rfl, hb⟩; have BRn := Aside0.mk (blk_below BR.out hb); clear BR k0 k1 k2 k3 k4; have BR := BRn; clear BRn; have HBn := Aside0.mk (below_step (by repeat (first | (with_reducible first | exact HB.out | apply below_alloc | apply pw_below_drewN | apply below_drew1) | exact HB.out)) hb); clear HB; have HB := HBn; clear HBn; clear hb; have k0 : w1.cell? ⟨b, o, none⟩ = some (.string v0) := (Below.cell HB.out (p := ⟨b, o, none⟩) hb0).trans HC0.out; have k1 : w1.cell? ⟨b, o + 1, none⟩ = some (.string v1) := (Below.cell HB.out (p := ⟨b, o + 1, none⟩) hb0).trans HC1.out; have k2 : w1.cell? ⟨b, o + 2, none⟩ = some (.string v2) := (Below.cell HB.out (p := ⟨b, o + 2, none⟩) hb0).trans HC2.out; have k3 : w1.cell? ⟨b, o + 3, none⟩ = some (.string v3) := (Below.cell HB.out (p := ⟨b, o + 3, none⟩) hb0).trans HC3.out; have k4 : w1.cell? ⟨b, o + 4, none⟩ = some (.string v4) := (Below.cell HB.out (p := ⟨b, o + 4, none⟩) hb0).trans HC4.out) | (go_at_call 53; (with_reducible refine (HBAD.out _).mono ?_); rintro e w1 ⟨rfl, hb⟩; have BRn := Aside0.mk (blk_below BR.out hb); clear BR k0 k1 k2 k3 k4; have BR := BRn; clear BRn; have HBn := Aside0.mk (below_step (by repeat (first | (with_reducible first | exact HB.out | apply below_alloc | apply pw_below_drewN | apply below_drew1) | exact HB.out)) hb); clear HB; have HB := HBn; clear HBn; clear hb; have k0 : w1.cell? ⟨b, o, none⟩ = some (.string v0) := (Below.cell HB.out (p := ⟨b, o, none⟩) hb0).trans HC0.out; have k1 : w1.cell? ⟨b, o + 1, none⟩ = some (.string v1) := (Below.cell HB.out (p := ⟨b, o + 1, none⟩) hb0).trans HC1.out; have k2 : w1.cell? ⟨b, o + 2, none⟩ = some (.string v2) := (Below.cell HB.out (p := ⟨b, o + 2, none⟩) hb0).trans HC2.out; have k3 : w1.cell? ⟨b, o + 3, none⟩ = some (.string v3) := (Below.cell HB.out (p := ⟨b, o + 3, none⟩) hb0).trans HC3.out; have k4 : w1.cell? ⟨b, o + 4, none⟩ = some (.string v4) := (Below.cell HB.out (p := ⟨b, o + 4, none⟩) hb0).trans HC4.out) | (go_at_call 24; (with_reducible refine (HFX.out _).mono ?_); rintro e w2 ⟨rfl, hb⟩; unfold stepFC; have BRn := Aside0.mk (blk_below BR.out hb); clear BR k0 k1 k2 k3 k4; have BR := BRn; clear BRn; have HBn := Aside0.mk (below_step (by repeat (first | (with_reducible first | exact HB.out | apply below_alloc | apply pw_below_drewN | apply below_drew1) | exact HB.out)) hb); clear HB; have HB := HBn; clear HBn; clear hb; have k0 : w2.cell? ⟨b, o, none⟩ = some (.string v0) := (Below.cell HB.out (p := ⟨b, o, none⟩) hb0).trans HC0.out; have k1 : w2.cell? ⟨b, o + 1, none⟩ = some (.string v1) := (Below.cell HB.out (p := ⟨b, o + 1, none⟩) hb0).trans HC1.out; have k2 : w2.cell? ⟨b, o + 2, none⟩ = some (.string v2) := (Below.cell HB.out (p := ⟨b, o + 2, none⟩) hb0).trans HC2.out; have k3 : w2.cell? ⟨b, o + 3, none⟩ = some (.string v3) := (Below.cell HB.out (p := ⟨b, o + 3, none⟩) hb0).trans HC3.out; have k4 : w2.cell? ⟨b, o + 4, none⟩ = some (.string v4) := (Below.cell HB.out (p := ⟨b, o + 4, none⟩) hb0).trans HC4.out; have hr2 : w.heap.size < w2.heap.size := blk_lt BR.out; have hb2w : b < w2.heap.size := Nat.lt_of_lt_of_le hb0 HB.out.size) | (refine wpList_store_1 rfl 3 _ _ rfl w2.heap.size 13 (.int .i64 sk) rfl rfl rfl 34 _ (stepFC ((m : Int) + 1) badT sk false).toArray (blk_at_new _ _ _ rfl) (by simp) (by kernel_rfl) rfl ?_; intro w3 hbk hst; have BO := Aside0.mk hbk; have BRn := Aside0.mk (hst.blk (blk_alloc BR.out _) (by omega)); have HBn := Aside0.mk (hst.up (by repeat (first | (with_reducible first | exact HB.out | apply below_alloc | apply pw_below_drewN | apply below_drew1) | exact HB.out)) (by omega)); clear hbk hst BR HB k0 k1 k2 k3 k4; have BR := BRn; have HB := HBn; clear BRn HBn; have k0 : w3.cell? ⟨b, o, none⟩ = some (.string v0) := (Below.cell HB.out (p := ⟨b, o, none⟩) hb0).trans HC0.out; have k1 : w3.cell? ⟨b, o + 1, none⟩ = some (.string v1) := (Below.cell HB.out (p := ⟨b, o + 1, none⟩) hb0).trans HC1.out; have k2 : w3.cell? ⟨b, o + 2, none⟩ = some (.string v2) := (Below.cell HB.out (p := ⟨b, o + 2, none⟩) hb0).trans HC2.out; have k3 : w3.cell? ⟨b, o + 3, none⟩ = some (.string v3) := (Below.cell HB.out (p := ⟨b, o + 3, none⟩) hb0).trans HC3.out; have k4 : w3.cell? ⟨b, o + 4, none⟩ = some (.string v4) := (Below.cell HB.out (p := ⟨b, o + 4, none⟩) hb0).trans HC4.out))
  (try simp only [Act.put, List.setIfInBounds_toArray, List.set_cons_zero, List.set_cons_succ])
  go_cut [106] (fun st wx => st = .bool bd ∧ Aside0 (wx = w3))
  case first =>
    clear k0 k1 k2 k3 k4
    cases q
    · (go_wp2; go_meet; case rel => exact ⟨by rw [← HBD.out]; first | rfl | (simp [badA, hf]; done) | (simp [badA]; done) | (simp [badA]; omega), ⟨rfl⟩⟩)
    cases p1
    · (go_wp2; go_meet; case rel => exact ⟨by rw [← HBD.out]; first | rfl | (simp [badA, hf]; done) | (simp [badA]; done) | (simp [badA]; omega), ⟨rfl⟩⟩)
    by_cases hf : (z1 : Int) > 4294967295
    · (go_wp2; go_meet; case rel => exact ⟨by rw [← HBD.out]; first | rfl | (simp [badA, hf]; done) | (simp [badA]; done) | (simp [badA]; omega), ⟨rfl⟩⟩)
    cases p2
    · (go_wp2; go_meet; case rel => exact ⟨by rw [← HBD.out]; first | rfl | (simp [badA, hf]; done) | (simp [badA]; done) | (simp [badA]; omega), ⟨rfl⟩⟩)
    cases p3
    · (go_wp2; go_meet; case rel => exact ⟨by rw [← HBD.out]; first | rfl | (simp [badA, hf]; done) | (simp [badA]; done) | (simp [badA]; omega), ⟨rfl⟩⟩)
    cases p4
    · (go_wp2; go_meet; case rel => exact ⟨by rw [← HBD.out]; first | rfl | (simp [badA, hf]; done) | (simp [badA]; done) | (simp [badA]; omega), ⟨rfl⟩⟩)
    · (go_wp2; go_meet; case rel => exact ⟨by rw [← HBD.out]; first | rfl | (simp [badA, hf]; done) | (simp [badA]; done) | (simp [badA]; omega), ⟨rfl⟩⟩)
  case rest =>
  obtain ⟨rfl, HW⟩ := hcut
  have hww := HW.out.symm
  subst hww
  clear HW
  have hR := HRR.out
  cases bd
  · rw [if_neg (show ¬ (false = true) by decide)] at hR
    by_cases hl3 : (z3 : Int) > 1000
    · exact absurd hl3 (Int.not_lt.2 HSEL.out.2.1)
    · rw [if_neg (by exact hl3)] at hR
      have HRn := Aside0.mk hR
      have hz1 : (z3 : Int) ≤ 1000 := Int.not_lt.1 hl3
      have HK01 : Aside0 (w3.cell? ⟨b, o, none⟩ = some (.string v0) ∧ w3.cell? ⟨b, o + 1, none⟩ = some (.string v1)) := ⟨⟨k0, k1⟩⟩
      clear hR HRR hl3 k0 k1 k2 k3 k4
      go_upto_region 24 with fail
      have HW3 : Aside0 (w.heap.size < w3.heap.size) := ⟨blk_lt BR.out⟩
      have hz0 : (0 : Int) ≤ ↑z3 := Int.natCast_nonneg z3
      have hE := bodyS_e lr ↑z3 hz0 hz1
      obtain ⟨⟨vl, u, e⟩, hB⟩ : ∃ r, bodyS lr ↑z3 = r := ⟨_, rfl⟩
      have HCD : Aside0 ((Kd.int .u8).C w3 (some ⟨b2, o2 + (m + 1), none⟩) lr.length lr) := ⟨by have := C_dropk (Kd.C_below HCB.out HB.out) (m + 1); rw [HLR.out] at this; exact this⟩
      have HBY : Aside0 (∀ (A4 : Option Addr) (c4 : Nat) w', (Kd.int .u8).C w' A4 lr.length lr → lr.length ≤ c4 → Calls Tryz.prog 57 #[.slice A4 lr.length c4, .int .i64 ↑z3] w' (BL w' (vl, u, e))) := ⟨fun A4 c4 w' h1 h2 => by
        have := rbody_calls lr A4 c4 ↑z3 w' h1 h2 HLRL.out
        rw [hB] at this
        exact this⟩
      have HSE : Aside0 (e ≠ 0) := ⟨by have := HSEL.out.2.2; rw [hB] at this; exact this⟩
      rw [hB] at hE HRn
      clear hB
      dsimp only at HRn hE
      have HE := Aside0.mk hE
      clear hE
      go_cut [22, 23, 24] (fun s22 s23 s24 wx => ∃ A' c', s22 = .slice A' vl.length c' ∧ s23 = .int .i64 u ∧ s24 = .int .i64 e ∧ Aside0 (RowB vl w3 (.slice A' vl.length c') wx ∧ vl.length ≤ c' ∧ wx.heap[w.heap.size]? = some (.cells zStepC 34 (0, 0)) ∧ Below w.heap.size w wx))
      case first =>
        have hlrn := HLRN.out
        have HCZ : Aside0 (cb = m + 1 → (Kd.int .u8).C w3 (some ⟨b2, o2, none⟩) lr.length lr) := ⟨fun h => by
          have hnil : lr = [] := List.eq_nil_of_length_eq_zero (by have := HLRN.out; omega)
          rw [hnil]
          exact C_zero _ _ _⟩
        go_wp2_with (first | (go_at_call 57; (with_reducible refine (HBY.out _ _ _ (by first | exact HCD.out | exact HCZ.out (by omega)) (by omega)).mono ?_); rintro e' w5 ⟨V, rfl, hrow⟩; have HRW := Aside0.mk hrow; have BR5 := Aside0.mk (blk_below BR.out hrow.2); have HB5 := Aside0.mk (below_step HB.out hrow.2); clear hrow))
        · have hcm : cb = m + 1 := by omega
          subst hcm
          obtain ⟨A', c', rfl, hle, -⟩ := HRW.out.C
          go_meet
          case rel => exact ⟨A', c', rfl, rfl, rfl, ⟨HRW.out, hle, BR5.out, HB5.out⟩⟩
        · obtain ⟨A', c', rfl, hle, -⟩ := HRW.out.C
          go_meet
          case rel => exact ⟨A', c', rfl, rfl, rfl, ⟨HRW.out, hle, BR5.out, HB5.out⟩⟩
      case rest =>
        obtain ⟨A', c', rfl, rfl, rfl, HI⟩ := hcut
        have HRW := Aside0.mk HI.out.1
        have hle := HI.out.2.1
        have BRn := Aside0.mk HI.out.2.2.1
        have HBn := Aside0.mk HI.out.2.2.2
        clear HI HB BR BO HBY HCD
        have BR := BRn
        have HB := HBn
        clear BRn HBn
        have hR := HRn.out
        rcases HE.out with ⟨rfl, rfl⟩ | ⟨rfl, hu⟩ | ⟨rfl, hu⟩
        · rw [if_pos rfl] at hR
          subst hR
          clear HRn
          go_wp2_with (first | (refine wpList_store_F rfl 34 _ _ rfl w.heap.size 0 stepMC rfl rfl (by simp [stepMC, Value.oneCell']) 34 _ _ BR.out (by simp [zStepC, stepMC]) (by kernel_rfl) rfl ?_; intro w8 hbk hst; have BR8 := Aside0.mk hbk; have HB8 := Aside0.mk (hst.up HB.out (Nat.le_refl _)); clear hbk hst))
          ((try simp only [Exit.inBlock, Exit.then]); refine bodyPost_ret (results_cell_row rfl _ _ w.heap.size 34 _ (0, 0) _ rfl BR8.out Tryz.underlying34 rfl (by kernel_rfl)) rfl ?_)
          exact ⟨⟨_, rfl, fun w2 _ _ => stepM_K w2⟩, HB8.out⟩
        · rw [if_neg (by decide), if_pos rfl] at hR
          subst hR
          clear HRn
          have HOC : Aside0 (∀ w', Calls Tryz.prog 24 #[.int .i64 ((m : Int) + 1 + u), .string (⟨#[67, 76, 73, 69, 78, 84, 95, 69, 82, 82, 79, 82, 32, 98, 97, 100, 32, 100, 97, 116, 97, 32, 99, 104, 117, 110, 107]⟩ : ByteArray)] w' fun e w'' => e = .returned (.agg (stepFC ((m : Int) + 1 + u) chunkT 0 false).toArray) ∧ Below w'.heap.size w' w'') := ⟨fun w' => rfault_ex _ _ w' (by decide)⟩
          have hs0 : (0 : Int) ≤ (m : Int) + 1 + u := by omega
          have hs1 : (m : Int) + 1 + u ≤ 9223372036854775807 := by omega
          clear hu
          go_wp2_with (first | (go_at_call 24; (with_reducible refine (HOC.out _).mono ?_); rintro e w6 ⟨rfl, hb⟩; unfold stepFC; have BR6 := Aside0.mk (blk_below BR.out hb); have HBn := Aside0.mk (below_step (by repeat (first | (with_reducible first | exact HB.out | apply below_alloc | apply pw_below_drewN | apply below_drew1) | exact HB.out)) hb); clear HB; have HB := HBn; clear HBn; clear hb; have hr6 : w.heap.size < w6.heap.size := blk_lt BR6.out) | (refine wpList_store_1 rfl 4 _ _ rfl w6.heap.size 14 (.bool true) rfl rfl rfl 34 _ (stepFC ((m : Int) + 1 + u) chunkT 0 true).toArray (blk_at_new _ _ _ rfl) (by simp) (by kernel_rfl) rfl ?_; intro w7 hbk hst; have BS7 := Aside0.mk hbk; have BR7 := Aside0.mk (hst.blk (blk_alloc BR6.out _) (by omega)); have HB7 := Aside0.mk (hst.up (by repeat (first | (with_reducible first | exact HB.out | apply below_alloc | apply pw_below_drewN | apply below_drew1) | exact HB.out)) (by omega)); clear hbk hst HB; have HB := HB7; clear HB7) | (refine wpList_load_row rfl 34 _ rfl (w6.heap.size) rfl 34 _ (0, 0) _ BS7.out Tryz.underlying34 rfl (by kernel_rfl) ?_) | (refine wpList_store_F rfl 34 _ _ rfl w.heap.size 0 (stepFC ((m : Int) + 1 + u) chunkT 0 true) rfl rfl (by simp [stepFC, Value.oneCell']) 34 _ (stepFC ((m : Int) + 1 + u) chunkT 0 true).toArray BR7.out (by simp [zStepC, stepFC]) (by kernel_rfl) rfl ?_; intro w8 hbk hst; have BR8 := Aside0.mk hbk; have HB8 := Aside0.mk (hst.up HB.out (Nat.le_refl _)); clear hbk hst))
          ((try simp only [Exit.inBlock, Exit.then]); refine bodyPost_ret (results_cell_row rfl _ _ w.heap.size 34 _ (0, 0) _ rfl BR8.out Tryz.underlying34 rfl (by kernel_rfl)) rfl ?_)
          exact ⟨⟨_, rfl, fun w2 _ _ => stepFS_K w2 ((m : Int) + 1 + u) chunkT 0 true⟩, HB8.out⟩
        · exact absurd rfl HSE.out
  · exact absurd HSEL.out.1 (by decide)
set_option maxRecDepth 100000 in
set_option maxHeartbeats 4000000 in
theorem rstores_whole (ws : List ByteArray) (A : Option Addr) (c : Nat) (quiet : Bool) (m : Nat) (l : List Int) (Ab : Option Addr) (cb : Nat) (v0 v1 v2 v3 v4 v5 : ByteArray) (F : Nat → Prop) (w : World) (hC : HolF F w (fun w2 => Kd.string.C w2 A ws.length ws)) (hc : ws.length ≤ c) (hs : ∀ k ∈ ws, k.size ≤ 1000000)
    (h0 : ws.getD 0 ⟨#[]⟩ = v0) (h1 : ws.getD 1 ⟨#[]⟩ = v1) (h2 : ws.getD 2 ⟨#[]⟩ = v2) (h3 : ws.getD 3 ⟨#[]⟩ = v3) (h4 : ws.getD 4 ⟨#[]⟩ = v4) (h5 : ws.getD 5 ⟨#[]⟩ = v5) (hn : (v0.toList == [99, 97, 115]) = true ∧ ws.length = 6 ∨ (v0.toList == [99, 97, 115]) = false ∧ ws.length = 5)
    (hCb : (Kd.int .u8).C w Ab l.length l) (hcb : l.length ≤ cb) (hl : l.length ≤ 1000000) (hm : m < l.length) (hsel : badA (keyS v1) (decS v2).2 (decS v2).1 (sgnS v3).2 (decS v4).2 (decS (lastW ws.length v5)).2 = false ∧ ¬ ((decS v4).1 : Int) > 1000 ∧ (bodyS (l.drop (m + 1)) ((decS v4).1 : Int)).2.2 = 0) :
    Calls Tryz.prog 30 #[.slice A ws.length c, .bool quiet, .int .i64 ((m : Int) + 1), .slice Ab l.length cb] w (StepR F w (storesR v0 quiet ((m : Int) + 1) (l.drop (m + 1)) (opL v0.toList) v1 v2 v3 v4 (decS (lastW ws.length v5)))) := by
  have HB := Aside0.mk (Below.refl w.heap.size w)
  have HCF := Aside0.mk hC
  obtain ⟨qc, hqc⟩ : ∃ qc, (v0.toList == [99, 97, 115]) = qc := ⟨_, rfl⟩
  rw [hqc] at hn
  have HN := Aside0.mk hn
  have HCB := Aside0.mk hCb
  obtain ⟨b2, o2, rfl, hb2, -⟩ := C_cell hCb m hm
  have hlen5 : 5 ≤ ws.length := by omega
  obtain ⟨b, o, rfl, hb0, hcell0⟩ := S_cell hC.now 0 (by omega)
  rw [h0, Nat.add_zero] at hcell0
  have HC0 := Aside0.mk hcell0
  have HC1 : Aside0 (w.cell? ⟨b, o + 1, none⟩ = some (.string v1)) := by
    obtain ⟨b', o', e', -, h⟩ := S_cell hC.now 1 (by omega)
    obtain ⟨rfl, rfl⟩ : b = b' ∧ o = o' := by simpa using e'
    rw [h1] at h
    exact ⟨h⟩
  have HC2 : Aside0 (w.cell? ⟨b, o + 2, none⟩ = some (.string v2)) := by
    obtain ⟨b', o', e', -, h⟩ := S_cell hC.now 2 (by omega)
    obtain ⟨rfl, rfl⟩ : b = b' ∧ o = o' := by simpa using e'
    rw [h2] at h
    exact ⟨h⟩
  have HC3 : Aside0 (w.cell? ⟨b, o + 3, none⟩ = some (.string v3)) := by
    obtain ⟨b', o', e', -, h⟩ := S_cell hC.now 3 (by omega)
    obtain ⟨rfl, rfl⟩ : b = b' ∧ o = o' := by simpa using e'
    rw [h3] at h
    exact ⟨h⟩
  have HC4 : Aside0 (w.cell? ⟨b, o + 4, none⟩ = some (.string v4)) := by
    obtain ⟨b', o', e', -, h⟩ := S_cell hC.now 4 (by omega)
    obtain ⟨rfl, rfl⟩ : b = b' ∧ o = o' := by simpa using e'
    rw [h4] at h
    exact ⟨h⟩
  have HKC : Aside0 (HolF F w (fun w2 => Kd.string.C w2 (some ⟨b, o + 1, none⟩) 1 [v1])) := ⟨hC.imp (fun w2 h => by rw [← h1]; exact C_second h (by omega))⟩
  have HC5 : Aside0 (ws.length = 6 → w.cell? ⟨b, o + 5, none⟩ = some (.string v5)) := ⟨fun h6 => by
    obtain ⟨b', o', e', -, h⟩ := S_cell hC.now 5 (by omega)
    obtain ⟨rfl, rfl⟩ : b = b' ∧ o = o' := by simpa using e'
    rw [h5] at h
    exact h⟩
  have hsz : ∀ i, i < ws.length → (ws.getD i ⟨#[]⟩).size ≤ 1000000 := fun i hi => by
    rw [List.getD_eq_getElem?_getD, List.getElem?_eq_getElem hi]
    exact hs _ (List.getElem_mem _)
  have HK1 := Aside0.mk (fun w => rkey_calls v1 w (by rw [← h1]; exact hsz 1 (by omega)))
  have HD2 := Aside0.mk (fun w => rdec_w v2 w)
  have HS3 := Aside0.mk (fun w => rsgn_w v3 w (by rw [← h3]; exact hsz 3 (by omega)))
  have HD4 := Aside0.mk (fun w => rdec_w v4 w)
  have HD5 := Aside0.mk (fun w => rdec_w (lastW ws.length v5) w)
  have HBAD : Aside0 (∀ w', Calls Tryz.prog 53 #[] w' fun e w'' => e = .returned (.string (⟨#[67, 76, 73, 69, 78, 84, 95, 69, 82, 82, 79, 82, 32, 98, 97, 100, 32, 99, 111, 109, 109, 97, 110, 100, 32, 108, 105, 110, 101, 32, 102, 111, 114, 109, 97, 116]⟩ : ByteArray)) ∧ Below w'.heap.size w' w'') := ⟨fun w' => bad_calls w'⟩
  have HFX : Aside0 (∀ w', Calls Tryz.prog 24 #[.int .i64 ((m : Int) + 1), .string (⟨#[67, 76, 73, 69, 78, 84, 95, 69, 82, 82, 79, 82, 32, 98, 97, 100, 32, 99, 111, 109, 109, 97, 110, 100, 32, 108, 105, 110, 101, 32, 102, 111, 114, 109, 97, 116]⟩ : ByteArray)] w' fun e w'' => e = .returned (.agg (stepFC ((m : Int) + 1) badT 0 false).toArray) ∧ Below w'.heap.size w' w'') := ⟨fun w' => rfault_ex _ _ w' (by decide)⟩
  obtain ⟨lr, hlr⟩ : ∃ lr, l.drop (m + 1) = lr := ⟨_, rfl⟩
  have HLRN : Aside0 (l.length - (m + 1) = lr.length) := ⟨by rw [← hlr, List.length_drop]⟩
  have HLR := Aside0.mk hlr
  have HLRL : Aside0 (lr.length ≤ 1000000) := ⟨by have := HLRN.out; omega⟩
  rw [hlr]
  obtain ⟨R, hR⟩ : ∃ R, storesR v0 quiet ((m : Int) + 1) lr (opL v0.toList) v1 v2 v3 v4 (decS (lastW ws.length v5)) = R := ⟨_, rfl⟩
  rw [hR]
  unfold storesR at hR
  obtain ⟨q, hq⟩ : ∃ q, keyS v1 = q := ⟨_, rfl⟩
  obtain ⟨⟨z1, p1⟩, hz1⟩ : ∃ z, decS v2 = z := ⟨_, rfl⟩
  obtain ⟨⟨z2, p2⟩, hz2⟩ : ∃ z, sgnS v3 = z := ⟨_, rfl⟩
  obtain ⟨⟨z3, p3⟩, hz3⟩ : ∃ z, decS v4 = z := ⟨_, rfl⟩
  obtain ⟨⟨z4, p4⟩, hz4⟩ : ∃ z, decS (lastW ws.length v5) = z := ⟨_, rfl⟩
  rw [hq] at HK1
  rw [hz1] at HD2
  rw [hz2] at HS3
  rw [hz3] at HD4
  rw [hz4] at HD5
  rw [hz1, hz2, hz3, hz4, hq] at hR
  rw [hz1, hz2, hz3, hz4, hq, hlr] at hsel
  dsimp only at hsel
  obtain ⟨last, hlast⟩ : ∃ v, lastW ws.length v5 = v := ⟨_, rfl⟩
  have HLA := Aside0.mk hlast
  rw [hlast] at HD5
  obtain ⟨bd, hbd⟩ : ∃ bd, badA q p1 z1 p2 p3 p4 = bd := ⟨_, rfl⟩
  have HBD := Aside0.mk hbd
  obtain ⟨sk, hsk⟩ : ∃ s, skipN (z3, p3) = s := ⟨_, rfl⟩
  have HSK := Aside0.mk hsk
  rw [hbd, hsk] at hR
  rw [hbd] at hsel
  have HSEL := Aside0.mk hsel
  clear hsel
  have HRR := Aside0.mk hR
  clear hR hlr
  have HQ := Aside0.mk hq
  have hn0 : (4 : Int) < ↑ws.length := by omega
  have hnN : 4 < ws.length := by omega
  have hcc : (ws.length : Int) ≤ ↑c := by omega
  have hu1 : (m : Int) + 1 ≤ ↑l.length := by omega
  have hu2 : (l.length : Int) ≤ ↑cb := by omega
  have hu3 : (0 : Int) ≤ (m : Int) + 1 := by omega
  clear hC hCb h0 h1 h2 h3 h4 h5 hcell0 hsz hs hq hz1 hz2 hz3 hz4 hlast hbd hsk hlen5 hn hm
  go_enter Tryz.func30, Tryz.ntmps30
  go_upto_region 1 with fail
  obtain ⟨W, hW⟩ : ∃ W, w.alloc (.cells zStepC 34 (0, 0)) = W := ⟨_, rfl⟩
  have hW2 := hW
  unfold zStepC at hW2
  rw [hW2]
  have BR := Aside0.mk (show W.heap[w.heap.size]? = _ from hW ▸ blk_at_new _ _ _ rfl)
  have HBn : Aside0 (Below w.heap.size w W) := ⟨hW ▸ (by repeat (first | (with_reducible first | exact HB.out | apply below_alloc | apply pw_below_drewN | apply below_drew1) | exact HB.out))⟩
  clear HB hW hW2
  have HB := HBn
  clear HBn
  have k0 : W.cell? ⟨b, o, none⟩ = some (.string v0) := (Below.cell HB.out (p := ⟨b, o, none⟩) hb0).trans HC0.out
  have k1 : W.cell? ⟨b, o + 1, none⟩ = some (.string v1) := (Below.cell HB.out (p := ⟨b, o + 1, none⟩) hb0).trans HC1.out
  have k2 : W.cell? ⟨b, o + 2, none⟩ = some (.string v2) := (Below.cell HB.out (p := ⟨b, o + 2, none⟩) hb0).trans HC2.out
  have k3 : W.cell? ⟨b, o + 3, none⟩ = some (.string v3) := (Below.cell HB.out (p := ⟨b, o + 3, none⟩) hb0).trans HC3.out
  have k4 : W.cell? ⟨b, o + 4, none⟩ = some (.string v4) := (Below.cell HB.out (p := ⟨b, o + 4, none⟩) hb0).trans HC4.out
  go_upto_if 30 with fail
  go_cut [9] (fun s9 wx => s9 = .int .i64 ↑ws.length ∧ wx = W)
  case first =>
    clear hqc
    cases qc
    · have hw : Aside0 (ws.length = 5) := ⟨by rcases HN.out with ⟨h, _⟩ | ⟨_, h⟩ <;> first | exact h | cases h⟩
      go_wp2
      go_meet
      case rel => exact ⟨by rw [hw.out]; rfl, rfl⟩
    · have hw : Aside0 (ws.length = 6) := ⟨by rcases HN.out with ⟨_, h⟩ | ⟨h, _⟩ <;> first | exact h | cases h⟩
      go_wp2
      go_meet
      case rel => exact ⟨by rw [hw.out]; rfl, rfl⟩
  case rest =>
  obtain ⟨rfl, rfl⟩ := hcut
  go_upto_region 8 with (first | (go_at_call 56; (with_reducible refine (HD4.out _).mono ?_); rintro e w1 ⟨rfl, hb⟩; have BRn := Aside0.mk (blk_below BR.out hb); clear BR k0 k1 k2 k3 k4; have BR := BRn; clear BRn; have HBn := Aside0.mk (below_step (by repeat (first | (with_reducible first | exact HB.out | apply below_alloc | apply pw_below_drewN | apply below_drew1) | exact HB.out)) hb); clear HB; have HB := HBn; clear HBn; clear hb; have k0 : w1.cell? ⟨b, o, none⟩ = some (.string v0) := (Below.cell HB.out (p := ⟨b, o, none⟩) hb0).trans HC0.out; have k1 : w1.cell? ⟨b, o + 1, none⟩ = some (.string v1) := (Below.cell HB.out (p := ⟨b, o + 1, none⟩) hb0).trans HC1.out; have k2 : w1.cell? ⟨b, o + 2, none⟩ = some (.string v2) := (Below.cell HB.out (p := ⟨b, o + 2, none⟩) hb0).trans HC2.out; have k3 : w1.cell? ⟨b, o + 3, none⟩ = some (.string v3) := (Below.cell HB.out (p := ⟨b, o + 3, none⟩) hb0).trans HC3.out; have k4 : w1.cell? ⟨b, o + 4, none⟩ = some (.string v4) := (Below.cell HB.out (p := ⟨b, o + 4, none⟩) hb0).trans HC4.out))
  go_cut [48] (fun st wx => st = .bool (p3 && decide ((z3 : Int) ≤ 1073741824)) ∧ Aside0 (wx.heap[w.heap.size]? = some (.cells zStepC 34 (0, 0)) ∧ Below w.heap.size w wx))
  case first =>
    cases p3
    · go_wp2
      go_meet
      case rel => exact ⟨rfl, ⟨BR.out, HB.out⟩⟩
    · go_wp2
      go_meet
      case rel => exact ⟨by simp, ⟨BR.out, HB.out⟩⟩
  case rest =>
  obtain ⟨rfl, HW⟩ := hcut
  clear HB BR k0 k1 k2 k3 k4
  have BR := Aside0.mk HW.out.1
  have HB := Aside0.mk HW.out.2
  clear HW
  have k0 : wc.cell? ⟨b, o, none⟩ = some (.string v0) := (Below.cell HB.out (p := ⟨b, o, none⟩) hb0).trans HC0.out
  have k1 : wc.cell? ⟨b, o + 1, none⟩ = some (.string v1) := (Below.cell HB.out (p := ⟨b, o + 1, none⟩) hb0).trans HC1.out
  have k2 : wc.cell? ⟨b, o + 2, none⟩ = some (.string v2) := (Below.cell HB.out (p := ⟨b, o + 2, none⟩) hb0).trans HC2.out
  have k3 : wc.cell? ⟨b, o + 3, none⟩ = some (.string v3) := (Below.cell HB.out (p := ⟨b, o + 3, none⟩) hb0).trans HC3.out
  have k4 : wc.cell? ⟨b, o + 4, none⟩ = some (.string v4) := (Below.cell HB.out (p := ⟨b, o + 4, none⟩) hb0).trans HC4.out
  go_upto_if 48 with fail
  go_cut [12] (fun st wx => st = .int .i64 sk ∧ Aside0 (wx.heap[w.heap.size]? = some (.cells zStepC 34 (0, 0)) ∧ Below w.heap.size w wx))
  case first =>
    have hsk := HSK.out
    unfold skipN at hsk
    by_cases hs : p3 = true ∧ (z3 : Int) ≤ 1073741824
    · rw [if_pos hs] at hsk
      obtain ⟨rfl, hs2⟩ := hs
      have hd : decide ((z3 : Int) ≤ 1073741824) = true := decide_eq_true hs2
      have hz0 : (0 : Int) ≤ ↑z3 := by omega
      subst hsk
      rw [hd]
      go_wp2
      go_meet
      case rel => exact ⟨by first | rfl | simp, ⟨BR.out, HB.out⟩⟩
    · rw [if_neg hs] at hsk
      have hd : (p3 && decide ((z3 : Int) ≤ 1073741824)) = false := by
        cases p3
        · rfl
        · rw [Bool.true_and]
          exact decide_eq_false (fun h => hs ⟨rfl, h⟩)
      subst hsk
      rw [hd]
      clear hs
      go_wp2
      go_meet
      case rel => exact ⟨by first | rfl | simp, ⟨BR.out, HB.out⟩⟩
  case rest =>
  obtain ⟨rfl, HW⟩ := hcut
  clear HB BR k0 k1 k2 k3 k4
  have BR := Aside0.mk HW.out.1
  have HB := Aside0.mk HW.out.2
  clear HW
  have k0 : wc.cell? ⟨b, o, none⟩ = some (.string v0) := (Below.cell HB.out (p := ⟨b, o, none⟩) hb0).trans HC0.out
  have k1 : wc.cell? ⟨b, o + 1, none⟩ = some (.string v1) := (Below.cell HB.out (p := ⟨b, o + 1, none⟩) hb0).trans HC1.out
  have k2 : wc.cell? ⟨b, o + 2, none⟩ = some (.string v2) := (Below.cell HB.out (p := ⟨b, o + 2, none⟩) hb0).trans HC2.out
  have k3 : wc.cell? ⟨b, o + 3, none⟩ = some (.string v3) := (Below.cell HB.out (p := ⟨b, o + 3, none⟩) hb0).trans HC3.out
  have k4 : wc.cell? ⟨b, o + 4, none⟩ = some (.string v4) := (Below.cell HB.out (p := ⟨b, o + 4, none⟩) hb0).trans HC4.out
  go_upto_if 71 with (first | (go_at_call 32; (with_reducible refine (HK1.out _).mono ?_); rintro e w1 ⟨rfl, hb⟩; have BRn := Aside0.mk (blk_below BR.out hb); clear BR k0 k1 k2 k3 k4; have BR := BRn; clear BRn; have HBn := Aside0.mk (below_step (by repeat (first | (with_reducible first | exact HB.out | apply below_alloc | apply pw_below_drewN | apply below_drew1) | exact HB.out)) hb); clear HB; have HB := HBn; clear HBn; clear hb; have k0 : w1.cell? ⟨b, o, none⟩ = some (.string v0) := (Below.cell HB.out (p := ⟨b, o, none⟩) hb0).trans HC0.out; have k1 : w1.cell? ⟨b, o + 1, none⟩ = some (.string v1) := (Below.cell HB.out (p := ⟨b, o + 1, none⟩) hb0).trans HC1.out; have k2 : w1.cell? ⟨b, o + 2, none⟩ = some (.string v2) := (Below.cell HB.out (p := ⟨b, o + 2, none⟩) hb0).trans HC2.out; have k3 : w1.cell? ⟨b, o + 3, none⟩ = some (.string v3) := (Below.cell HB.out (p := ⟨b, o + 3, none⟩) hb0).trans HC3.out; have k4 : w1.cell? ⟨b, o + 4, none⟩ = some (.string v4) := (Below.cell HB.out (p := ⟨b, o + 4, none⟩) hb0).trans HC4.out) | (go_at_call 56; (with_reducible refine (HD2.out _).mono ?_); rintro e w1 ⟨rfl, hb⟩; have BRn := Aside0.mk (blk_below BR.out hb); clear BR k0 k1 k2 k3 k4; have BR := BRn; clear BRn; have HBn := Aside0.mk (below_step (by repeat (first | (with_reducible first | exact HB.out | apply below_alloc | apply pw_below_drewN | apply below_drew1) | exact HB.out)) hb); clear HB; have HB := HBn; clear HBn; clear hb; have k0 : w1.cell? ⟨b, o, none⟩ = some (.string v0) := (Below.cell HB.out (p := ⟨b, o, none⟩) hb0).trans HC0.out; have k1 : w1.cell? ⟨b, o + 1, none⟩ = some (.string v1) := (Below.cell HB.out (p := ⟨b, o + 1, none⟩) hb0).trans HC1.out; have k2 : w1.cell? ⟨b, o + 2, none⟩ = some (.string v2) := (Below.cell HB.out (p := ⟨b, o + 2, none⟩) hb0).trans HC2.out; have k3 : w1.cell? ⟨b, o + 3, none⟩ = some (.string v3) := (Below.cell HB.out (p := ⟨b, o + 3, none⟩) hb0).trans HC3.out; have k4 : w1.cell? ⟨b, o + 4, none⟩ = some (.string v4) := (Below.cell HB.out (p := ⟨b, o + 4, none⟩) hb0).trans HC4.out) | (go_at_call 54; (with_reducible refine (HS3.out _).mono ?_); rintro e w1 ⟨rfl, hb⟩; have BRn := Aside0.mk (blk_below BR.out hb); clear BR k0 k1 k2 k3 k4; have BR := BRn; clear BRn; have HBn := Aside0.mk (below_step (by repeat (first | (with_reducible first | exact HB.out | apply below_alloc | apply pw_below_drewN | apply below_drew1) | exact HB.out)) hb); clear HB; have HB := HBn; clear HBn; clear hb; have k0 : w1.cell? ⟨b, o, none⟩ = some (.string v0) := (Below.cell HB.out (p := ⟨b, o, none⟩) hb0).trans HC0.out; have k1 : w1.cell? ⟨b, o + 1, none⟩ = some (.string v1) := (Below.cell HB.out (p := ⟨b, o + 1, none⟩) hb0).trans HC1.out; have k2 : w1.cell? ⟨b, o + 2, none⟩ = some (.string v2) := (Below.cell HB.out (p := ⟨b, o + 2, none⟩) hb0).trans HC2.out; have k3 : w1.cell? ⟨b, o + 3, none⟩ = some (.string v3) := (Below.cell HB.out (p := ⟨b, o + 3, none⟩) hb0).trans HC3.out; have k4 : w1.cell? ⟨b, o + 4, none⟩ = some (.string v4) := (Below.cell HB.out (p := ⟨b, o + 4, none⟩) hb0).trans HC4.out))
  go_cut [18] (fun st wx => st = .string last ∧ Aside0 (wx.heap[w.heap.size]? = some (.cells zStepC 34 (0, 0)) ∧ Below w.heap.size w wx))
  case first =>
    have hla := HLA.out
    unfold lastW at hla
    by_cases h6 : ws.length = 6
    · have k5 : w1.cell? ⟨b, o + 5, none⟩ = some (.string v5) := (Below.cell HB.out (p := ⟨b, o + 5, none⟩) hb0).trans (HC5.out h6)
      rw [if_pos h6] at hla
      subst hla
      have h6i : ((ws.length : Int) == 6) = true := by simp [h6]
      have h6n : (5 : Int) < ↑ws.length := by omega
      clear h6
      go_wp2
      go_meet
      case rel => exact ⟨rfl, ⟨BR.out, HB.out⟩⟩
    · rw [if_neg h6] at hla
      subst hla
      have h6i : ((ws.length : Int) == 6) = false := by simp; omega
      clear h6
      go_wp2
      go_meet
      case rel => exact ⟨rfl, ⟨BR.out, HB.out⟩⟩
  case rest =>
  obtain ⟨rfl, HW⟩ := hcut
  clear HB BR k0 k1 k2 k3 k4
  have BR := Aside0.mk HW.out.1
  have HB := Aside0.mk HW.out.2
  clear HW
  have k0 : wc.cell? ⟨b, o, none⟩ = some (.string v0) := (Below.cell HB.out (p := ⟨b, o, none⟩) hb0).trans HC0.out
  have k1 : wc.cell? ⟨b, o + 1, none⟩ = some (.string v1) := (Below.cell HB.out (p := ⟨b, o + 1, none⟩) hb0).trans HC1.out
  have k2 : wc.cell? ⟨b, o + 2, none⟩ = some (.string v2) := (Below.cell HB.out (p := ⟨b, o + 2, none⟩) hb0).trans HC2.out
  have k3 : wc.cell? ⟨b, o + 3, none⟩ = some (.string v3) := (Below.cell HB.out (p := ⟨b, o + 3, none⟩) hb0).trans HC3.out
  have k4 : wc.cell? ⟨b, o + 4, none⟩ = some (.string v4) := (Below.cell HB.out (p := ⟨b, o + 4, none⟩) hb0).trans HC4.out
  go_upto_region 19 with (first | (go_at_call 56; (with_reducible refine (HD5.out _).mono ?_); rintro e w1 ⟨rfl, hb⟩; have BRn := Aside0.mk (blk_below BR.out hb); clear BR k0 k1 k2 k3 k4; have BR := BRn; clear BRn; have HBn := Aside0.mk (below_step (by repeat (first | (with_reducible first | exact HB.out | apply below_alloc | apply pw_below_drewN | apply below_drew1) | exact HB.out)) hb); clear HB; have HB := HBn; clear HBn; clear hb; have k0 : w1.cell? ⟨b, o, none⟩ = some (.string v0) := (Below.cell HB.out (p := ⟨b, o, none⟩) hb0).trans HC0.out; have k1 : w1.cell? ⟨b, o + 1, none⟩ = some (.string v1) := (Below.cell HB.out (p := ⟨b, o + 1, none⟩) hb0).trans HC1.out; have k2 : w1.cell? ⟨b, o + 2, none⟩ = some (.string v2) := (Below.cell HB.out (p := ⟨b, o + 2, none⟩) hb0).trans HC2.out; have k3 : w1.cell? ⟨b, o + 3, none⟩ = some (.string v3) := (Below.cell HB.out (p := ⟨b, o + 3, none⟩) hb0).trans HC3.out; have k4 : w1.cell? ⟨b, o + 4, none⟩ = some (.string v4) := (Below.cell HB.out (p := ⟨b, o + 4, none⟩) hb0).trans HC4.out) | (go_at_call 53; (with_reducible refine (HBAD.out _).mono ?_); rintro e w1 ⟨rfl, hb⟩; have BRn := Aside0.mk (blk_below BR.out hb); clear BR k0 k1 k2 k3 k4; have BR := BRn; clear BRn; have HBn := Aside0.mk (below_step (by repeat (first | (with_reducible first | exact HB.out | apply below_alloc | apply pw_below_drewN | apply below_drew1) | exact HB.out)) hb); clear HB; have HB := HBn; clear HBn; clear hb; have k0 : w1.cell? ⟨b, o, none⟩ = some (.string v0) := (Below.cell HB.out (p := ⟨b, o, none⟩) hb0).trans HC0.out; have k1 : w1.cell? ⟨b, o + 1, none⟩ = some (.string v1) := (Below.cell HB.out (p := ⟨b, o + 1, none⟩) hb0).trans HC1.out; have k2 : w1.cell? ⟨b, o + 2, none⟩ = some (.string v2) := (Below.cell HB.out (p := ⟨b, o + 2, none⟩) hb0).trans HC2.out; have k3 : w1.cell? ⟨b, o + 3, none⟩ = some (.string v3) := (Below.cell HB.out (p := ⟨b, o + 3, none⟩) hb0).trans HC3.out; have k4 : w1.cell? ⟨b, o + 4, none⟩ = some (.string v4) := (Below.cell HB.out (p := ⟨b, o + 4, none⟩) hb0).trans HC4.out) | (go_at_call 24; (with_reducible refine (HFX.out _).mono ?_); rintro e w2 ⟨rfl, hb⟩; unfold stepFC; have BRn := Aside0.mk (blk_below BR.out hb); clear BR k0 k1 k2 k3 k4; have BR := BRn; clear BRn; have HBn := Aside0.mk (below_step (by repeat (first | (with_reducible first | exact HB.out | apply below_alloc | apply pw_below_drewN | apply below_drew1) | exact HB.out)) hb); clear HB; have HB := HBn; clear HBn; clear hb; have k0 : w2.cell? ⟨b, o, none⟩ = some (.string v0) := (Below.cell HB.out (p := ⟨b, o, none⟩) hb0).trans HC0.out; have k1 : w2.cell? ⟨b, o + 1, none⟩ = some (.string v1) := (Below.cell HB.out (p := ⟨b, o + 1, none⟩) hb0).trans HC1.out; have k2 : w2.cell? ⟨b, o + 2, none⟩ = some (.string v2) := (Below.cell HB.out (p := ⟨b, o + 2, none⟩) hb0).trans HC2.out; have k3 : w2.cell? ⟨b, o + 3, none⟩ = some (.string v3) := (Below.cell HB.out (p := ⟨b, o + 3, none⟩) hb0).trans HC3.out; have k4 : w2.cell? ⟨b, o + 4, none⟩ = some (.string v4) := (Below.cell HB.out (p := ⟨b, o + 4, none⟩) hb0).trans HC4.out; have hr2 : w.heap.size < w2.heap.size := blk_lt BR.out; have hb2w : b < w2.heap.size := Nat.lt_of_lt_of_le hb0 HB.out.size) | (refine wpList_store_1 rfl 3 _ _ rfl w2.heap.size 13 (.int .i64 sk) rfl rfl rfl 34 _ (stepFC ((m : Int) + 1) badT sk false).toArray (blk_at_new _ _ _ rfl) (by simp) (by kernel_rfl) rfl ?_; intro w3 hbk hst; have BO := Aside0.mk hbk; have BRn := Aside0.mk (hst.blk (blk_alloc BR.out _) (by omega)); have HBn := Aside0.mk (hst.up (by repeat (first | (with_reducible first | exact HB.out | apply below_alloc | apply pw_below_drewN | apply below_drew1) | exact HB.out)) (by omega)); clear hbk hst BR HB k0 k1 k2 k3 k4; have BR := BRn; have HB := HBn; clear BRn HBn; have k0 : w3.cell? ⟨b, o, none⟩ = some (.string v0) := (Below.cell HB.out (p := ⟨b, o, none⟩) hb0).trans HC0.out; have k1 : w3.cell? ⟨b, o + 1, none⟩ = some (.string v1) := (Below.cell HB.out (p := ⟨b, o + 1, none⟩) hb0).trans HC1.out; have k2 : w3.cell? ⟨b, o + 2, none⟩ = some (.string v2) := (Below.cell HB.out (p := ⟨b, o + 2, none⟩) hb0).trans HC2.out; have k3 : w3.cell? ⟨b, o + 3, none⟩ = some (.string v3) := (Below.cell HB.out (p := ⟨b, o + 3, none⟩) hb0).trans HC3.out; have k4 : w3.cell? ⟨b, o + 4, none⟩ = some (.string v4) := (Below.cell HB.out (p := ⟨b, o + 4, none⟩) hb0).trans HC4.out))
  (try simp only [Act.put, List.setIfInBounds_toArray, List.set_cons_zero, List.set_cons_succ])
  go_cut [106] (fun st wx => st = .bool bd ∧ Aside0 (wx = w3))
  case first =>
    clear k0 k1 k2 k3 k4
    cases q
    · (go_wp2; go_meet; case rel => exact ⟨by rw [← HBD.out]; first | rfl | (simp [badA, hf]; done) | (simp [badA]; done) | (simp [badA]; omega), ⟨rfl⟩⟩)
    cases p1
    · (go_wp2; go_meet; case rel => exact ⟨by rw [← HBD.out]; first | rfl | (simp [badA, hf]; done) | (simp [badA]; done) | (simp [badA]; omega), ⟨rfl⟩⟩)
    by_cases hf : (z1 : Int) > 4294967295
    · (go_wp2; go_meet; case rel => exact ⟨by rw [← HBD.out]; first | rfl | (simp [badA, hf]; done) | (simp [badA]; done) | (simp [badA]; omega), ⟨rfl⟩⟩)
    cases p2
    · (go_wp2; go_meet; case rel => exact ⟨by rw [← HBD.out]; first | rfl | (simp [badA, hf]; done) | (simp [badA]; done) | (simp [badA]; omega), ⟨rfl⟩⟩)
    cases p3
    · (go_wp2; go_meet; case rel => exact ⟨by rw [← HBD.out]; first | rfl | (simp [badA, hf]; done) | (simp [badA]; done) | (simp [badA]; omega), ⟨rfl⟩⟩)
    cases p4
    · (go_wp2; go_meet; case rel => exact ⟨by rw [← HBD.out]; first | rfl | (simp [badA, hf]; done) | (simp [badA]; done) | (simp [badA]; omega), ⟨rfl⟩⟩)
    · (go_wp2; go_meet; case rel => exact ⟨by rw [← HBD.out]; first | rfl | (simp [badA, hf]; done) | (simp [badA]; done) | (simp [badA]; omega), ⟨rfl⟩⟩)
  case rest =>
  obtain ⟨rfl, HW⟩ := hcut
  have hww := HW.out.symm
  subst hww
  clear HW
  have hR := HRR.out
  cases bd
  · rw [if_neg (show ¬ (false = true) by decide)] at hR
    by_cases hl3 : (z3 : Int) > 1000
    · exact absurd hl3 (Int.not_lt.2 HSEL.out.2.1)
    · rw [if_neg (by exact hl3)] at hR
      have HRn := Aside0.mk hR
      have hz1 : (z3 : Int) ≤ 1000 := Int.not_lt.1 hl3
      have HK01 : Aside0 (w3.cell? ⟨b, o, none⟩ = some (.string v0) ∧ w3.cell? ⟨b, o + 1, none⟩ = some (.string v1)) := ⟨⟨k0, k1⟩⟩
      clear hR HRR hl3 k0 k1 k2 k3 k4
      go_upto_region 24 with fail
      have HW3 : Aside0 (w.heap.size < w3.heap.size) := ⟨blk_lt BR.out⟩
      have hz0 : (0 : Int) ≤ ↑z3 := Int.natCast_nonneg z3
      have hE := bodyS_e lr ↑z3 hz0 hz1
      obtain ⟨⟨vl, u, e⟩, hB⟩ : ∃ r, bodyS lr ↑z3 = r := ⟨_, rfl⟩
      have HCD : Aside0 ((Kd.int .u8).C w3 (some ⟨b2, o2 + (m + 1), none⟩) lr.length lr) := ⟨by have := C_dropk (Kd.C_below HCB.out HB.out) (m + 1); rw [HLR.out] at this; exact this⟩
      have HBY : Aside0 (∀ (A4 : Option Addr) (c4 : Nat) w', (Kd.int .u8).C w' A4 lr.length lr → lr.length ≤ c4 → Calls Tryz.prog 57 #[.slice A4 lr.length c4, .int .i64 ↑z3] w' (BL w' (vl, u, e))) := ⟨fun A4 c4 w' h1 h2 => by
        have := rbody_calls lr A4 c4 ↑z3 w' h1 h2 HLRL.out
        rw [hB] at this
        exact this⟩
      have HSE : Aside0 (e = 0) := ⟨by have := HSEL.out.2.2; rw [hB] at this; exact this⟩
      rw [hB] at hE HRn
      clear hB
      dsimp only at HRn hE
      have HE := Aside0.mk hE
      clear hE
      go_cut [22, 23, 24] (fun s22 s23 s24 wx => ∃ A' c', s22 = .slice A' vl.length c' ∧ s23 = .int .i64 u ∧ s24 = .int .i64 e ∧ Aside0 (RowB vl w3 (.slice A' vl.length c') wx ∧ vl.length ≤ c' ∧ wx.heap[w.heap.size]? = some (.cells zStepC 34 (0, 0)) ∧ Below w.heap.size w wx))
      case first =>
        have hlrn := HLRN.out
        have HCZ : Aside0 (cb = m + 1 → (Kd.int .u8).C w3 (some ⟨b2, o2, none⟩) lr.length lr) := ⟨fun h => by
          have hnil : lr = [] := List.eq_nil_of_length_eq_zero (by have := HLRN.out; omega)
          rw [hnil]
          exact C_zero _ _ _⟩
        go_wp2_with (first | (go_at_call 57; (with_reducible refine (HBY.out _ _ _ (by first | exact HCD.out | exact HCZ.out (by omega)) (by omega)).mono ?_); rintro e' w5 ⟨V, rfl, hrow⟩; have HRW := Aside0.mk hrow; have BR5 := Aside0.mk (blk_below BR.out hrow.2); have HB5 := Aside0.mk (below_step HB.out hrow.2); clear hrow))
        · have hcm : cb = m + 1 := by omega
          subst hcm
          obtain ⟨A', c', rfl, hle, -⟩ := HRW.out.C
          go_meet
          case rel => exact ⟨A', c', rfl, rfl, rfl, ⟨HRW.out, hle, BR5.out, HB5.out⟩⟩
        · obtain ⟨A', c', rfl, hle, -⟩ := HRW.out.C
          go_meet
          case rel => exact ⟨A', c', rfl, rfl, rfl, ⟨HRW.out, hle, BR5.out, HB5.out⟩⟩
      case rest =>
        obtain ⟨A', c', rfl, rfl, rfl, HI⟩ := hcut
        have HRW := Aside0.mk HI.out.1
        have hle := HI.out.2.1
        have BRn := Aside0.mk HI.out.2.2.1
        have HBn := Aside0.mk HI.out.2.2.2
        clear HI HB BR BO HBY HCD
        have BR := BRn
        have HB := HBn
        clear BRn HBn
        have hR := HRn.out
        rcases HE.out with ⟨rfl, rfl⟩ | ⟨rfl, hu⟩ | ⟨rfl, hu⟩
        · exact absurd HSE.out (by decide)
        · exact absurd HSE.out (by decide)
        · rw [if_neg (by decide), if_neg (by decide)] at hR
          have HRk := Aside0.mk hR
          clear hR HRn
          have hs0 : (0 : Int) ≤ (m : Int) + 1 + u := by omega
          have hs1 : (m : Int) + 1 + u ≤ 9223372036854775807 := by omega
          have hwu : IntKind.i64.wrap ((m : Int) + 1 + u) = (m : Int) + 1 + u := by rw [IntKind.wrap_i64]; omega
          clear hu
          have hbf := HBD.out
          simp only [badA, Bool.or_eq_false_iff, Bool.not_eq_false', decide_eq_false_iff_not] at hbf
          obtain ⟨rfl, rfl, hzl, rfl, rfl, rfl⟩ := hbf
          have hz1a : (0 : Int) ≤ ↑z1 := by omega
          have hz1b : (z1 : Int) ≤ 4294967295 := by omega
          have hw32 : IntKind.u32.wrap ↑z1 = ↑z1 := by show (↑z1 : Int) % 4294967296 = ↑z1; omega
          clear hzl
          obtain ⟨op, hop⟩ : ∃ op, opL v0.toList = op := ⟨_, rfl⟩
          have HOPC := Aside0.mk (fun w => op_w v0 w)
          rw [hop] at HOPC HRk
          clear hop
          have hc1 : ¬ (c = 1) := by omega
          have hc2 : (2 : Int) ≤ ↑c := by omega
          have hc3 : (2 : Int) ≤ ↑ws.length := by omega
          have hcc1 : 1 ≤ c - 1 := by omega
          have hn1i : (1 : Int) < ↑ws.length := by omega
          have hn1N : 1 < ws.length := by omega
          have hn0i : (0 : Int) < ↑ws.length := by omega
          have hn0N : 0 < ws.length := by omega
          have HCC1 := Aside0.mk hcc1
          have HON : Aside0 (∀ w', Below w.heap.size w w' → w'.ownsRow w3.heap.size 5 1 (.slice A' vl.length c') vl.length (encs (Value.int .u8) vl) → Calls Tryz.prog 55 #[.int .i64 ((m : Int) + 1 + u), .agg #[.int .i64 op, .string v1, .slice A' vl.length c', .int .u32 ↑z1, .int .i64 z2, .int .u64 ↑z4, .int .u64 0, .int .u64 0, .bool false, .bool false], .agg #[.int .i64 1, .string v0, .int .i64 0, .int .u32 0, .bool quiet, .bool false, .string ⟨#[]⟩, .slice none 0 0, .slice (some ⟨b, o + 1, none⟩) 1 (c - 1), .bool false]] w' (StepR (fun k => k ≠ w.heap.size ∧ (k < w.heap.size → F k)) w' R)) := ⟨fun w' hb hown => HRk.out ▸ rone_calls ((m : Int) + 1 + u) (cmdS op v1 vl ↑z1 z2 ↑z4) (formT v0 quiet [v1]) _ _ _ w'
            (fun w2 h2 hk => kCmd_mk w2 (cmdS op v1 vl ↑z1 z2 ↑z4) hle (own_Cu8 (own_keep hown (fun k h1 h4 => hk k h4 ⟨by have := HW3.out; omega, fun h => by have := HW3.out; omega⟩))))
            ((HKC.out.up hb (Nat.le_refl _)).imp (fun w2 h => K_formK v0 v1 quiet h HCC1.out))⟩
          clear hle hcc1
          have k0 : wc.cell? ⟨b, o, none⟩ = some (.string v0) := (Below.cell HB.out (p := ⟨b, o, none⟩) hb0).trans HC0.out
          have k1 : wc.cell? ⟨b, o + 1, none⟩ = some (.string v1) := (Below.cell HB.out (p := ⟨b, o + 1, none⟩) hb0).trans HC1.out
          have HWS : Aside0 (w.heap.size < wc.heap.size) := ⟨blk_lt BR.out⟩
          go_wp2
          (refine wp_region_noPanic ?_; refine wp_region_held_drew (S := (fun w' => Below w.heap.size w w' ∧ w'.heap[w.heap.size]? = some (.cells zStepC 34 (0, 0)) ∧ w'.ownsRow w3.heap.size 5 1 (.slice A' vl.length c') vl.length (encs (Value.int .u8) vl))) (by kernel_rfl) ⟨below_drew1 HB.out, blk_drew BR.out, own_move HRW.out.1 (fun _ _ => rfl)⟩ ?_; intro hHeld)
          clear k0 k1
          (refine wpAnyH_take (i := 0) (v := ?_) (by simp only [List.getElem?_toArray, List.getElem?_cons_succ, List.getElem?_cons_zero]; rfl) (by kernel_rfl) (by kernel_rfl) (by kernel_rfl) (fun _ _ _ h => h) (Or.inl ⟨by rfl, ?_⟩) (by exact hHeld) ?_; rotate_left; (focus (intro w' hSw; have c0 : w'.cell? ⟨b, o, none⟩ = some (.string v0) := (Below.cell hSw.1 (p := ⟨b, o, none⟩) hb0).trans HC0.out; have c1 : w'.cell? ⟨b, o + 1, none⟩ = some (.string v1) := (Below.cell hSw.1 (p := ⟨b, o + 1, none⟩) hb0).trans HC1.out; clear hSw; go_simp; (try with_reducible rfl); done)); (try simp only [Act.put, List.setIfInBounds_toArray, List.set_cons_zero, List.set_cons_succ]))
          (refine wpAnyH_take (i := 1) (v := ?_) (by simp only [List.getElem?_toArray, List.getElem?_cons_succ, List.getElem?_cons_zero]; rfl) (by kernel_rfl) (by kernel_rfl) (by kernel_rfl) (fun _ _ _ h => h) (Or.inl ⟨by rfl, ?_⟩) (by exact hHeld) ?_; rotate_left; (focus (intro w' hSw; have c0 : w'.cell? ⟨b, o, none⟩ = some (.string v0) := (Below.cell hSw.1 (p := ⟨b, o, none⟩) hb0).trans HC0.out; have c1 : w'.cell? ⟨b, o + 1, none⟩ = some (.string v1) := (Below.cell hSw.1 (p := ⟨b, o + 1, none⟩) hb0).trans HC1.out; clear hSw; go_simp; (try with_reducible rfl); done)); (try simp only [Act.put, List.setIfInBounds_toArray, List.set_cons_zero, List.set_cons_succ]))
          (refine wpAnyH_take (i := 2) (v := ?_) (by simp only [List.getElem?_toArray, List.getElem?_cons_succ, List.getElem?_cons_zero]; rfl) (by kernel_rfl) (by kernel_rfl) (by kernel_rfl) (fun _ _ _ h => h) (Or.inl ⟨by rfl, ?_⟩) (by exact hHeld) ?_; rotate_left; (focus (intro w' hSw; have c0 : w'.cell? ⟨b, o, none⟩ = some (.string v0) := (Below.cell hSw.1 (p := ⟨b, o, none⟩) hb0).trans HC0.out; have c1 : w'.cell? ⟨b, o + 1, none⟩ = some (.string v1) := (Below.cell hSw.1 (p := ⟨b, o + 1, none⟩) hb0).trans HC1.out; clear hSw; go_simp; (try with_reducible rfl); done)); (try simp only [Act.put, List.setIfInBounds_toArray, List.set_cons_zero, List.set_cons_succ]))
          (refine wpAnyH_take (i := 4) (v := ?_) (by simp only [List.getElem?_toArray, List.getElem?_cons_succ, List.getElem?_cons_zero]; rfl) (by kernel_rfl) (by kernel_rfl) (by kernel_rfl) (fun _ _ _ h => h) (Or.inl ⟨by rfl, ?_⟩) (by exact hHeld) ?_; rotate_left; (focus (intro w' hSw; have c0 : w'.cell? ⟨b, o, none⟩ = some (.string v0) := (Below.cell hSw.1 (p := ⟨b, o, none⟩) hb0).trans HC0.out; have c1 : w'.cell? ⟨b, o + 1, none⟩ = some (.string v1) := (Below.cell hSw.1 (p := ⟨b, o + 1, none⟩) hb0).trans HC1.out; clear hSw; go_simp; (try with_reducible rfl); done)); (try simp only [Act.put, List.setIfInBounds_toArray, List.set_cons_zero, List.set_cons_succ]))
          (refine wpAnyH_take (i := 5) (v := ?_) (by simp only [List.getElem?_toArray, List.getElem?_cons_succ, List.getElem?_cons_zero]; rfl) (by kernel_rfl) (by kernel_rfl) (by kernel_rfl) (fun _ _ _ h => h) (Or.inl ⟨by rfl, ?_⟩) (by exact hHeld) ?_; rotate_left; (focus (intro w' hSw; have c0 : w'.cell? ⟨b, o, none⟩ = some (.string v0) := (Below.cell hSw.1 (p := ⟨b, o, none⟩) hb0).trans HC0.out; have c1 : w'.cell? ⟨b, o + 1, none⟩ = some (.string v1) := (Below.cell hSw.1 (p := ⟨b, o + 1, none⟩) hb0).trans HC1.out; clear hSw; go_simp; (try with_reducible rfl); done)); (try simp only [Act.put, List.setIfInBounds_toArray, List.set_cons_zero, List.set_cons_succ]))
          (refine wpAnyH_take (i := 6) (v := ?_) (by simp only [List.getElem?_toArray, List.getElem?_cons_succ, List.getElem?_cons_zero]; rfl) (by kernel_rfl) (by kernel_rfl) (by kernel_rfl) (fun _ _ _ h => h) (Or.inl ⟨by rfl, ?_⟩) (by exact hHeld) ?_; rotate_left; (focus (intro w' hSw; have c0 : w'.cell? ⟨b, o, none⟩ = some (.string v0) := (Below.cell hSw.1 (p := ⟨b, o, none⟩) hb0).trans HC0.out; have c1 : w'.cell? ⟨b, o + 1, none⟩ = some (.string v1) := (Below.cell hSw.1 (p := ⟨b, o + 1, none⟩) hb0).trans HC1.out; clear hSw; go_simp; (try with_reducible rfl); done)); (try simp only [Act.put, List.setIfInBounds_toArray, List.set_cons_zero, List.set_cons_succ]))
          (refine wpAnyH_take (i := 7) (v := ?_) (by simp only [List.getElem?_toArray, List.getElem?_cons_succ, List.getElem?_cons_zero]; rfl) (by kernel_rfl) (by kernel_rfl) (by kernel_rfl) (fun _ _ _ h => h) (Or.inl ⟨by rfl, ?_⟩) (by exact hHeld) ?_; rotate_left; (focus (intro w' hSw; have c0 : w'.cell? ⟨b, o, none⟩ = some (.string v0) := (Below.cell hSw.1 (p := ⟨b, o, none⟩) hb0).trans HC0.out; have c1 : w'.cell? ⟨b, o + 1, none⟩ = some (.string v1) := (Below.cell hSw.1 (p := ⟨b, o + 1, none⟩) hb0).trans HC1.out; clear hSw; go_simp; (try with_reducible rfl); done)); (try simp only [Act.put, List.setIfInBounds_toArray, List.set_cons_zero, List.set_cons_succ]))
          (refine wpAnyH_take (i := 8) (v := ?_) (by simp only [List.getElem?_toArray, List.getElem?_cons_succ, List.getElem?_cons_zero]; rfl) (by kernel_rfl) (by kernel_rfl) (by kernel_rfl) (fun _ _ _ h => h) (Or.inl ⟨by rfl, ?_⟩) (by exact hHeld) ?_; rotate_left; (focus (intro w' hSw; have c0 : w'.cell? ⟨b, o, none⟩ = some (.string v0) := (Below.cell hSw.1 (p := ⟨b, o, none⟩) hb0).trans HC0.out; have c1 : w'.cell? ⟨b, o + 1, none⟩ = some (.string v1) := (Below.cell hSw.1 (p := ⟨b, o + 1, none⟩) hb0).trans HC1.out; clear hSw; go_simp; (try with_reducible rfl); done)); (try simp only [Act.put, List.setIfInBounds_toArray, List.set_cons_zero, List.set_cons_succ]))
          (refine wpAnyH_take (i := 9) (v := ?_) (by simp only [List.getElem?_toArray, List.getElem?_cons_succ, List.getElem?_cons_zero]; rfl) (by kernel_rfl) (by kernel_rfl) (by kernel_rfl) (fun _ _ _ h => h) (Or.inl ⟨by rfl, ?_⟩) (by exact hHeld) ?_; rotate_left; (focus (intro w' hSw; have c0 : w'.cell? ⟨b, o, none⟩ = some (.string v0) := (Below.cell hSw.1 (p := ⟨b, o, none⟩) hb0).trans HC0.out; have c1 : w'.cell? ⟨b, o + 1, none⟩ = some (.string v1) := (Below.cell hSw.1 (p := ⟨b, o + 1, none⟩) hb0).trans HC1.out; clear hSw; go_simp; (try with_reducible rfl); done)); (try simp only [Act.put, List.setIfInBounds_toArray, List.set_cons_zero, List.set_cons_succ]))
          (refine wpAnyH_take (i := 10) (v := ?_) (by simp only [List.getElem?_toArray, List.getElem?_cons_succ, List.getElem?_cons_zero]; rfl) (by kernel_rfl) (by kernel_rfl) (by kernel_rfl) (fun _ _ _ h => h) (Or.inl ⟨by rfl, ?_⟩) (by exact hHeld) ?_; rotate_left; (focus (intro w' hSw; have c0 : w'.cell? ⟨b, o, none⟩ = some (.string v0) := (Below.cell hSw.1 (p := ⟨b, o, none⟩) hb0).trans HC0.out; have c1 : w'.cell? ⟨b, o + 1, none⟩ = some (.string v1) := (Below.cell hSw.1 (p := ⟨b, o + 1, none⟩) hb0).trans HC1.out; clear hSw; go_simp; (try with_reducible rfl); done)); (try simp only [Act.put, List.setIfInBounds_toArray, List.set_cons_zero, List.set_cons_succ]))
          (refine wpAnyH_take (i := 11) (v := ?_) (by simp only [List.getElem?_toArray, List.getElem?_cons_succ, List.getElem?_cons_zero]; rfl) (by kernel_rfl) (by kernel_rfl) (by kernel_rfl) (fun _ _ _ h => h) (Or.inl ⟨by rfl, ?_⟩) (by exact hHeld) ?_; rotate_left; (focus (intro w' hSw; have c0 : w'.cell? ⟨b, o, none⟩ = some (.string v0) := (Below.cell hSw.1 (p := ⟨b, o, none⟩) hb0).trans HC0.out; have c1 : w'.cell? ⟨b, o + 1, none⟩ = some (.string v1) := (Below.cell hSw.1 (p := ⟨b, o + 1, none⟩) hb0).trans HC1.out; clear hSw; go_simp; (try with_reducible rfl); done)); (try simp only [Act.put, List.setIfInBounds_toArray, List.set_cons_zero, List.set_cons_succ]))
          refine wpAnyH_ready (rs := [3, 13]) (by kernel_rfl) (by simp) ?_
          refine AllReadyH.cons (by simp only [List.getElem?_toArray, List.getElem?_cons_succ, List.getElem?_cons_zero]; rfl) (fun K hK => ?_) (AllReadyH.cons (by simp only [List.getElem?_toArray, List.getElem?_cons_succ, List.getElem?_cons_zero]; rfl) (fun K hK => ?_) AllReadyH.nil)
          · go_simp
            (go_at_call 29; (with_reducible refine (HOPC.out _).mono ?_); rintro e w5 ⟨rfl, hb⟩)
            have HB5 := Aside0.mk (below_step hHeld.1 hb)
            have BR5 := Aside0.mk (blk_below hHeld.2.1 hb)
            have HO5 := Aside0.mk (own_up hHeld.2.2 hb)
            refine hK.out _ _ ⟨HB5.out, BR5.out, HO5.out⟩ ?_
            clear hK K hHeld hb
            intro hHeld
            (try simp only [Act.put, List.setIfInBounds_toArray, List.set_cons_zero, List.set_cons_succ])
            (refine wpAnyH_take (i := 12) (v := ?_) (by simp only [List.getElem?_toArray, List.getElem?_cons_succ, List.getElem?_cons_zero]; rfl) (by kernel_rfl) (by kernel_rfl) (by kernel_rfl) (fun _ _ _ h => h) (Or.inl ⟨by rfl, ?_⟩) (by exact hHeld) ?_; rotate_left; (focus (intro w' hSw; have c0 : w'.cell? ⟨b, o, none⟩ = some (.string v0) := (Below.cell hSw.1 (p := ⟨b, o, none⟩) hb0).trans HC0.out; have c1 : w'.cell? ⟨b, o + 1, none⟩ = some (.string v1) := (Below.cell hSw.1 (p := ⟨b, o + 1, none⟩) hb0).trans HC1.out; clear hSw; go_simp; (try with_reducible rfl); done)); (try simp only [Act.put, List.setIfInBounds_toArray, List.set_cons_zero, List.set_cons_succ]))
            refine wpAnyH_ready (rs := [13]) (by kernel_rfl) (by simp) ?_
            refine AllReadyH.cons (by simp only [List.getElem?_toArray, List.getElem?_cons_succ, List.getElem?_cons_zero]; rfl) (fun K hK => ?_) AllReadyH.nil
            go_simp
            refine hK.out _ _ ⟨below_alloc HB5.out _, blk_alloc BR5.out _, HO5.out.alloc _⟩ ?_
            clear hK K hHeld
            intro hHeld
            (try simp only [Act.put, List.setIfInBounds_toArray, List.set_cons_zero, List.set_cons_succ])
            refine wpAnyH_ready (rs := [14]) (by kernel_rfl) (by simp) ?_
            refine AllReadyH.cons (by simp only [List.getElem?_toArray, List.getElem?_cons_succ, List.getElem?_cons_zero]; rfl) (fun K hK => ?_) AllReadyH.nil
            refine step_store_F rfl 40 _ _ rfl (w5.heap.size) 0 [.int .i64 op, .string v1, .slice A' vl.length c', .int .u32 ↑z1, .int .i64 z2, .int .u64 ↑z4, .int .u64 0, .int .u64 0, .bool false, .bool false] rfl rfl (by simp [Value.oneCell']) 40 _ #[.int .i64 op, .string v1, .slice A' vl.length c', .int .u32 ↑z1, .int .i64 z2, .int .u64 ↑z4, .int .u64 0, .int .u64 0, .bool false, .bool false] (blk_at_new _ _ _ rfl) (by simp) (by kernel_rfl) rfl ?_
            intro w6 hbk hst
            have BX6 := Aside0.mk hbk
            have BR6 := Aside0.mk (hst.blk (blk_alloc BR5.out _) (by have := blk_lt BR5.out; omega))
            have HB6 := Aside0.mk (hst.up (below_alloc HB5.out _) (by have := blk_lt BR5.out; omega))
            have HO6 := Aside0.mk (hst.own' (HO5.out.alloc _) (own_not HO5.out (Nat.le_refl _)))
            have hgx : w.heap.size < w5.heap.size := (by have := blk_lt BR5.out; omega)
            refine hK.out _ _ ⟨HB6.out, BR6.out, HO6.out⟩ ?_
            clear hK K hHeld hbk hst
            intro hHeld
            (try simp only [Act.put, List.setIfInBounds_toArray, List.set_cons_zero, List.set_cons_succ])
            (refine wpAnyH_done (by kernel_rfl) ?_ _; refine NoPanic.normal ?_)
            obtain ⟨gx, hgx2⟩ : ∃ gx, w5.heap.size = gx := ⟨_, rfl⟩
            rw [hgx2] at BX6 hgx ⊢
            clear hgx2 HB5 BR5 HO5 hHeld
            have k0 : w6.cell? ⟨b, o, none⟩ = some (.string v0) := (Below.cell HB6.out (p := ⟨b, o, none⟩) hb0).trans HC0.out
            go_wp2
            (refine wp_region_noPanic ?_; refine wp_region_held_drew (S := fun w' => w'.heap[gx]? = some (.cells #[.int .i64 op, .string v1, .slice A' vl.length c', .int .u32 ↑z1, .int .i64 z2, .int .u64 ↑z4, .int .u64 0, .int .u64 0, .bool false, .bool false] 40 (0, 0)) ∧ w'.cell? ⟨b, o, none⟩ = some (.string v0) ∧ Below w.heap.size w w') (by kernel_rfl) ⟨(blk_drew BX6.out), (Below.cell (below_drew1 HB6.out) (p := ⟨b, o, none⟩) hb0).trans HC0.out, (below_drew1 HB6.out)⟩ ?_; intro hHeld)
            have BRd := Aside0.mk (show _ = some (Obj.cells zStepC 34 (0, 0)) from blk_drew BR6.out)
            (refine wpAnyH_take (i := 0) (v := ?_) (by simp only [List.getElem?_toArray, List.getElem?_cons_succ, List.getElem?_cons_zero]; rfl) (by kernel_rfl) (by kernel_rfl) (by kernel_rfl) (fun _ _ _ h => h) (Or.inl ⟨by rfl, ?_⟩) (by exact hHeld) ?_; rotate_left; (focus (intro w' hSw; have s0 : w'.cell? ⟨gx, 0, none⟩ = some (.int .i64 op) := (blk_cell hSw.1 0).trans rfl; have s1 : w'.cell? ⟨gx, 1, none⟩ = some (.string v1) := (blk_cell hSw.1 1).trans rfl; have s2 : w'.cell? ⟨gx, 2, none⟩ = some (.slice A' vl.length c') := (blk_cell hSw.1 2).trans rfl; have s3 : w'.cell? ⟨gx, 3, none⟩ = some (.int .u32 ↑z1) := (blk_cell hSw.1 3).trans rfl; have s4 : w'.cell? ⟨gx, 4, none⟩ = some (.int .i64 z2) := (blk_cell hSw.1 4).trans rfl; have s5 : w'.cell? ⟨gx, 5, none⟩ = some (.int .u64 ↑z4) := (blk_cell hSw.1 5).trans rfl; have s6 : w'.cell? ⟨gx, 6, none⟩ = some (.int .u64 0) := (blk_cell hSw.1 6).trans rfl; have s7 : w'.cell? ⟨gx, 7, none⟩ = some (.int .u64 0) := (blk_cell hSw.1 7).trans rfl; have s8 : w'.cell? ⟨gx, 8, none⟩ = some (.bool false) := (blk_cell hSw.1 8).trans rfl; have s9 : w'.cell? ⟨gx, 9, none⟩ = some (.bool false) := (blk_cell hSw.1 9).trans rfl; have c0 := hSw.2.1; have bl := hSw.2.2; clear bl; go_simp; (try with_reducible rfl); done)); (try simp only [Act.put, List.setIfInBounds_toArray, List.set_cons_zero, List.set_cons_succ]))
            (refine wpAnyH_take (i := 1) (v := ?_) (by simp only [List.getElem?_toArray, List.getElem?_cons_succ, List.getElem?_cons_zero]; rfl) (by kernel_rfl) (by kernel_rfl) (by kernel_rfl) (fun _ _ _ h => h) (Or.inl ⟨by rfl, ?_⟩) (by exact hHeld) ?_; rotate_left; (focus (intro w' hSw; have s0 : w'.cell? ⟨gx, 0, none⟩ = some (.int .i64 op) := (blk_cell hSw.1 0).trans rfl; have s1 : w'.cell? ⟨gx, 1, none⟩ = some (.string v1) := (blk_cell hSw.1 1).trans rfl; have s2 : w'.cell? ⟨gx, 2, none⟩ = some (.slice A' vl.length c') := (blk_cell hSw.1 2).trans rfl; have s3 : w'.cell? ⟨gx, 3, none⟩ = some (.int .u32 ↑z1) := (blk_cell hSw.1 3).trans rfl; have s4 : w'.cell? ⟨gx, 4, none⟩ = some (.int .i64 z2) := (blk_cell hSw.1 4).trans rfl; have s5 : w'.cell? ⟨gx, 5, none⟩ = some (.int .u64 ↑z4) := (blk_cell hSw.1 5).trans rfl; have s6 : w'.cell? ⟨gx, 6, none⟩ = some (.int .u64 0) := (blk_cell hSw.1 6).trans rfl; have s7 : w'.cell? ⟨gx, 7, none⟩ = some (.int .u64 0) := (blk_cell hSw.1 7).trans rfl; have s8 : w'.cell? ⟨gx, 8, none⟩ = some (.bool false) := (blk_cell hSw.1 8).trans rfl; have s9 : w'.cell? ⟨gx, 9, none⟩ = some (.bool false) := (blk_cell hSw.1 9).trans rfl; have c0 := hSw.2.1; have bl := hSw.2.2; clear bl; go_simp; (try with_reducible rfl); done)); (try simp only [Act.put, List.setIfInBounds_toArray, List.set_cons_zero, List.set_cons_succ]))
            (refine wpAnyH_take (i := 2) (v := ?_) (by simp only [List.getElem?_toArray, List.getElem?_cons_succ, List.getElem?_cons_zero]; rfl) (by kernel_rfl) (by kernel_rfl) (by kernel_rfl) (fun _ _ _ h => h) (Or.inl ⟨by rfl, ?_⟩) (by exact hHeld) ?_; rotate_left; (focus (intro w' hSw; have s0 : w'.cell? ⟨gx, 0, none⟩ = some (.int .i64 op) := (blk_cell hSw.1 0).trans rfl; have s1 : w'.cell? ⟨gx, 1, none⟩ = some (.string v1) := (blk_cell hSw.1 1).trans rfl; have s2 : w'.cell? ⟨gx, 2, none⟩ = some (.slice A' vl.length c') := (blk_cell hSw.1 2).trans rfl; have s3 : w'.cell? ⟨gx, 3, none⟩ = some (.int .u32 ↑z1) := (blk_cell hSw.1 3).trans rfl; have s4 : w'.cell? ⟨gx, 4, none⟩ = some (.int .i64 z2) := (blk_cell hSw.1 4).trans rfl; have s5 : w'.cell? ⟨gx, 5, none⟩ = some (.int .u64 ↑z4) := (blk_cell hSw.1 5).trans rfl; have s6 : w'.cell? ⟨gx, 6, none⟩ = some (.int .u64 0) := (blk_cell hSw.1 6).trans rfl; have s7 : w'.cell? ⟨gx, 7, none⟩ = some (.int .u64 0) := (blk_cell hSw.1 7).trans rfl; have s8 : w'.cell? ⟨gx, 8, none⟩ = some (.bool false) := (blk_cell hSw.1 8).trans rfl; have s9 : w'.cell? ⟨gx, 9, none⟩ = some (.bool false) := (blk_cell hSw.1 9).trans rfl; have c0 := hSw.2.1; have bl := hSw.2.2; clear bl; go_simp; (try with_reducible rfl); done)); (try simp only [Act.put, List.setIfInBounds_toArray, List.set_cons_zero, List.set_cons_succ]))
            (refine wpAnyH_take (i := 3) (v := ?_) (by simp only [List.getElem?_toArray, List.getElem?_cons_succ, List.getElem?_cons_zero]; rfl) (by kernel_rfl) (by kernel_rfl) (by kernel_rfl) (fun _ _ _ h => h) (Or.inl ⟨by rfl, ?_⟩) (by exact hHeld) ?_; rotate_left; (focus (intro w' hSw; have s0 : w'.cell? ⟨gx, 0, none⟩ = some (.int .i64 op) := (blk_cell hSw.1 0).trans rfl; have s1 : w'.cell? ⟨gx, 1, none⟩ = some (.string v1) := (blk_cell hSw.1 1).trans rfl; have s2 : w'.cell? ⟨gx, 2, none⟩ = some (.slice A' vl.length c') := (blk_cell hSw.1 2).trans rfl; have s3 : w'.cell? ⟨gx, 3, none⟩ = some (.int .u32 ↑z1) := (blk_cell hSw.1 3).trans rfl; have s4 : w'.cell? ⟨gx, 4, none⟩ = some (.int .i64 z2) := (blk_cell hSw.1 4).trans rfl; have s5 : w'.cell? ⟨gx, 5, none⟩ = some (.int .u64 ↑z4) := (blk_cell hSw.1 5).trans rfl; have s6 : w'.cell? ⟨gx, 6, none⟩ = some (.int .u64 0) := (blk_cell hSw.1 6).trans rfl; have s7 : w'.cell? ⟨gx, 7, none⟩ = some (.int .u64 0) := (blk_cell hSw.1 7).trans rfl; have s8 : w'.cell? ⟨gx, 8, none⟩ = some (.bool false) := (blk_cell hSw.1 8).trans rfl; have s9 : w'.cell? ⟨gx, 9, none⟩ = some (.bool false) := (blk_cell hSw.1 9).trans rfl; have c0 := hSw.2.1; have bl := hSw.2.2; clear bl; go_simp; (try with_reducible rfl); done)); (try simp only [Act.put, List.setIfInBounds_toArray, List.set_cons_zero, List.set_cons_succ]))
            (refine wpAnyH_take (i := 4) (v := ?_) (by simp only [List.getElem?_toArray, List.getElem?_cons_succ, List.getElem?_cons_zero]; rfl) (by kernel_rfl) (by kernel_rfl) (by kernel_rfl) (fun _ _ _ h => h) (Or.inl ⟨by rfl, ?_⟩) (by exact hHeld) ?_; rotate_left; (focus (intro w' hSw; have s0 : w'.cell? ⟨gx, 0, none⟩ = some (.int .i64 op) := (blk_cell hSw.1 0).trans rfl; have s1 : w'.cell? ⟨gx, 1, none⟩ = some (.string v1) := (blk_cell hSw.1 1).trans rfl; have s2 : w'.cell? ⟨gx, 2, none⟩ = some (.slice A' vl.length c') := (blk_cell hSw.1 2).trans rfl; have s3 : w'.cell? ⟨gx, 3, none⟩ = some (.int .u32 ↑z1) := (blk_cell hSw.1 3).trans rfl; have s4 : w'.cell? ⟨gx, 4, none⟩ = some (.int .i64 z2) := (blk_cell hSw.1 4).trans rfl; have s5 : w'.cell? ⟨gx, 5, none⟩ = some (.int .u64 ↑z4) := (blk_cell hSw.1 5).trans rfl; have s6 : w'.cell? ⟨gx, 6, none⟩ = some (.int .u64 0) := (blk_cell hSw.1 6).trans rfl; have s7 : w'.cell? ⟨gx, 7, none⟩ = some (.int .u64 0) := (blk_cell hSw.1 7).trans rfl; have s8 : w'.cell? ⟨gx, 8, none⟩ = some (.bool false) := (blk_cell hSw.1 8).trans rfl; have s9 : w'.cell? ⟨gx, 9, none⟩ = some (.bool false) := (blk_cell hSw.1 9).trans rfl; have c0 := hSw.2.1; have bl := hSw.2.2; clear bl; go_simp; (try with_reducible rfl); done)); (try simp only [Act.put, List.setIfInBounds_toArray, List.set_cons_zero, List.set_cons_succ]))
            (refine wpAnyH_take (i := 5) (v := ?_) (by simp only [List.getElem?_toArray, List.getElem?_cons_succ, List.getElem?_cons_zero]; rfl) (by kernel_rfl) (by kernel_rfl) (by kernel_rfl) (fun _ _ _ h => h) (Or.inl ⟨by rfl, ?_⟩) (by exact hHeld) ?_; rotate_left; (focus (intro w' hSw; have s0 : w'.cell? ⟨gx, 0, none⟩ = some (.int .i64 op) := (blk_cell hSw.1 0).trans rfl; have s1 : w'.cell? ⟨gx, 1, none⟩ = some (.string v1) := (blk_cell hSw.1 1).trans rfl; have s2 : w'.cell? ⟨gx, 2, none⟩ = some (.slice A' vl.length c') := (blk_cell hSw.1 2).trans rfl; have s3 : w'.cell? ⟨gx, 3, none⟩ = some (.int .u32 ↑z1) := (blk_cell hSw.1 3).trans rfl; have s4 : w'.cell? ⟨gx, 4, none⟩ = some (.int .i64 z2) := (blk_cell hSw.1 4).trans rfl; have s5 : w'.cell? ⟨gx, 5, none⟩ = some (.int .u64 ↑z4) := (blk_cell hSw.1 5).trans rfl; have s6 : w'.cell? ⟨gx, 6, none⟩ = some (.int .u64 0) := (blk_cell hSw.1 6).trans rfl; have s7 : w'.cell? ⟨gx, 7, none⟩ = some (.int .u64 0) := (blk_cell hSw.1 7).trans rfl; have s8 : w'.cell? ⟨gx, 8, none⟩ = some (.bool false) := (blk_cell hSw.1 8).trans rfl; have s9 : w'.cell? ⟨gx, 9, none⟩ = some (.bool false) := (blk_cell hSw.1 9).trans rfl; have c0 := hSw.2.1; have bl := hSw.2.2; clear bl; go_simp; (try with_reducible rfl); done)); (try simp only [Act.put, List.setIfInBounds_toArray, List.set_cons_zero, List.set_cons_succ]))
            (refine wpAnyH_take (i := 6) (v := ?_) (by simp only [List.getElem?_toArray, List.getElem?_cons_succ, List.getElem?_cons_zero]; rfl) (by kernel_rfl) (by kernel_rfl) (by kernel_rfl) (fun _ _ _ h => h) (Or.inl ⟨by rfl, ?_⟩) (by exact hHeld) ?_; rotate_left; (focus (intro w' hSw; have s0 : w'.cell? ⟨gx, 0, none⟩ = some (.int .i64 op) := (blk_cell hSw.1 0).trans rfl; have s1 : w'.cell? ⟨gx, 1, none⟩ = some (.string v1) := (blk_cell hSw.1 1).trans rfl; have s2 : w'.cell? ⟨gx, 2, none⟩ = some (.slice A' vl.length c') := (blk_cell hSw.1 2).trans rfl; have s3 : w'.cell? ⟨gx, 3, none⟩ = some (.int .u32 ↑z1) := (blk_cell hSw.1 3).trans rfl; have s4 : w'.cell? ⟨gx, 4, none⟩ = some (.int .i64 z2) := (blk_cell hSw.1 4).trans rfl; have s5 : w'.cell? ⟨gx, 5, none⟩ = some (.int .u64 ↑z4) := (blk_cell hSw.1 5).trans rfl; have s6 : w'.cell? ⟨gx, 6, none⟩ = some (.int .u64 0) := (blk_cell hSw.1 6).trans rfl; have s7 : w'.cell? ⟨gx, 7, none⟩ = some (.int .u64 0) := (blk_cell hSw.1 7).trans rfl; have s8 : w'.cell? ⟨gx, 8, none⟩ = some (.bool false) := (blk_cell hSw.1 8).trans rfl; have s9 : w'.cell? ⟨gx, 9, none⟩ = some (.bool false) := (blk_cell hSw.1 9).trans rfl; have c0 := hSw.2.1; have bl := hSw.2.2; clear bl; go_simp; (try with_reducible rfl); done)); (try simp only [Act.put, List.setIfInBounds_toArray, List.set_cons_zero, List.set_cons_succ]))
            (refine wpAnyH_take (i := 7) (v := ?_) (by simp only [List.getElem?_toArray, List.getElem?_cons_succ, List.getElem?_cons_zero]; rfl) (by kernel_rfl) (by kernel_rfl) (by kernel_rfl) (fun _ _ _ h => h) (Or.inl ⟨by rfl, ?_⟩) (by exact hHeld) ?_; rotate_left; (focus (intro w' hSw; have s0 : w'.cell? ⟨gx, 0, none⟩ = some (.int .i64 op) := (blk_cell hSw.1 0).trans rfl; have s1 : w'.cell? ⟨gx, 1, none⟩ = some (.string v1) := (blk_cell hSw.1 1).trans rfl; have s2 : w'.cell? ⟨gx, 2, none⟩ = some (.slice A' vl.length c') := (blk_cell hSw.1 2).trans rfl; have s3 : w'.cell? ⟨gx, 3, none⟩ = some (.int .u32 ↑z1) := (blk_cell hSw.1 3).trans rfl; have s4 : w'.cell? ⟨gx, 4, none⟩ = some (.int .i64 z2) := (blk_cell hSw.1 4).trans rfl; have s5 : w'.cell? ⟨gx, 5, none⟩ = some (.int .u64 ↑z4) := (blk_cell hSw.1 5).trans rfl; have s6 : w'.cell? ⟨gx, 6, none⟩ = some (.int .u64 0) := (blk_cell hSw.1 6).trans rfl; have s7 : w'.cell? ⟨gx, 7, none⟩ = some (.int .u64 0) := (blk_cell hSw.1 7).trans rfl; have s8 : w'.cell? ⟨gx, 8, none⟩ = some (.bool false) := (blk_cell hSw.1 8).trans rfl; have s9 : w'.cell? ⟨gx, 9, none⟩ = some (.bool false) := (blk_cell hSw.1 9).trans rfl; have c0 := hSw.2.1; have bl := hSw.2.2; clear bl; go_simp; (try with_reducible rfl); done)); (try simp only [Act.put, List.setIfInBounds_toArray, List.set_cons_zero, List.set_cons_succ]))
            (refine wpAnyH_take (i := 8) (v := ?_) (by simp only [List.getElem?_toArray, List.getElem?_cons_succ, List.getElem?_cons_zero]; rfl) (by kernel_rfl) (by kernel_rfl) (by kernel_rfl) (fun _ _ _ h => h) (Or.inl ⟨by rfl, ?_⟩) (by exact hHeld) ?_; rotate_left; (focus (intro w' hSw; have s0 : w'.cell? ⟨gx, 0, none⟩ = some (.int .i64 op) := (blk_cell hSw.1 0).trans rfl; have s1 : w'.cell? ⟨gx, 1, none⟩ = some (.string v1) := (blk_cell hSw.1 1).trans rfl; have s2 : w'.cell? ⟨gx, 2, none⟩ = some (.slice A' vl.length c') := (blk_cell hSw.1 2).trans rfl; have s3 : w'.cell? ⟨gx, 3, none⟩ = some (.int .u32 ↑z1) := (blk_cell hSw.1 3).trans rfl; have s4 : w'.cell? ⟨gx, 4, none⟩ = some (.int .i64 z2) := (blk_cell hSw.1 4).trans rfl; have s5 : w'.cell? ⟨gx, 5, none⟩ = some (.int .u64 ↑z4) := (blk_cell hSw.1 5).trans rfl; have s6 : w'.cell? ⟨gx, 6, none⟩ = some (.int .u64 0) := (blk_cell hSw.1 6).trans rfl; have s7 : w'.cell? ⟨gx, 7, none⟩ = some (.int .u64 0) := (blk_cell hSw.1 7).trans rfl; have s8 : w'.cell? ⟨gx, 8, none⟩ = some (.bool false) := (blk_cell hSw.1 8).trans rfl; have s9 : w'.cell? ⟨gx, 9, none⟩ = some (.bool false) := (blk_cell hSw.1 9).trans rfl; have c0 := hSw.2.1; have bl := hSw.2.2; clear bl; go_simp; (try with_reducible rfl); done)); (try simp only [Act.put, List.setIfInBounds_toArray, List.set_cons_zero, List.set_cons_succ]))
            (refine wpAnyH_take (i := 9) (v := ?_) (by simp only [List.getElem?_toArray, List.getElem?_cons_succ, List.getElem?_cons_zero]; rfl) (by kernel_rfl) (by kernel_rfl) (by kernel_rfl) (fun _ _ _ h => h) (Or.inl ⟨by rfl, ?_⟩) (by exact hHeld) ?_; rotate_left; (focus (intro w' hSw; have s0 : w'.cell? ⟨gx, 0, none⟩ = some (.int .i64 op) := (blk_cell hSw.1 0).trans rfl; have s1 : w'.cell? ⟨gx, 1, none⟩ = some (.string v1) := (blk_cell hSw.1 1).trans rfl; have s2 : w'.cell? ⟨gx, 2, none⟩ = some (.slice A' vl.length c') := (blk_cell hSw.1 2).trans rfl; have s3 : w'.cell? ⟨gx, 3, none⟩ = some (.int .u32 ↑z1) := (blk_cell hSw.1 3).trans rfl; have s4 : w'.cell? ⟨gx, 4, none⟩ = some (.int .i64 z2) := (blk_cell hSw.1 4).trans rfl; have s5 : w'.cell? ⟨gx, 5, none⟩ = some (.int .u64 ↑z4) := (blk_cell hSw.1 5).trans rfl; have s6 : w'.cell? ⟨gx, 6, none⟩ = some (.int .u64 0) := (blk_cell hSw.1 6).trans rfl; have s7 : w'.cell? ⟨gx, 7, none⟩ = some (.int .u64 0) := (blk_cell hSw.1 7).trans rfl; have s8 : w'.cell? ⟨gx, 8, none⟩ = some (.bool false) := (blk_cell hSw.1 8).trans rfl; have s9 : w'.cell? ⟨gx, 9, none⟩ = some (.bool false) := (blk_cell hSw.1 9).trans rfl; have c0 := hSw.2.1; have bl := hSw.2.2; clear bl; go_simp; (try with_reducible rfl); done)); (try simp only [Act.put, List.setIfInBounds_toArray, List.set_cons_zero, List.set_cons_succ]))
            (refine wpAnyH_take (i := 10) (v := ?_) (by simp only [List.getElem?_toArray, List.getElem?_cons_succ, List.getElem?_cons_zero]; rfl) (by kernel_rfl) (by kernel_rfl) (by kernel_rfl) (fun _ _ _ h => h) (Or.inl ⟨by rfl, ?_⟩) (by exact hHeld) ?_; rotate_left; (focus (intro w' hSw; have s0 : w'.cell? ⟨gx, 0, none⟩ = some (.int .i64 op) := (blk_cell hSw.1 0).trans rfl; have s1 : w'.cell? ⟨gx, 1, none⟩ = some (.string v1) := (blk_cell hSw.1 1).trans rfl; have s2 : w'.cell? ⟨gx, 2, none⟩ = some (.slice A' vl.length c') := (blk_cell hSw.1 2).trans rfl; have s3 : w'.cell? ⟨gx, 3, none⟩ = some (.int .u32 ↑z1) := (blk_cell hSw.1 3).trans rfl; have s4 : w'.cell? ⟨gx, 4, none⟩ = some (.int .i64 z2) := (blk_cell hSw.1 4).trans rfl; have s5 : w'.cell? ⟨gx, 5, none⟩ = some (.int .u64 ↑z4) := (blk_cell hSw.1 5).trans rfl; have s6 : w'.cell? ⟨gx, 6, none⟩ = some (.int .u64 0) := (blk_cell hSw.1 6).trans rfl; have s7 : w'.cell? ⟨gx, 7, none⟩ = some (.int .u64 0) := (blk_cell hSw.1 7).trans rfl; have s8 : w'.cell? ⟨gx, 8, none⟩ = some (.bool false) := (blk_cell hSw.1 8).trans rfl; have s9 : w'.cell? ⟨gx, 9, none⟩ = some (.bool false) := (blk_cell hSw.1 9).trans rfl; have c0 := hSw.2.1; have bl := hSw.2.2; clear bl; go_simp; (try with_reducible rfl); done)); (try simp only [Act.put, List.setIfInBounds_toArray, List.set_cons_zero, List.set_cons_succ]))
            refine wpAnyH_ready (rs := [11]) (by kernel_rfl) (by simp) ?_
            refine AllReadyH.cons (by simp only [List.getElem?_toArray, List.getElem?_cons_succ, List.getElem?_cons_zero]; rfl) (fun K hK => ?_) AllReadyH.nil
            go_simp
            (go_at_call 55; (with_reducible refine (HON.out _ hHeld.2.2 (own_move HO6.out (fun _ _ => rfl))).mono ?_); rintro e w5 ⟨⟨cs, rfl, hk⟩, hb⟩)
            have BR5 := Aside0.mk (blk_below BRd.out hb)
            have HB5 := Aside0.mk (below_step hHeld.2.2 hb)
            have HK := Aside0.mk hk
            have hgd := Aside0.mk (blk_lt BRd.out)
            have HS5 := Aside0.mk (show w5.heap[gx]? = some (.cells #[.int .i64 op, .string v1, .slice A' vl.length c', .int .u32 ↑z1, .int .i64 z2, .int .u64 ↑z4, .int .u64 0, .int .u64 0, .bool false, .bool false] 40 (0, 0)) ∧ w5.cell? ⟨b, o, none⟩ = some (.string v0) ∧ Below w.heap.size w w5 from ⟨blk_below hHeld.1 hb, (Below.cell HB5.out (p := ⟨b, o, none⟩) hb0).trans HC0.out, HB5.out⟩)
            refine hK.out _ _ HS5.out ?_
            clear hK K hHeld hk hb
            intro hHeld
            (try simp only [Act.put, List.setIfInBounds_toArray, List.set_cons_zero, List.set_cons_succ])
            refine wpAnyH_ready (rs := [12]) (by kernel_rfl) (by simp) ?_
            refine AllReadyH.cons (by simp only [List.getElem?_toArray, List.getElem?_cons_succ, List.getElem?_cons_zero]; rfl) (fun K hK => ?_) AllReadyH.nil
            refine step_store_F rfl 34 _ _ rfl (w.heap.size) 0 cs rfl rfl (fun u hu => kStep.K_one HK.out.now u hu) 34 _ cs.toArray BR5.out (by rw [kStep.K_len HK.out.now]; first | done | decide) (by rw [kStep.K_len HK.out.now]; kernel_rfl) (congrArg List.toArray (by rw [kStep.K_len HK.out.now]; exact List.append_nil cs)) ?_
            intro w6 hbk hst
            have BK := Aside0.mk hbk
            have HK2 := Aside0.mk (hst.hol HK.out (fun h => (h hgd.out).1 rfl))
            have HB6 := Aside0.mk (hst.up HB5.out (by omega))
            refine hK.out _ _ ⟨hst.blk (HS5.out.1) (by omega), (Below.cell HB6.out (p := ⟨b, o, none⟩) hb0).trans HC0.out, HB6.out⟩ ?_
            clear hK K hHeld hbk hst
            intro hHeld
            (try simp only [Act.put, List.setIfInBounds_toArray, List.set_cons_zero, List.set_cons_succ])
            (refine wpAnyH_done (by kernel_rfl) ?_ _; refine NoPanic.normal ?_)
            go_wp2
            (try simp only [Exit.inBlock, Exit.then]); refine bodyPost_ret (results_cell_row rfl _ _ (w.heap.size) 34 _ (0, 0) _ rfl BK.out Tryz.underlying34 rfl (by rw [List.size_toArray, kStep.K_len HK.out.now]; kernel_rfl)) rfl ?_
            exact ⟨⟨_, rfl, HK2.out.mono (fun k hk h3 => (hk (Nat.lt_of_lt_of_le h3 (Nat.le_of_lt (Nat.lt_of_le_of_lt (by omega) hgd.out)))).2 h3)⟩, HB6.out⟩
          · go_simp
            refine hK.out _ _ ⟨below_alloc hHeld.1 _, blk_alloc hHeld.2.1 _, hHeld.2.2.alloc _⟩ ?_
            clear hK K
            have HH := hHeld
            clear hHeld
            intro hHeld
            (try simp only [Act.put, List.setIfInBounds_toArray, List.set_cons_zero, List.set_cons_succ])
            refine wpAnyH_ready (rs := [3]) (by kernel_rfl) (by simp) ?_
            refine AllReadyH.cons (by simp only [List.getElem?_toArray, List.getElem?_cons_succ, List.getElem?_cons_zero]; rfl) (fun K hK => ?_) AllReadyH.nil
            go_simp
            (go_at_call 29; (with_reducible refine (HOPC.out _).mono ?_); rintro e w5 ⟨rfl, hb⟩)
            have BX5 := Aside0.mk (blk_below (g := wc.heap.size) (o := .cells #[.int .i64 0, .string ⟨#[]⟩, .slice none 0 0, .int .u32 0, .int .i64 0, .int .u64 0, .int .u64 0, .int .u64 0, .bool false, .bool false] 40 (0, 0)) (blk_drew (blk_at_new _ _ _ rfl)) hb)
            have HB5 := Aside0.mk (below_step hHeld.1 hb)
            have BR5 := Aside0.mk (blk_below hHeld.2.1 hb)
            have HO5 := Aside0.mk (own_up hHeld.2.2 hb)
            have hbr := blk_lt HH.2.1
            refine hK.out _ _ ⟨HB5.out, BR5.out, HO5.out⟩ ?_
            clear hK K hHeld hb
            intro hHeld
            (try simp only [Act.put, List.setIfInBounds_toArray, List.set_cons_zero, List.set_cons_succ])
            (refine wpAnyH_take (i := 12) (v := ?_) (by simp only [List.getElem?_toArray, List.getElem?_cons_succ, List.getElem?_cons_zero]; rfl) (by kernel_rfl) (by kernel_rfl) (by kernel_rfl) (fun _ _ _ h => h) (Or.inl ⟨by rfl, ?_⟩) (by exact hHeld) ?_; rotate_left; (focus (intro w' hSw; have c0 : w'.cell? ⟨b, o, none⟩ = some (.string v0) := (Below.cell hSw.1 (p := ⟨b, o, none⟩) hb0).trans HC0.out; have c1 : w'.cell? ⟨b, o + 1, none⟩ = some (.string v1) := (Below.cell hSw.1 (p := ⟨b, o + 1, none⟩) hb0).trans HC1.out; clear hSw; go_simp; (try with_reducible rfl); done)); (try simp only [Act.put, List.setIfInBounds_toArray, List.set_cons_zero, List.set_cons_succ]))
            refine wpAnyH_ready (rs := [14]) (by kernel_rfl) (by simp) ?_
            refine AllReadyH.cons (by simp only [List.getElem?_toArray, List.getElem?_cons_succ, List.getElem?_cons_zero]; rfl) (fun K hK => ?_) AllReadyH.nil
            refine step_store_F rfl 40 _ _ rfl (wc.heap.size) 0 [.int .i64 op, .string v1, .slice A' vl.length c', .int .u32 ↑z1, .int .i64 z2, .int .u64 ↑z4, .int .u64 0, .int .u64 0, .bool false, .bool false] rfl rfl (by simp [Value.oneCell']) 40 _ #[.int .i64 op, .string v1, .slice A' vl.length c', .int .u32 ↑z1, .int .i64 z2, .int .u64 ↑z4, .int .u64 0, .int .u64 0, .bool false, .bool false] BX5.out (by simp) (by kernel_rfl) rfl ?_
            intro w6 hbk hst
            have BX6 := Aside0.mk hbk
            have BR6 := Aside0.mk (hst.blk BR5.out (by have := HWS.out; omega))
            have HB6 := Aside0.mk (hst.up HB5.out (by have := HWS.out; omega))
            have HO6 := Aside0.mk (hst.own' HO5.out (fun e => absurd (own_lt HH.2.2 _ e.symm) (by first | (simp; done) | omega)))
            have hgx : w.heap.size < wc.heap.size := (by have := HWS.out; omega)
            refine hK.out _ _ ⟨HB6.out, BR6.out, HO6.out⟩ ?_
            clear hK K hHeld hbk hst HH hbr
            intro hHeld
            (try simp only [Act.put, List.setIfInBounds_toArray, List.set_cons_zero, List.set_cons_succ])
            (refine wpAnyH_done (by kernel_rfl) ?_ _; refine NoPanic.normal ?_)
            obtain ⟨gx, hgx2⟩ : ∃ gx, wc.heap.size = gx := ⟨_, rfl⟩
            rw [hgx2] at BX6 hgx ⊢
            clear hgx2 HB5 BR5 HO5 hHeld BX5
            have k0 : w6.cell? ⟨b, o, none⟩ = some (.string v0) := (Below.cell HB6.out (p := ⟨b, o, none⟩) hb0).trans HC0.out
            go_wp2
            (refine wp_region_noPanic ?_; refine wp_region_held_drew (S := fun w' => w'.heap[gx]? = some (.cells #[.int .i64 op, .string v1, .slice A' vl.length c', .int .u32 ↑z1, .int .i64 z2, .int .u64 ↑z4, .int .u64 0, .int .u64 0, .bool false, .bool false] 40 (0, 0)) ∧ w'.cell? ⟨b, o, none⟩ = some (.string v0) ∧ Below w.heap.size w w') (by kernel_rfl) ⟨(blk_drew BX6.out), (Below.cell (below_drew1 HB6.out) (p := ⟨b, o, none⟩) hb0).trans HC0.out, (below_drew1 HB6.out)⟩ ?_; intro hHeld)
            have BRd := Aside0.mk (show _ = some (Obj.cells zStepC 34 (0, 0)) from blk_drew BR6.out)
            (refine wpAnyH_take (i := 0) (v := ?_) (by simp only [List.getElem?_toArray, List.getElem?_cons_succ, List.getElem?_cons_zero]; rfl) (by kernel_rfl) (by kernel_rfl) (by kernel_rfl) (fun _ _ _ h => h) (Or.inl ⟨by rfl, ?_⟩) (by exact hHeld) ?_; rotate_left; (focus (intro w' hSw; have s0 : w'.cell? ⟨gx, 0, none⟩ = some (.int .i64 op) := (blk_cell hSw.1 0).trans rfl; have s1 : w'.cell? ⟨gx, 1, none⟩ = some (.string v1) := (blk_cell hSw.1 1).trans rfl; have s2 : w'.cell? ⟨gx, 2, none⟩ = some (.slice A' vl.length c') := (blk_cell hSw.1 2).trans rfl; have s3 : w'.cell? ⟨gx, 3, none⟩ = some (.int .u32 ↑z1) := (blk_cell hSw.1 3).trans rfl; have s4 : w'.cell? ⟨gx, 4, none⟩ = some (.int .i64 z2) := (blk_cell hSw.1 4).trans rfl; have s5 : w'.cell? ⟨gx, 5, none⟩ = some (.int .u64 ↑z4) := (blk_cell hSw.1 5).trans rfl; have s6 : w'.cell? ⟨gx, 6, none⟩ = some (.int .u64 0) := (blk_cell hSw.1 6).trans rfl; have s7 : w'.cell? ⟨gx, 7, none⟩ = some (.int .u64 0) := (blk_cell hSw.1 7).trans rfl; have s8 : w'.cell? ⟨gx, 8, none⟩ = some (.bool false) := (blk_cell hSw.1 8).trans rfl; have s9 : w'.cell? ⟨gx, 9, none⟩ = some (.bool false) := (blk_cell hSw.1 9).trans rfl; have c0 := hSw.2.1; have bl := hSw.2.2; clear bl; go_simp; (try with_reducible rfl); done)); (try simp only [Act.put, List.setIfInBounds_toArray, List.set_cons_zero, List.set_cons_succ]))
            (refine wpAnyH_take (i := 1) (v := ?_) (by simp only [List.getElem?_toArray, List.getElem?_cons_succ, List.getElem?_cons_zero]; rfl) (by kernel_rfl) (by kernel_rfl) (by kernel_rfl) (fun _ _ _ h => h) (Or.inl ⟨by rfl, ?_⟩) (by exact hHeld) ?_; rotate_left; (focus (intro w' hSw; have s0 : w'.cell? ⟨gx, 0, none⟩ = some (.int .i64 op) := (blk_cell hSw.1 0).trans rfl; have s1 : w'.cell? ⟨gx, 1, none⟩ = some (.string v1) := (blk_cell hSw.1 1).trans rfl; have s2 : w'.cell? ⟨gx, 2, none⟩ = some (.slice A' vl.length c') := (blk_cell hSw.1 2).trans rfl; have s3 : w'.cell? ⟨gx, 3, none⟩ = some (.int .u32 ↑z1) := (blk_cell hSw.1 3).trans rfl; have s4 : w'.cell? ⟨gx, 4, none⟩ = some (.int .i64 z2) := (blk_cell hSw.1 4).trans rfl; have s5 : w'.cell? ⟨gx, 5, none⟩ = some (.int .u64 ↑z4) := (blk_cell hSw.1 5).trans rfl; have s6 : w'.cell? ⟨gx, 6, none⟩ = some (.int .u64 0) := (blk_cell hSw.1 6).trans rfl; have s7 : w'.cell? ⟨gx, 7, none⟩ = some (.int .u64 0) := (blk_cell hSw.1 7).trans rfl; have s8 : w'.cell? ⟨gx, 8, none⟩ = some (.bool false) := (blk_cell hSw.1 8).trans rfl; have s9 : w'.cell? ⟨gx, 9, none⟩ = some (.bool false) := (blk_cell hSw.1 9).trans rfl; have c0 := hSw.2.1; have bl := hSw.2.2; clear bl; go_simp; (try with_reducible rfl); done)); (try simp only [Act.put, List.setIfInBounds_toArray, List.set_cons_zero, List.set_cons_succ]))
            (refine wpAnyH_take (i := 2) (v := ?_) (by simp only [List.getElem?_toArray, List.getElem?_cons_succ, List.getElem?_cons_zero]; rfl) (by kernel_rfl) (by kernel_rfl) (by kernel_rfl) (fun _ _ _ h => h) (Or.inl ⟨by rfl, ?_⟩) (by exact hHeld) ?_; rotate_left; (focus (intro w' hSw; have s0 : w'.cell? ⟨gx, 0, none⟩ = some (.int .i64 op) := (blk_cell hSw.1 0).trans rfl; have s1 : w'.cell? ⟨gx, 1, none⟩ = some (.string v1) := (blk_cell hSw.1 1).trans rfl; have s2 : w'.cell? ⟨gx, 2, none⟩ = some (.slice A' vl.length c') := (blk_cell hSw.1 2).trans rfl; have s3 : w'.cell? ⟨gx, 3, none⟩ = some (.int .u32 ↑z1) := (blk_cell hSw.1 3).trans rfl; have s4 : w'.cell? ⟨gx, 4, none⟩ = some (.int .i64 z2) := (blk_cell hSw.1 4).trans rfl; have s5 : w'.cell? ⟨gx, 5, none⟩ = some (.int .u64 ↑z4) := (blk_cell hSw.1 5).trans rfl; have s6 : w'.cell? ⟨gx, 6, none⟩ = some (.int .u64 0) := (blk_cell hSw.1 6).trans rfl; have s7 : w'.cell? ⟨gx, 7, none⟩ = some (.int .u64 0) := (blk_cell hSw.1 7).trans rfl; have s8 : w'.cell? ⟨gx, 8, none⟩ = some (.bool false) := (blk_cell hSw.1 8).trans rfl; have s9 : w'.cell? ⟨gx, 9, none⟩ = some (.bool false) := (blk_cell hSw.1 9).trans rfl; have c0 := hSw.2.1; have bl := hSw.2.2; clear bl; go_simp; (try with_reducible rfl); done)); (try simp only [Act.put, List.setIfInBounds_toArray, List.set_cons_zero, List.set_cons_succ]))
            (refine wpAnyH_take (i := 3) (v := ?_) (by simp only [List.getElem?_toArray, List.getElem?_cons_succ, List.getElem?_cons_zero]; rfl) (by kernel_rfl) (by kernel_rfl) (by kernel_rfl) (fun _ _ _ h => h) (Or.inl ⟨by rfl, ?_⟩) (by exact hHeld) ?_; rotate_left; (focus (intro w' hSw; have s0 : w'.cell? ⟨gx, 0, none⟩ = some (.int .i64 op) := (blk_cell hSw.1 0).trans rfl; have s1 : w'.cell? ⟨gx, 1, none⟩ = some (.string v1) := (blk_cell hSw.1 1).trans rfl; have s2 : w'.cell? ⟨gx, 2, none⟩ = some (.slice A' vl.length c') := (blk_cell hSw.1 2).trans rfl; have s3 : w'.cell? ⟨gx, 3, none⟩ = some (.int .u32 ↑z1) := (blk_cell hSw.1 3).trans rfl; have s4 : w'.cell? ⟨gx, 4, none⟩ = some (.int .i64 z2) := (blk_cell hSw.1 4).trans rfl; have s5 : w'.cell? ⟨gx, 5, none⟩ = some (.int .u64 ↑z4) := (blk_cell hSw.1 5).trans rfl; have s6 : w'.cell? ⟨gx, 6, none⟩ = some (.int .u64 0) := (blk_cell hSw.1 6).trans rfl; have s7 : w'.cell? ⟨gx, 7, none⟩ = some (.int .u64 0) := (blk_cell hSw.1 7).trans rfl; have s8 : w'.cell? ⟨gx, 8, none⟩ = some (.bool false) := (blk_cell hSw.1 8).trans rfl; have s9 : w'.cell? ⟨gx, 9, none⟩ = some (.bool false) := (blk_cell hSw.1 9).trans rfl; have c0 := hSw.2.1; have bl := hSw.2.2; clear bl; go_simp; (try with_reducible rfl); done)); (try simp only [Act.put, List.setIfInBounds_toArray, List.set_cons_zero, List.set_cons_succ]))
            (refine wpAnyH_take (i := 4) (v := ?_) (by simp only [List.getElem?_toArray, List.getElem?_cons_succ, List.getElem?_cons_zero]; rfl) (by kernel_rfl) (by kernel_rfl) (by kernel_rfl) (fun _ _ _ h => h) (Or.inl ⟨by rfl, ?_⟩) (by exact hHeld) ?_; rotate_left; (focus (intro w' hSw; have s0 : w'.cell? ⟨gx, 0, none⟩ = some (.int .i64 op) := (blk_cell hSw.1 0).trans rfl; have s1 : w'.cell? ⟨gx, 1, none⟩ = some (.string v1) := (blk_cell hSw.1 1).trans rfl; have s2 : w'.cell? ⟨gx, 2, none⟩ = some (.slice A' vl.length c') := (blk_cell hSw.1 2).trans rfl; have s3 : w'.cell? ⟨gx, 3, none⟩ = some (.int .u32 ↑z1) := (blk_cell hSw.1 3).trans rfl; have s4 : w'.cell? ⟨gx, 4, none⟩ = some (.int .i64 z2) := (blk_cell hSw.1 4).trans rfl; have s5 : w'.cell? ⟨gx, 5, none⟩ = some (.int .u64 ↑z4) := (blk_cell hSw.1 5).trans rfl; have s6 : w'.cell? ⟨gx, 6, none⟩ = some (.int .u64 0) := (blk_cell hSw.1 6).trans rfl; have s7 : w'.cell? ⟨gx, 7, none⟩ = some (.int .u64 0) := (blk_cell hSw.1 7).trans rfl; have s8 : w'.cell? ⟨gx, 8, none⟩ = some (.bool false) := (blk_cell hSw.1 8).trans rfl; have s9 : w'.cell? ⟨gx, 9, none⟩ = some (.bool false) := (blk_cell hSw.1 9).trans rfl; have c0 := hSw.2.1; have bl := hSw.2.2; clear bl; go_simp; (try with_reducible rfl); done)); (try simp only [Act.put, List.setIfInBounds_toArray, List.set_cons_zero, List.set_cons_succ]))
            (refine wpAnyH_take (i := 5) (v := ?_) (by simp only [List.getElem?_toArray, List.getElem?_cons_succ, List.getElem?_cons_zero]; rfl) (by kernel_rfl) (by kernel_rfl) (by kernel_rfl) (fun _ _ _ h => h) (Or.inl ⟨by rfl, ?_⟩) (by exact hHeld) ?_; rotate_left; (focus (intro w' hSw; have s0 : w'.cell? ⟨gx, 0, none⟩ = some (.int .i64 op) := (blk_cell hSw.1 0).trans rfl; have s1 : w'.cell? ⟨gx, 1, none⟩ = some (.string v1) := (blk_cell hSw.1 1).trans rfl; have s2 : w'.cell? ⟨gx, 2, none⟩ = some (.slice A' vl.length c') := (blk_cell hSw.1 2).trans rfl; have s3 : w'.cell? ⟨gx, 3, none⟩ = some (.int .u32 ↑z1) := (blk_cell hSw.1 3).trans rfl; have s4 : w'.cell? ⟨gx, 4, none⟩ = some (.int .i64 z2) := (blk_cell hSw.1 4).trans rfl; have s5 : w'.cell? ⟨gx, 5, none⟩ = some (.int .u64 ↑z4) := (blk_cell hSw.1 5).trans rfl; have s6 : w'.cell? ⟨gx, 6, none⟩ = some (.int .u64 0) := (blk_cell hSw.1 6).trans rfl; have s7 : w'.cell? ⟨gx, 7, none⟩ = some (.int .u64 0) := (blk_cell hSw.1 7).trans rfl; have s8 : w'.cell? ⟨gx, 8, none⟩ = some (.bool false) := (blk_cell hSw.1 8).trans rfl; have s9 : w'.cell? ⟨gx, 9, none⟩ = some (.bool false) := (blk_cell hSw.1 9).trans rfl; have c0 := hSw.2.1; have bl := hSw.2.2; clear bl; go_simp; (try with_reducible rfl); done)); (try simp only [Act.put, List.setIfInBounds_toArray, List.set_cons_zero, List.set_cons_succ]))
            (refine wpAnyH_take (i := 6) (v := ?_) (by simp only [List.getElem?_toArray, List.getElem?_cons_succ, List.getElem?_cons_zero]; rfl) (by kernel_rfl) (by kernel_rfl) (by kernel_rfl) (fun _ _ _ h => h) (Or.inl ⟨by rfl, ?_⟩) (by exact hHeld) ?_; rotate_left; (focus (intro w' hSw; have s0 : w'.cell? ⟨gx, 0, none⟩ = some (.int .i64 op) := (blk_cell hSw.1 0).trans rfl; have s1 : w'.cell? ⟨gx, 1, none⟩ = some (.string v1) := (blk_cell hSw.1 1).trans rfl; have s2 : w'.cell? ⟨gx, 2, none⟩ = some (.slice A' vl.length c') := (blk_cell hSw.1 2).trans rfl; have s3 : w'.cell? ⟨gx, 3, none⟩ = some (.int .u32 ↑z1) := (blk_cell hSw.1 3).trans rfl; have s4 : w'.cell? ⟨gx, 4, none⟩ = some (.int .i64 z2) := (blk_cell hSw.1 4).trans rfl; have s5 : w'.cell? ⟨gx, 5, none⟩ = some (.int .u64 ↑z4) := (blk_cell hSw.1 5).trans rfl; have s6 : w'.cell? ⟨gx, 6, none⟩ = some (.int .u64 0) := (blk_cell hSw.1 6).trans rfl; have s7 : w'.cell? ⟨gx, 7, none⟩ = some (.int .u64 0) := (blk_cell hSw.1 7).trans rfl; have s8 : w'.cell? ⟨gx, 8, none⟩ = some (.bool false) := (blk_cell hSw.1 8).trans rfl; have s9 : w'.cell? ⟨gx, 9, none⟩ = some (.bool false) := (blk_cell hSw.1 9).trans rfl; have c0 := hSw.2.1; have bl := hSw.2.2; clear bl; go_simp; (try with_reducible rfl); done)); (try simp only [Act.put, List.setIfInBounds_toArray, List.set_cons_zero, List.set_cons_succ]))
            (refine wpAnyH_take (i := 7) (v := ?_) (by simp only [List.getElem?_toArray, List.getElem?_cons_succ, List.getElem?_cons_zero]; rfl) (by kernel_rfl) (by kernel_rfl) (by kernel_rfl) (fun _ _ _ h => h) (Or.inl ⟨by rfl, ?_⟩) (by exact hHeld) ?_; rotate_left; (focus (intro w' hSw; have s0 : w'.cell? ⟨gx, 0, none⟩ = some (.int .i64 op) := (blk_cell hSw.1 0).trans rfl; have s1 : w'.cell? ⟨gx, 1, none⟩ = some (.string v1) := (blk_cell hSw.1 1).trans rfl; have s2 : w'.cell? ⟨gx, 2, none⟩ = some (.slice A' vl.length c') := (blk_cell hSw.1 2).trans rfl; have s3 : w'.cell? ⟨gx, 3, none⟩ = some (.int .u32 ↑z1) := (blk_cell hSw.1 3).trans rfl; have s4 : w'.cell? ⟨gx, 4, none⟩ = some (.int .i64 z2) := (blk_cell hSw.1 4).trans rfl; have s5 : w'.cell? ⟨gx, 5, none⟩ = some (.int .u64 ↑z4) := (blk_cell hSw.1 5).trans rfl; have s6 : w'.cell? ⟨gx, 6, none⟩ = some (.int .u64 0) := (blk_cell hSw.1 6).trans rfl; have s7 : w'.cell? ⟨gx, 7, none⟩ = some (.int .u64 0) := (blk_cell hSw.1 7).trans rfl; have s8 : w'.cell? ⟨gx, 8, none⟩ = some (.bool false) := (blk_cell hSw.1 8).trans rfl; have s9 : w'.cell? ⟨gx, 9, none⟩ = some (.bool false) := (blk_cell hSw.1 9).trans rfl; have c0 := hSw.2.1; have bl := hSw.2.2; clear bl; go_simp; (try with_reducible rfl); done)); (try simp only [Act.put, List.setIfInBounds_toArray, List.set_cons_zero, List.set_cons_succ]))
            (refine wpAnyH_take (i := 8) (v := ?_) (by simp only [List.getElem?_toArray, List.getElem?_cons_succ, List.getElem?_cons_zero]; rfl) (by kernel_rfl) (by kernel_rfl) (by kernel_rfl) (fun _ _ _ h => h) (Or.inl ⟨by rfl, ?_⟩) (by exact hHeld) ?_; rotate_left; (focus (intro w' hSw; have s0 : w'.cell? ⟨gx, 0, none⟩ = some (.int .i64 op) := (blk_cell hSw.1 0).trans rfl; have s1 : w'.cell? ⟨gx, 1, none⟩ = some (.string v1) := (blk_cell hSw.1 1).trans rfl; have s2 : w'.cell? ⟨gx, 2, none⟩ = some (.slice A' vl.length c') := (blk_cell hSw.1 2).trans rfl; have s3 : w'.cell? ⟨gx, 3, none⟩ = some (.int .u32 ↑z1) := (blk_cell hSw.1 3).trans rfl; have s4 : w'.cell? ⟨gx, 4, none⟩ = some (.int .i64 z2) := (blk_cell hSw.1 4).trans rfl; have s5 : w'.cell? ⟨gx, 5, none⟩ = some (.int .u64 ↑z4) := (blk_cell hSw.1 5).trans rfl; have s6 : w'.cell? ⟨gx, 6, none⟩ = some (.int .u64 0) := (blk_cell hSw.1 6).trans rfl; have s7 : w'.cell? ⟨gx, 7, none⟩ = some (.int .u64 0) := (blk_cell hSw.1 7).trans rfl; have s8 : w'.cell? ⟨gx, 8, none⟩ = some (.bool false) := (blk_cell hSw.1 8).trans rfl; have s9 : w'.cell? ⟨gx, 9, none⟩ = some (.bool false) := (blk_cell hSw.1 9).trans rfl; have c0 := hSw.2.1; have bl := hSw.2.2; clear bl; go_simp; (try with_reducible rfl); done)); (try simp only [Act.put, List.setIfInBounds_toArray, List.set_cons_zero, List.set_cons_succ]))
            (refine wpAnyH_take (i := 9) (v := ?_) (by simp only [List.getElem?_toArray, List.getElem?_cons_succ, List.getElem?_cons_zero]; rfl) (by kernel_rfl) (by kernel_rfl) (by kernel_rfl) (fun _ _ _ h => h) (Or.inl ⟨by rfl, ?_⟩) (by exact hHeld) ?_; rotate_left; (focus (intro w' hSw; have s0 : w'.cell? ⟨gx, 0, none⟩ = some (.int .i64 op) := (blk_cell hSw.1 0).trans rfl; have s1 : w'.cell? ⟨gx, 1, none⟩ = some (.string v1) := (blk_cell hSw.1 1).trans rfl; have s2 : w'.cell? ⟨gx, 2, none⟩ = some (.slice A' vl.length c') := (blk_cell hSw.1 2).trans rfl; have s3 : w'.cell? ⟨gx, 3, none⟩ = some (.int .u32 ↑z1) := (blk_cell hSw.1 3).trans rfl; have s4 : w'.cell? ⟨gx, 4, none⟩ = some (.int .i64 z2) := (blk_cell hSw.1 4).trans rfl; have s5 : w'.cell? ⟨gx, 5, none⟩ = some (.int .u64 ↑z4) := (blk_cell hSw.1 5).trans rfl; have s6 : w'.cell? ⟨gx, 6, none⟩ = some (.int .u64 0) := (blk_cell hSw.1 6).trans rfl; have s7 : w'.cell? ⟨gx, 7, none⟩ = some (.int .u64 0) := (blk_cell hSw.1 7).trans rfl; have s8 : w'.cell? ⟨gx, 8, none⟩ = some (.bool false) := (blk_cell hSw.1 8).trans rfl; have s9 : w'.cell? ⟨gx, 9, none⟩ = some (.bool false) := (blk_cell hSw.1 9).trans rfl; have c0 := hSw.2.1; have bl := hSw.2.2; clear bl; go_simp; (try with_reducible rfl); done)); (try simp only [Act.put, List.setIfInBounds_toArray, List.set_cons_zero, List.set_cons_succ]))
            (refine wpAnyH_take (i := 10) (v := ?_) (by simp only [List.getElem?_toArray, List.getElem?_cons_succ, List.getElem?_cons_zero]; rfl) (by kernel_rfl) (by kernel_rfl) (by kernel_rfl) (fun _ _ _ h => h) (Or.inl ⟨by rfl, ?_⟩) (by exact hHeld) ?_; rotate_left; (focus (intro w' hSw; have s0 : w'.cell? ⟨gx, 0, none⟩ = some (.int .i64 op) := (blk_cell hSw.1 0).trans rfl; have s1 : w'.cell? ⟨gx, 1, none⟩ = some (.string v1) := (blk_cell hSw.1 1).trans rfl; have s2 : w'.cell? ⟨gx, 2, none⟩ = some (.slice A' vl.length c') := (blk_cell hSw.1 2).trans rfl; have s3 : w'.cell? ⟨gx, 3, none⟩ = some (.int .u32 ↑z1) := (blk_cell hSw.1 3).trans rfl; have s4 : w'.cell? ⟨gx, 4, none⟩ = some (.int .i64 z2) := (blk_cell hSw.1 4).trans rfl; have s5 : w'.cell? ⟨gx, 5, none⟩ = some (.int .u64 ↑z4) := (blk_cell hSw.1 5).trans rfl; have s6 : w'.cell? ⟨gx, 6, none⟩ = some (.int .u64 0) := (blk_cell hSw.1 6).trans rfl; have s7 : w'.cell? ⟨gx, 7, none⟩ = some (.int .u64 0) := (blk_cell hSw.1 7).trans rfl; have s8 : w'.cell? ⟨gx, 8, none⟩ = some (.bool false) := (blk_cell hSw.1 8).trans rfl; have s9 : w'.cell? ⟨gx, 9, none⟩ = some (.bool false) := (blk_cell hSw.1 9).trans rfl; have c0 := hSw.2.1; have bl := hSw.2.2; clear bl; go_simp; (try with_reducible rfl); done)); (try simp only [Act.put, List.setIfInBounds_toArray, List.set_cons_zero, List.set_cons_succ]))
            refine wpAnyH_ready (rs := [11]) (by kernel_rfl) (by simp) ?_
            refine AllReadyH.cons (by simp only [List.getElem?_toArray, List.getElem?_cons_succ, List.getElem?_cons_zero]; rfl) (fun K hK => ?_) AllReadyH.nil
            go_simp
            (go_at_call 55; (with_reducible refine (HON.out _ hHeld.2.2 (own_move HO6.out (fun _ _ => rfl))).mono ?_); rintro e w5 ⟨⟨cs, rfl, hk⟩, hb⟩)
            have BR5 := Aside0.mk (blk_below BRd.out hb)
            have HB5 := Aside0.mk (below_step hHeld.2.2 hb)
            have HK := Aside0.mk hk
            have hgd := Aside0.mk (blk_lt BRd.out)
            have HS5 := Aside0.mk (show w5.heap[gx]? = some (.cells #[.int .i64 op, .string v1, .slice A' vl.length c', .int .u32 ↑z1, .int .i64 z2, .int .u64 ↑z4, .int .u64 0, .int .u64 0, .bool false, .bool false] 40 (0, 0)) ∧ w5.cell? ⟨b, o, none⟩ = some (.string v0) ∧ Below w.heap.size w w5 from ⟨blk_below hHeld.1 hb, (Below.cell HB5.out (p := ⟨b, o, none⟩) hb0).trans HC0.out, HB5.out⟩)
            refine hK.out _ _ HS5.out ?_
            clear hK K hHeld hk hb
            intro hHeld
            (try simp only [Act.put, List.setIfInBounds_toArray, List.set_cons_zero, List.set_cons_succ])
            refine wpAnyH_ready (rs := [12]) (by kernel_rfl) (by simp) ?_
            refine AllReadyH.cons (by simp only [List.getElem?_toArray, List.getElem?_cons_succ, List.getElem?_cons_zero]; rfl) (fun K hK => ?_) AllReadyH.nil
            refine step_store_F rfl 34 _ _ rfl (w.heap.size) 0 cs rfl rfl (fun u hu => kStep.K_one HK.out.now u hu) 34 _ cs.toArray BR5.out (by rw [kStep.K_len HK.out.now]; first | done | decide) (by rw [kStep.K_len HK.out.now]; kernel_rfl) (congrArg List.toArray (by rw [kStep.K_len HK.out.now]; exact List.append_nil cs)) ?_
            intro w6 hbk hst
            have BK := Aside0.mk hbk
            have HK2 := Aside0.mk (hst.hol HK.out (fun h => (h hgd.out).1 rfl))
            have HB6 := Aside0.mk (hst.up HB5.out (by omega))
            refine hK.out _ _ ⟨hst.blk (HS5.out.1) (by omega), (Below.cell HB6.out (p := ⟨b, o, none⟩) hb0).trans HC0.out, HB6.out⟩ ?_
            clear hK K hHeld hbk hst
            intro hHeld
            (try simp only [Act.put, List.setIfInBounds_toArray, List.set_cons_zero, List.set_cons_succ])
            (refine wpAnyH_done (by kernel_rfl) ?_ _; refine NoPanic.normal ?_)
            go_wp2
            (try simp only [Exit.inBlock, Exit.then]); refine bodyPost_ret (results_cell_row rfl _ _ (w.heap.size) 34 _ (0, 0) _ rfl BK.out Tryz.underlying34 rfl (by rw [List.size_toArray, kStep.K_len HK.out.now]; kernel_rfl)) rfl ?_
            exact ⟨⟨_, rfl, HK2.out.mono (fun k hk h3 => (hk (Nat.lt_of_lt_of_le h3 (Nat.le_of_lt (Nat.lt_of_le_of_lt (by omega) hgd.out)))).2 h3)⟩, HB6.out⟩
  · exact absurd HSEL.out.1 (by decide)
theorem rstores_walk (ws : List ByteArray) (A : Option Addr) (c : Nat) (quiet : Bool) (m : Nat) (l : List Int) (Ab : Option Addr) (cb : Nat) (v0 v1 v2 v3 v4 v5 : ByteArray) (F : Nat → Prop) (w : World) (hC : HolF F w (fun w2 => Kd.string.C w2 A ws.length ws)) (hc : ws.length ≤ c) (hs : ∀ k ∈ ws, k.size ≤ 1000000)
    (h0 : ws.getD 0 ⟨#[]⟩ = v0) (h1 : ws.getD 1 ⟨#[]⟩ = v1) (h2 : ws.getD 2 ⟨#[]⟩ = v2) (h3 : ws.getD 3 ⟨#[]⟩ = v3) (h4 : ws.getD 4 ⟨#[]⟩ = v4) (h5 : ws.getD 5 ⟨#[]⟩ = v5) (hn : (v0.toList == [99, 97, 115]) = true ∧ ws.length = 6 ∨ (v0.toList == [99, 97, 115]) = false ∧ ws.length = 5)
    (hCb : (Kd.int .u8).C w Ab l.length l) (hcb : l.length ≤ cb) (hl : l.length ≤ 1000000) (hm : m < l.length) :
    Calls Tryz.prog 30 #[.slice A ws.length c, .bool quiet, .int .i64 ((m : Int) + 1), .slice Ab l.length cb] w (StepR F w (storesR v0 quiet ((m : Int) + 1) (l.drop (m + 1)) (opL v0.toList) v1 v2 v3 v4 (decS (lastW ws.length v5)))) := by
  by_cases hb : badA (keyS v1) (decS v2).2 (decS v2).1 (sgnS v3).2 (decS v4).2 (decS (lastW ws.length v5)).2 = true
  · exact rstores_bad ws A c quiet m l Ab cb v0 v1 v2 v3 v4 v5 F w hC hc hs h0 h1 h2 h3 h4 h5 hn hCb hcb hl hm (.inl hb)
  by_cases hg : ((decS v4).1 : Int) > 1000
  · exact rstores_bad ws A c quiet m l Ab cb v0 v1 v2 v3 v4 v5 F w hC hc hs h0 h1 h2 h3 h4 h5 hn hCb hcb hl hm (.inr hg)
  by_cases he : (bodyS (l.drop (m + 1)) ((decS v4).1 : Int)).2.2 = 0
  · exact rstores_whole ws A c quiet m l Ab cb v0 v1 v2 v3 v4 v5 F w hC hc hs h0 h1 h2 h3 h4 h5 hn hCb hcb hl hm ⟨by simpa using hb, hg, he⟩
  · exact rstores_more ws A c quiet m l Ab cb v0 v1 v2 v3 v4 v5 F w hC hc hs h0 h1 h2 h3 h4 h5 hn hCb hcb hl hm ⟨by simpa using hb, hg, he⟩
end Go.Proofs.YtfljijpkeckeaaaGreatDoor.X
namespace Go.Proofs.YtfljijpkeckeaaaGreatDoor.X
open Go.RowKit Go.Proofs.YtfljijpkeckeaaaGreatDoorW.PrintWords Go.Proofs.YtfljijpkeckeaaaGreatDoorW.PrintMore
set_option linter.unusedVariables false
set_option linter.unusedSimpArgs false
set_option maxRecDepth 100000 in
set_option maxHeartbeats 1000000 in
theorem rst_no (ws : List ByteArray) (A : Option Addr) (c : Nat) (quiet : Bool) (used : Int) (Ab : Option Addr) (nb cb : Nat) (v0 : ByteArray) (F : Nat → Prop) (w : World) (hC : Kd.string.C w A ws.length ws) (hc : ws.length ≤ c) (hp : 0 < ws.length)
    (h0 : ws.getD 0 ⟨#[]⟩ = v0) (hn : (v0.toList == [99, 97, 115]) = true ∧ ws.length ≠ 6 ∨ (v0.toList == [99, 97, 115]) = false ∧ ws.length ≠ 5) :
    Calls Tryz.prog 30 #[.slice A ws.length c, .bool quiet, .int .i64 used, .slice Ab nb cb] w (StepR F w (stepF used (⟨#[69, 82, 82, 79, 82]⟩ : ByteArray))) := by
  have HB := Aside0.mk (Below.refl w.heap.size w)
  obtain ⟨b, o, rfl, hb0, hcell⟩ := S_cell hC 0 hp
  rw [h0, Nat.add_zero] at hcell
  obtain ⟨R, hR⟩ : ∃ R, stepF used (⟨#[69, 82, 82, 79, 82]⟩ : ByteArray) = R := ⟨_, rfl⟩
  rw [hR]
  have HO : Aside0 (∀ w', Calls Tryz.prog 24 #[.int .i64 used, .string (⟨#[69, 82, 82, 79, 82]⟩ : ByteArray)] w' (StepR (fun k => k < w.heap.size ∧ F k) w' R)) := ⟨fun w' => hR ▸ rfault_calls used _ _ w' (by decide)⟩
  have hpi : (0 : Int) < ↑ws.length := by omega
  obtain ⟨n, hN⟩ : ∃ n, ws.length = n := ⟨_, rfl⟩
  rw [hN] at hn hp hpi hc ⊢
  clear hR h0 hN hC
  rcases hn with ⟨hq, hn⟩ | ⟨hq, hn⟩
  · have hnb : ((n : Int) != 6) = true := by simp; omega
    clear hn
    go_enter Tryz.func30, Tryz.ntmps30
    go_wp2_with (first | (refine wpList_store_K HK.out.now rfl 34 _ _ rfl (w.heap.size) rfl rfl 34 _ BK.out (by kernel_rfl) rfl ?_; intro w2 hbk hlow hfar; have HK2 := Aside0.mk (hfar _ _ (fun h => absurd (h (by simp <;> omega)).1 (by omega)) HK.out); clear BK; have BK := Aside0.mk hbk; have HL := Aside0.mk hlow; clear hbk hlow hfar) | go_at_call 24; (with_reducible refine (HO.out _).mono ?_); rintro e w1 ⟨⟨cs, rfl, hk⟩, hb⟩; have BK := Aside0.mk (blk_below (g := w.heap.size) (by repeat (first | exact blk_at_new _ _ _ (by simp; done) | exact blk_at_new _ _ _ rfl | refine blk_alloc ?_ _ | refine blk_drew ?_ | refine blk_drewN ?_ _)) hb); have HBn := Aside0.mk (below_step (by repeat (first | (with_reducible first | exact HB.out | apply below_alloc | apply pw_below_drewN | apply below_drew1) | exact HB.out)) hb); clear HB; have HB := HBn; clear HBn; have HK := Aside0.mk hk; clear hb hk)
    ((try simp only [Exit.inBlock, Exit.then]); refine bodyPost_ret (results_cell_row rfl _ _ (w.heap.size) 34 _ (0, 0) _ rfl BK.out Tryz.underlying34 rfl (by rw [List.size_toArray, kStep.K_len HK.out.now]; kernel_rfl)) rfl ?_)
    exact ⟨⟨_, rfl, HK2.out.mono (fun k hk h3 => (hk (by simp; omega)).2)⟩, HB.out.trans (HL.out _ (by omega))⟩
  · have hnb : ((n : Int) != 5) = true := by simp; omega
    clear hn
    go_enter Tryz.func30, Tryz.ntmps30
    go_wp2_with (first | (refine wpList_store_K HK.out.now rfl 34 _ _ rfl (w.heap.size) rfl rfl 34 _ BK.out (by kernel_rfl) rfl ?_; intro w2 hbk hlow hfar; have HK2 := Aside0.mk (hfar _ _ (fun h => absurd (h (by simp <;> omega)).1 (by omega)) HK.out); clear BK; have BK := Aside0.mk hbk; have HL := Aside0.mk hlow; clear hbk hlow hfar) | go_at_call 24; (with_reducible refine (HO.out _).mono ?_); rintro e w1 ⟨⟨cs, rfl, hk⟩, hb⟩; have BK := Aside0.mk (blk_below (g := w.heap.size) (by repeat (first | exact blk_at_new _ _ _ (by simp; done) | exact blk_at_new _ _ _ rfl | refine blk_alloc ?_ _ | refine blk_drew ?_ | refine blk_drewN ?_ _)) hb); have HBn := Aside0.mk (below_step (by repeat (first | (with_reducible first | exact HB.out | apply below_alloc | apply pw_below_drewN | apply below_drew1) | exact HB.out)) hb); clear HB; have HB := HBn; clear HBn; have HK := Aside0.mk hk; clear hb hk)
    ((try simp only [Exit.inBlock, Exit.then]); refine bodyPost_ret (results_cell_row rfl _ _ (w.heap.size) 34 _ (0, 0) _ rfl BK.out Tryz.underlying34 rfl (by rw [List.size_toArray, kStep.K_len HK.out.now]; kernel_rfl)) rfl ?_)
    exact ⟨⟨_, rfl, HK2.out.mono (fun k hk h3 => (hk (by simp; omega)).2)⟩, HB.out.trans (HL.out _ (by omega))⟩
theorem dec0 : decS (⟨#[48]⟩ : ByteArray) = (0, true) := by decide
theorem rstores_calls (v : ByteArray) (ws : List ByteArray) (A : Option Addr) (c : Nat) (quiet : Bool) (m : Nat) (l : List Int) (Ab : Option Addr) (cb : Nat) (F : Nat → Prop) (w : World) (hC : HolF F w (fun w2 => Kd.string.C w2 A (v :: ws).length (v :: ws))) (hc : (v :: ws).length ≤ c) (hs : ∀ k ∈ v :: ws, k.size ≤ 1000000)
    (hCb : (Kd.int .u8).C w Ab l.length l) (hcb : l.length ≤ cb) (hl : l.length ≤ 1000000) (hm : m < l.length) (many : Nat) (hmany : many = if v = (⟨#[99, 97, 115]⟩ : ByteArray) then 5 else 4) :
    Calls Tryz.prog 30 #[.slice A (v :: ws).length c, .bool quiet, .int .i64 ((m : Int) + 1), .slice Ab l.length cb] w (StepR F w (storesS v quiet ((m : Int) + 1) ws (l.drop (m + 1)) (opL v.toList) many)) := by
  have hq : (v.toList == [99, 97, 115]) = decide (v = (⟨#[99, 97, 115]⟩ : ByteArray)) := by
    rw [Bool.eq_iff_iff, beq_iff_eq, decide_eq_true_eq]
    constructor
    · intro h
      rw [ByteArray.toList_eq] at h
      obtain ⟨⟨x⟩⟩ := v
      have h : x = [99, 97, 115] := h
      rw [h]
    · rintro rfl
      rw [ByteArray.toList_eq]
  unfold storesS
  by_cases hn : ws.length ≠ many
  · rw [if_pos hn]
    refine rst_no (v :: ws) A c quiet _ Ab l.length cb v F w hC.now hc (by rw [List.length_cons]; omega) rfl ?_
    rw [hq, List.length_cons]
    by_cases hv : v = (⟨#[99, 97, 115]⟩ : ByteArray)
    · rw [if_pos hv] at hmany
      exact .inl ⟨decide_eq_true hv, by omega⟩
    · rw [if_neg hv] at hmany
      exact .inr ⟨decide_eq_false hv, by omega⟩
  · rw [if_neg hn]
    have hn : ws.length = many := by omega
    have hcas : casS ws.length (ws.getD 4 ⟨#[]⟩) = decS (lastW (v :: ws).length ((v :: ws).getD 5 ⟨#[]⟩)) := by
      unfold casS lastW
      rw [List.length_cons, show (v :: ws).getD 5 ⟨#[]⟩ = ws.getD 4 ⟨#[]⟩ from rfl]
      by_cases h5 : ws.length = 5
      · rw [if_pos h5, if_pos (by omega)]
      · rw [if_neg h5, if_neg (by omega), dec0]
    rw [hcas]
    refine rstores_walk (v :: ws) A c quiet m l Ab cb v (ws.getD 0 ⟨#[]⟩) (ws.getD 1 ⟨#[]⟩) (ws.getD 2 ⟨#[]⟩) (ws.getD 3 ⟨#[]⟩) (ws.getD 4 ⟨#[]⟩) F w hC hc hs rfl rfl rfl rfl rfl rfl ?_ hCb hcb hl hm
    rw [hq, List.length_cons]
    by_cases hv : v = (⟨#[99, 97, 115]⟩ : ByteArray)
    · rw [if_pos hv] at hmany
      exact .inl ⟨decide_eq_true hv, by omega⟩
    · rw [if_neg hv] at hmany
      exact .inr ⟨decide_eq_false hv, by omega⟩
end Go.Proofs.YtfljijpkeckeaaaGreatDoor.X
namespace Go.Proofs.YtfljijpkeckeaaaGreatDoor.X
open Go.RowKit Go.Proofs.YtfljijpkeckeaaaGreatDoorW.PrintWords Go.Proofs.YtfljijpkeckeaaaGreatDoorW.PrintLast Go.Proofs.YtfljijpkeckeaaaGreatDoorW.PrintMore
attribute [local go_sem] max2_int min2_int max_two min_two max_three min_three max_four min_four
set_option linter.unusedVariables false
set_option linter.unusedSimpArgs false

mutual
def butteryref01_Words.l0 : Nat → ByteArray → List ByteArray → Int → Option (List ByteArray)
  | 0, _, _, _ => none
  | k + 1, x0, x3, x4 => if x4 < (x0.size : Int) then (butteryref01_Words.l1 k x0 x3 x4 x4) else (some x3)
def butteryref01_Words.l1 : Nat → ByteArray → List ByteArray → Int → Int → Option (List ByteArray)
  | 0, _, _, _, _ => none
  | k + 1, x0, x3, x4, x5 => if x5 < (x0.size : Int) then (if 0 ≤ x5 then (if (bt x0 x5) = 32 then (if x5 > x4 then (if 0 ≤ x4 then (if x4 ≤ x5 then (if x5 ≤ (x0.size : Int) then (if x3.length < 8796093022208 then (butteryref01_Words.l0 k x0 (x3 ++ [x0.extract (x4 : Int).toNat (x5 : Int).toNat]) (wrap64 (x5 + 1))) else (none)) else (none)) else (none)) else (none)) else (butteryref01_Words.l0 k x0 x3 (wrap64 (x5 + 1)))) else (butteryref01_Words.l1 k x0 x3 x4 (wrap64 (x5 + 1)))) else (none)) else (if x5 > x4 then (if 0 ≤ x4 then (if x4 ≤ x5 then (if x5 ≤ (x0.size : Int) then (if x3.length < 8796093022208 then (butteryref01_Words.l0 k x0 (x3 ++ [x0.extract (x4 : Int).toNat (x5 : Int).toNat]) (wrap64 (x5 + 1))) else (none)) else (none)) else (none)) else (none)) else (butteryref01_Words.l0 k x0 x3 (wrap64 (x5 + 1))))
end
def butteryref01_Words.f (k : Nat) (a0 : ByteArray) : Option (List ByteArray) := butteryref01_Words.l0 k a0 ([] : List ByteArray) 0
set_option maxHeartbeats 8000000 in
set_option maxRecDepth 100000 in
theorem butteryref01_Words.calls (k : Nat) (a0 : ByteArray) (r : List ByteArray) (w : World) (h : butteryref01_Words.f k a0 = some r) :
    Calls Tryz.prog 25 #[.string a0] w fun e w' => ∃ v0_ : Value, e = .returned (v0_) ∧ Kd.R Kd.string 9 w' w.heap.size (fun _ => True) v0_ r ∧ Below w.heap.size w w' := by
  have HB := Aside0.mk (Below.refl w.heap.size w)
  have H : (butteryref01_Words.l0 k a0 ([] : List ByteArray) 0) = some r := h
  clear h
  have H' := Aside0.mk H
  clear H
  go_enter Tryz.func25, Tryz.ntmps25
  go_wp2
  go_loopg [3, 4] k (fun kq v3 v4 w' => ∃ (x3_1 : List ByteArray) (x4_1 : Int), v4 = .int .i64 x4_1 ∧ Aside0 (butteryref01_Words.l0 kq a0 x3_1 x4_1 = some r) ∧ Aside0 (kq ≤ k) ∧ Aside0 (Kd.R Kd.string 9 w' w.heap.size (fun _ => True) v3 x3_1) ∧ Aside0 (Below w.heap.size w w'))
  case atStart => exact ⟨(([] : List ByteArray)), (0), (by first | rfl | (simp; done) | (simp [*]; done)), H', ⟨Nat.le_refl _⟩, ⟨by first | exact Kd.R_nil _ _ _ _ _ | exact Kd.N_nil _ _ _ _ _ | exact Kd.V_nil _ _ _ _ _ | exact Kd.Q_nil _ _ _ _ _ | exact Kd.S_nil _ _ _ _ _⟩, ⟨by repeat (first | (with_reducible first | exact HB.out | apply below_alloc | apply pw_below_drewN | apply below_drew1) | exact HB.out)⟩⟩
  case round =>
    clear H'
    obtain ⟨x3_1, x4_1, rfl, HA, HK1, HO_3, HB⟩ := hrel
    cases gk with
    | zero => exact absurd HA.out (by simp [butteryref01_Words.l0])
    | succ k1 =>
      have H := HA.out
      clear HA
      simp only [butteryref01_Words.l0] at H
      by_cases c2 : x4_1 < (a0.size : Int)
      · rw [if_pos c2] at H
        have c2b0 : decide (x4_1 < (a0.size : Int)) = true := decide_eq_true c2
        clear c2
        have H' := Aside0.mk H
        clear H
        go_wp2
        go_loopg [5] k1 (fun kq v5 w' => ∃ (x5_2 : Int), v5 = .int .i64 x5_2 ∧ Aside0 (butteryref01_Words.l1 kq a0 x3_1 x4_1 x5_2 = some r) ∧ Aside0 (kq ≤ k1) ∧ Aside0 (Kd.R Kd.string 9 w' w.heap.size (fun _ => True) u3 x3_1) ∧ Aside0 (Below w.heap.size w w'))
        case atStart => exact ⟨(x4_1), (by first | rfl | (simp; done) | (simp [*]; done)), H', ⟨Nat.le_refl _⟩, ⟨by (with_reducible repeat (first | apply Kd.R_alloc | apply Kd.R_drewN | apply Kd.R_drew)); exact HO_3.out⟩, ⟨by repeat (first | (with_reducible first | exact HB.out | apply below_alloc | apply pw_below_drewN | apply below_drew1) | exact HB.out)⟩⟩
        case round =>
          clear H'
          try clear c2
          try clear c2b0
          try clear p2
          obtain ⟨x5_2, rfl, HA, HK2, HO_3, HB⟩ := hrel
          cases gk with
          | zero => exact absurd HA.out (by simp [butteryref01_Words.l1])
          | succ k2 =>
            have H := HA.out
            clear HA
            simp only [butteryref01_Words.l1] at H
            by_cases c3 : x5_2 < (a0.size : Int)
            · rw [if_pos c3] at H
              have c3b0 : decide (x5_2 < (a0.size : Int)) = true := decide_eq_true c3
              clear c3
              by_cases c4 : 0 ≤ x5_2
              · rw [if_pos c4] at H
                have c4b0 : decide (0 ≤ x5_2) = true := decide_eq_true c4
                clear c4
                by_cases c6 : (bt a0 x5_2) = 32
                · rw [if_pos c6] at H
                  have c6b0 : ((bt a0 x5_2) == 32) = true := beq_iff_eq.mpr c6
                  have c6b1 : ((bt a0 x5_2) != 32) = false := bne_eq_false_iff_eq.mpr c6
                  clear c6
                  by_cases c7 : x5_2 > x4_1
                  · rw [if_pos c7] at H
                    have c7b0 : decide (x4_1 < x5_2) = true := decide_eq_true c7
                    clear c7
                    by_cases c8 : 0 ≤ x4_1
                    · rw [if_pos c8] at H
                      have c8b0 := eq_true c8
                      have c8b1 : decide (0 ≤ x4_1) = true := decide_eq_true c8
                      clear c8
                      by_cases c9 : x4_1 ≤ x5_2
                      · rw [if_pos c9] at H
                        have c9b0 := eq_true c9
                        have c9b1 : decide (x4_1 ≤ x5_2) = true := decide_eq_true c9
                        clear c9
                        by_cases c10 : x5_2 ≤ (a0.size : Int)
                        · rw [if_pos c10] at H
                          have c10b0 := eq_true c10
                          have c10b1 : decide (x5_2 ≤ (a0.size : Int)) = true := decide_eq_true c10
                          clear c10
                          by_cases c11 : x3_1.length < 8796093022208
                          · rw [if_pos c11] at H
                            have LMc11 := Aside0.mk c11
                            clear c11
                            obtain ⟨y417, hy417⟩ : ∃ y_ : List ByteArray, y_ = (x3_1 ++ [a0.extract (x4_1 : Int).toNat (x5_2 : Int).toNat]) := ⟨_, rfl⟩
                            replace H : (butteryref01_Words.l0 k2 a0 y417 (wrap64 (x5_2 + 1))) = some r := by first | (rw [hy417]; with_reducible exact H) | (have H2_ := (Option.bind_some _ _).symm.trans H; rw [hy417]; with_reducible exact H2_) | (have H2_ := (Option.bind_some _ _).symm.trans H; with_reducible exact H2_) | with_reducible exact H | (rw [hy417]; exact H) | exact H
                            have Ny417 := Aside0.mk hy417
                            clear hy417
                            have H' := Aside0.mk H
                            clear H
                            have p5 : 0 ≤ (x5_2 : Int) := of_decide_eq_true (by first | (with_reducible assumption) | assumption)
                            have q5 : x5_2 < (a0.size : Int) := of_decide_eq_true (by first | (with_reducible assumption) | assumption)
                            have hx5 := bt_at a0 x5_2
                            replace p5 := eq_true p5
                            replace q5 := eq_true q5
                            go_wp2_with (first | ((with_reducible refine gate_builtin (b := .append) (xs := #[.tmp 26, .tmp 31]) rfl ?_); at_builtin; refine Kd.R_append Kd.string (w0 := w) w.heap.size rfl (.tmp 26) (.tmp 31) 27 9 (.string ⟨#[]⟩) 16 rfl Tryz.underlying27 info9 rfl (by decide) (by omega) u3 x3_1 (a0.extract (x4_1 : Int).toNat (x5_2 : Int).toNat) [.string (a0.extract (x4_1 : Int).toNat (x5_2 : Int).toNat)] (fun _ => True) (fun _ => False) rfl rfl ?aP (fun _ hk => hk.elim) ?aF ?aO ?aB ?aS ?aL ?_; (case aP => exact rfl); (case aB => exact (by repeat (first | (with_reducible first | exact HB.out | apply below_alloc | apply pw_below_drewN | apply below_drew1) | exact HB.out))); (case aF => exact (fun _ _ => trivial)); (case aO => exact (by (with_reducible repeat (first | apply Kd.R_alloc | apply Kd.R_drewN | apply Kd.R_drew)); exact HO_3.out)); (case aS => exact (below_size (by repeat (first | (with_reducible first | exact HB.out | apply below_alloc | apply pw_below_drewN | apply below_drew1) | exact HB.out)))); (case aL => have := LMc11.out; omega); intro v418 w12 ho hb hg hat; rw [← Ny417.out] at ho; have n0_ := Aside0.mk (hb); have n1_ := Aside0.mk (ho); clear HB; clear HO_3; have HB := n0_; have HO419 := n1_; clear n0_ n1_; clear ho hb hg hat))
                            go_roundg k2
                            case measure => have := HK1.out; have := HK2.out; omega
                            case rel => exact ⟨(y417), (wrap64 (x5_2 + 1)), (by first | rfl | (simp; done) | (simp [*]; done)), H', ⟨by have := HK1.out; have := HK2.out; omega⟩, ⟨by (with_reducible repeat (first | apply Kd.R_alloc | apply Kd.R_drewN | apply Kd.R_drew)); exact HO419.out⟩, ⟨by repeat (first | (with_reducible first | exact HB.out | apply below_alloc | apply pw_below_drewN | apply below_drew1) | exact HB.out)⟩⟩
                          · rw [if_neg c11] at H
                            exact absurd H (by simp)
                        · rw [if_neg c10] at H
                          exact absurd H (by simp)
                      · rw [if_neg c9] at H
                        exact absurd H (by simp)
                    · rw [if_neg c8] at H
                      exact absurd H (by simp)
                  · rw [if_neg c7] at H
                    have c7b0 : decide (x4_1 < x5_2) = false := decide_eq_false c7
                    clear c7
                    have H' := Aside0.mk H
                    clear H
                    have p5 : 0 ≤ (x5_2 : Int) := of_decide_eq_true (by first | (with_reducible assumption) | assumption)
                    have q5 : x5_2 < (a0.size : Int) := of_decide_eq_true (by first | (with_reducible assumption) | assumption)
                    have hx5 := bt_at a0 x5_2
                    replace p5 := eq_true p5
                    replace q5 := eq_true q5
                    go_wp2
                    go_roundg k2
                    case measure => have := HK1.out; have := HK2.out; omega
                    case rel => exact ⟨(x3_1), (wrap64 (x5_2 + 1)), (by first | rfl | (simp; done) | (simp [*]; done)), H', ⟨by have := HK1.out; have := HK2.out; omega⟩, ⟨by (with_reducible repeat (first | apply Kd.R_alloc | apply Kd.R_drewN | apply Kd.R_drew)); exact HO_3.out⟩, ⟨by repeat (first | (with_reducible first | exact HB.out | apply below_alloc | apply pw_below_drewN | apply below_drew1) | exact HB.out)⟩⟩
                · rw [if_neg c6] at H
                  have c6b0 : ((bt a0 x5_2) == 32) = false := beq_eq_false_iff_ne.mpr c6
                  have c6b1 : ((bt a0 x5_2) != 32) = true := bne_iff_ne.mpr c6
                  have H' := Aside0.mk H
                  clear H
                  have p5 : 0 ≤ (x5_2 : Int) := of_decide_eq_true (by first | (with_reducible assumption) | assumption)
                  have q5 : x5_2 < (a0.size : Int) := of_decide_eq_true (by first | (with_reducible assumption) | assumption)
                  have hx5 := bt_at a0 x5_2
                  replace p5 := eq_true p5
                  replace q5 := eq_true q5
                  go_wp2
                  go_roundg k2
                  case measure => have := HK1.out; have := HK2.out; omega
                  case rel => exact ⟨(wrap64 (x5_2 + 1)), (by first | rfl | (simp; done) | (simp [*]; done)), H', ⟨by have := HK1.out; have := HK2.out; omega⟩, ⟨by (with_reducible repeat (first | apply Kd.R_alloc | apply Kd.R_drewN | apply Kd.R_drew)); exact HO_3.out⟩, ⟨by repeat (first | (with_reducible first | exact HB.out | apply below_alloc | apply pw_below_drewN | apply below_drew1) | exact HB.out)⟩⟩
              · rw [if_neg c4] at H
                exact absurd H (by simp)
            · rw [if_neg c3] at H
              have c3b0 : decide (x5_2 < (a0.size : Int)) = false := decide_eq_false c3
              clear c3
              by_cases c13 : x5_2 > x4_1
              · rw [if_pos c13] at H
                have c13b0 : decide (x4_1 < x5_2) = true := decide_eq_true c13
                clear c13
                by_cases c14 : 0 ≤ x4_1
                · rw [if_pos c14] at H
                  have c14b0 := eq_true c14
                  have c14b1 : decide (0 ≤ x4_1) = true := decide_eq_true c14
                  clear c14
                  by_cases c15 : x4_1 ≤ x5_2
                  · rw [if_pos c15] at H
                    have c15b0 := eq_true c15
                    have c15b1 : decide (x4_1 ≤ x5_2) = true := decide_eq_true c15
                    clear c15
                    by_cases c16 : x5_2 ≤ (a0.size : Int)
                    · rw [if_pos c16] at H
                      have c16b0 := eq_true c16
                      have c16b1 : decide (x5_2 ≤ (a0.size : Int)) = true := decide_eq_true c16
                      clear c16
                      by_cases c17 : x3_1.length < 8796093022208
                      · rw [if_pos c17] at H
                        have LMc17 := Aside0.mk c17
                        clear c17
                        obtain ⟨y420, hy420⟩ : ∃ y_ : List ByteArray, y_ = (x3_1 ++ [a0.extract (x4_1 : Int).toNat (x5_2 : Int).toNat]) := ⟨_, rfl⟩
                        replace H : (butteryref01_Words.l0 k2 a0 y420 (wrap64 (x5_2 + 1))) = some r := by first | (rw [hy420]; with_reducible exact H) | (have H2_ := (Option.bind_some _ _).symm.trans H; rw [hy420]; with_reducible exact H2_) | (have H2_ := (Option.bind_some _ _).symm.trans H; with_reducible exact H2_) | with_reducible exact H | (rw [hy420]; exact H) | exact H
                        have Ny420 := Aside0.mk hy420
                        clear hy420
                        have H' := Aside0.mk H
                        clear H
                        go_wp2_with (first | ((with_reducible refine gate_builtin (b := .append) (xs := #[.tmp 26, .tmp 31]) rfl ?_); at_builtin; refine Kd.R_append Kd.string (w0 := w) w.heap.size rfl (.tmp 26) (.tmp 31) 27 9 (.string ⟨#[]⟩) 16 rfl Tryz.underlying27 info9 rfl (by decide) (by omega) u3 x3_1 (a0.extract (x4_1 : Int).toNat (x5_2 : Int).toNat) [.string (a0.extract (x4_1 : Int).toNat (x5_2 : Int).toNat)] (fun _ => True) (fun _ => False) rfl rfl ?aP (fun _ hk => hk.elim) ?aF ?aO ?aB ?aS ?aL ?_; (case aP => exact rfl); (case aB => exact (by repeat (first | (with_reducible first | exact HB.out | apply below_alloc | apply pw_below_drewN | apply below_drew1) | exact HB.out))); (case aF => exact (fun _ _ => trivial)); (case aO => exact (by (with_reducible repeat (first | apply Kd.R_alloc | apply Kd.R_drewN | apply Kd.R_drew)); exact HO_3.out)); (case aS => exact (below_size (by repeat (first | (with_reducible first | exact HB.out | apply below_alloc | apply pw_below_drewN | apply below_drew1) | exact HB.out)))); (case aL => have := LMc17.out; omega); intro v421 w18 ho hb hg hat; rw [← Ny420.out] at ho; have n0_ := Aside0.mk (hb); have n1_ := Aside0.mk (ho); clear HB; clear HO_3; have HB := n0_; have HO422 := n1_; clear n0_ n1_; clear ho hb hg hat))
                        go_roundg k2
                        case measure => have := HK1.out; have := HK2.out; omega
                        case rel => exact ⟨(y420), (wrap64 (x5_2 + 1)), (by first | rfl | (simp; done) | (simp [*]; done)), H', ⟨by have := HK1.out; have := HK2.out; omega⟩, ⟨by (with_reducible repeat (first | apply Kd.R_alloc | apply Kd.R_drewN | apply Kd.R_drew)); exact HO422.out⟩, ⟨by repeat (first | (with_reducible first | exact HB.out | apply below_alloc | apply pw_below_drewN | apply below_drew1) | exact HB.out)⟩⟩
                      · rw [if_neg c17] at H
                        exact absurd H (by simp)
                    · rw [if_neg c16] at H
                      exact absurd H (by simp)
                  · rw [if_neg c15] at H
                    exact absurd H (by simp)
                · rw [if_neg c14] at H
                  exact absurd H (by simp)
              · rw [if_neg c13] at H
                have c13b0 : decide (x4_1 < x5_2) = false := decide_eq_false c13
                clear c13
                have H' := Aside0.mk H
                clear H
                go_wp2
                go_roundg k2
                case measure => have := HK1.out; have := HK2.out; omega
                case rel => exact ⟨(x3_1), (wrap64 (x5_2 + 1)), (by first | rfl | (simp; done) | (simp [*]; done)), H', ⟨by have := HK1.out; have := HK2.out; omega⟩, ⟨by (with_reducible repeat (first | apply Kd.R_alloc | apply Kd.R_drewN | apply Kd.R_drew)); exact HO_3.out⟩, ⟨by repeat (first | (with_reducible first | exact HB.out | apply below_alloc | apply pw_below_drewN | apply below_drew1) | exact HB.out)⟩⟩
      · rw [if_neg c2] at H
        have c2b0 : decide (x4_1 < (a0.size : Int)) = false := decide_eq_false c2
        clear c2
        obtain rfl := Option.some.inj H
        go_wp2
        go_ret
        exact ⟨_, by first | rfl | (simp <;> rfl) | (simp [*] <;> rfl), by (with_reducible repeat (first | apply Kd.R_alloc | apply Kd.R_drewN | apply Kd.R_drew)); exact HO_3.out, by repeat (first | (with_reducible first | exact HB.out | apply below_alloc | apply pw_below_drewN | apply below_drew1) | exact HB.out)⟩

end Go.Proofs.YtfljijpkeckeaaaGreatDoor.X
namespace Go.Proofs.YtfljijpkeckeaaaGreatDoor.X
set_option linter.unusedVariables false
set_option linter.unusedSimpArgs false
def NoB (w : List UInt8) : Prop := w ≠ [] ∧ ∀ b ∈ w, b ≠ 32
def jn : List (List UInt8) → List UInt8
  | [] => []
  | [w] => w
  | w :: v :: r => w ++ 32 :: jn (v :: r)
theorem trimL_head (b : UInt8) (l : List UInt8) (h : b ≠ 32) : trimL (b :: l) = b :: l := by
  unfold trimL Lib.trimLeftB
  simp [List.dropWhile_cons, h]
theorem headW_app (w r : List UInt8) (h : ∀ b ∈ w, b ≠ 32) : headW (w ++ 32 :: r) = w := by
  induction w with
  | nil => simp [headW]
  | cons b w ih =>
    have hb := h b (by simp)
    have := ih (fun c hc => h c (by simp [hc]))
    unfold headW at this ⊢
    simp [hb, this]
theorem headW_all (w : List UInt8) (h : ∀ b ∈ w, b ≠ 32) : headW w = w := by
  induction w with
  | nil => rfl
  | cons b w ih =>
    have hb := h b (by simp)
    have := ih (fun c hc => h c (by simp [hc]))
    unfold headW at this ⊢
    simp [hb, this]
theorem wordsL_jn : ∀ (ws : List (List UInt8)), (∀ w ∈ ws, NoB w) → wordsL (jn ws) = ws
  | [], _ => wordsL_nil _ rfl
  | [w], h => by
    obtain ⟨h1, h2⟩ := h w (by simp)
    obtain ⟨b, r, rfl⟩ := List.exists_cons_of_ne_nil h1
    show wordsL (b :: r) = _
    have ht := trimL_head b r (h2 b (by simp))
    rw [wordsL_cons _ (by rw [ht]; simp), ht, headW_all _ h2]
    have : tailW (b :: r) = [] := by
      unfold tailW
      rw [headW_all _ h2]
      exact List.drop_eq_nil_of_le (by omega)
    rw [this, wordsL_nil _ rfl]
  | w :: v :: rs, h => by
    have ih := wordsL_jn (v :: rs) (fun x hx => h x (by simp at hx ⊢; right; exact hx))
    obtain ⟨h1, h2⟩ := h w (by simp)
    obtain ⟨b, r, rfl⟩ := List.exists_cons_of_ne_nil h1
    show wordsL ((b :: r) ++ 32 :: jn (v :: rs)) = _
    have ht : trimL ((b :: r) ++ 32 :: jn (v :: rs)) = (b :: r) ++ 32 :: jn (v :: rs) := trimL_head b _ (h2 b (by simp))
    rw [wordsL_cons _ (by rw [ht]; simp), ht, headW_app _ _ h2]
    have : tailW ((b :: r) ++ 32 :: jn (v :: rs)) = jn (v :: rs) := by
      unfold tailW
      rw [headW_app _ _ h2, show (b :: r) ++ 32 :: jn (v :: rs) = ((b :: r) ++ [32]) ++ jn (v :: rs) by simp, List.drop_left' (by simp)]
    rw [this, ih]
theorem headW_ne (l : List UInt8) : ∀ c ∈ headW l, c ≠ 32 := by
  induction l with
  | nil => intro c hc; simp [headW] at hc
  | cons b l ih =>
    intro c hc
    unfold headW at hc ih
    by_cases hb : b = 32
    · simp [hb] at hc
    · have hb2 : (b != 32) = true := by simp [hb]
      rw [List.takeWhile_cons, hb2] at hc
      rcases List.mem_cons.1 hc with rfl | hc
      · exact hb
      · exact ih c hc
theorem headW_stop (m : List UInt8) (h : (headW m).length < m.length) : m[(headW m).length] = 32 := by
  induction m with
  | nil => simp at h
  | cons b m ih =>
    by_cases hb : b = 32
    · subst hb
      simp [headW]
    · have e : headW (b :: m) = b :: headW m := by unfold headW; simp [hb]
      have h2 : (headW m).length < m.length := by rw [e] at h; simpa using h
      have := ih h2
      simp only [e, List.length_cons, List.getElem_cons_succ]
      exact this
theorem headW_in (m : List UInt8) (i : Nat) (h : i < (headW m).length) : m[i]'(by have := headW_len m; omega) ≠ 32 := by
  have h1 := headW_ne m (headW m)[i] (List.getElem_mem _)
  have h2 : (headW m)[i] = m[i]'(by have := headW_len m; omega) := by
    have e := headW_take m
    have h3 : (m.take (headW m).length)[i]? = (headW m)[i]? := by rw [e]
    rw [List.getElem?_take_of_lt h, List.getElem?_eq_getElem h, List.getElem?_eq_getElem (by have := headW_len m; omega)] at h3
    exact (Option.some.inj h3).symm
  rw [← h2]
  exact h1
theorem wordsL_blank (r : List UInt8) : wordsL (32 :: r) = wordsL r := by
  have e : trimL (32 :: r) = trimL r := by unfold trimL Lib.trimLeftB; simp
  by_cases h : trimL r = []
  · rw [wordsL_nil _ h, wordsL_nil _ (by rw [e]; exact h)]
  · rw [wordsL_cons _ h, wordsL_cons _ (by rw [e]; exact h), e]
theorem wordsL_step (m : List UInt8) (hm : m ≠ []) : wordsL m = (if 0 < (headW m).length then [headW m] else []) ++ wordsL (tailW m) := by
  obtain ⟨b, r, rfl⟩ := List.exists_cons_of_ne_nil hm
  by_cases hb : b = 32
  · subst hb
    have e : headW (32 :: r) = [] := by simp [headW]
    have e2 : tailW (32 :: r) = r := by unfold tailW; rw [e]; rfl
    rw [wordsL_blank, e, e2]
    simp
  · have e : headW (b :: r) = b :: headW r := by unfold headW; simp [hb]
    have ht := trimL_head b r hb
    rw [wordsL_cons _ (by rw [ht]; simp), ht, if_pos (by rw [e]; simp)]
    rfl
end Go.Proofs.YtfljijpkeckeaaaGreatDoor.X
namespace Go.Proofs.YtfljijpkeckeaaaGreatDoor.X
open Go.RowKit Go.Proofs.YtfljijpkeckeaaaGreatDoorW.PrintWords Go.Proofs.YtfljijpkeckeaaaGreatDoorW.PrintMore
set_option linter.unusedVariables false
set_option linter.unusedSimpArgs false
theorem bt_l (s : ByteArray) (j : Nat) (h : j < s.data.toList.length) : bt s (j : Nat) = ((s.data.toList[j]).toNat : Int) := by
  have h2 : j < s.size := h
  rw [← bt_at s j (by simpa using h2)]
  rfl
section
variable (s : ByteArray) (hs : s.size ≤ 5000)
include hs
theorem rl1 (i : Nat) (acc r : List ByteArray) (hi : i ≤ s.size) (h : Nat) (hh : (headW (s.data.toList.drop i)).length = h) (ha : acc.length ≤ 5000)
    (hres : Ev (fun k => if 0 < h then butteryref01_Words.l0 k s (acc ++ [s.extract i (i + h)]) ((i + h + 1 : Nat) : Int) else butteryref01_Words.l0 k s acc ((i + h + 1 : Nat) : Int)) r) :
    ∀ (d j : Nat), j + d = i + h → i ≤ j → Ev (fun k => butteryref01_Words.l1 k s acc i j) r
  | 0, j, hd, hij => by
    have hm : s.data.toList.length = s.size := rfl
    have hle := headW_len (s.data.toList.drop i)
    rw [hh, List.length_drop] at hle
    obtain rfl : j = i + h := by omega
    refine Ev.step (fun k => by rw [butteryref01_Words.l1]) ?_
    have hw : wrap64 (((i + h : Nat) : Int) + 1) = ((i + h + 1 : Nat) : Int) := by rw [w64 _ (by omega) (by omega)]; omega
    have tl : Ev (fun k => (if ((i + h : Nat) : Int) > (i : Int) then (if 0 ≤ (i : Int) then (if (i : Int) ≤ ((i + h : Nat) : Int) then (if ((i + h : Nat) : Int) ≤ (s.size : Int) then (if acc.length < 8796093022208 then (butteryref01_Words.l0 k s (acc ++ [s.extract (i : Int).toNat ((i + h : Nat) : Int).toNat]) (wrap64 (((i + h : Nat) : Int) + 1))) else (none)) else (none)) else (none)) else (none)) else (butteryref01_Words.l0 k s acc (wrap64 (((i + h : Nat) : Int) + 1))))) r := by
      rw [hw, Int.toNat_natCast, Int.toNat_natCast]
      by_cases h0 : 0 < h
      · simp only [if_pos h0] at hres
        exact Ev.pos (by omega) (Ev.pos (by omega) (Ev.pos (by omega) (Ev.pos (by omega) (Ev.pos (by omega) hres))))
      · simp only [if_neg h0] at hres
        exact Ev.neg (by omega) hres
    by_cases hlt : i + h < s.size
    · refine Ev.pos (by omega) (Ev.pos (by omega) (Ev.pos ?_ tl))
      rw [bt_l s (i + h) (by omega)]
      have h3 := headW_stop (s.data.toList.drop i) (by rw [hh, List.length_drop]; omega)
      rw [List.getElem_drop] at h3
      have h4 : s.data.toList[i + h]'(by omega) = 32 := by
        rw [← h3]
        congr 1
        rw [hh]
      rw [h4]
      rfl
    · exact Ev.neg (by omega) tl
  | d + 1, j, hd, hij => by
    have hm : s.data.toList.length = s.size := rfl
    have hle := headW_len (s.data.toList.drop i)
    rw [hh, List.length_drop] at hle
    refine Ev.step (fun k => by rw [butteryref01_Words.l1]) ?_
    refine Ev.pos (by omega) (Ev.pos (by omega) (Ev.neg ?_ ?_))
    · rw [bt_l s j (by omega)]
      have h3 := headW_in (s.data.toList.drop i) (j - i) (by rw [hh]; omega)
      rw [List.getElem_drop] at h3
      have h4 : s.data.toList[j]'(by omega) ≠ 32 := fun e => h3 (by
        rw [← e]
        congr 1
        omega)
      intro e
      apply h4
      apply UInt8.toNat_inj.1
      have : ((s.data.toList[j]'(by omega)).toNat : Int) = 32 := e
      show (s.data.toList[j]'(by omega)).toNat = 32
      omega
    · rw [w64 _ (by omega) (by omega)]
      exact rl1 i acc r hi h hh ha hres d (j + 1) (by omega) (by omega)
theorem rl0 : ∀ (d i : Nat) (acc : List ByteArray), s.size + 1 - i ≤ d → i ≤ s.size + 1 → acc.length ≤ i → Ev (fun k => butteryref01_Words.l0 k s acc i) (acc ++ (wordsL (s.data.toList.drop i)).map baOf)
  | 0, i, acc, hd, hi, ha => by
    refine Ev.step (fun k => by rw [butteryref01_Words.l0]) (Ev.neg (by omega) ?_)
    have hm : s.data.toList.length = s.size := rfl
    rw [List.drop_eq_nil_of_le (by omega), wordsL_nil _ rfl]
    exact ev_to (Ev.now _) (by simp)
  | d + 1, i, acc, hd, hi, ha => by
    have hm : s.data.toList.length = s.size := rfl
    refine Ev.step (fun k => by rw [butteryref01_Words.l0]) ?_
    by_cases hlt : i < s.size
    · refine Ev.pos (by omega) ?_
      obtain ⟨h, hh⟩ : ∃ h, (headW (s.data.toList.drop i)).length = h := ⟨_, rfl⟩
      have hle := headW_len (s.data.toList.drop i)
      rw [hh, List.length_drop] at hle
      refine rl1 s hs i acc _ (by omega) h hh (by omega) ?_ h i (by omega) (Nat.le_refl _)
      have hst := wordsL_step (s.data.toList.drop i) (fun e => by
        have := congrArg List.length e
        rw [List.length_drop, List.length_nil] at this
        omega)
      have ht : tailW (s.data.toList.drop i) = s.data.toList.drop (i + h + 1) := by
        unfold tailW
        rw [hh, List.drop_drop]
        rfl
      rw [hh, ht] at hst
      by_cases h0 : 0 < h
      · simp only [if_pos h0] at hst ⊢
        refine ev_to (rl0 d (i + h + 1) _ (by omega) (by omega) (by rw [List.length_append, List.length_cons, List.length_nil]; omega)) ?_
        rw [hst]
        have e : s.extract i (i + h) = baOf (headW (s.data.toList.drop i)) := by
          rw [← headW_take, hh]
          obtain ⟨⟨l⟩⟩ := s
          apply ByteArray.ext
          simp [ByteArray.data_extract, baOf]
        rw [e]
        simp
      · simp only [if_neg h0] at hst ⊢
        refine ev_to (rl0 d (i + h + 1) _ (by omega) (by omega) (by omega)) ?_
        rw [hst]
        rfl
    · refine Ev.neg (by omega) ?_
      rw [List.drop_eq_nil_of_le (by omega), wordsL_nil _ rfl]
      exact ev_to (Ev.now _) (by simp)
theorem rwords_ev : Ev (fun k => butteryref01_Words.f k s) (wordsB s) := by
  unfold butteryref01_Words.f
  exact ev_to (rl0 s hs (s.size + 1) 0 [] (by omega) (by omega) (by simp)) (by simp [wordsB])
end
def RowS (base : Nat) (l : List ByteArray) (W : World) (v : Value) : Prop := Kd.string.R 9 W base (fun _ => True) v l
theorem rwords_w (s : ByteArray) (hs : s.size ≤ 5000) (w : World) : Calls Tryz.prog 25 #[.string s] w fun e w' => ∃ v, e = .returned v ∧ RowS w.heap.size (wordsB s) w' v ∧ Below w.heap.size w w' := by
  obtain ⟨K, hK⟩ := rwords_ev s hs
  exact (butteryref01_Words.calls K s _ w (hK K (Nat.le_refl _))).mono fun e w' ⟨v, he, hR, hb⟩ => ⟨v, he, hR, hb⟩
theorem RowS.hol {base : Nat} {l : List ByteArray} {W : World} {v : Value} (h : RowS base l W v) {F : Nat → Prop} (hF : ∀ k, base ≤ k → F k) : HolF F W (fun w2 => RowS base l w2 v) := fun w2 _ hk =>
  Kd.R_mono (Kd.R_step (Kd.R_bound h) (fun k ho hlt => hk k hlt (hF k ho.2.1))) (fun _ hk => hk.1)
theorem RowS.read {base : Nat} {l : List ByteArray} {W : World} {v : Value} (h : RowS base l W v) : ∃ A c, v = .slice A l.length c ∧ l.length ≤ c ∧ Kd.string.C W A l.length l := Kd.R_reads h
theorem RowS.C {base n c : Nat} {A : Option Addr} {l : List ByteArray} {W : World} (h : RowS base l W (.slice A n c)) : Kd.string.C W A l.length l := by
  obtain ⟨h1, h2, h3⟩ := Kd.R_reads' h
  exact h3
theorem RowS.below {base : Nat} {l : List ByteArray} {W W' : World} {v : Value} (h : RowS base l W v) (hb : Below W.heap.size W W') : RowS base l W' v := Kd.R_below h hb
end Go.Proofs.YtfljijpkeckeaaaGreatDoor.X
namespace Go.Proofs.YtfljijpkeckeaaaGreatDoor.X
open Go.RowKit Go.Proofs.YtfljijpkeckeaaaGreatDoorW.PrintWords Go.Proofs.YtfljijpkeckeaaaGreatDoorW.PrintMore
set_option linter.unusedVariables false
set_option linter.unusedSimpArgs false
def parseS (l : List Int) : Step :=
  if (lineS l).2.2 = 3 then stepM else if (lineS l).2.2 = 4 then stepFS (lineS l).2.1 longT 0 (l.getD ((lineS l).2.1.toNat - 1) 0 != 10)
  else parseW (lineS l).2.1 (l.drop (lineS l).2.1.toNat) (wordsB (lineS l).1)
theorem lineS_cases (l : List Int) : lineS l = (⟨#[]⟩, 0, 3) ∨ (∃ m : Nat, m < l.length ∧ lineS l = (⟨#[]⟩, (m : Int) + 1, 4)) ∨ (∃ (m : Nat) (t : ByteArray), m < l.length ∧ lineS l = (t, (m : Int) + 1, 0) ∧ t.size ≤ 2048) := by
  unfold lineS
  cases h : nlI l with
  | none =>
    dsimp only
    by_cases h1 : l.length > 2049
    · rw [if_pos h1]
      refine .inr (.inl ⟨l.length - 1, by omega, ?_⟩)
      have : ((l.length - 1 : Nat) : Int) + 1 = l.length := by omega
      rw [this]
    · rw [if_neg h1]
      exact .inl rfl
  | some i =>
    have hi := (nlI_lt l i h).1
    dsimp only
    generalize he : (if 0 < i ∧ l.getD (i - 1) 0 = 13 then i - 1 else i) = e
    by_cases h1 : e > 2048
    · rw [if_pos h1]
      exact .inr (.inl ⟨i, hi, rfl⟩)
    · rw [if_neg h1]
      refine .inr (.inr ⟨i, _, hi, rfl, ?_⟩)
      have : (strOfNums (l.take e)).size = (l.take e).length := by
        unfold strOfNums
        simp [ByteArray.size]
      rw [this, List.length_take]
      omega
theorem parse_M {l : List Int} (h : lineS l = (⟨#[]⟩, 0, 3)) : parseS l = stepM := by
  unfold parseS
  rw [h]
  rfl
theorem parse_L {l : List Int} {m : Nat} (h : lineS l = (⟨#[]⟩, (m : Int) + 1, 4)) : parseS l = stepFS ((m : Int) + 1) longT 0 (l.getD m 0 != 10) := by
  unfold parseS
  rw [h, if_neg (by dsimp only; decide), if_pos rfl]
  dsimp only
  rw [show ((m : Int) + 1).toNat - 1 = m by omega]
theorem parse_T {l : List Int} {m : Nat} {t : ByteArray} (h : lineS l = (t, (m : Int) + 1, 0)) : parseS l = parseW ((m : Int) + 1) (l.drop (m + 1)) (wordsB t) := by
  unfold parseS
  rw [h, if_neg (by dsimp only; decide), if_neg (by dsimp only; decide)]
  dsimp only
  rw [show ((m : Int) + 1).toNat = m + 1 by omega]
end Go.Proofs.YtfljijpkeckeaaaGreatDoor.X
