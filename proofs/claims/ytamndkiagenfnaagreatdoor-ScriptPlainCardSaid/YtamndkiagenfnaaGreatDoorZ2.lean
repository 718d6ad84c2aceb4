/- Texts of this work, merged in build order: Heard. -/
import Derived.Test.YtamndkiagenfnaaGreatDoorZ1
import Derived.Shelf.Bytes.SlCut
namespace Go.Proofs.YtamndkiagenfnaaGreatDoor.X
open Go.RowKit Go.Proofs.YtamndkiagenfnaaGreatDoorW.PrintWords Go.Proofs.YtamndkiagenfnaaGreatDoorW.PrintMore
set_option linter.unusedVariables false
set_option linter.unusedSimpArgs false
/-- The library's own number is some number. -/
def MaxC (w : World) : Prop := ∃ m, w.cell? ⟨0, 0, none⟩ = some (.int .i64 m)
theorem MaxC.below {w w' : World} (h : MaxC w) (hb : Below w.heap.size w w') : MaxC w' := by
  obtain ⟨m, hm⟩ := h
  exact ⟨m, (hb.cell (p := ⟨0, 0, none⟩) (World.block_lt_of_cell? _ _ hm)).trans hm⟩
theorem C_int1 {W : World} {g t : Nat} {fr : Nat × Nat} {k : IntKind} {z : Int} (hb : W.heap[g]? = some (.cells #[.int k z] t fr)) : (Kd.int k).C W (some ⟨g, 0, none⟩) 1 [z] := by
  refine C_at_blk (Kd.int k) hb [z] (by simp) ⟨by simp [Kd.int, Kd.scalar], fun j p hj => ?_⟩
  have hj0 : j = 0 := by
    have := (List.getElem?_eq_some_iff.1 hj).1
    simpa using this
  subst hj0
  obtain rfl : z = p := by simpa using hj
  rfl
def awR : List Int := [72, 68, 13, 10]
def awE : List Int := [13, 10]
theorem in_of_C {w : World} {A : Option Addr} {l : List Int} (h : (Kd.int .u8).C w A l.length l) : Lib.BytesIn w A l.length l := fun hn => by
  obtain ⟨b, o, rfl, hb, -⟩ := C_cell h 0 hn
  refine ⟨b, o, rfl, fun i hi => ?_⟩
  obtain ⟨b', o', e, -, hc⟩ := C_cell h i hi
  obtain ⟨rfl, rfl⟩ : b = b' ∧ o = o' := by simpa using e
  exact hc
theorem cut1_calls (g h : Nat) (w : World) (hb : Bytes w (some ⟨g, 0, none⟩) awR) (he : Bytes w (some ⟨h, 0, none⟩) awE) (hm : MaxC w) :
    Calls Tryz.prog 56 #[.slice (some ⟨g, 0, none⟩) 4 4, .slice (some ⟨h, 0, none⟩) 2 2] w fun e w' => e = .returned (.tuple #[.slice (some ⟨g, 0, none⟩) 2 4, .slice (some ⟨g, 0, none⟩) 0 0, .bool true]) ∧ Below w.heap.size w w' := by
  obtain ⟨m, hm⟩ := hm
  refine (Tryz.bytes_Cut_all (some ⟨g, 0, none⟩) (some ⟨h, 0, none⟩) 4 4 2 2 awR awE m w rfl rfl (by decide) (by decide) (in_of_C hb) (in_of_C he) (by simp) (by decide) (by decide) (by decide) hm).mono ?_
  rintro e w' ⟨rfl, q, rfl⟩
  exact ⟨rfl, pw_below_drewN (Below.refl _ _) _⟩
theorem cut2_calls (g h : Nat) (w : World) (he : Bytes w (some ⟨h, 0, none⟩) awE) (hm : MaxC w) :
    Calls Tryz.prog 56 #[.slice (some ⟨g, 0, none⟩) 0 0, .slice (some ⟨h, 0, none⟩) 2 2] w fun e w' => e = .returned (.tuple #[.slice (some ⟨g, 0, none⟩) 0 0, .slice none 0 0, .bool false]) ∧ Below w.heap.size w w' := by
  obtain ⟨m, hm⟩ := hm
  refine (Tryz.bytes_Cut_all (some ⟨g, 0, none⟩) (some ⟨h, 0, none⟩) 0 0 2 2 [] awE m w rfl rfl (by simp) (by decide) (Lib.BytesIn.nil _ _ _) (in_of_C he) (by simp) (by decide) (by decide) (by decide) hm).mono ?_
  rintro e w' ⟨rfl, q, rfl⟩
  exact ⟨rfl, pw_below_drewN (Below.refl _ _) _⟩
theorem num_nil : script_numbers.f 10 [⟨#[]⟩] [0] = some [0] := by kernel_rfl
theorem awE_at {W : World} {b : Nat} {e : TypeId} {fr : Nat × Nat} (hb : W.heap[b]? = some (.cells #[.int .u8 13, .int .u8 10] e fr)) : Bytes W (some ⟨b, 0, none⟩) awE := Bytes_at hb awE (by decide) rfl
theorem C_two {w : World} {g : Nat} (h : Bytes w (some ⟨g, 0, none⟩) awR) : (Kd.int .u8).C w (some ⟨g, 0, none⟩) 2 [72, 68] := by
  refine ⟨rfl, by decide, fun _ => ?_⟩
  obtain ⟨ad, e, hc⟩ := h.2.2 (by decide)
  refine ⟨ad, e, fun j x hj => hc j x ?_⟩
  have hlt : j < 2 := (List.getElem?_eq_some_iff.1 hj).1
  rw [← hj]
  match j, hlt with
  | 0, _ => rfl
  | 1, _ => rfl
theorem C_u64 {w : World} {A : Option Addr} {z : Int} (h : (Kd.int .u64).C w A 1 [z]) : ∃ b o, A = some ⟨b, o, none⟩ ∧ b < w.heap.size ∧ w.cell? ⟨b, o, none⟩ = some (.int .u64 z) := by
  obtain ⟨ad, rfl, hc⟩ := h.2.2 (by decide)
  obtain ⟨cs, hl, hK, hcell⟩ := hc 0 z rfl
  obtain rfl : cs = [Value.int .u64 z] := hK
  have h0 := hcell 0 _ rfl
  rw [Nat.zero_mul, Nat.zero_add, Addr.add_zero'] at h0
  obtain ⟨b, o, rfl, hb⟩ := addr_plain h0
  exact ⟨b, o, rfl, hb, h0⟩
theorem num1_calls (A0 A1 : Option Addr) (w : World) (hT : Tabs w) (h0 : Kd.string.C w A0 1 [⟨#[]⟩]) (h1 : (Kd.int .i64).C w A1 1 [0]) :
    Calls Tryz.prog 59 #[.slice A0 1 1, .slice A1 1 1] w fun e w' => ∃ b o c, e = .returned (.slice (some ⟨b, o, none⟩) 1 c) ∧ 1 ≤ c ∧ b < w'.heap.size ∧ w'.cell? ⟨b, o, none⟩ = some (.int .u64 0) ∧ Below w.heap.size w w' := by
  refine (script_numbers.calls 10 A0 1 [⟨#[]⟩] A1 1 [0] [0] w h0 (by decide) h1 (by decide) hT num_nil).mono ?_
  rintro e w5 ⟨v0, rfl, hR, hb⟩
  obtain ⟨A5, c5, rfl, hc5, hC5⟩ := Kd.R_reads hR
  obtain ⟨b5, o5, rfl, hb5, hcell⟩ := C_u64 hC5
  exact ⟨b5, o5, c5, rfl, hc5, hb5, hcell, hb⟩
set_option maxRecDepth 100000 in
set_option maxHeartbeats 2000000 in
theorem heard_calls (g : Nat) (w : World) (hT : Tabs w) (hM : MaxC w) (hb : Bytes w (some ⟨g, 0, none⟩) awR) :
    Calls Tryz.prog 31 #[.int .i64 3, .agg #[.int .i64 8, .string (⟨#[107]⟩ : ByteArray), .slice none 0 0, .int .u32 0, .int .i64 0, .int .u64 0, .int .u64 0, .int .u64 0, .bool false, .bool false], .slice (some ⟨g, 0, none⟩) 4 4] w fun e w' => e = .returned (.agg #[.int .i64 0, .slice none 0 0, .int .u32 0, .int .u64 0, .int .i64 0, .int .u64 0, .bool false, .bool false, .bool false]) ∧ Below w.heap.size w w' := by
  have HB := Aside0.mk (Below.refl w.heap.size w)
  have HT := Aside0.mk hT
  have HM := Aside0.mk hM
  have HBY := Aside0.mk hb
  clear hT hM hb
  go_enter Tryz.func31, Tryz.ntmps31
  go_wp2_with (first | ((with_reducible refine gate_dst (N := 44) rfl ?_); (first | (refine wp_const_drew rfl _ _ _ rfl _ _ _ _ rfl ?_ Tryz.underlying22 Tryz.underlying5 ?_) | (refine wp_const rfl _ _ _ rfl _ _ _ _ rfl ?_ Tryz.underlying22 Tryz.underlying5 ?_)); (case _ => simp)) | (go_at_call 56; (with_reducible refine (cut1_calls g _ _ (Kd.C_below HBY.out (by repeat (first | (with_reducible first | exact HB.out | apply below_alloc | apply pw_below_drewN | apply below_drew1) | exact HB.out))) (awE_at (by repeat first | (apply ha_at; (simp; done)) | apply ha_old)) (HM.out.below (by repeat (first | (with_reducible first | exact HB.out | apply below_alloc | apply pw_below_drewN | apply below_drew1) | exact HB.out)))).mono ?_); rintro e w1 ⟨rfl, hb⟩; have BX := Aside0.mk (blk_below (g := w.heap.size) (o := .cells #[.int .i64 8, .string (⟨#[107]⟩ : ByteArray), .slice none 0 0, .int .u32 0, .int .i64 0, .int .u64 0, .int .u64 0, .int .u64 0, .bool false, .bool false] 26 (0, 0)) (by repeat (first | exact blk_at_new _ _ _ (by simp; done) | exact blk_at_new _ _ _ rfl | refine blk_alloc ?_ _ | refine blk_drew ?_ | refine blk_drewN ?_ _)) hb); have BR := Aside0.mk (blk_below (g := w.heap.size + 1) (o := .cells #[.int .i64 0, .slice none 0 0, .int .u32 0, .int .u64 0, .int .i64 0, .int .u64 0, .bool false, .bool false, .bool false] 32 (0, 0)) (by repeat (first | exact blk_at_new _ _ _ (by simp; done) | exact blk_at_new _ _ _ rfl | refine blk_alloc ?_ _ | refine blk_drew ?_ | refine blk_drewN ?_ _)) hb); have HBn := Aside0.mk (below_step (by repeat (first | (with_reducible first | exact HB.out | apply below_alloc | apply pw_below_drewN | apply below_drew1) | exact HB.out)) hb); clear HB; have HB := HBn; clear HBn; clear hb) | ((with_reducible refine gate_dst (N := 50) rfl ?_); refine wp_strof rfl _ _ _ _ rfl _ _ _ [72, 68] rfl Tryz.underlying22 Tryz.underlying5 Tryz.underlying9 (C_two (Kd.C_below HBY.out (by repeat (first | (with_reducible first | exact HB.out | apply below_alloc | apply pw_below_drewN | apply below_drew1) | exact HB.out)))) ?_; rw [show strOfNums [72, 68] = (⟨#[72, 68]⟩ : ByteArray) from rfl]) | (go_at_call 58; (with_reducible refine (mkWords_calls (⟨#[72, 68]⟩ : ByteArray) _).mono ?_); rintro e w2 ⟨rfl, rfl⟩) | (go_at_call 57; (with_reducible refine (coll_calls (⟨#[72, 68]⟩ : ByteArray) (by decide) _ _ (by simp) ((blk_cell (blk_at_new _ _ _ rfl) 0).trans rfl)).mono ?_); rintro e w3 ⟨A1, c1, rfl, hc1, hC, hb⟩; have BXn := Aside0.mk (blk_below (g := w.heap.size) (o := .cells #[.int .i64 8, .string (⟨#[107]⟩ : ByteArray), .slice none 0 0, .int .u32 0, .int .i64 0, .int .u64 0, .int .u64 0, .int .u64 0, .bool false, .bool false] 26 (0, 0)) (by repeat (first | exact BX.out | refine blk_alloc ?_ _ | refine blk_drew ?_)) hb); have BRn := Aside0.mk (blk_below (g := w.heap.size + 1) (o := .cells #[.int .i64 0, .slice none 0 0, .int .u32 0, .int .u64 0, .int .i64 0, .int .u64 0, .bool false, .bool false, .bool false] 32 (0, 0)) (by repeat (first | exact BR.out | refine blk_alloc ?_ _ | refine blk_drew ?_)) hb); clear BX BR; have BX := BXn; have BR := BRn; clear BXn BRn; have HBn := Aside0.mk (below_step (by repeat (first | (with_reducible first | exact HB.out | apply below_alloc | apply pw_below_drewN | apply below_drew1) | exact HB.out)) hb); clear HB; have HB := HBn; clear HBn; clear hb; clear hC; have l3 : w.heap.size < w3.heap.size := blk_lt BX.out; have t0 : w3.cell? ⟨w.heap.size, 0, none⟩ = some (.int .i64 8) := (blk_cell BX.out 0).trans rfl) | ((with_reducible refine gate_dst (N := 61) rfl ?_); (first | (refine wp_const_drew rfl _ _ _ rfl _ _ _ _ rfl ?_ Tryz.underlying22 Tryz.underlying5 ?_) | (refine wp_const rfl _ _ _ rfl _ _ _ _ rfl ?_ Tryz.underlying22 Tryz.underlying5 ?_)); (case _ => simp)) | (go_at_call 56; (with_reducible refine (cut2_calls g _ _ (awE_at (by repeat first | (apply ha_at; (simp; done)) | apply ha_old)) (HM.out.below (by repeat (first | (with_reducible first | exact HB.out | apply below_alloc | apply pw_below_drewN | apply below_drew1) | exact HB.out)))).mono ?_); rintro e w4 ⟨rfl, hb⟩; clear l3 t0; have BXn := Aside0.mk (blk_below (g := w.heap.size) (o := .cells #[.int .i64 8, .string (⟨#[107]⟩ : ByteArray), .slice none 0 0, .int .u32 0, .int .i64 0, .int .u64 0, .int .u64 0, .int .u64 0, .bool false, .bool false] 26 (0, 0)) (by repeat (first | exact BX.out | refine blk_alloc ?_ _ | refine blk_drew ?_)) hb); have BRn := Aside0.mk (blk_below (g := w.heap.size + 1) (o := .cells #[.int .i64 0, .slice none 0 0, .int .u32 0, .int .u64 0, .int .i64 0, .int .u64 0, .bool false, .bool false, .bool false] 32 (0, 0)) (by repeat (first | exact BR.out | refine blk_alloc ?_ _ | refine blk_drew ?_)) hb); clear BX BR; have BX := BXn; have BR := BRn; clear BXn BRn; have HBn := Aside0.mk (below_step (by repeat (first | (with_reducible first | exact HB.out | apply below_alloc | apply pw_below_drewN | apply below_drew1) | exact HB.out)) hb); clear HB; have HB := HBn; clear HBn; clear hb) | ((with_reducible refine gate_dst (N := 67) rfl ?_); refine wp_strof rfl _ _ _ _ rfl _ _ _ [] rfl Tryz.underlying22 Tryz.underlying5 Tryz.underlying9 (C_zero _ _ _) ?_; rw [show strOfNums [] = (⟨#[]⟩ : ByteArray) from rfl]) | (go_at_call 59; (with_reducible refine (num1_calls _ _ _ (Tabs.below HT.out (by repeat (first | (with_reducible first | exact HB.out | apply below_alloc | apply pw_below_drewN | apply below_drew1) | exact HB.out))) (C_str1 (by repeat first | (apply ha_at; (simp; done)) | apply ha_old)) (C_int1 (by repeat first | (apply ha_at; (simp; done)) | apply ha_old))).mono ?_); rintro e w5 ⟨b5, o5, c5, rfl, hc5, hb5, hcell, hb⟩; have BXn := Aside0.mk (blk_below (g := w.heap.size) (o := .cells #[.int .i64 8, .string (⟨#[107]⟩ : ByteArray), .slice none 0 0, .int .u32 0, .int .i64 0, .int .u64 0, .int .u64 0, .int .u64 0, .bool false, .bool false] 26 (0, 0)) (by repeat (first | exact BX.out | refine blk_alloc ?_ _ | refine blk_drew ?_)) hb); have BRn := Aside0.mk (blk_below (g := w.heap.size + 1) (o := .cells #[.int .i64 0, .slice none 0 0, .int .u32 0, .int .u64 0, .int .i64 0, .int .u64 0, .bool false, .bool false, .bool false] 32 (0, 0)) (by repeat (first | exact BR.out | refine blk_alloc ?_ _ | refine blk_drew ?_)) hb); clear BX BR; have BX := BXn; have BR := BRn; clear BXn BRn; have HBn := Aside0.mk (below_step (by repeat (first | (with_reducible first | exact HB.out | apply below_alloc | apply pw_below_drewN | apply below_drew1) | exact HB.out)) hb); clear HB; have HB := HBn; clear HBn; clear hb; have hc5i : (1 : Int) ≤ ↑c5 := by omega) | (refine wpList_store_A rfl 32 _ _ rfl (w.heap.size + 1) _ rfl rfl 32 _ BR.out (by kernel_rfl) rfl (by kernel_rfl) ?_; intro w6 hbk hlow; have BRn := Aside0.mk hbk; clear BR; have BR := BRn; clear BRn; have HL := Aside0.mk (hlow w.heap.size (Nat.le_succ _)); clear hbk hlow))
  (try simp only [Exit.inBlock, Exit.then])
  refine bodyPost_ret (results_cell_row rfl _ _ (w.heap.size + 1) 32 _ (0, 0) _ rfl BR.out Tryz.underlying32 rfl (by kernel_rfl)) rfl ?_
  exact ⟨rfl, HB.out.trans HL.out⟩
end Go.Proofs.YtamndkiagenfnaaGreatDoor.X
