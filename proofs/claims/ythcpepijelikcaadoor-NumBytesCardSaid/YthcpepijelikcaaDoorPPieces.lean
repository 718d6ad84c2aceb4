/- NumPieces: the walk, and what it asks of the bytes. -/
import Derived.Test.YthcpepijelikcaaDoorPBack
namespace Go.Proofs.YthcpepijelikcaaDoor.X
open Go.RowKit Go.Proofs.YthcpepijelikcaaDoorW.PrintWords Go.Proofs.YthcpepijelikcaaDoorW.PrintMore
set_option linter.unusedVariables false
set_option linter.unusedSimpArgs false

theorem awake_calls (w : World) (hT : Tabs w) : Calls Tryd.prog 11 #[] w fun e w' => e = .returned (.bool true) ∧ Below w.heap.size w w' :=
  bool_calls awake_f (fun k r h => butterylaw01_awake.calls k r w hT h)
theorem getb_calls (A : Option Addr) (c : Nat) (l : List Int) (w : World) (hC : Bytes w A l) (hc : l.length ≤ c) (hl : l.length ≤ 9223372036854775806) (hb : ∀ z ∈ l, 0 ≤ z ∧ z < 256) :
    Calls Tryd.prog 14 #[.slice A l.length c] w fun e w' => e = .returned (.int .u64 (raw 0 l % 18446744073709551616)) ∧ Below w.heap.size w w' := by
  obtain ⟨K, hK⟩ := get_f l hl hb
  refine (num_Get.calls K A c l _ w hC hc (hK K (Nat.le_refl _))).mono ?_
  rintro e w' ⟨rfl, hd⟩
  exact ⟨rfl, hd.below⟩
theorem pieces_eq (a b : List Int) (n : Int) (h : n = raw 0 a * 256 ^ b.length % 18446744073709551616) : IntKind.u64.wrap (n + raw 0 b % 18446744073709551616) = raw 0 (a ++ b) % 18446744073709551616 := by
  rw [IntKind.wrap_u64, raw_append, raw_lin b (raw 0 a), h]
  omega
theorem infoU8 : (Tryd.prog.info? 5).map (fun i => (i.zero, i.size, i.bytes)) = some (some (.int .u8 0), 1, 1) := by kernel_rfl
set_option maxHeartbeats 1000000 in
set_option maxRecDepth 100000 in
theorem pieces_calls (a b : List Int) (A0 A1 : Option Addr) (c0 c1 : Nat) (w : World) (h0 : Bytes w A0 a) (hc0 : a.length ≤ c0) (h1 : Bytes w A1 b) (hc1 : b.length ≤ c1) (ha : ∀ z ∈ a, 0 ≤ z ∧ z < 256) (hb : ∀ z ∈ b, 0 ≤ z ∧ z < 256) (hT : Tabs w) :
    Calls Tryd.prog 4 #[.slice A0 a.length c0, .slice A1 b.length c1] w fun e w' => e = .returned (.bool true) ∧ Below w.heap.size w w' := by
  have HT := Aside0.mk hT; have HA := Aside0.mk ha; have HBB := Aside0.mk hb; have H0 := Aside0.mk h0; have H1 := Aside0.mk h1
  have HB := Aside0.mk (Below.refl w.heap.size w)
  clear hT ha hb h0 h1
  by_cases hbig : (4 : Int) < a.length ∨ (4 : Int) < b.length
  · go_enter Tryd.func4, Tryd.ntmps4
    go_upto_region 2 with (go_at_call 11; (with_reducible refine (awake_calls _ (Tabs.below HT.out (by repeat (first | (with_reducible first | exact HB.out | apply below_alloc | apply pw_below_drewN | apply below_drew1) | exact HB.out)))).mono ?_); rintro e w1 ⟨rfl, hb⟩; have HBn := Aside0.mk (below_step (by repeat (first | (with_reducible first | exact HB.out | apply below_alloc | apply pw_below_drewN | apply below_drew1) | exact HB.out)) hb); clear HB; have HB := HBn; clear HBn; clear hb)
    by_cases h4 : (4 : Int) < a.length
    · go_wp2
      go_ret
      exact ⟨rfl, HB.out.trans (Below.refl _ _)⟩
    · have h5 : (4 : Int) < b.length := by omega
      go_wp2
      go_ret
      exact ⟨rfl, HB.out.trans (Below.refl _ _)⟩
  · have h4 : ¬ (4 : Int) < a.length := by omega
    have h5 : ¬ (4 : Int) < b.length := by omega
    go_enter Tryd.func4, Tryd.ntmps4
    go_wp2_with (first
      | (go_at_call 11; (with_reducible refine (awake_calls _ (Tabs.below HT.out (by repeat (first | (with_reducible first | exact HB.out | apply below_alloc | apply pw_below_drewN | apply below_drew1) | exact HB.out)))).mono ?_); rintro e w1 ⟨rfl, hb⟩; have HBn := Aside0.mk (below_step (by repeat (first | (with_reducible first | exact HB.out | apply below_alloc | apply pw_below_drewN | apply below_drew1) | exact HB.out)) hb); clear HB; have HB := HBn; clear HBn; clear hb)
      | (go_at_call 14; (with_reducible refine (getb_calls _ _ a _ (Kd.C_below H0.out (by repeat (first | (with_reducible first | exact HB.out | apply below_alloc | apply pw_below_drewN | apply below_drew1) | exact HB.out))) hc0 (by omega) HA.out).mono ?_); rintro e w2 ⟨rfl, hb⟩; have HBn := Aside0.mk (below_step (by repeat (first | (with_reducible first | exact HB.out | apply below_alloc | apply pw_below_drewN | apply below_drew1) | exact HB.out)) hb); clear HB; have HB := HBn; clear HBn; clear hb))
    go_loopw [6, 7] (fun v6 v7 wr => ∃ (pos : Nat) (n : Int), v6 = .int .u64 n ∧ v7 = .int .i64 pos ∧ pos ≤ b.length ∧ wr = w2 ∧ Aside0 (n = raw 0 a * 256 ^ pos % 18446744073709551616)) (fun v6 v7 _ => b.length - (intOf v7).toNat)
    case atStart => exact ⟨0, _, rfl, rfl, by omega, rfl, ⟨by simp⟩⟩
    case round =>
      obtain ⟨pos, n, rfl, rfl, hps, rfl, hn⟩ := hrel
      by_cases hp : pos < b.length
      · have hpi : (pos : Int) < b.length := by omega
        have HN : Aside0 (IntKind.u64.wrap (n * 256) = raw 0 a * 256 ^ (pos + 1) % 18446744073709551616) := ⟨by
          rw [IntKind.wrap_u64, hn.out, Int.pow_succ, ← Int.mul_assoc]
          omega⟩
        go_wp2
        go_roundw
        case rel => exact ⟨pos + 1, _, rfl, by simp, by omega, by first | rfl | trivial, HN⟩
        case measure => simp [intOf]; omega
      · have hpi : ¬ (pos : Int) < b.length := by omega
        obtain rfl : pos = b.length := by omega
        have HE := Aside0.mk (pieces_eq a b n hn.out)
        obtain ⟨La, hLa⟩ : ∃ La : List Int, [] ++ a = La := ⟨_, rfl⟩
        obtain ⟨Lb, hLb⟩ : ∃ Lb : List Int, La ++ b = Lb := ⟨_, rfl⟩
        have hbe : a ++ b = Lb := by rw [← hLb, ← hLa]; rfl
        rw [hbe] at HE
        have HAB : Aside0 (∀ z ∈ Lb, 0 ≤ z ∧ z < 256) := ⟨fun z hz => by
          rw [← hbe] at hz
          rcases List.mem_append.1 hz with h | h
          · exact HA.out z h
          · exact HBB.out z h⟩
        have hla : La.length = a.length := by rw [← hLa]; rfl
        have hab : Lb.length = a.length + b.length := by rw [← hbe, List.length_append]
        have HLA := Aside0.mk hla
        have HLB := Aside0.mk hab
        clear hbe hla hab
        go_wp2_with (first
          | ((with_reducible refine gate_dst (N := 31) rfl ?_); refine gate_guard (by rfl) ?_; refine Kd.R_append_row (α := Int) (Value.int .u8) 0 (w0 := w) w.heap.size rfl (.const (.slice none 0 0)) (.tmp 30) 24 5 (.int .u8 0) 1 rfl Tryd.underlying24 infoU8 rfl (by decide) (.slice none 0 0) [] a A0 a.length c0 (fun _ => True) rfl rfl (fun _ _ => trivial) (Kd.R_nil _ _ _ _ _) (Kd.C_below H0.out (by repeat (first | (with_reducible first | exact HB.out | apply below_alloc | apply pw_below_drewN | apply below_drew1) | exact HB.out))) (by repeat (first | (with_reducible first | exact HB.out | apply below_alloc | apply pw_below_drewN | apply below_drew1) | exact HB.out)) (by have := HB.out.size; simpa using this) (by simp; omega) ?_; intro v1 w3 ho1 hb1 _ _; rw [hLa] at ho1; obtain ⟨A3, c3, rfl, hl3, hC3⟩ := Kd.R_reads ho1; have HO1 := Aside0.mk ho1; clear HB ho1 hC3; have HB := Aside0.mk hb1; clear hb1)
          | ((with_reducible refine gate_dst (N := 33) rfl ?_); refine gate_guard (by rfl) ?_; refine Kd.R_append_row (α := Int) (Value.int .u8) 0 (w0 := w) w.heap.size rfl (.tmp 31) (.tmp 32) 24 5 (.int .u8 0) 1 rfl Tryd.underlying24 infoU8 rfl (by decide) (.slice A3 La.length c3) La b A1 b.length c1 (fun _ => True) rfl rfl (fun _ _ => trivial) HO1.out (Kd.C_below H1.out (by repeat (first | (with_reducible first | exact HB.out | apply below_alloc | apply pw_below_drewN | apply below_drew1) | exact HB.out))) (by repeat (first | (with_reducible first | exact HB.out | apply below_alloc | apply pw_below_drewN | apply below_drew1) | exact HB.out)) (by have := HB.out.size; simpa using this) (by have := HLA.out; omega) ?_; intro v2 w4 ho2 hb2 _ _; rw [hLb] at ho2; obtain ⟨A4, c4, rfl, hl4, hC4⟩ := Kd.R_reads ho2; have HC4 : Aside0 (Bytes w4 A4 Lb) := ⟨hC4⟩; clear HB ho2 hC4; have HB := Aside0.mk hb2; clear hb2)
          | (go_at_call 14; (first | (with_reducible refine (getb_calls _ _ Lb _ HC4.out hl4 (by have := HLB.out; omega) HAB.out).mono ?_) | (with_reducible refine (getb_calls _ _ b _ (Kd.C_below H1.out (by repeat (first | (with_reducible first | exact HB.out | apply below_alloc | apply pw_below_drewN | apply below_drew1) | exact HB.out))) hc1 (by omega) HBB.out).mono ?_)); rintro e w2 ⟨rfl, hb⟩; have HBn := Aside0.mk (below_step (by repeat (first | (with_reducible first | exact HB.out | apply below_alloc | apply pw_below_drewN | apply below_drew1) | exact HB.out)) hb); clear HB; have HB := HBn; clear HBn; clear hb))
        go_ret
        refine ⟨congrArg (fun b => Ending.returned (Value.bool b)) (?_ : (_ == _) = true), HB.out.trans (Below.refl _ _)⟩
        rw [HE.out]
        exact beq_self_eq_true _
end Go.Proofs.YthcpepijelikcaaDoor.X
