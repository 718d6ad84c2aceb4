/- textout.Word and textout.one: what came of one command. -/
import Derived.Test.YtkolleohenjhmaaDoorVal
namespace Go.Proofs.YtkolleohenjhmaaDoor.X
open Go.RowKit Go.Proofs.YtkolleohenjhmaaDoorW.PrintWords Go.Proofs.YtkolleohenjhmaaDoorW.PrintMore
set_option linter.unusedVariables false
set_option linter.unusedSimpArgs false

def tWord (s : Int) : ByteArray :=
  if s = 1 then (⟨#[78, 79, 84, 95, 70, 79, 85, 78, 68]⟩ : ByteArray) else if s = 2 then (⟨#[83, 84, 79, 82, 69, 68]⟩ : ByteArray) else if s = 3 then (⟨#[78, 79, 84, 95, 83, 84, 79, 82, 69, 68]⟩ : ByteArray) else if s = 4 then (⟨#[69, 88, 73, 83, 84, 83]⟩ : ByteArray) else if s = 5 then (⟨#[68, 69, 76, 69, 84, 69, 68]⟩ : ByteArray) else if s = 6 then (⟨#[84, 79, 85, 67, 72, 69, 68]⟩ : ByteArray)
  else if s = 8 then (⟨#[67, 76, 73, 69, 78, 84, 95, 69, 82, 82, 79, 82, 32, 99, 97, 110, 110, 111, 116, 32, 105, 110, 99, 114, 101, 109, 101, 110, 116, 32, 111, 114, 32, 100, 101, 99, 114, 101, 109, 101, 110, 116, 32, 110, 111, 110, 45, 110, 117, 109, 101, 114, 105, 99, 32, 118, 97, 108, 117, 101]⟩ : ByteArray) else if s = 9 then (⟨#[83, 69, 82, 86, 69, 82, 95, 69, 82, 82, 79, 82, 32, 111, 117, 116, 32, 111, 102, 32, 109, 101, 109, 111, 114, 121, 32, 115, 116, 111, 114, 105, 110, 103, 32, 111, 98, 106, 101, 99, 116]⟩ : ByteArray) else if s = 10 then (⟨#[79, 75]⟩ : ByteArray) else if s = 11 then (⟨#[86, 69, 82, 83, 73, 79, 78, 32, 49]⟩ : ByteArray) else (⟨#[]⟩ : ByteArray)
def textout_Word.f (s : Int) : Option ByteArray := some (tWord s)
set_option maxRecDepth 100000 in
theorem textout_Word.calls (s : Int) (r : ByteArray) (w : World) (h : textout_Word.f s = some r) :
    Calls Tryd.prog 12 #[.int .i64 s] w fun e w' => e = .returned (.string r) ∧ Drawn0 w w' := by
  obtain rfl := Option.some.inj h
  clear h
  go_enter Tryd.func12, Tryd.ntmps12
  go_wp2
  all_goals go_ret
  all_goals exact ⟨by simp_all [tWord], Drawn0.refl _⟩
def oneI (s n : Int) : List Int := if s = 7 then bytesOf (lineB [showI n]) else if tWord s = (⟨#[]⟩ : ByteArray) then [] else bytesOf (lineB [tWord s])
def textout_one.f (a0_0 : Int) (l0_1 : List Int) (a0_2 : Int) (a0_3 : Int) (a0_4 : Int) (a0_5 : Int) (a0_6 : Bool) (a0_7 : Bool) (a0_8 : Bool) : Option (List Int) := if 0 ≤ a0_5 ∧ a0_5 ≤ 18446744073709551615 then some (oneI a0_0 a0_5) else none
theorem V_fresh {W : World} {b n c : Nat} {l : List Int} (hb : n ≤ b) (hC : Bytes W (some ⟨b, 0, none⟩) l) (hl : l.length ≤ c) : Kd.V (Kd.int .u8) 5 W n (fun k_ => n ≤ k_) (.slice (some ⟨b, 0, none⟩) l.length c) l := by
  refine Kd.V_mk hl (fun W' hW => ?_)
  have hE := hW b hb
  refine ⟨hC.1, hC.2.1, fun h0 => ?_⟩
  obtain ⟨ad, e, hc⟩ := hC.2.2 h0
  obtain rfl := Option.some.inj e
  refine ⟨_, rfl, fun j p hj => ?_⟩
  obtain ⟨cs, h1, h2, h3⟩ := hc j p hj
  refine ⟨cs, h1, h2, fun i u hu => ?_⟩
  have h4 := h3 i u hu
  have hlt := World.block_lt_of_cell? _ _ h4
  unfold World.cell? at h4 ⊢
  have hblk : ((⟨b, 0, none⟩ : Addr).add (j * (Kd.int .u8).sz + i)).block = b := by
    unfold Addr.add
    split <;> rfl
  rw [hblk] at h4 hlt ⊢
  rw [hE hlt]
  exact h4
theorem wp_bytes2 {P : Program} {ops : Array Oper} {rest : List Oper} {o : Oper} {a : Act} {Q : Exit → Act → World → Prop} {W : World} (hgd : o.guard = none) (src dst e : TypeId) (x : Operand) (ho : o.op = .convert src dst x) (s : ByteArray) (hx : a.eval x = .string s)
    (hs : P.underlying src = some .string) (hdt : P.underlying dst = some (.slice e)) (he : P.underlying e = some (.int .u8)) (hl : s.size ≤ 9223372036854775807)
    (h : ∀ b c w1, W.heap.size ≤ b → (bytesOf s).length ≤ c → Bytes w1 (some ⟨b, 0, none⟩) (bytesOf s) → Below W.heap.size W w1 → wpList P ops Q rest (a.put o.dst (.slice (some ⟨b, 0, none⟩) (bytesOf s).length c)) w1) : wpList P ops Q (o :: rest) a W := by
  refine Kd.event_run hgd (v := .slice (some ⟨W.heap.size, 0, none⟩) (bytesOf s).length (grownCap W s.size 0 e)) (w1 := Lib.bytesWorld W e s) ?_ (h _ _ _ (Nat.le_refl _) (by rw [bytesOf_length]; exact grownCap_ge _ _ _ _) (bytesWorld_C W e s hl) (bytesWorld_below W e s))
  have hr := Lib.run_convert_string_bytes (P := P) W src dst e s hs hdt he
  simp [execOp, ho, hx, hr, bytesOf_length]
theorem tWord_size (s : Int) : (tWord s).size ≤ 100 := by
  unfold tWord
  repeat' split
  all_goals decide
theorem okW_one (s : ByteArray) (h : s.size ≤ 4000) : okW [s] = true := by
  unfold okW
  simp
  exact h
theorem show_ne (n : Int) : (showI n).toList.isEmpty = false := by
  cases h : (showI n).toList.isEmpty
  · rfl
  · exfalso
    have := congrArg ByteArray.size ((bs_nil _).1 h)
    have h2 : (showI n).size = (Lib.decDigits n.toNat).length := by simp [showI, ByteArray.size]
    rw [h2, Lib.decDigits_length] at this
    have h3 : 1 ≤ Lib.nDigits n.toNat := by
      by_cases h10 : n.toNat < 10
      · rw [Lib.nDigits_small h10]; exact Nat.le_refl _
      · rw [Lib.nDigits_big h10]; omega
    have h4 : Lib.nDigits n.toNat = 0 := this
    omega
set_option maxHeartbeats 600000 in
set_option maxRecDepth 100000 in
theorem textout_one.calls (a0_0 : Int) (A0_1 : Option Addr) (c0_1 : Nat) (l0_1 : List Int) (a0_2 : Int) (a0_3 : Int) (a0_4 : Int) (a0_5 : Int) (a0_6 : Bool) (a0_7 : Bool) (a0_8 : Bool) (r : List Int) (w : World) (hr0_1 : Kd.C (Kd.int .u8) w A0_1 l0_1.length l0_1) (hc0_1 : l0_1.length ≤ c0_1) (hT : Tabs w) (h : textout_one.f a0_0 l0_1 a0_2 a0_3 a0_4 a0_5 a0_6 a0_7 a0_8 = some r) :
    Calls Tryd.prog 16 #[.agg #[.int .i64 a0_0, .slice A0_1 l0_1.length c0_1, .int .u32 a0_2, .int .u64 a0_3, .int .i64 a0_4, .int .u64 a0_5, .bool a0_6, .bool a0_7, .bool a0_8]] w fun e w' => ∃ v0_ : Value, e = .returned (v0_) ∧ Kd.V (Kd.int .u8) 5 w' w.heap.size (fun k_ => (w.heap.size ≤ k_)) v0_ r ∧ Below w.heap.size w w' := by
  unfold textout_one.f at h
  split at h
  · next hn =>
    obtain rfl := Option.some.inj h
    have HT := Aside0.mk hT
    have HB := Aside0.mk (Below.refl w.heap.size w)
    clear h hT hr0_1
    have hn0 := hn.1; have hn1 := hn.2
    have hs1 := showI_size a0_5 hn1
    have hs2 := tWord_size a0_0
    by_cases h7 : a0_0 = 7
    · have e7 : oneI a0_0 a0_5 = bytesOf (lineB [showI a0_5]) := by unfold oneI; rw [if_pos h7]
      rw [e7]
      have h71 : (a0_0 == 7) = true := beq_iff_eq.2 h7
      have hne := show_ne a0_5
      have HL := Aside0.mk (okW_one (showI a0_5) (by omega))
      have hls := lineB_size _ HL.out
      clear h7 e7 hn
      go_enter Tryd.func16, Tryd.ntmps16
      go_wp2_with (first
        | (go_at_call 12; (with_reducible refine (textout_Word.calls _ _ _ rfl).mono ?_); rintro e w1 ⟨rfl, ⟨nd, rfl⟩⟩)
        | (go_at_call 18; (with_reducible refine (show_calls _ _ hn0 hn1 (Tabs.below HT.out (by repeat (first | (with_reducible first | exact HB.out | apply below_alloc | apply pw_below_drewN | apply below_drew1) | exact HB.out)))).mono ?_); rintro e w2 ⟨rfl, hb⟩; have HBn := Aside0.mk (below_step (by repeat (first | (with_reducible first | exact HB.out | apply below_alloc | apply pw_below_drewN | apply below_drew1) | exact HB.out)) hb); clear HB; have HB := HBn; clear HBn; clear hb)
        | (go_at_call 20; (refine (textout_line.calls _ _ [showI a0_5] _ _ (Strs_at (ha_at rfl) _ (by simp) rfl) (Nat.le_refl 1) (line_f _ HL.out)).mono ?_); rintro e w3 ⟨rfl, hb⟩; have HBn := Aside0.mk (below_step (by repeat (first | (with_reducible first | exact HB.out | apply below_alloc | apply pw_below_drewN | apply below_drew1) | exact HB.out)) hb); clear HB; have HB := HBn; clear HBn; clear hb)
        | ((with_reducible refine gate_dst (N := 18) rfl ?_); refine wp_bytes2 rfl _ _ _ _ rfl _ rfl Tryd.underlying9 Tryd.underlying32 Tryd.underlying5 (by omega) ?_; intro b c w4 hb4 hc4 hC4 hb; have HC4 := Aside0.mk hC4; have hsz := HB.out.size; have HBn := Aside0.mk (below_step (by repeat (first | (with_reducible first | exact HB.out | apply below_alloc | apply pw_below_drewN | apply below_drew1) | exact HB.out)) hb); clear HB; have HB := HBn; clear HBn; clear hb hC4))
      go_ret
      exact ⟨_, rfl, V_fresh (by omega) HC4.out hc4, HB.out⟩
    · have h71 : (a0_0 == 7) = false := beq_eq_false_iff_ne.2 h7
      by_cases hw : tWord a0_0 = (⟨#[]⟩ : ByteArray)
      · have e7 : oneI a0_0 a0_5 = [] := by unfold oneI; rw [if_neg h7, if_pos hw]
        rw [e7]
        have HW := Aside0.mk hw
        clear h7 e7 hn hw
        go_enter Tryd.func16, Tryd.ntmps16
        go_wp2_with (go_at_call 12; (with_reducible refine (textout_Word.calls _ _ _ rfl).mono ?_); rintro e w1 ⟨rfl, ⟨nd, rfl⟩⟩; rw [HW.out])
        go_ret
        exact ⟨_, rfl, Kd.V_nil _ _ _ _ _, (by repeat (first | exact Below.refl _ _ | apply below_drew1 | apply pw_below_drewN | apply below_alloc))⟩
      · have e7 : oneI a0_0 a0_5 = bytesOf (lineB [tWord a0_0]) := by unfold oneI; rw [if_neg h7, if_neg hw]
        rw [e7]
        obtain ⟨T0, hT0⟩ : ∃ T0, tWord a0_0 = T0 := ⟨_, rfl⟩
        rw [hT0] at hw hs2 ⊢
        have HT0 := Aside0.mk hT0
        have hne : T0.toList.isEmpty = false := Bool.eq_false_iff.2 (fun h => hw ((bs_nil _).1 h))
        have HL := Aside0.mk (okW_one T0 (by omega))
        have hls := lineB_size _ HL.out
        clear h7 e7 hn hw hT0
        go_enter Tryd.func16, Tryd.ntmps16
        go_wp2_with (first
          | (go_at_call 12; (with_reducible refine (textout_Word.calls _ _ _ rfl).mono ?_); rintro e w1 ⟨rfl, ⟨nd, rfl⟩⟩; rw [HT0.out])
          | (go_at_call 20; (refine (textout_line.calls _ _ [T0] _ _ (Strs_at (ha_at (by simp)) _ (by simp) rfl) (Nat.le_refl 1) (line_f _ HL.out)).mono ?_); rintro e w3 ⟨rfl, hb⟩; have HBn := Aside0.mk (below_step (by repeat (first | (with_reducible first | exact HB.out | apply below_alloc | apply pw_below_drewN | apply below_drew1) | exact HB.out)) hb); clear HB; have HB := HBn; clear HBn; clear hb)
          | ((with_reducible refine gate_dst (N := 18) rfl ?_); refine wp_bytes2 rfl _ _ _ _ rfl _ rfl Tryd.underlying9 Tryd.underlying32 Tryd.underlying5 (by omega) ?_; intro b c w4 hb4 hc4 hC4 hb; have HC4 := Aside0.mk hC4; have hsz := HB.out.size; have HBn := Aside0.mk (below_step (by repeat (first | (with_reducible first | exact HB.out | apply below_alloc | apply pw_below_drewN | apply below_drew1) | exact HB.out)) hb); clear HB; have HB := HBn; clear HBn; clear hb hC4))
        go_ret
        exact ⟨_, rfl, V_fresh (by omega) HC4.out hc4, HB.out⟩
  · cases h
end Go.Proofs.YtkolleohenjhmaaDoor.X
