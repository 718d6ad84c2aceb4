/- The reference of chapter 19, first part: it computes what package metaout does. -/
import Derived.Test.YtfolaakllblhbaaDoorMeta3
import Derived.Test.YtfolaakllblhbaaDoorRNum
namespace Go.Proofs.YtfolaakllblhbaaDoor.X
open Go.RowKit Go.Proofs.YtfolaakllblhbaaDoorW.PrintWords
set_option linter.unusedVariables false
set_option linter.unusedSimpArgs false

theorem mGood_eq (s : Int) : mGood s = (s == 0 || s == 2 || s == 5 || s == 6 || s == 7) := by
  unfold mGood
  rw [Bool.eq_iff_iff]
  simp [or_assoc]
set_option maxRecDepth 100000 in
theorem rGood_calls (s : Int) (w : World) : Calls Tryd.prog 22 #[.int .i64 s] w fun e w' => e = .returned (.bool (mGood s)) ∧ w = w' := by
  go_enter Tryd.func22, Tryd.ntmps22
  go_wp2
  all_goals go_ret
  all_goals exact ⟨by rw [mGood_eq]; first | rfl | (simp_all; done), rfl⟩
set_option maxRecDepth 100000 in
theorem rWord_calls (s : Int) (w : World) : Calls Tryd.prog 15 #[.int .i64 s] w fun e w' => e = .returned (.string (mWord s)) ∧ w = w' := by
  cases hg : mGood s
  all_goals
    have HG := Aside0.mk hg
    clear hg
    go_enter Tryd.func15, Tryd.ntmps15
    go_wp2_with (go_at_call 22; (with_reducible refine (rGood_calls s _).mono ?_); rintro e w1 ⟨rfl, rfl⟩; rw [HG.out])
    all_goals go_ret
    all_goals exact ⟨by have hg := HG.out; simp_all [mGood, mWord], rfl⟩
set_option maxRecDepth 100000 in
theorem rValue_calls (x : Result) (cx : List Value) (w : World) (hx : kResult.K w x cx) (hw : x.Wf) :
    Calls Tryd.prog 23 #[.agg cx.toArray] w fun e w' => e = .returned (.string (mValue x)) ∧ Below w.heap.size w w' := by
  obtain ⟨A, c, rfl, hl, hC⟩ := kResult_open hx
  have h5 := hw.number
  obtain ⟨f0, f1, f2, f3, f4, f5, f6, f7, f8⟩ := x
  have HC := Aside0.mk hC; have HB := Aside0.mk (Below.refl w.heap.size w)
  clear hC hx hw hl
  go_enter Tryd.func23, Tryd.ntmps23
  go_wp2_with (first | (go_at_call 16; (with_reducible refine (rShow_calls _ _ (h5.1) (h5.2)).mono ?_); rintro e w1 ⟨rfl, hb⟩; have HBn := Aside0.mk (below_step (by repeat (first | (with_reducible first | exact HB.out | apply below_alloc | apply pw_below_drewN | apply below_drew1) | exact HB.out)) hb); clear HB; have HB := HBn; clear HBn) | ((with_reducible refine gate_dst (N := 11) rfl ?_); refine wp_strof rfl _ _ _ _ rfl _ _ _ _ rfl Tryd.underlying30 Tryd.underlying5 Tryd.underlying9 (Kd.C_below HC.out (by repeat (first | (with_reducible first | exact HB.out | apply below_alloc | apply pw_below_drewN | apply below_drew1) | exact HB.out))) ?_))
  all_goals go_ret
  all_goals exact ⟨by simp_all [mValue], (by repeat (first | (with_reducible first | exact HB.out | apply below_alloc | apply pw_below_drewN | apply below_drew1) | exact HB.out))⟩
/-- What one letter brings, as a text. -/
def rPiece (q : Request) (x : Result) (c i : Int) : ByteArray := if (mTold q x c i).2 = true then (⟨#[32, UInt8.ofNat c.toNat]⟩ : ByteArray) ++ (mTold q x c i).1 else ⟨#[]⟩
theorem bs_add_nil (a : ByteArray) : a ++ (⟨#[]⟩ : ByteArray) = a := by
  rcases a with ⟨⟨l⟩⟩
  apply ByteArray.ext
  simp [ByteArray.data_append]
theorem rPiece_ttl_neg (q : Request) (x : Result) (i : Int) (h : x.ttl < 0) : rPiece q x 116 i = ⟨#[32, 116, 45, 49]⟩ := by
  simp [rPiece, mTold, h]
  apply ByteArray.ext
  simp [ByteArray.data_append]
theorem rPiece_ttl (q : Request) (x : Result) (i : Int) (h : ¬ x.ttl < 0) : rPiece q x 116 i = ⟨#[32, 116]⟩ ++ showI x.ttl := by
  simp [rPiece, mTold, h]
set_option maxHeartbeats 1000000 in
set_option maxRecDepth 100000 in
theorem rTold_calls (q : Request) (x : Result) (cq cx : List Value) (i : Int) (w : World) (hq : kRequest.K w q cq) (hx : kResult.K w x cx) (hw : x.Wf) (h0 : 0 ≤ i) (h1 : i < q.form.flags.size) (h2 : i ≤ 1000) (hval : x.value.length ≤ 1000000)
    (htold : ∀ c i, (mTold q x c i).1.size ≤ 1000) :
    Calls Tryd.prog 27 #[.agg cq.toArray, .agg cx.toArray, .int .i64 i] w fun e w' => e = .returned (.string (rPiece q x (bt q.form.flags i) i)) ∧ Below w.heap.size w w' := by
  obtain ⟨A0, c0, A8, c8, A9, c9, rfl, hl0, hC0, hl8, hC8, hl9, hC9⟩ := kRequest_open hq
  obtain ⟨A, c1, rfl, hl, hC⟩ := kResult_open hx
  have hx' := kResult_mk w x hl hC
  have hv : (mValue x).size ≤ 1000020 := by
    unfold mValue
    split
    · have := showI_size x.number hw.number.2; omega
    · rw [strOfNums_size]; omega
  have h3 := hw.cas; have hf := hw.flags; have h4 := hw.ttl
  have s1 := showI_size x.cas (by omega); have s2 := showI_size x.flags (by omega); have s3 := showI_size ((mValue x).size : Int) (by omega); have s4 := showI_size x.ttl (by omega)
  have k1 : (atS q.form.keys 0).size ≤ 1000 := by have := htold 107 i; simpa [mTold] using this
  have k2 : (atS q.form.tokens i).size ≤ 1000 := by have := htold 79 i; simpa [mTold] using this
  have hbt := bt_at q.form.flags i
  have h1n : i.toNat < q.form.flags.size := by omega
  have HX := Aside0.mk hx'; have HW := Aside0.mk hw; have HB := Aside0.mk (Below.refl w.heap.size w)
  have hm8 := hC8.2.1; have hm9 := hC9.2.1
  generalize bt q.form.flags i = cc at *
  have hk9 : (q.form.keys.length = 0 ∧ atS q.form.keys 0 = (⟨#[]⟩ : ByteArray)) ∨ ∃ ab ao, ab < w.heap.size ∧ A9 = some ⟨ab, ao, none⟩ ∧ 0 < q.form.keys.length ∧ w.cell? ⟨ab, ao, none⟩ = some (.string (atS q.form.keys 0)) := by
    by_cases hk : q.form.keys.length = 0
    · left
      refine ⟨hk, ?_⟩
      rw [List.length_eq_zero_iff] at hk
      rw [hk]; rfl
    · right
      obtain ⟨ad, cs, rfl, _, hK, hcell⟩ := Kd.C_get hC9 (⟨#[]⟩ : ByteArray) 0 (by omega) (by omega)
      obtain rfl := hK
      have hc := hcell 0 _ rfl
      rw [show (0 : Int).toNat * Kd.string.sz + 0 = 0 from rfl, Addr.add_zero'] at hc
      obtain ⟨ab, ao, rfl, hab⟩ := addr_plain hc
      exact ⟨ab, ao, hab, rfl, by omega, hc⟩
  have hk8 : ((q.form.tokens.length : Int) ≤ i ∧ atS q.form.tokens i = (⟨#[]⟩ : ByteArray)) ∨ ∃ ab ao, ab < w.heap.size ∧ A8 = some ⟨ab, ao, none⟩ ∧ i < q.form.tokens.length ∧ w.cell? ⟨ab, ao + i.toNat, none⟩ = some (.string (atS q.form.tokens i)) := by
    by_cases hk : i < q.form.tokens.length
    · right
      obtain ⟨ad, cs, rfl, _, hK, hcell⟩ := Kd.C_get hC8 (⟨#[]⟩ : ByteArray) i h0 hk
      obtain rfl := hK
      have hc := hcell 0 _ rfl
      rw [show i.toNat * Kd.string.sz + 0 = i.toNat by show i.toNat * 1 + 0 = _; omega] at hc
      obtain ⟨ad0, cs0, e0, _, hK0, hcell0⟩ := Kd.C_get hC8 (⟨#[]⟩ : ByteArray) 0 (by omega) (by omega)
      obtain rfl := hK0
      have hc0 := hcell0 0 _ rfl
      obtain rfl := Option.some.inj e0
      rw [show (0 : Int).toNat * Kd.string.sz + 0 = 0 from rfl, Addr.add_zero'] at hc0
      obtain ⟨ab, ao, rfl, hab⟩ := addr_plain hc0
      rw [show (⟨ab, ao, none⟩ : Addr).add i.toNat = ⟨ab, ao + i.toNat, none⟩ by unfold Addr.add; split <;> simp_all] at hc
      exact ⟨ab, ao, hab, rfl, hk, hc⟩
    · left
      refine ⟨by omega, ?_⟩
      unfold atS; rw [List.getD_eq_getElem?_getD, List.getElem?_eq_none (by omega)]; rfl
  clear hC hx hx' hw hq hC0 hC8 hC9 hl0 htold hl8 hl9 hl
  rcases hk9 with ⟨hk0, hke⟩ | ⟨a9, o9, hab9, rfl, hk0, hkc⟩ <;> rcases hk8 with ⟨ht0, hte⟩ | ⟨a8, o8, hab8, rfl, ht0, htc⟩
  all_goals
    go_enter Tryd.func27, Tryd.ntmps27
    go_wp2_with (first
      | (go_at_call 23; (with_reducible refine (rValue_calls x _ _ (kResult.K_below (by repeat (first | (with_reducible first | exact HB.out | apply below_alloc | apply pw_below_drewN | apply below_drew1) | exact HB.out)) HX.out) HW.out).mono ?_); rintro e w1 ⟨rfl, hb⟩; have HBn := Aside0.mk (below_step (by repeat (first | (with_reducible first | exact HB.out | apply below_alloc | apply pw_below_drewN | apply below_drew1) | exact HB.out)) hb); clear HB; have HB := HBn; clear HBn)
      | (go_at_call 16; (with_reducible refine (rShow_calls _ _ (by omega) (by omega)).mono ?_); rintro e w1 ⟨rfl, hb⟩; have HBn := Aside0.mk (below_step (by repeat (first | (with_reducible first | exact HB.out | apply below_alloc | apply pw_below_drewN | apply below_drew1) | exact HB.out)) hb); clear HB; have HB := HBn; clear HBn))
    all_goals go_ret
    all_goals refine ⟨?_, (by repeat (first | (with_reducible first | exact HB.out | apply below_alloc | apply pw_below_drewN | apply below_drew1) | exact HB.out))⟩
    all_goals clear HX HW HB
    all_goals try clear hkc
    all_goals try clear htc
    all_goals first
      | (simp_all [rPiece, mTold, bs_add_nil]; done)
      | (obtain rfl : cc = 116 := eq_of_beq (by assumption); show Ending.returned (Value.string _) = _; rw [rPiece_ttl_neg q x i (by assumption)])
      | (obtain rfl : cc = 116 := eq_of_beq (by assumption); show Ending.returned (Value.string _) = _; rw [rPiece_ttl q x i (by omega)])
end Go.Proofs.YtfolaakllblhbaaDoor.X
