/- Package metaout, second part: what a letter tells; what is told as flags. -/
import Derived.Test.YtfolaakllblhbaaDoorMeta1
import Derived.Test.YtfolaakllblhbaaDoorStr
import Derived.Shelf.Strings.MapGrows
namespace Go.Proofs.YtfolaakllblhbaaDoor.X
open Go.RowKit Go.Proofs.YtfolaakllblhbaaDoorW.PrintWords
set_option linter.unusedVariables false
set_option linter.unusedSimpArgs false

def mTold (q : Request) (x : Result) (c i : Int) : ByteArray × Bool :=
  if c = 99 then (showI x.cas, true) else if c = 102 then (showI x.flags, true) else if c = 115 then (showI (mValue x).size, true)
  else if c = 116 then (if x.ttl < 0 then ((⟨#[45, 49]⟩ : ByteArray), true) else (showI x.ttl, true)) else if c = 107 then (atS q.form.keys 0, true)
  else if c = 79 then (atS q.form.tokens i, true) else ((⟨#[]⟩ : ByteArray), c == 98)
theorem decDigits_short (u : Nat) (h : u < 18446744073709551616) : (Lib.decDigits u).length ≤ 20 := by
  rw [Lib.decDigits_length]
  by_cases h0 : u = 0
  · subst h0; rw [show Lib.nDigits 0 = 1 by simp [Lib.nDigits]]; omega
  · have := Lib.numDigits_eq u (by omega) h
    split at this <;> omega
theorem showI_size (n : Int) (h : n ≤ 18446744073709551615) : (showI n).size ≤ 20 := by
  have := decDigits_short n.toNat (by omega)
  simpa [showI, ByteArray.size] using this
theorem strOfNums_size (l : List Int) : (strOfNums l).size = l.length := by simp [strOfNums, ByteArray.size]
theorem mValue_size (x : Result) (hw : x.Wf) : (mValue x).size ≤ 9223372036854775807 := by
  unfold mValue
  split
  · have := showI_size x.number hw.number.2; omega
  · rw [strOfNums_size]; exact hw.value.1
set_option maxRecDepth 100000 in
theorem mTold_calls (q : Request) (x : Result) (cq cx : List Value) (c i : Int) (w : World) (hq : kRequest.K w q cq) (hx : kResult.K w x cx) (hw : x.Wf) (h0 : 0 ≤ i) (hT : Tabs w) :
    Calls Tryd.prog 24 #[.agg cq.toArray, .agg cx.toArray, .int .i32 c, .int .i64 i] w fun e w' => e = .returned (.tuple #[.string (mTold q x c i).1, .bool (mTold q x c i).2]) ∧ Below w.heap.size w w' := by
  obtain ⟨A0, c0, A8, c8, A9, c9, rfl, hl0, hC0, hl8, hC8, hl9, hC9⟩ := kRequest_open hq
  obtain ⟨A, c1, rfl, hl, hC⟩ := kResult_open hx
  have hx' := kResult_mk w x hl hC
  have hv := mValue_size x hw
  have h3 := hw.cas; have h2 := hw.flags; have h4 := hw.ttl
  have HT := Aside0.mk hT; have HX := Aside0.mk hx'; have HW := Aside0.mk hw; have HC8 := Aside0.mk hC8; have HC9 := Aside0.mk hC9; have HB := Aside0.mk (Below.refl w.heap.size w)
  clear hT hC hx hx' hw hq hC0 hC8 hC9 hl0
  go_enter Tryd.func24, Tryd.ntmps24
  go_wp2_with (first
    | (go_at_call 19; (with_reducible refine (mValue_calls x _ _ (kResult.K_below (by repeat (first | (with_reducible first | exact HB.out | apply below_alloc | apply pw_below_drewN | apply below_drew1) | exact HB.out)) HX.out) HW.out (Tabs.below HT.out (by repeat (first | (with_reducible first | exact HB.out | apply below_alloc | apply pw_below_drewN | apply below_drew1) | exact HB.out)))).mono ?_); rintro e w1 ⟨rfl, hb⟩; have HBn := Aside0.mk (below_step (by repeat (first | (with_reducible first | exact HB.out | apply below_alloc | apply pw_below_drewN | apply below_drew1) | exact HB.out)) hb); clear HB; have HB := HBn; clear HBn)
    | (go_at_call 31; (with_reducible refine (atS_calls _ _ _ _ _ hl9 (Kd.C_below HC9.out (by repeat (first | (with_reducible first | exact HB.out | apply below_alloc | apply pw_below_drewN | apply below_drew1) | exact HB.out))) (by omega)).mono ?_); rintro e w1 ⟨rfl, rfl⟩)
    | (go_at_call 31; (with_reducible refine (atS_calls _ _ _ _ _ hl8 (Kd.C_below HC8.out (by repeat (first | (with_reducible first | exact HB.out | apply below_alloc | apply pw_below_drewN | apply below_drew1) | exact HB.out))) (by omega)).mono ?_); rintro e w1 ⟨rfl, rfl⟩)
    | (go_at_call 21; (with_reducible refine (show_calls _ _ (by omega) (by omega) (Tabs.below HT.out (by repeat (first | (with_reducible first | exact HB.out | apply below_alloc | apply pw_below_drewN | apply below_drew1) | exact HB.out)))).mono ?_); rintro e w1 ⟨rfl, hb⟩; have HBn := Aside0.mk (below_step (by repeat (first | (with_reducible first | exact HB.out | apply below_alloc | apply pw_below_drewN | apply below_drew1) | exact HB.out)) hb); clear HB; have HB := HBn; clear HBn))
  all_goals go_ret2
  all_goals exact ⟨by first | (simp_all [mTold]; done) | (simp_all [mTold]; rw [if_neg (by omega)]; exact ⟨rfl, rfl⟩), (by repeat (first | (with_reducible first | exact HB.out | apply below_alloc | apply pw_below_drewN | apply below_drew1) | exact HB.out))⟩
end Go.Proofs.YtfolaakllblhbaaDoor.X
