/- Texts of this work, merged in build order: Gets2, Gats, Gats2, Skip, Stores2, Hush, Loud. -/
import Derived.Test.YtfljijpkeckeaaaGreatDoorY2
import Derived.Laws.CopyOwn
import Derived.Deep.RegionHeld3
import Derived.Deep.DeepCutAuto
namespace Go.Proofs.YtfljijpkeckeaaaGreatDoor.X
open Go.RowKit Go.Proofs.YtfljijpkeckeaaaGreatDoorW.PrintWords Go.Proofs.YtfljijpkeckeaaaGreatDoorW.PrintMore
set_option linter.unusedVariables false
set_option linter.unusedSimpArgs false
def endsS (verb : ByteArray) : Bool := Lib.hasSuffix verb.data.toList [115]
def stepG (used : Int) (verb : ByteArray) (op exp : Int) (keys : List ByteArray) : Step := { zStep with req := ⟨keys.map (cmdK op exp 0), { zForm with dialect := 1, verb := verb, withcas := endsS verb, keys := keys }⟩, used := used }
def getsS (verb : ByteArray) (used : Int) (keys : List ByteArray) (op : Int) : Step :=
  if keys.length = 0 then stepF used (⟨#[69, 82, 82, 79, 82]⟩ : ByteArray) else if keysS keys = false then stepF used badT else stepG used verb op 0 keys
def stepGC (used : Int) (verb : ByteArray) (v : Value) (A : Option Addr) (n c : Nat) : List Value := [v, .int .i64 1, .string verb, .int .i64 0, .int .u32 0, .bool false, .bool (endsS verb), .string ⟨#[]⟩, .slice none 0 0, .slice A n c, .bool false, .string ⟨#[]⟩, .int .i64 used, .int .i64 0, .bool false, .int .i64 0]
theorem stepG_K {W : World} {base : Nat} {v : Value} {used op exp : Int} {verb : ByteArray} {keys : List ByteArray} {A : Option Addr} {c : Nat} (ho : W.ownsRow base 40 10 v keys.length (rowsC op exp keys)) (hC : Kd.string.C W A keys.length keys) (hc : keys.length ≤ c) :
    kStep.K W (stepG used verb op exp keys) (stepGC used verb v A keys.length c) := by
  obtain ⟨A', c', rfl, hc', hC'⟩ := own_C ho
  have hl : (keys.map (cmdK op exp 0)).length = keys.length := List.length_map _
  have := kStep_mk W (stepG used verb op exp keys) (A0 := A') (c0 := c') (by show (keys.map _).length ≤ _; rw [hl]; exact hc') (by show Kd.C _ _ _ (keys.map _).length _; rw [hl]; exact hC') (Nat.le_refl _) (C_nil _ _) hc hC
  have e : (stepG used verb op exp keys).req.cmds.length = keys.length := hl
  rw [e] at this
  exact this
theorem stepG_R {F : Nat → Prop} {w w' : World} {v : Value} {used op exp : Int} {verb : ByteArray} {keys : List ByteArray} {A : Option Addr} {c : Nat} (ho : w'.ownsRow w.heap.size 40 10 v keys.length (rowsC op exp keys)) (hb : Below w.heap.size w w') (hC : HolF F w (fun w2 => Kd.string.C w2 A keys.length keys)) (hc : keys.length ≤ c) :
    StepR F w (stepG used verb op exp keys) (.returned (.agg (stepGC used verb v A keys.length c).toArray)) w' :=
  ⟨⟨_, rfl, fun w2 hb2 hk2 => stepG_K (own_keep ho (fun k hk hlt => hk2 k hlt (fun h => absurd h (by omega)))) (hC.back hb hb2 hk2) hc⟩, hb⟩
theorem gets_calls (x : TextinLine) (cx : List Value) (op : Int) (keys : List ByteArray) (A : Option Addr) (c : Nat) (F : Nat → Prop) (w : World) (hx : kTextinLine.K w x cx) (hl : keys.length ≤ 1000000) (hs : ∀ k ∈ keys, k.size ≤ 1000000) (hv : x.verb.size ≤ 1000000)
    (hC : HolF F w (fun w2 => Kd.string.C w2 A keys.length keys)) (hc : keys.length ≤ c) :
    Calls Tryz.prog 41 #[.agg cx.toArray, .agg (cmdC op 0 ⟨#[]⟩).toArray, .slice A keys.length c] w (StepR F w (getsS x.verb x.used keys op)) := by
  unfold getsS
  by_cases h0 : keys.length = 0
  · rw [if_pos h0, h0]
    exact gets_no x cx op A c F w hx
  rw [if_neg h0]
  cases hk : keysS keys
  · rw [if_pos rfl]
    exact gets_bad x cx op keys A c F w hx h0 hl hs hC.now hc hk
  · rw [if_neg (by decide)]
    refine (gets_ok x cx op keys A c w hx h0 hs hv hC.now hc hk).mono ?_
    rintro e w' ⟨v, rfl, ho, hb⟩
    exact stepG_R ho hb hC hc
theorem own_set {w : World} {base e size n g cap : Nat} {xs : List Value} (h : w.ownsRow base e size (.slice (some ⟨g, 0, none⟩) n cap) n xs) (j : Nat) (hj : j < xs.length) :
    ∃ cur, w.heap[g]? = some (.cells cur e (0, 0)) ∧ j + 1 ≤ cur.size ∧ base ≤ g ∧ ∀ (u : Value) (w' : World), w'.heap[g]? = some (.cells (cur.toList.take j ++ [u] ++ cur.toList.drop (j + 1)).toArray e (0, 0)) → w'.ownsRow base e size (.slice (some ⟨g, 0, none⟩) n cap) n (xs.set j u) := by
  obtain ⟨hl, h2⟩ := h
  rcases h2 with ⟨h2, _⟩ | ⟨g', cap', cur, he, hb, hh, hn, hcm, hcs, htake⟩
  · cases h2
  obtain ⟨rfl, rfl⟩ : g = g' ∧ cap = cap' := by simpa using he
  have hjc : j < cur.toList.length := by
    rw [← htake, List.length_take] at hj
    omega
  refine ⟨cur, hh, by rw [Array.length_toList] at hjc; omega, hb, fun u w' hw => ?_⟩
  have e1 : cur.toList.take j ++ [u] ++ cur.toList.drop (j + 1) = cur.toList.set j u := by
    rw [List.set_eq_take_append_cons_drop, if_pos hjc]
    simp
  rw [e1] at hw
  refine ⟨by rw [List.length_set]; exact hl, .inr ⟨g, cap, _, rfl, hb, hw, hn, hcm, ?_, ?_⟩⟩
  · rw [List.size_toArray, List.length_set, Array.length_toList]; exact hcs
  · show (cur.toList.set j u).take _ = _
    rw [← htake, List.take_set]
theorem rowsC_cons (op exp : Int) (k : ByteArray) (l : List ByteArray) : rowsC op exp (k :: l) = cmdC op exp k ++ rowsC op exp l := rfl
theorem rowsC_len (op exp : Int) : ∀ l : List ByteArray, (rowsC op exp l).length = l.length * 10
  | [] => rfl
  | k :: l => by
    rw [rowsC_cons, List.length_append, rowsC_len op exp l, List.length_cons]
    show 10 + _ = _
    omega
theorem rowsC_exp (op z : Int) (keys : List ByteArray) (k : Nat) (hk : k < keys.length) :
    (rowsC op z (keys.take k) ++ rowsC op 0 (keys.drop k)).set (k * 10 + 4) (.int .i64 z) = rowsC op z (keys.take (k + 1)) ++ rowsC op 0 (keys.drop (k + 1)) := by
  rw [List.drop_eq_getElem_cons hk, rowsC_cons, List.take_succ_eq_append_getElem hk, rowsC_snoc]
  have hl : (rowsC op z (keys.take k)).length = k * 10 := by rw [rowsC_len, List.length_take]; omega
  rw [List.set_append_right _ _ (by omega), hl, List.append_assoc]
  congr 1
  rw [show k * 10 + 4 - k * 10 = 4 by omega]
  rfl
theorem add_plain (b o k : Nat) : (⟨b, o, none⟩ : Addr).add k = ⟨b, o + k, none⟩ := by
  unfold Addr.add
  split <;> simp_all
theorem C_tail {w : World} {b o n : Nat} {v : ByteArray} {l : List ByteArray} (h : Kd.string.C w (some ⟨b, o, none⟩) (n + 1) (v :: l)) (hn : l.length = n) : Kd.string.C w (some ⟨b, o + 1, none⟩) n l := by
  obtain ⟨h1, h2, h3⟩ := h
  refine ⟨hn, by omega, fun h0 => ⟨_, rfl, fun j p hj => ?_⟩⟩
  obtain ⟨ad, ha, hc⟩ := h3 (by omega)
  obtain rfl := Option.some.inj ha
  obtain ⟨cs, hlen, hK, hcell⟩ := hc (j + 1) p hj
  refine ⟨cs, hlen, hK, fun i u hu => ?_⟩
  rw [← hcell i u hu]
  obtain rfl : cs = [Value.string p] := hK
  have hi : i = 0 := by
    have := (List.getElem?_eq_some_iff.1 hu).1
    simpa using this
  subst hi
  rw [add_plain, add_plain]
  congr 2
  show o + 1 + (j * 1 + 0) = o + ((j + 1) * 1 + 0)
  omega
end Go.Proofs.YtfljijpkeckeaaaGreatDoor.X
namespace Go.Proofs.YtfljijpkeckeaaaGreatDoor.X
open Go.RowKit Go.Proofs.YtfljijpkeckeaaaGreatDoorW.PrintWords Go.Proofs.YtfljijpkeckeaaaGreatDoorW.PrintMore
set_option linter.unusedVariables false
set_option linter.unusedSimpArgs false
def LineAt (verb : ByteArray) (v1 : Value) (quiet : Bool) (used : Int) (v4 : Value) (g : Nat) (w : World) : Prop :=
  w.cell? ⟨g, 0, none⟩ = some (.string verb) ∧ w.cell? ⟨g, 1, none⟩ = some v1 ∧ w.cell? ⟨g, 2, none⟩ = some (.bool quiet) ∧ w.cell? ⟨g, 3, none⟩ = some (.int .i64 used) ∧ w.cell? ⟨g, 4, none⟩ = some v4
theorem LineAt.of {verb : ByteArray} {v1 : Value} {quiet : Bool} {used : Int} {v4 : Value} {g : Nat} {w : World} (h : w.heap[g]? = some (.cells #[.string verb, v1, .bool quiet, .int .i64 used, v4] 50 (0, 0))) : LineAt verb v1 quiet used v4 g w :=
  ⟨(blk_cell h 0).trans rfl, (blk_cell h 1).trans rfl, (blk_cell h 2).trans rfl, (blk_cell h 3).trans rfl, (blk_cell h 4).trans rfl⟩
def mixR (z : Int) (keys : List ByteArray) (k : Nat) : List Value := rowsC 1 z (keys.take k) ++ rowsC 1 0 (keys.drop k)
theorem mixR_zero (z : Int) (keys : List ByteArray) : mixR z keys 0 = rowsC 1 0 keys := by unfold mixR; rw [List.take_zero, List.drop_zero]; rfl
theorem mixR_full (z : Int) (keys : List ByteArray) : mixR z keys keys.length = rowsC 1 z keys := by unfold mixR; rw [List.take_length, List.drop_length]; exact List.append_nil _
theorem mixR_len (z : Int) (keys : List ByteArray) (k : Nat) : (mixR z keys k).length = keys.length * 10 := by
  unfold mixR
  rw [List.length_append, rowsC_len, rowsC_len, List.length_take, List.length_drop]
  omega
theorem mixR_set (z : Int) (keys : List ByteArray) (k : Nat) (hk : k < keys.length) : (mixR z keys k).set (k * 10 + 4) (.int .i64 z) = mixR z keys (k + 1) := rowsC_exp 1 z keys k hk
set_option maxRecDepth 100000 in
set_option maxHeartbeats 1000000 in
theorem gats_ok (x : TextinLine) (cx : List Value) (v : ByteArray) (keys : List ByteArray) (F : Nat → Prop) (w : World) (hx : HolF F w (fun w2 => kTextinLine.K w2 x cx)) (hT : Tabs w) (hw : x.words = v :: keys) (h0 : keys.length ≠ 0) (hs : ∀ k ∈ keys, k.size ≤ 1000000) (hv : x.verb.size ≤ 1000000)
    (hk : keysS keys = true) (hz : (sgnS v).2 = true) :
    Calls Tryz.prog 42 #[.agg cx.toArray] w (StepR F w (stepG x.used x.verb 1 (sgnS v).1 keys)) := by
  have HB := Aside0.mk (Below.refl w.heap.size w)
  have HXF := Aside0.mk hx
  have HX := Aside0.mk hx.now
  have HT := Aside0.mk hT
  obtain ⟨A1, c1, A4, c4, rfl, hl1, hg1, hl4, hg4⟩ := kTextinLine_open hx.now
  obtain ⟨b, o, rfl, hb0, hcell⟩ := S_cell hg1 0 (by rw [hw]; simp)
  rw [hw, Nat.add_zero] at hcell
  have hcell : w.cell? ⟨b, o, none⟩ = some (.string v) := hcell
  have HCL := Aside0.mk hcell
  have hwl : x.words.length = keys.length + 1 := by rw [hw]; rfl
  have HTL : Aside0 (HolF F w (fun w2 => Kd.string.C w2 (some ⟨b, o + 1, none⟩) keys.length keys)) := ⟨hx.imp (fun w2 h => by
    obtain ⟨A1', c1', A4', c4', e, -, hg, -, -⟩ := kTextinLine_open h
    simp only [List.cons.injEq, Value.slice.injEq, and_true, true_and] at e
    obtain ⟨⟨rfl, rfl⟩, rfl, rfl⟩ := e
    rw [hwl, hw] at hg
    exact C_tail hg rfl)⟩
  have hk16 : keys.length ≤ 16 := by
    unfold keysS at hk
    rw [Bool.and_eq_true] at hk
    exact of_decide_eq_true hk.1
  have hcl : keys.length ≤ c1 - 1 := by omega
  have HG : Aside0 (∀ w', Below w.heap.size w w' → Calls Tryz.prog 41 #[.agg #[.string x.verb, .slice (some ⟨b, o, none⟩) (keys.length + 1) c1, .bool x.quiet, .int .i64 x.used, .slice A4 x.rest.length c4], .agg #[.int .i64 1, .string ⟨#[]⟩, .slice none 0 0, .int .u32 0, .int .i64 0, .int .u64 0, .int .u64 0, .int .u64 0, .bool false, .bool false], .slice (some ⟨b, o + 1, none⟩) keys.length (c1 - 1)] w' fun e w'' => ∃ v, e = .returned (.agg (stepGC x.used x.verb v (some ⟨b, o + 1, none⟩) keys.length (c1 - 1)).toArray)
      ∧ w''.ownsRow w'.heap.size 40 10 v keys.length (rowsC 1 0 keys) ∧ Below w'.heap.size w' w'') := ⟨fun w' hb => by
    have := gets_ok x _ 1 keys (some ⟨b, o + 1, none⟩) (c1 - 1) w' (kTextinLine.K_below hb HX.out) h0 hs hv (Kd.C_below HTL.out.now hb) hcl hk
    rw [hwl] at this
    exact this⟩
  obtain ⟨z, hzz⟩ : ∃ z, (sgnS v).1 = z := ⟨_, rfl⟩
  have HSG := Aside0.mk (fun w => sgn_w v w)
  rw [hzz, hz] at HSG
  rw [hzz]
  have hi1 : (1 : Int) ≤ ↑keys.length + 1 := by omega
  have hi2 : (keys.length : Int) + 1 ≤ ↑c1 := by omega
  have hi3 : (2 : Int) ≤ ↑keys.length + 1 := by omega
  have hi4 : (0 : Int) ≤ ↑keys.length + 1 := by omega
  have hc1 : ¬ (c1 = 1) := by omega
  clear hx hg1 hg4 hT hzz hz hs hk
  go_enter Tryz.func42, Tryz.ntmps42
  go_wp2
  (refine wp_region_noPanic ?_; refine wp_region_held_drew (S := LineAt x.verb (.slice (some ⟨b, o, none⟩) (keys.length + 1) c1) x.quiet x.used (.slice A4 x.rest.length c4) w.heap.size) (by kernel_rfl) (LineAt.of (by repeat (first | exact blk_at_new _ _ _ (by simp; done) | exact blk_at_new _ _ _ rfl | refine blk_alloc ?_ _ | refine blk_drew ?_ | refine blk_drewN ?_ _))) ?_; intro hHeld)
  (refine wpAnyH_take (i := 0) (v := ?_) (by simp only [List.getElem?_toArray, List.getElem?_cons_succ, List.getElem?_cons_zero]; rfl) (by kernel_rfl) (by kernel_rfl) (by kernel_rfl) (fun _ _ _ h => h) (Or.inl ⟨by rfl, ?_⟩) (by exact hHeld) ?_; rotate_left; (focus (intro w' hSw; obtain ⟨s0, s1, s2, s3, s4⟩ := hSw; go_simp; (try with_reducible rfl); done)); (try simp only [Act.put, List.setIfInBounds_toArray, List.set_cons_zero, List.set_cons_succ]))
  (refine wpAnyH_take (i := 1) (v := ?_) (by simp only [List.getElem?_toArray, List.getElem?_cons_succ, List.getElem?_cons_zero]; rfl) (by kernel_rfl) (by kernel_rfl) (by kernel_rfl) (fun _ _ _ h => h) (Or.inl ⟨by rfl, ?_⟩) (by exact hHeld) ?_; rotate_left; (focus (intro w' hSw; obtain ⟨s0, s1, s2, s3, s4⟩ := hSw; go_simp; (try with_reducible rfl); done)); (try simp only [Act.put, List.setIfInBounds_toArray, List.set_cons_zero, List.set_cons_succ]))
  (refine wpAnyH_take (i := 2) (v := ?_) (by simp only [List.getElem?_toArray, List.getElem?_cons_succ, List.getElem?_cons_zero]; rfl) (by kernel_rfl) (by kernel_rfl) (by kernel_rfl) (fun _ _ _ h => h) (Or.inl ⟨by rfl, ?_⟩) (by exact hHeld) ?_; rotate_left; (focus (intro w' hSw; obtain ⟨s0, s1, s2, s3, s4⟩ := hSw; go_simp; (try with_reducible rfl); done)); (try simp only [Act.put, List.setIfInBounds_toArray, List.set_cons_zero, List.set_cons_succ]))
  (refine wpAnyH_take (i := 3) (v := ?_) (by simp only [List.getElem?_toArray, List.getElem?_cons_succ, List.getElem?_cons_zero]; rfl) (by kernel_rfl) (by kernel_rfl) (by kernel_rfl) (fun _ _ _ h => h) (Or.inl ⟨by rfl, ?_⟩) (by exact hHeld) ?_; rotate_left; (focus (intro w' hSw; obtain ⟨s0, s1, s2, s3, s4⟩ := hSw; go_simp; (try with_reducible rfl); done)); (try simp only [Act.put, List.setIfInBounds_toArray, List.set_cons_zero, List.set_cons_succ]))
  (refine wpAnyH_take (i := 4) (v := ?_) (by simp only [List.getElem?_toArray, List.getElem?_cons_succ, List.getElem?_cons_zero]; rfl) (by kernel_rfl) (by kernel_rfl) (by kernel_rfl) (fun _ _ _ h => h) (Or.inl ⟨by rfl, ?_⟩) (by exact hHeld) ?_; rotate_left; (focus (intro w' hSw; obtain ⟨s0, s1, s2, s3, s4⟩ := hSw; go_simp; (try with_reducible rfl); done)); (try simp only [Act.put, List.setIfInBounds_toArray, List.set_cons_zero, List.set_cons_succ]))
  refine wpAnyH_ready (rs := [5, 6]) (by kernel_rfl) (by simp) ?_
  refine AllReadyH.cons (by simp only [List.getElem?_toArray, List.getElem?_cons_succ, List.getElem?_cons_zero]; rfl) (fun K hK => ?_) (AllReadyH.cons (by simp only [List.getElem?_toArray, List.getElem?_cons_succ, List.getElem?_cons_zero]; rfl) (fun K hK => ?_) AllReadyH.nil)
  · go_simp
    (go_at_call 41; (with_reducible refine (HG.out _ (by repeat (first | (with_reducible first | exact HB.out | apply below_alloc | apply pw_below_drewN | apply below_drew1) | exact HB.out))).mono ?_); rintro e w1 ⟨V, rfl, ho, hb⟩; have BX := Aside0.mk (blk_below (g := w.heap.size) (o := .cells #[.string x.verb, .slice (some ⟨b, o, none⟩) (keys.length + 1) c1, .bool x.quiet, .int .i64 x.used, .slice A4 x.rest.length c4] 50 (0, 0)) (by repeat (first | exact blk_at_new _ _ _ (by simp; done) | exact blk_at_new _ _ _ rfl | refine blk_alloc ?_ _ | refine blk_drew ?_ | refine blk_drewN ?_ _)) hb); have BR := Aside0.mk (blk_below (g := w.heap.size + 1) (o := .cells zStepC 34 (0, 0)) (by repeat (first | exact blk_at_new _ _ _ (by simp; done) | exact blk_at_new _ _ _ rfl | refine blk_alloc ?_ _ | refine blk_drew ?_ | refine blk_drewN ?_ _)) hb); have HBn := Aside0.mk (below_step (by repeat (first | (with_reducible first | exact HB.out | apply below_alloc | apply pw_below_drewN | apply below_drew1) | exact HB.out)) hb); clear HB; have HB := HBn; clear HBn)
    have HOw := Aside0.mk ho
    refine hK.out _ _ (LineAt.of BX.out) ?_
    clear hK K hHeld
    intro hHeld
    (try simp only [Act.put, List.setIfInBounds_toArray, List.set_cons_zero, List.set_cons_succ])
    refine wpAnyH_ready (rs := [6]) (by kernel_rfl) (by simp) ?_
    refine AllReadyH.cons (by simp only [List.getElem?_toArray, List.getElem?_cons_succ, List.getElem?_cons_zero]; rfl) (fun K hK => ?_) AllReadyH.nil
    go_simp
    refine hK.out _ _ (LineAt.of (blk_alloc BX.out _)) ?_
    clear hK K hHeld
    intro hHeld
    (try simp only [Act.put, List.setIfInBounds_toArray, List.set_cons_zero, List.set_cons_succ])
    (refine wpAnyH_ready (rs := [7]) (by kernel_rfl) (by simp) ?_; refine AllReadyH.cons (by simp only [List.getElem?_toArray, List.getElem?_cons_succ, List.getElem?_cons_zero]; rfl) (fun K hK => ?_) AllReadyH.nil)
    have BS : Aside0 ((w1.alloc (.cells zStepC 34 (0, 0))).heap[w1.heap.size]? = some (.cells zStepC 34 (0, 0))) := ⟨blk_at_new _ _ _ rfl⟩
    unfold zStepC at BS
    (refine step_store_F rfl 34 _ _ rfl (w1.heap.size) 0 _ rfl rfl (by intro u hu; simp only [stepGC, List.mem_cons, List.not_mem_nil, or_false] at hu; rcases hu with h | h | h | h | h | h | h | h | h | h | h | h | h | h | h | h <;> subst h <;> first | rfl | exact own_one HOw.out) 34 _ _ BS.out (by simp [stepGC]) (by kernel_rfl) rfl ?_; intro w5 hbk hst; have BS5 := Aside0.mk (show w5.heap[w1.heap.size]? = some (.cells (stepGC x.used x.verb V (some ⟨b, o + 1, none⟩) keys.length (c1 - 1)).toArray 34 (0, 0)) from hbk))
    have l1 : w.heap.size + 1 < w1.heap.size := blk_lt BR.out
    have BX5 := Aside0.mk (hst.blk (blk_alloc BX.out _) (show w.heap.size ≠ w1.heap.size by omega))
    have BR5 := Aside0.mk (hst.blk (blk_alloc BR.out _) (show w.heap.size + 1 ≠ w1.heap.size by omega))
    have HO5 := Aside0.mk (own_weaken (base' := w.heap.size + 2) (hst.own' (ho.alloc _) (own_not ho (Nat.le_refl _))) (by simp))
    have HB5 := Aside0.mk (hst.up (by repeat (first | (with_reducible first | exact HB.out | apply below_alloc | apply pw_below_drewN | apply below_drew1) | exact HB.out)) (show w.heap.size ≤ w1.heap.size by omega))
    refine hK.out _ _ (LineAt.of BX5.out) ?_
    clear hK K hHeld hst hbk BX BR BS HB ho hb HOw
    have HB := HB5
    intro hHeld
    (try simp only [Act.put, List.setIfInBounds_toArray, List.set_cons_zero, List.set_cons_succ])
    obtain ⟨gs, hgs⟩ : ∃ g, w1.heap.size = g := ⟨_, rfl⟩
    rw [hgs] at BS5 l1
    rw [hgs]
    clear HB5 hgs hHeld
    (refine wpAnyH_done (by kernel_rfl) ?_ _; refine NoPanic.normal ?_)
    obtain ⟨g', cap, rfl⟩ := own_some HO5.out h0
    have t1 : w5.cell? ⟨w.heap.size, 1, none⟩ = some (.slice (some ⟨b, o, none⟩) (keys.length + 1) c1) := (blk_cell BX5.out 1).trans rfl
    have t5 : w5.cell? ⟨b, o, none⟩ = some (.string v) := (Below.cell HB.out (p := ⟨b, o, none⟩) hb0).trans HCL.out
    go_wp2_with (first | (go_at_call 69; (with_reducible refine (HSG.out _ (Tabs.below HT.out (by repeat (first | (with_reducible first | exact HB.out | apply below_alloc | apply pw_below_drewN | apply below_drew1) | exact HB.out)))).mono ?_); rintro e w6 ⟨rfl, hb⟩; have BS6 := Aside0.mk (blk_below BS5.out hb); have BX6 := Aside0.mk (blk_below BX5.out hb); have BR6 := Aside0.mk (blk_below BR5.out hb); have HO6 := Aside0.mk (own_up HO5.out hb); have HBn := Aside0.mk (below_step (by repeat (first | (with_reducible first | exact HB.out | apply below_alloc | apply pw_below_drewN | apply below_drew1) | exact HB.out)) hb); clear HB; have HB := HBn; clear HBn; clear hb; have e0 : w6.cell? ⟨gs, 0, none⟩ = some (.slice (some ⟨g', 0, none⟩) keys.length cap) := (blk_cell BS6.out 0).trans rfl; have e15 : w6.cell? ⟨gs, 15, none⟩ = some (.int .i64 0) := (blk_cell BS6.out 15).trans rfl))
    go_loopw [40] (fun v wr => ∃ k : Nat, v = .int .i64 k ∧ k ≤ keys.length ∧ Aside0 (wr.heap[gs]? = some (.cells (stepGC x.used x.verb (.slice (some ⟨g', 0, none⟩) keys.length cap) (some ⟨b, o + 1, none⟩) keys.length (c1 - 1)).toArray 34 (0, 0)) ∧ wr.ownsRow (w.heap.size + 2) 40 10 (.slice (some ⟨g', 0, none⟩) keys.length cap) keys.length (mixR z keys k) ∧ wr.heap[w.heap.size]? = some (.cells #[.string x.verb, .slice (some ⟨b, o, none⟩) (keys.length + 1) c1, .bool x.quiet, .int .i64 x.used, .slice A4 x.rest.length c4] 50 (0, 0)) ∧ wr.heap[w.heap.size + 1]? = some (.cells zStepC 34 (0, 0)) ∧ Below w.heap.size w wr)) (fun v _ => keys.length - (intOf v).toNat)
    case atStart => exact ⟨0, rfl, by omega, ⟨⟨BS6.out, by rw [mixR_zero]; exact HO6.out, BX6.out, BR6.out, HB.out⟩⟩⟩
    case round =>
      obtain ⟨k, rfl, hk, HI⟩ := hrel
      obtain ⟨hq, ho, hx0, hr0, hB⟩ := HI.out
      have BS := Aside0.mk hq
      have HOw := Aside0.mk ho
      have BX := Aside0.mk hx0
      have BR := Aside0.mk hr0
      have HBr := Aside0.mk hB
      clear hq ho hx0 hr0 hB HI BS6 BX6 BR6 HO6 HB e0 e15 BS5 BX5 BR5 HO5 t1 t5
      have HB := HBr
      clear HBr
      by_cases hlt : k < keys.length
      · obtain ⟨cur, hcur0, hfit0, hbg0, hset0⟩ := own_set HOw.out (k * 10 + 4) (by rw [mixR_len]; omega)
        have hn1 : Aside0 (gs ≠ g') := ⟨blk_ne BS.out hcur0 (by decide)⟩
        have hn2 : Aside0 (w.heap.size ≠ g') := ⟨by omega⟩
        have hn3 : Aside0 (w.heap.size + 1 ≠ g') := ⟨by omega⟩
        have hn4 : Aside0 (w.heap.size ≤ g') := ⟨by omega⟩
        have hcur := Aside0.mk hcur0
        have hfit := Aside0.mk hfit0
        have hset := Aside0.mk hset0
        have hgl : g' < wr.heap.size := blk_lt hcur0
        clear hcur0 hfit0 hset0 hbg0
        have e0 : wr.cell? ⟨gs, 0, none⟩ = some (.slice (some ⟨g', 0, none⟩) keys.length cap) := (blk_cell BS.out 0).trans rfl
        go_wp2_with (first | (refine wpList_store_1 rfl 3 _ _ rfl g' (k * 10 + 4) (.int .i64 z) rfl rfl rfl 40 cur _ hcur.out hfit.out (by kernel_rfl) rfl ?_; intro w7 hbk hst; have HO7 := Aside0.mk (hset.out _ _ hbk); have BS7 := Aside0.mk (hst.blk BS.out hn1.out); have BX7 := Aside0.mk (hst.blk BX.out hn2.out); have BR7 := Aside0.mk (hst.blk BR.out hn3.out); have HB7 := Aside0.mk (hst.up HB.out hn4.out); clear hbk hst))
        go_round
        case rel => exact ⟨k + 1, by first | rfl | simp, by omega, ⟨⟨BS7.out, by rw [← mixR_set z keys k hlt]; exact HO7.out, BX7.out, BR7.out, HB7.out⟩⟩⟩
        case measure => simp [intOf]; omega
      · have hkl : k = keys.length := by omega
        subst hkl
        have HO1 := HOw.out
        rw [mixR_full] at HO1
        clear HOw
        have HOw := Aside0.mk HO1
        clear HO1
        have e0 : wr.cell? ⟨gs, 0, none⟩ = some (.slice (some ⟨g', 0, none⟩) keys.length cap) := (blk_cell BS.out 0).trans rfl; have e1 : wr.cell? ⟨gs, 1, none⟩ = some (.int .i64 1) := (blk_cell BS.out 1).trans rfl; have e2 : wr.cell? ⟨gs, 2, none⟩ = some (.string x.verb) := (blk_cell BS.out 2).trans rfl; have e3 : wr.cell? ⟨gs, 3, none⟩ = some (.int .i64 0) := (blk_cell BS.out 3).trans rfl; have e4 : wr.cell? ⟨gs, 4, none⟩ = some (.int .u32 0) := (blk_cell BS.out 4).trans rfl; have e5 : wr.cell? ⟨gs, 5, none⟩ = some (.bool false) := (blk_cell BS.out 5).trans rfl; have e6 : wr.cell? ⟨gs, 6, none⟩ = some (.bool (endsS x.verb)) := (blk_cell BS.out 6).trans rfl; have e7 : wr.cell? ⟨gs, 7, none⟩ = some (.string ⟨#[]⟩) := (blk_cell BS.out 7).trans rfl; have e8 : wr.cell? ⟨gs, 8, none⟩ = some (.slice none 0 0) := (blk_cell BS.out 8).trans rfl; have e9 : wr.cell? ⟨gs, 9, none⟩ = some (.slice (some ⟨b, o + 1, none⟩) keys.length (c1 - 1)) := (blk_cell BS.out 9).trans rfl; have e10 : wr.cell? ⟨gs, 10, none⟩ = some (.bool false) := (blk_cell BS.out 10).trans rfl; have e11 : wr.cell? ⟨gs, 11, none⟩ = some (.string ⟨#[]⟩) := (blk_cell BS.out 11).trans rfl; have e12 : wr.cell? ⟨gs, 12, none⟩ = some (.int .i64 x.used) := (blk_cell BS.out 12).trans rfl; have e13 : wr.cell? ⟨gs, 13, none⟩ = some (.int .i64 0) := (blk_cell BS.out 13).trans rfl; have e14 : wr.cell? ⟨gs, 14, none⟩ = some (.bool false) := (blk_cell BS.out 14).trans rfl; have e15 : wr.cell? ⟨gs, 15, none⟩ = some (.int .i64 0) := (blk_cell BS.out 15).trans rfl
        go_wp2_with (first | (refine wpList_store_F rfl 34 _ _ rfl (w.heap.size + 1) 0 _ rfl rfl (by simp [Value.oneCell']) 34 _ _ BR.out (by simp [zStepC]) (by kernel_rfl) rfl ?_; intro w8 hbk hst; have BR8 := Aside0.mk hbk; have HO8 := Aside0.mk (hst.own HOw.out (by omega)); have HB8 := Aside0.mk (hst.up HB.out (by omega)); clear hbk hst))
        (try simp only [Exit.inBlock, Exit.then]); refine bodyPost_ret (results_cell_row rfl _ _ (w.heap.size + 1) 34 _ (0, 0) _ rfl BR8.out Tryz.underlying34 rfl (by kernel_rfl)) rfl ?_
        exact stepG_R (own_weaken HO8.out (by omega)) HB8.out HTL.out hcl
  · go_simp
    refine hK.out _ _ (LineAt.of (by repeat (first | exact blk_at_new _ _ _ (by simp; done) | exact blk_at_new _ _ _ rfl | refine blk_alloc ?_ _ | refine blk_drew ?_ | refine blk_drewN ?_ _))) ?_
    clear hK K hHeld
    intro hHeld
    (try simp only [Act.put, List.setIfInBounds_toArray, List.set_cons_zero, List.set_cons_succ])
    refine wpAnyH_ready (rs := [5]) (by kernel_rfl) (by simp) ?_
    refine AllReadyH.cons (by simp only [List.getElem?_toArray, List.getElem?_cons_succ, List.getElem?_cons_zero]; rfl) (fun K hK => ?_) AllReadyH.nil
    go_simp
    (go_at_call 41; (with_reducible refine (HG.out _ (by repeat (first | (with_reducible first | exact HB.out | apply below_alloc | apply pw_below_drewN | apply below_drew1) | exact HB.out))).mono ?_); rintro e w1 ⟨V, rfl, ho, hb⟩; have BX := Aside0.mk (blk_below (g := w.heap.size) (o := .cells #[.string x.verb, .slice (some ⟨b, o, none⟩) (keys.length + 1) c1, .bool x.quiet, .int .i64 x.used, .slice A4 x.rest.length c4] 50 (0, 0)) (by repeat (first | exact blk_at_new _ _ _ (by simp; done) | exact blk_at_new _ _ _ rfl | refine blk_alloc ?_ _ | refine blk_drew ?_ | refine blk_drewN ?_ _)) hb); have BR := Aside0.mk (blk_below (g := w.heap.size + 1) (o := .cells zStepC 34 (0, 0)) (blk_alloc (blk_drew (blk_at_new _ _ _ (by simp))) _) hb); have HBn := Aside0.mk (below_step (by repeat (first | (with_reducible first | exact HB.out | apply below_alloc | apply pw_below_drewN | apply below_drew1) | exact HB.out)) hb); clear HB; have HB := HBn; clear HBn)
    have BS := Aside0.mk (blk_below (g := w.heap.size + 1 + 1) (o := .cells zStepC 34 (0, 0)) (by repeat (first | exact blk_at_new _ _ _ (by simp; done) | exact blk_at_new _ _ _ rfl | refine blk_alloc ?_ _ | refine blk_drew ?_ | refine blk_drewN ?_ _)) hb)
    unfold zStepC at BS
    have HOw := Aside0.mk ho
    refine hK.out _ _ (LineAt.of BX.out) ?_
    clear hK K hHeld
    intro hHeld
    (try simp only [Act.put, List.setIfInBounds_toArray, List.set_cons_zero, List.set_cons_succ])
    (refine wpAnyH_ready (rs := [7]) (by kernel_rfl) (by simp) ?_; refine AllReadyH.cons (by simp only [List.getElem?_toArray, List.getElem?_cons_succ, List.getElem?_cons_zero]; rfl) (fun K hK => ?_) AllReadyH.nil)
    (refine step_store_F rfl 34 _ _ rfl (w.heap.size + 1 + 1) 0 _ rfl rfl (by intro u hu; simp only [stepGC, List.mem_cons, List.not_mem_nil, or_false] at hu; rcases hu with h | h | h | h | h | h | h | h | h | h | h | h | h | h | h | h <;> subst h <;> first | rfl | exact own_one HOw.out) 34 _ _ BS.out (by simp [stepGC]) (by kernel_rfl) rfl ?_; intro w5 hbk hst; have BS5 := Aside0.mk (show w5.heap[w.heap.size + 1 + 1]? = some (.cells (stepGC x.used x.verb V (some ⟨b, o + 1, none⟩) keys.length (c1 - 1)).toArray 34 (0, 0)) from hbk))
    have BX5 := Aside0.mk (hst.blk BX.out (show w.heap.size ≠ w.heap.size + 1 + 1 by omega))
    have BR5 := Aside0.mk (hst.blk BR.out (show w.heap.size + 1 ≠ w.heap.size + 1 + 1 by omega))
    have HO5 := Aside0.mk (own_weaken (base' := w.heap.size + 2) (hst.own' ho (own_apart ho (by simp))) (by simp <;> omega))
    have HB5 := Aside0.mk (hst.up HB.out (show w.heap.size ≤ w.heap.size + 1 + 1 by omega))
    refine hK.out _ _ (LineAt.of BX5.out) ?_
    clear hK K hHeld hst hbk BX BR BS HB ho hb HOw
    have HB := HB5
    intro hHeld
    (try simp only [Act.put, List.setIfInBounds_toArray, List.set_cons_zero, List.set_cons_succ])
    have l1 : w.heap.size + 1 < w.heap.size + 1 + 1 := by omega
    obtain ⟨gs, hgs⟩ : ∃ g, w.heap.size + 1 + 1 = g := ⟨_, rfl⟩
    rw [hgs] at BS5 l1
    rw [hgs]
    clear HB5 hgs hHeld
    (refine wpAnyH_done (by kernel_rfl) ?_ _; refine NoPanic.normal ?_)
    obtain ⟨g', cap, rfl⟩ := own_some HO5.out h0
    have t1 : w5.cell? ⟨w.heap.size, 1, none⟩ = some (.slice (some ⟨b, o, none⟩) (keys.length + 1) c1) := (blk_cell BX5.out 1).trans rfl
    have t5 : w5.cell? ⟨b, o, none⟩ = some (.string v) := (Below.cell HB.out (p := ⟨b, o, none⟩) hb0).trans HCL.out
    go_wp2_with (first | (go_at_call 69; (with_reducible refine (HSG.out _ (Tabs.below HT.out (by repeat (first | (with_reducible first | exact HB.out | apply below_alloc | apply pw_below_drewN | apply below_drew1) | exact HB.out)))).mono ?_); rintro e w6 ⟨rfl, hb⟩; have BS6 := Aside0.mk (blk_below BS5.out hb); have BX6 := Aside0.mk (blk_below BX5.out hb); have BR6 := Aside0.mk (blk_below BR5.out hb); have HO6 := Aside0.mk (own_up HO5.out hb); have HBn := Aside0.mk (below_step (by repeat (first | (with_reducible first | exact HB.out | apply below_alloc | apply pw_below_drewN | apply below_drew1) | exact HB.out)) hb); clear HB; have HB := HBn; clear HBn; clear hb; have e0 : w6.cell? ⟨gs, 0, none⟩ = some (.slice (some ⟨g', 0, none⟩) keys.length cap) := (blk_cell BS6.out 0).trans rfl; have e15 : w6.cell? ⟨gs, 15, none⟩ = some (.int .i64 0) := (blk_cell BS6.out 15).trans rfl))
    go_loopw [40] (fun v wr => ∃ k : Nat, v = .int .i64 k ∧ k ≤ keys.length ∧ Aside0 (wr.heap[gs]? = some (.cells (stepGC x.used x.verb (.slice (some ⟨g', 0, none⟩) keys.length cap) (some ⟨b, o + 1, none⟩) keys.length (c1 - 1)).toArray 34 (0, 0)) ∧ wr.ownsRow (w.heap.size + 2) 40 10 (.slice (some ⟨g', 0, none⟩) keys.length cap) keys.length (mixR z keys k) ∧ wr.heap[w.heap.size]? = some (.cells #[.string x.verb, .slice (some ⟨b, o, none⟩) (keys.length + 1) c1, .bool x.quiet, .int .i64 x.used, .slice A4 x.rest.length c4] 50 (0, 0)) ∧ wr.heap[w.heap.size + 1]? = some (.cells zStepC 34 (0, 0)) ∧ Below w.heap.size w wr)) (fun v _ => keys.length - (intOf v).toNat)
    case atStart => exact ⟨0, rfl, by omega, ⟨⟨BS6.out, by rw [mixR_zero]; exact HO6.out, BX6.out, BR6.out, HB.out⟩⟩⟩
    case round =>
      obtain ⟨k, rfl, hk, HI⟩ := hrel
      obtain ⟨hq, ho, hx0, hr0, hB⟩ := HI.out
      have BS := Aside0.mk hq
      have HOw := Aside0.mk ho
      have BX := Aside0.mk hx0
      have BR := Aside0.mk hr0
      have HBr := Aside0.mk hB
      clear hq ho hx0 hr0 hB HI BS6 BX6 BR6 HO6 HB e0 e15 BS5 BX5 BR5 HO5 t1 t5
      have HB := HBr
      clear HBr
      by_cases hlt : k < keys.length
      · obtain ⟨cur, hcur0, hfit0, hbg0, hset0⟩ := own_set HOw.out (k * 10 + 4) (by rw [mixR_len]; omega)
        have hn1 : Aside0 (gs ≠ g') := ⟨blk_ne BS.out hcur0 (by decide)⟩
        have hn2 : Aside0 (w.heap.size ≠ g') := ⟨by omega⟩
        have hn3 : Aside0 (w.heap.size + 1 ≠ g') := ⟨by omega⟩
        have hn4 : Aside0 (w.heap.size ≤ g') := ⟨by omega⟩
        have hcur := Aside0.mk hcur0
        have hfit := Aside0.mk hfit0
        have hset := Aside0.mk hset0
        have hgl : g' < wr.heap.size := blk_lt hcur0
        clear hcur0 hfit0 hset0 hbg0
        have e0 : wr.cell? ⟨gs, 0, none⟩ = some (.slice (some ⟨g', 0, none⟩) keys.length cap) := (blk_cell BS.out 0).trans rfl
        go_wp2_with (first | (refine wpList_store_1 rfl 3 _ _ rfl g' (k * 10 + 4) (.int .i64 z) rfl rfl rfl 40 cur _ hcur.out hfit.out (by kernel_rfl) rfl ?_; intro w7 hbk hst; have HO7 := Aside0.mk (hset.out _ _ hbk); have BS7 := Aside0.mk (hst.blk BS.out hn1.out); have BX7 := Aside0.mk (hst.blk BX.out hn2.out); have BR7 := Aside0.mk (hst.blk BR.out hn3.out); have HB7 := Aside0.mk (hst.up HB.out hn4.out); clear hbk hst))
        go_round
        case rel => exact ⟨k + 1, by first | rfl | simp, by omega, ⟨⟨BS7.out, by rw [← mixR_set z keys k hlt]; exact HO7.out, BX7.out, BR7.out, HB7.out⟩⟩⟩
        case measure => simp [intOf]; omega
      · have hkl : k = keys.length := by omega
        subst hkl
        have HO1 := HOw.out
        rw [mixR_full] at HO1
        clear HOw
        have HOw := Aside0.mk HO1
        clear HO1
        have e0 : wr.cell? ⟨gs, 0, none⟩ = some (.slice (some ⟨g', 0, none⟩) keys.length cap) := (blk_cell BS.out 0).trans rfl; have e1 : wr.cell? ⟨gs, 1, none⟩ = some (.int .i64 1) := (blk_cell BS.out 1).trans rfl; have e2 : wr.cell? ⟨gs, 2, none⟩ = some (.string x.verb) := (blk_cell BS.out 2).trans rfl; have e3 : wr.cell? ⟨gs, 3, none⟩ = some (.int .i64 0) := (blk_cell BS.out 3).trans rfl; have e4 : wr.cell? ⟨gs, 4, none⟩ = some (.int .u32 0) := (blk_cell BS.out 4).trans rfl; have e5 : wr.cell? ⟨gs, 5, none⟩ = some (.bool false) := (blk_cell BS.out 5).trans rfl; have e6 : wr.cell? ⟨gs, 6, none⟩ = some (.bool (endsS x.verb)) := (blk_cell BS.out 6).trans rfl; have e7 : wr.cell? ⟨gs, 7, none⟩ = some (.string ⟨#[]⟩) := (blk_cell BS.out 7).trans rfl; have e8 : wr.cell? ⟨gs, 8, none⟩ = some (.slice none 0 0) := (blk_cell BS.out 8).trans rfl; have e9 : wr.cell? ⟨gs, 9, none⟩ = some (.slice (some ⟨b, o + 1, none⟩) keys.length (c1 - 1)) := (blk_cell BS.out 9).trans rfl; have e10 : wr.cell? ⟨gs, 10, none⟩ = some (.bool false) := (blk_cell BS.out 10).trans rfl; have e11 : wr.cell? ⟨gs, 11, none⟩ = some (.string ⟨#[]⟩) := (blk_cell BS.out 11).trans rfl; have e12 : wr.cell? ⟨gs, 12, none⟩ = some (.int .i64 x.used) := (blk_cell BS.out 12).trans rfl; have e13 : wr.cell? ⟨gs, 13, none⟩ = some (.int .i64 0) := (blk_cell BS.out 13).trans rfl; have e14 : wr.cell? ⟨gs, 14, none⟩ = some (.bool false) := (blk_cell BS.out 14).trans rfl; have e15 : wr.cell? ⟨gs, 15, none⟩ = some (.int .i64 0) := (blk_cell BS.out 15).trans rfl
        go_wp2_with (first | (refine wpList_store_F rfl 34 _ _ rfl (w.heap.size + 1) 0 _ rfl rfl (by simp [Value.oneCell']) 34 _ _ BR.out (by simp [zStepC]) (by kernel_rfl) rfl ?_; intro w8 hbk hst; have BR8 := Aside0.mk hbk; have HO8 := Aside0.mk (hst.own HOw.out (by omega)); have HB8 := Aside0.mk (hst.up HB.out (by omega)); clear hbk hst))
        (try simp only [Exit.inBlock, Exit.then]); refine bodyPost_ret (results_cell_row rfl _ _ (w.heap.size + 1) 34 _ (0, 0) _ rfl BR8.out Tryz.underlying34 rfl (by kernel_rfl)) rfl ?_
        exact stepG_R (own_weaken HO8.out (by omega)) HB8.out HTL.out hcl
end Go.Proofs.YtfljijpkeckeaaaGreatDoor.X
namespace Go.Proofs.YtfljijpkeckeaaaGreatDoor.X
open Go.RowKit Go.Proofs.YtfljijpkeckeaaaGreatDoorW.PrintWords Go.Proofs.YtfljijpkeckeaaaGreatDoorW.PrintMore
set_option linter.unusedVariables false
set_option linter.unusedSimpArgs false
set_option maxRecDepth 100000 in
set_option maxHeartbeats 1000000 in
theorem gats_nan (x : TextinLine) (cx : List Value) (v : ByteArray) (keys : List ByteArray) (F : Nat → Prop) (w : World) (hx : HolF F w (fun w2 => kTextinLine.K w2 x cx)) (hT : Tabs w) (hw : x.words = v :: keys) (h0 : keys.length ≠ 0) (hs : ∀ k ∈ keys, k.size ≤ 1000000) (hv : x.verb.size ≤ 1000000)
    (hk : keysS keys = true) (hz : (sgnS v).2 = false) :
    Calls Tryz.prog 42 #[.agg cx.toArray] w (StepR F w (stepF x.used badT)) := by
  have HB := Aside0.mk (Below.refl w.heap.size w)
  have HXF := Aside0.mk hx
  have HX := Aside0.mk hx.now
  have HT := Aside0.mk hT
  obtain ⟨A1, c1, A4, c4, rfl, hl1, hg1, hl4, hg4⟩ := kTextinLine_open hx.now
  obtain ⟨b, o, rfl, hb0, hcell⟩ := S_cell hg1 0 (by rw [hw]; simp)
  rw [hw, Nat.add_zero] at hcell
  have hcell : w.cell? ⟨b, o, none⟩ = some (.string v) := hcell
  have HCL := Aside0.mk hcell
  have hwl : x.words.length = keys.length + 1 := by rw [hw]; rfl
  have HTL : Aside0 (HolF F w (fun w2 => Kd.string.C w2 (some ⟨b, o + 1, none⟩) keys.length keys)) := ⟨hx.imp (fun w2 h => by
    obtain ⟨A1', c1', A4', c4', e, -, hg, -, -⟩ := kTextinLine_open h
    simp only [List.cons.injEq, Value.slice.injEq, and_true, true_and] at e
    obtain ⟨⟨rfl, rfl⟩, rfl, rfl⟩ := e
    rw [hwl, hw] at hg
    exact C_tail hg rfl)⟩
  have hk16 : keys.length ≤ 16 := by
    unfold keysS at hk
    rw [Bool.and_eq_true] at hk
    exact of_decide_eq_true hk.1
  have hcl : keys.length ≤ c1 - 1 := by omega
  have HG : Aside0 (∀ w', Below w.heap.size w w' → Calls Tryz.prog 41 #[.agg #[.string x.verb, .slice (some ⟨b, o, none⟩) (keys.length + 1) c1, .bool x.quiet, .int .i64 x.used, .slice A4 x.rest.length c4], .agg #[.int .i64 1, .string ⟨#[]⟩, .slice none 0 0, .int .u32 0, .int .i64 0, .int .u64 0, .int .u64 0, .int .u64 0, .bool false, .bool false], .slice (some ⟨b, o + 1, none⟩) keys.length (c1 - 1)] w' fun e w'' => ∃ v, e = .returned (.agg (stepGC x.used x.verb v (some ⟨b, o + 1, none⟩) keys.length (c1 - 1)).toArray)
      ∧ w''.ownsRow w'.heap.size 40 10 v keys.length (rowsC 1 0 keys) ∧ Below w'.heap.size w' w'') := ⟨fun w' hb => by
    have := gets_ok x _ 1 keys (some ⟨b, o + 1, none⟩) (c1 - 1) w' (kTextinLine.K_below hb HX.out) h0 hs hv (Kd.C_below HTL.out.now hb) hcl hk
    rw [hwl] at this
    exact this⟩
  obtain ⟨z, hzz⟩ : ∃ z, (sgnS v).1 = z := ⟨_, rfl⟩
  have HSG := Aside0.mk (fun w => sgn_w v w)
  rw [hzz, hz] at HSG
  have HO : Aside0 (∀ w', Below w.heap.size w w' → Calls Tryz.prog 18 #[.agg #[.string x.verb, .slice (some ⟨b, o, none⟩) (keys.length + 1) c1, .bool x.quiet, .int .i64 x.used, .slice A4 x.rest.length c4], .string (⟨#[67, 76, 73, 69, 78, 84, 95, 69, 82, 82, 79, 82, 32, 98, 97, 100, 32, 99, 111, 109, 109, 97, 110, 100, 32, 108, 105, 110, 101, 32, 102, 111, 114, 109, 97, 116]⟩ : ByteArray)] w' (StepR (fun k => k < w.heap.size ∧ F k) w' (stepF x.used badT))) := ⟨fun w' hb => by
    have := fault_calls x _ badT (fun k => k < w.heap.size ∧ F k) w' (kTextinLine.K_below hb HX.out) (by decide)
    rw [hwl] at this
    exact this⟩
  have hi1 : (1 : Int) ≤ ↑keys.length + 1 := by omega
  have hi2 : (keys.length : Int) + 1 ≤ ↑c1 := by omega
  have hi3 : (2 : Int) ≤ ↑keys.length + 1 := by omega
  have hi4 : (0 : Int) ≤ ↑keys.length + 1 := by omega
  have hc1 : ¬ (c1 = 1) := by omega
  clear hx hg1 hg4 hT hzz hz hs hk
  go_enter Tryz.func42, Tryz.ntmps42
  go_wp2
  (refine wp_region_noPanic ?_; refine wp_region_held_drew (S := LineAt x.verb (.slice (some ⟨b, o, none⟩) (keys.length + 1) c1) x.quiet x.used (.slice A4 x.rest.length c4) w.heap.size) (by kernel_rfl) (LineAt.of (by repeat (first | exact blk_at_new _ _ _ (by simp; done) | exact blk_at_new _ _ _ rfl | refine blk_alloc ?_ _ | refine blk_drew ?_ | refine blk_drewN ?_ _))) ?_; intro hHeld)
  (refine wpAnyH_take (i := 0) (v := ?_) (by simp only [List.getElem?_toArray, List.getElem?_cons_succ, List.getElem?_cons_zero]; rfl) (by kernel_rfl) (by kernel_rfl) (by kernel_rfl) (fun _ _ _ h => h) (Or.inl ⟨by rfl, ?_⟩) (by exact hHeld) ?_; rotate_left; (focus (intro w' hSw; obtain ⟨s0, s1, s2, s3, s4⟩ := hSw; go_simp; (try with_reducible rfl); done)); (try simp only [Act.put, List.setIfInBounds_toArray, List.set_cons_zero, List.set_cons_succ]))
  (refine wpAnyH_take (i := 1) (v := ?_) (by simp only [List.getElem?_toArray, List.getElem?_cons_succ, List.getElem?_cons_zero]; rfl) (by kernel_rfl) (by kernel_rfl) (by kernel_rfl) (fun _ _ _ h => h) (Or.inl ⟨by rfl, ?_⟩) (by exact hHeld) ?_; rotate_left; (focus (intro w' hSw; obtain ⟨s0, s1, s2, s3, s4⟩ := hSw; go_simp; (try with_reducible rfl); done)); (try simp only [Act.put, List.setIfInBounds_toArray, List.set_cons_zero, List.set_cons_succ]))
  (refine wpAnyH_take (i := 2) (v := ?_) (by simp only [List.getElem?_toArray, List.getElem?_cons_succ, List.getElem?_cons_zero]; rfl) (by kernel_rfl) (by kernel_rfl) (by kernel_rfl) (fun _ _ _ h => h) (Or.inl ⟨by rfl, ?_⟩) (by exact hHeld) ?_; rotate_left; (focus (intro w' hSw; obtain ⟨s0, s1, s2, s3, s4⟩ := hSw; go_simp; (try with_reducible rfl); done)); (try simp only [Act.put, List.setIfInBounds_toArray, List.set_cons_zero, List.set_cons_succ]))
  (refine wpAnyH_take (i := 3) (v := ?_) (by simp only [List.getElem?_toArray, List.getElem?_cons_succ, List.getElem?_cons_zero]; rfl) (by kernel_rfl) (by kernel_rfl) (by kernel_rfl) (fun _ _ _ h => h) (Or.inl ⟨by rfl, ?_⟩) (by exact hHeld) ?_; rotate_left; (focus (intro w' hSw; obtain ⟨s0, s1, s2, s3, s4⟩ := hSw; go_simp; (try with_reducible rfl); done)); (try simp only [Act.put, List.setIfInBounds_toArray, List.set_cons_zero, List.set_cons_succ]))
  (refine wpAnyH_take (i := 4) (v := ?_) (by simp only [List.getElem?_toArray, List.getElem?_cons_succ, List.getElem?_cons_zero]; rfl) (by kernel_rfl) (by kernel_rfl) (by kernel_rfl) (fun _ _ _ h => h) (Or.inl ⟨by rfl, ?_⟩) (by exact hHeld) ?_; rotate_left; (focus (intro w' hSw; obtain ⟨s0, s1, s2, s3, s4⟩ := hSw; go_simp; (try with_reducible rfl); done)); (try simp only [Act.put, List.setIfInBounds_toArray, List.set_cons_zero, List.set_cons_succ]))
  refine wpAnyH_ready (rs := [5, 6]) (by kernel_rfl) (by simp) ?_
  refine AllReadyH.cons (by simp only [List.getElem?_toArray, List.getElem?_cons_succ, List.getElem?_cons_zero]; rfl) (fun K hK => ?_) (AllReadyH.cons (by simp only [List.getElem?_toArray, List.getElem?_cons_succ, List.getElem?_cons_zero]; rfl) (fun K hK => ?_) AllReadyH.nil)
  · go_simp
    (go_at_call 41; (with_reducible refine (HG.out _ (by repeat (first | (with_reducible first | exact HB.out | apply below_alloc | apply pw_below_drewN | apply below_drew1) | exact HB.out))).mono ?_); rintro e w1 ⟨V, rfl, ho, hb⟩; have BX := Aside0.mk (blk_below (g := w.heap.size) (o := .cells #[.string x.verb, .slice (some ⟨b, o, none⟩) (keys.length + 1) c1, .bool x.quiet, .int .i64 x.used, .slice A4 x.rest.length c4] 50 (0, 0)) (by repeat (first | exact blk_at_new _ _ _ (by simp; done) | exact blk_at_new _ _ _ rfl | refine blk_alloc ?_ _ | refine blk_drew ?_ | refine blk_drewN ?_ _)) hb); have BR := Aside0.mk (blk_below (g := w.heap.size + 1) (o := .cells zStepC 34 (0, 0)) (by repeat (first | exact blk_at_new _ _ _ (by simp; done) | exact blk_at_new _ _ _ rfl | refine blk_alloc ?_ _ | refine blk_drew ?_ | refine blk_drewN ?_ _)) hb); have HBn := Aside0.mk (below_step (by repeat (first | (with_reducible first | exact HB.out | apply below_alloc | apply pw_below_drewN | apply below_drew1) | exact HB.out)) hb); clear HB; have HB := HBn; clear HBn)
    have HOw := Aside0.mk ho
    refine hK.out _ _ (LineAt.of BX.out) ?_
    clear hK K hHeld
    intro hHeld
    (try simp only [Act.put, List.setIfInBounds_toArray, List.set_cons_zero, List.set_cons_succ])
    refine wpAnyH_ready (rs := [6]) (by kernel_rfl) (by simp) ?_
    refine AllReadyH.cons (by simp only [List.getElem?_toArray, List.getElem?_cons_succ, List.getElem?_cons_zero]; rfl) (fun K hK => ?_) AllReadyH.nil
    go_simp
    refine hK.out _ _ (LineAt.of (blk_alloc BX.out _)) ?_
    clear hK K hHeld
    intro hHeld
    (try simp only [Act.put, List.setIfInBounds_toArray, List.set_cons_zero, List.set_cons_succ])
    (refine wpAnyH_ready (rs := [7]) (by kernel_rfl) (by simp) ?_; refine AllReadyH.cons (by simp only [List.getElem?_toArray, List.getElem?_cons_succ, List.getElem?_cons_zero]; rfl) (fun K hK => ?_) AllReadyH.nil)
    have BS : Aside0 ((w1.alloc (.cells zStepC 34 (0, 0))).heap[w1.heap.size]? = some (.cells zStepC 34 (0, 0))) := ⟨blk_at_new _ _ _ rfl⟩
    unfold zStepC at BS
    (refine step_store_F rfl 34 _ _ rfl (w1.heap.size) 0 _ rfl rfl (by intro u hu; simp only [stepGC, List.mem_cons, List.not_mem_nil, or_false] at hu; rcases hu with h | h | h | h | h | h | h | h | h | h | h | h | h | h | h | h <;> subst h <;> first | rfl | exact own_one HOw.out) 34 _ _ BS.out (by simp [stepGC]) (by kernel_rfl) rfl ?_; intro w5 hbk hst; have BS5 := Aside0.mk (show w5.heap[w1.heap.size]? = some (.cells (stepGC x.used x.verb V (some ⟨b, o + 1, none⟩) keys.length (c1 - 1)).toArray 34 (0, 0)) from hbk))
    have l1 : w.heap.size + 1 < w1.heap.size := blk_lt BR.out
    have BX5 := Aside0.mk (hst.blk (blk_alloc BX.out _) (show w.heap.size ≠ w1.heap.size by omega))
    have BR5 := Aside0.mk (hst.blk (blk_alloc BR.out _) (show w.heap.size + 1 ≠ w1.heap.size by omega))
    have HO5 := Aside0.mk (own_weaken (base' := w.heap.size + 2) (hst.own' (ho.alloc _) (own_not ho (Nat.le_refl _))) (by simp))
    have HB5 := Aside0.mk (hst.up (by repeat (first | (with_reducible first | exact HB.out | apply below_alloc | apply pw_below_drewN | apply below_drew1) | exact HB.out)) (show w.heap.size ≤ w1.heap.size by omega))
    refine hK.out _ _ (LineAt.of BX5.out) ?_
    clear hK K hHeld hst hbk BX BR BS HB ho hb HOw
    have HB := HB5
    intro hHeld
    (try simp only [Act.put, List.setIfInBounds_toArray, List.set_cons_zero, List.set_cons_succ])
    obtain ⟨gs, hgs⟩ : ∃ g, w1.heap.size = g := ⟨_, rfl⟩
    rw [hgs] at BS5 l1
    rw [hgs]
    clear HB5 hgs hHeld
    (refine wpAnyH_done (by kernel_rfl) ?_ _; refine NoPanic.normal ?_)
    obtain ⟨g', cap, rfl⟩ := own_some HO5.out h0
    have t1 : w5.cell? ⟨w.heap.size, 1, none⟩ = some (.slice (some ⟨b, o, none⟩) (keys.length + 1) c1) := (blk_cell BX5.out 1).trans rfl
    have t5 : w5.cell? ⟨b, o, none⟩ = some (.string v) := (Below.cell HB.out (p := ⟨b, o, none⟩) hb0).trans HCL.out
    go_wp2_with (first | (go_at_call 69; (with_reducible refine (HSG.out _ (Tabs.below HT.out (by repeat (first | (with_reducible first | exact HB.out | apply below_alloc | apply pw_below_drewN | apply below_drew1) | exact HB.out)))).mono ?_); rintro e w6 ⟨rfl, hb⟩; have BS6 := Aside0.mk (blk_below BS5.out hb); have BX6 := Aside0.mk (blk_below BX5.out hb); have BR6 := Aside0.mk (blk_below BR5.out hb); have HO6 := Aside0.mk (own_up HO5.out hb); have HBn := Aside0.mk (below_step (by repeat (first | (with_reducible first | exact HB.out | apply below_alloc | apply pw_below_drewN | apply below_drew1) | exact HB.out)) hb); clear HB; have HB := HBn; clear HBn; clear hb; have e0 : w6.cell? ⟨gs, 0, none⟩ = some (.slice (some ⟨g', 0, none⟩) keys.length cap) := (blk_cell BS6.out 0).trans rfl; have e15 : w6.cell? ⟨gs, 15, none⟩ = some (.int .i64 0) := (blk_cell BS6.out 15).trans rfl; have s0 : w6.cell? ⟨w.heap.size, 0, none⟩ = some (.string x.verb) := (blk_cell BX6.out 0).trans rfl; have s1 : w6.cell? ⟨w.heap.size, 1, none⟩ = some (.slice (some ⟨b, o, none⟩) (keys.length + 1) c1) := (blk_cell BX6.out 1).trans rfl; have s2 : w6.cell? ⟨w.heap.size, 2, none⟩ = some (.bool x.quiet) := (blk_cell BX6.out 2).trans rfl; have s3 : w6.cell? ⟨w.heap.size, 3, none⟩ = some (.int .i64 x.used) := (blk_cell BX6.out 3).trans rfl; have s4 : w6.cell? ⟨w.heap.size, 4, none⟩ = some (.slice A4 x.rest.length c4) := (blk_cell BX6.out 4).trans rfl; have GLT := Aside0.mk (blk_lt BR6.out)) | (go_at_call 18; (with_reducible refine (HO.out _ (by repeat (first | (with_reducible first | exact HB.out | apply below_alloc | apply pw_below_drewN | apply below_drew1) | exact HB.out))).mono ?_); rintro e w7 ⟨⟨cs, rfl, hk⟩, hb⟩; have BK := Aside0.mk (blk_below BR6.out hb); have HBn := Aside0.mk (below_step (by repeat (first | (with_reducible first | exact HB.out | apply below_alloc | apply pw_below_drewN | apply below_drew1) | exact HB.out)) hb); clear HB; have HB := HBn; clear HBn; have HK := Aside0.mk hk; clear hb hk) | (refine wpList_store_K HK.out.now rfl 34 _ _ rfl (w.heap.size + 1) rfl rfl 34 _ BK.out (by kernel_rfl) rfl ?_; intro w8 hbk hlow hfar; have HK2 := Aside0.mk (hfar _ _ (fun h => absurd (h GLT.out).1 (by omega)) HK.out); clear BK; have BK := Aside0.mk hbk; have HL := Aside0.mk hlow; clear hbk hlow hfar))
    (try simp only [Exit.inBlock, Exit.then]); refine bodyPost_ret (results_cell_row rfl _ _ (w.heap.size + 1) 34 _ (0, 0) _ rfl BK.out Tryz.underlying34 rfl (by rw [List.size_toArray, kStep.K_len HK.out.now]; kernel_rfl)) rfl ?_
    exact ⟨⟨_, rfl, HK2.out.mono (fun k hk h3 => (hk (by have := GLT.out; omega)).2)⟩, HB.out.trans (HL.out _ (by omega))⟩
  · go_simp
    refine hK.out _ _ (LineAt.of (by repeat (first | exact blk_at_new _ _ _ (by simp; done) | exact blk_at_new _ _ _ rfl | refine blk_alloc ?_ _ | refine blk_drew ?_ | refine blk_drewN ?_ _))) ?_
    clear hK K hHeld
    intro hHeld
    (try simp only [Act.put, List.setIfInBounds_toArray, List.set_cons_zero, List.set_cons_succ])
    refine wpAnyH_ready (rs := [5]) (by kernel_rfl) (by simp) ?_
    refine AllReadyH.cons (by simp only [List.getElem?_toArray, List.getElem?_cons_succ, List.getElem?_cons_zero]; rfl) (fun K hK => ?_) AllReadyH.nil
    go_simp
    (go_at_call 41; (with_reducible refine (HG.out _ (by repeat (first | (with_reducible first | exact HB.out | apply below_alloc | apply pw_below_drewN | apply below_drew1) | exact HB.out))).mono ?_); rintro e w1 ⟨V, rfl, ho, hb⟩; have BX := Aside0.mk (blk_below (g := w.heap.size) (o := .cells #[.string x.verb, .slice (some ⟨b, o, none⟩) (keys.length + 1) c1, .bool x.quiet, .int .i64 x.used, .slice A4 x.rest.length c4] 50 (0, 0)) (by repeat (first | exact blk_at_new _ _ _ (by simp; done) | exact blk_at_new _ _ _ rfl | refine blk_alloc ?_ _ | refine blk_drew ?_ | refine blk_drewN ?_ _)) hb); have BR := Aside0.mk (blk_below (g := w.heap.size + 1) (o := .cells zStepC 34 (0, 0)) (blk_alloc (blk_drew (blk_at_new _ _ _ (by simp))) _) hb); have HBn := Aside0.mk (below_step (by repeat (first | (with_reducible first | exact HB.out | apply below_alloc | apply pw_below_drewN | apply below_drew1) | exact HB.out)) hb); clear HB; have HB := HBn; clear HBn)
    have BS := Aside0.mk (blk_below (g := w.heap.size + 1 + 1) (o := .cells zStepC 34 (0, 0)) (by repeat (first | exact blk_at_new _ _ _ (by simp; done) | exact blk_at_new _ _ _ rfl | refine blk_alloc ?_ _ | refine blk_drew ?_ | refine blk_drewN ?_ _)) hb)
    unfold zStepC at BS
    have HOw := Aside0.mk ho
    refine hK.out _ _ (LineAt.of BX.out) ?_
    clear hK K hHeld
    intro hHeld
    (try simp only [Act.put, List.setIfInBounds_toArray, List.set_cons_zero, List.set_cons_succ])
    (refine wpAnyH_ready (rs := [7]) (by kernel_rfl) (by simp) ?_; refine AllReadyH.cons (by simp only [List.getElem?_toArray, List.getElem?_cons_succ, List.getElem?_cons_zero]; rfl) (fun K hK => ?_) AllReadyH.nil)
    (refine step_store_F rfl 34 _ _ rfl (w.heap.size + 1 + 1) 0 _ rfl rfl (by intro u hu; simp only [stepGC, List.mem_cons, List.not_mem_nil, or_false] at hu; rcases hu with h | h | h | h | h | h | h | h | h | h | h | h | h | h | h | h <;> subst h <;> first | rfl | exact own_one HOw.out) 34 _ _ BS.out (by simp [stepGC]) (by kernel_rfl) rfl ?_; intro w5 hbk hst; have BS5 := Aside0.mk (show w5.heap[w.heap.size + 1 + 1]? = some (.cells (stepGC x.used x.verb V (some ⟨b, o + 1, none⟩) keys.length (c1 - 1)).toArray 34 (0, 0)) from hbk))
    have BX5 := Aside0.mk (hst.blk BX.out (show w.heap.size ≠ w.heap.size + 1 + 1 by omega))
    have BR5 := Aside0.mk (hst.blk BR.out (show w.heap.size + 1 ≠ w.heap.size + 1 + 1 by omega))
    have HO5 := Aside0.mk (own_weaken (base' := w.heap.size + 2) (hst.own' ho (own_apart ho (by simp))) (by simp <;> omega))
    have HB5 := Aside0.mk (hst.up HB.out (show w.heap.size ≤ w.heap.size + 1 + 1 by omega))
    refine hK.out _ _ (LineAt.of BX5.out) ?_
    clear hK K hHeld hst hbk BX BR BS HB ho hb HOw
    have HB := HB5
    intro hHeld
    (try simp only [Act.put, List.setIfInBounds_toArray, List.set_cons_zero, List.set_cons_succ])
    have l1 : w.heap.size + 1 < w.heap.size + 1 + 1 := by omega
    obtain ⟨gs, hgs⟩ : ∃ g, w.heap.size + 1 + 1 = g := ⟨_, rfl⟩
    rw [hgs] at BS5 l1
    rw [hgs]
    clear HB5 hgs hHeld
    (refine wpAnyH_done (by kernel_rfl) ?_ _; refine NoPanic.normal ?_)
    obtain ⟨g', cap, rfl⟩ := own_some HO5.out h0
    have t1 : w5.cell? ⟨w.heap.size, 1, none⟩ = some (.slice (some ⟨b, o, none⟩) (keys.length + 1) c1) := (blk_cell BX5.out 1).trans rfl
    have t5 : w5.cell? ⟨b, o, none⟩ = some (.string v) := (Below.cell HB.out (p := ⟨b, o, none⟩) hb0).trans HCL.out
    go_wp2_with (first | (go_at_call 69; (with_reducible refine (HSG.out _ (Tabs.below HT.out (by repeat (first | (with_reducible first | exact HB.out | apply below_alloc | apply pw_below_drewN | apply below_drew1) | exact HB.out)))).mono ?_); rintro e w6 ⟨rfl, hb⟩; have BS6 := Aside0.mk (blk_below BS5.out hb); have BX6 := Aside0.mk (blk_below BX5.out hb); have BR6 := Aside0.mk (blk_below BR5.out hb); have HO6 := Aside0.mk (own_up HO5.out hb); have HBn := Aside0.mk (below_step (by repeat (first | (with_reducible first | exact HB.out | apply below_alloc | apply pw_below_drewN | apply below_drew1) | exact HB.out)) hb); clear HB; have HB := HBn; clear HBn; clear hb; have e0 : w6.cell? ⟨gs, 0, none⟩ = some (.slice (some ⟨g', 0, none⟩) keys.length cap) := (blk_cell BS6.out 0).trans rfl; have e15 : w6.cell? ⟨gs, 15, none⟩ = some (.int .i64 0) := (blk_cell BS6.out 15).trans rfl; have s0 : w6.cell? ⟨w.heap.size, 0, none⟩ = some (.string x.verb) := (blk_cell BX6.out 0).trans rfl; have s1 : w6.cell? ⟨w.heap.size, 1, none⟩ = some (.slice (some ⟨b, o, none⟩) (keys.length + 1) c1) := (blk_cell BX6.out 1).trans rfl; have s2 : w6.cell? ⟨w.heap.size, 2, none⟩ = some (.bool x.quiet) := (blk_cell BX6.out 2).trans rfl; have s3 : w6.cell? ⟨w.heap.size, 3, none⟩ = some (.int .i64 x.used) := (blk_cell BX6.out 3).trans rfl; have s4 : w6.cell? ⟨w.heap.size, 4, none⟩ = some (.slice A4 x.rest.length c4) := (blk_cell BX6.out 4).trans rfl; have GLT := Aside0.mk (blk_lt BR6.out)) | (go_at_call 18; (with_reducible refine (HO.out _ (by repeat (first | (with_reducible first | exact HB.out | apply below_alloc | apply pw_below_drewN | apply below_drew1) | exact HB.out))).mono ?_); rintro e w7 ⟨⟨cs, rfl, hk⟩, hb⟩; have BK := Aside0.mk (blk_below BR6.out hb); have HBn := Aside0.mk (below_step (by repeat (first | (with_reducible first | exact HB.out | apply below_alloc | apply pw_below_drewN | apply below_drew1) | exact HB.out)) hb); clear HB; have HB := HBn; clear HBn; have HK := Aside0.mk hk; clear hb hk) | (refine wpList_store_K HK.out.now rfl 34 _ _ rfl (w.heap.size + 1) rfl rfl 34 _ BK.out (by kernel_rfl) rfl ?_; intro w8 hbk hlow hfar; have HK2 := Aside0.mk (hfar _ _ (fun h => absurd (h GLT.out).1 (by omega)) HK.out); clear BK; have BK := Aside0.mk hbk; have HL := Aside0.mk hlow; clear hbk hlow hfar))
    (try simp only [Exit.inBlock, Exit.then]); refine bodyPost_ret (results_cell_row rfl _ _ (w.heap.size + 1) 34 _ (0, 0) _ rfl BK.out Tryz.underlying34 rfl (by rw [List.size_toArray, kStep.K_len HK.out.now]; kernel_rfl)) rfl ?_
    exact ⟨⟨_, rfl, HK2.out.mono (fun k hk h3 => (hk (by have := GLT.out; omega)).2)⟩, HB.out.trans (HL.out _ (by omega))⟩

theorem stepF_open {w : World} {used : Int} {reply : ByteArray} {cs : List Value} (h : kStep.K w (stepF used reply) cs) : ∃ A0 c0 A8 c8 A9 c9, cs = [.slice A0 0 c0, .int .i64 0, .string ⟨#[]⟩, .int .i64 0, .int .u32 0, .bool false, .bool false, .string ⟨#[]⟩, .slice A8 0 c8, .slice A9 0 c9, .bool false, .string (reply ++ (⟨#[13, 10]⟩ : ByteArray)), .int .i64 used, .int .i64 0, .bool false, .int .i64 2] := by
  obtain ⟨A0, c0, A8, c8, A9, c9, rfl, -⟩ := kStep_open h
  exact ⟨A0, c0, A8, c8, A9, c9, rfl⟩
theorem C_zero {α : Type} (d : Kd α) (w : World) (A : Option Addr) : d.C w A 0 [] := ⟨rfl, by decide, fun h => absurd h (by decide)⟩
theorem stepF_K (w : World) (used : Int) (reply : ByteArray) (A0 A8 A9 : Option Addr) (c0 c8 c9 : Nat) : kStep.K w (stepF used reply) [.slice A0 0 c0, .int .i64 0, .string ⟨#[]⟩, .int .i64 0, .int .u32 0, .bool false, .bool false, .string ⟨#[]⟩, .slice A8 0 c8, .slice A9 0 c9, .bool false, .string (reply ++ (⟨#[13, 10]⟩ : ByteArray)), .int .i64 used, .int .i64 0, .bool false, .int .i64 2] :=
  kStep_mk w (stepF used reply) (A0 := A0) (c0 := c0) (A8 := A8) (c8 := c8) (A9 := A9) (c9 := c9) (Nat.zero_le _) (C_zero _ _ _) (Nat.zero_le _) (C_zero _ _ _) (Nat.zero_le _) (C_zero _ _ _)
set_option maxRecDepth 100000 in
set_option maxHeartbeats 1000000 in
theorem gats_bad (x : TextinLine) (cx : List Value) (v : ByteArray) (keys : List ByteArray) (F : Nat → Prop) (w : World) (hx : HolF F w (fun w2 => kTextinLine.K w2 x cx)) (hT : Tabs w) (hw : x.words = v :: keys) (h0 : keys.length ≠ 0) (hs : ∀ k ∈ keys, k.size ≤ 1000000) (hv : x.verb.size ≤ 1000000)
    (hk : keysS keys = false) (hl : keys.length ≤ 1000000) :
    Calls Tryz.prog 42 #[.agg cx.toArray] w (StepR F w (stepF x.used badT)) := by
  have HB := Aside0.mk (Below.refl w.heap.size w)
  have HXF := Aside0.mk hx
  have HX := Aside0.mk hx.now
  have HT := Aside0.mk hT
  obtain ⟨A1, c1, A4, c4, rfl, hl1, hg1, hl4, hg4⟩ := kTextinLine_open hx.now
  obtain ⟨b, o, rfl, hb0, hcell⟩ := S_cell hg1 0 (by rw [hw]; simp)
  rw [hw, Nat.add_zero] at hcell
  have hcell : w.cell? ⟨b, o, none⟩ = some (.string v) := hcell
  have HCL := Aside0.mk hcell
  have hwl : x.words.length = keys.length + 1 := by rw [hw]; rfl
  have HTL : Aside0 (HolF F w (fun w2 => Kd.string.C w2 (some ⟨b, o + 1, none⟩) keys.length keys)) := ⟨hx.imp (fun w2 h => by
    obtain ⟨A1', c1', A4', c4', e, -, hg, -, -⟩ := kTextinLine_open h
    simp only [List.cons.injEq, Value.slice.injEq, and_true, true_and] at e
    obtain ⟨⟨rfl, rfl⟩, rfl, rfl⟩ := e
    rw [hwl, hw] at hg
    exact C_tail hg rfl)⟩
  have hcl : keys.length ≤ c1 - 1 := by omega
  have HG : Aside0 (∀ w', Below w.heap.size w w' → Calls Tryz.prog 41 #[.agg #[.string x.verb, .slice (some ⟨b, o, none⟩) (keys.length + 1) c1, .bool x.quiet, .int .i64 x.used, .slice A4 x.rest.length c4], .agg #[.int .i64 1, .string ⟨#[]⟩, .slice none 0 0, .int .u32 0, .int .i64 0, .int .u64 0, .int .u64 0, .int .u64 0, .bool false, .bool false], .slice (some ⟨b, o + 1, none⟩) keys.length (c1 - 1)] w' (StepR (fun _ => False) w' (stepF x.used badT))) := ⟨fun w' hb => by
    have := gets_bad x _ 1 keys (some ⟨b, o + 1, none⟩) (c1 - 1) (fun _ => False) w' (kTextinLine.K_below hb HX.out) h0 hl hs (Kd.C_below HTL.out.now hb) hcl hk
    rw [hwl] at this
    exact this⟩
  obtain ⟨z, hzz⟩ : ∃ z, (sgnS v).1 = z := ⟨_, rfl⟩
  have HSG := Aside0.mk (fun w => sgn_w v w)
  obtain ⟨q, hqq⟩ : ∃ q, (sgnS v).2 = q := ⟨_, rfl⟩
  rw [hzz, hqq] at HSG
  have hi1 : (1 : Int) ≤ ↑keys.length + 1 := by omega
  have hi2 : (keys.length : Int) + 1 ≤ ↑c1 := by omega
  have hi3 : (2 : Int) ≤ ↑keys.length + 1 := by omega
  have hi4 : (0 : Int) ≤ ↑keys.length + 1 := by omega
  have hc1 : ¬ (c1 = 1) := by omega
  clear hx hg1 hg4 hT hzz hqq hs hk
  go_enter Tryz.func42, Tryz.ntmps42
  go_wp2
  (refine wp_region_noPanic ?_; refine wp_region_held_drew (S := LineAt x.verb (.slice (some ⟨b, o, none⟩) (keys.length + 1) c1) x.quiet x.used (.slice A4 x.rest.length c4) w.heap.size) (by kernel_rfl) (LineAt.of (by repeat (first | exact blk_at_new _ _ _ (by simp; done) | exact blk_at_new _ _ _ rfl | refine blk_alloc ?_ _ | refine blk_drew ?_ | refine blk_drewN ?_ _))) ?_; intro hHeld)
  (refine wpAnyH_take (i := 0) (v := ?_) (by simp only [List.getElem?_toArray, List.getElem?_cons_succ, List.getElem?_cons_zero]; rfl) (by kernel_rfl) (by kernel_rfl) (by kernel_rfl) (fun _ _ _ h => h) (Or.inl ⟨by rfl, ?_⟩) (by exact hHeld) ?_; rotate_left; (focus (intro w' hSw; obtain ⟨s0, s1, s2, s3, s4⟩ := hSw; go_simp; (try with_reducible rfl); done)); (try simp only [Act.put, List.setIfInBounds_toArray, List.set_cons_zero, List.set_cons_succ]))
  (refine wpAnyH_take (i := 1) (v := ?_) (by simp only [List.getElem?_toArray, List.getElem?_cons_succ, List.getElem?_cons_zero]; rfl) (by kernel_rfl) (by kernel_rfl) (by kernel_rfl) (fun _ _ _ h => h) (Or.inl ⟨by rfl, ?_⟩) (by exact hHeld) ?_; rotate_left; (focus (intro w' hSw; obtain ⟨s0, s1, s2, s3, s4⟩ := hSw; go_simp; (try with_reducible rfl); done)); (try simp only [Act.put, List.setIfInBounds_toArray, List.set_cons_zero, List.set_cons_succ]))
  (refine wpAnyH_take (i := 2) (v := ?_) (by simp only [List.getElem?_toArray, List.getElem?_cons_succ, List.getElem?_cons_zero]; rfl) (by kernel_rfl) (by kernel_rfl) (by kernel_rfl) (fun _ _ _ h => h) (Or.inl ⟨by rfl, ?_⟩) (by exact hHeld) ?_; rotate_left; (focus (intro w' hSw; obtain ⟨s0, s1, s2, s3, s4⟩ := hSw; go_simp; (try with_reducible rfl); done)); (try simp only [Act.put, List.setIfInBounds_toArray, List.set_cons_zero, List.set_cons_succ]))
  (refine wpAnyH_take (i := 3) (v := ?_) (by simp only [List.getElem?_toArray, List.getElem?_cons_succ, List.getElem?_cons_zero]; rfl) (by kernel_rfl) (by kernel_rfl) (by kernel_rfl) (fun _ _ _ h => h) (Or.inl ⟨by rfl, ?_⟩) (by exact hHeld) ?_; rotate_left; (focus (intro w' hSw; obtain ⟨s0, s1, s2, s3, s4⟩ := hSw; go_simp; (try with_reducible rfl); done)); (try simp only [Act.put, List.setIfInBounds_toArray, List.set_cons_zero, List.set_cons_succ]))
  (refine wpAnyH_take (i := 4) (v := ?_) (by simp only [List.getElem?_toArray, List.getElem?_cons_succ, List.getElem?_cons_zero]; rfl) (by kernel_rfl) (by kernel_rfl) (by kernel_rfl) (fun _ _ _ h => h) (Or.inl ⟨by rfl, ?_⟩) (by exact hHeld) ?_; rotate_left; (focus (intro w' hSw; obtain ⟨s0, s1, s2, s3, s4⟩ := hSw; go_simp; (try with_reducible rfl); done)); (try simp only [Act.put, List.setIfInBounds_toArray, List.set_cons_zero, List.set_cons_succ]))
  refine wpAnyH_ready (rs := [5, 6]) (by kernel_rfl) (by simp) ?_
  refine AllReadyH.cons (by simp only [List.getElem?_toArray, List.getElem?_cons_succ, List.getElem?_cons_zero]; rfl) (fun K hK => ?_) (AllReadyH.cons (by simp only [List.getElem?_toArray, List.getElem?_cons_succ, List.getElem?_cons_zero]; rfl) (fun K hK => ?_) AllReadyH.nil)
  · go_simp
    (go_at_call 41; (with_reducible refine (HG.out _ (by repeat (first | (with_reducible first | exact HB.out | apply below_alloc | apply pw_below_drewN | apply below_drew1) | exact HB.out))).mono ?_); rintro e w1 ⟨⟨cs, rfl, hkk⟩, hb⟩; have HKK := Aside0.mk hkk.now; clear hkk; have BX := Aside0.mk (blk_below (g := w.heap.size) (o := .cells #[.string x.verb, .slice (some ⟨b, o, none⟩) (keys.length + 1) c1, .bool x.quiet, .int .i64 x.used, .slice A4 x.rest.length c4] 50 (0, 0)) (by repeat (first | exact blk_at_new _ _ _ (by simp; done) | exact blk_at_new _ _ _ rfl | refine blk_alloc ?_ _ | refine blk_drew ?_ | refine blk_drewN ?_ _)) hb); have BR := Aside0.mk (blk_below (g := w.heap.size + 1) (o := .cells zStepC 34 (0, 0)) (by repeat (first | exact blk_at_new _ _ _ (by simp; done) | exact blk_at_new _ _ _ rfl | refine blk_alloc ?_ _ | refine blk_drew ?_ | refine blk_drewN ?_ _)) hb); have HBn := Aside0.mk (below_step (by repeat (first | (with_reducible first | exact HB.out | apply below_alloc | apply pw_below_drewN | apply below_drew1) | exact HB.out)) hb); clear HB; have HB := HBn; clear HBn)
    refine hK.out _ _ (LineAt.of BX.out) ?_
    clear hK K hHeld
    intro hHeld
    (try simp only [Act.put, List.setIfInBounds_toArray, List.set_cons_zero, List.set_cons_succ])
    refine wpAnyH_ready (rs := [6]) (by kernel_rfl) (by simp) ?_
    refine AllReadyH.cons (by simp only [List.getElem?_toArray, List.getElem?_cons_succ, List.getElem?_cons_zero]; rfl) (fun K hK => ?_) AllReadyH.nil
    go_simp
    refine hK.out _ _ (LineAt.of (blk_alloc BX.out _)) ?_
    clear hK K hHeld
    intro hHeld
    (try simp only [Act.put, List.setIfInBounds_toArray, List.set_cons_zero, List.set_cons_succ])
    (refine wpAnyH_ready (rs := [7]) (by kernel_rfl) (by simp) ?_; refine AllReadyH.cons (by simp only [List.getElem?_toArray, List.getElem?_cons_succ, List.getElem?_cons_zero]; rfl) (fun K hK => ?_) AllReadyH.nil)
    have BS : Aside0 ((w1.alloc (.cells zStepC 34 (0, 0))).heap[w1.heap.size]? = some (.cells zStepC 34 (0, 0))) := ⟨blk_at_new _ _ _ rfl⟩
    unfold zStepC at BS
    (refine step_store_F rfl 34 _ _ rfl (w1.heap.size) 0 _ rfl rfl (fun u hu => kStep.K_one HKK.out u hu) 34 _ cs.toArray BS.out (by rw [kStep.K_len HKK.out]; first | done | decide) (by rw [kStep.K_len HKK.out]; kernel_rfl) (congrArg List.toArray (by rw [kStep.K_len HKK.out]; exact List.append_nil cs)) ?_; intro w5 hbk hst; have BS5 := Aside0.mk (show w5.heap[w1.heap.size]? = some (.cells cs.toArray 34 (0, 0)) from hbk))
    have l1 : w.heap.size + 1 < w1.heap.size := blk_lt BR.out
    have BX5 := Aside0.mk (hst.blk (blk_alloc BX.out _) (show w.heap.size ≠ w1.heap.size by omega))
    have BR5 := Aside0.mk (hst.blk (blk_alloc BR.out _) (show w.heap.size + 1 ≠ w1.heap.size by omega))
    have HB5 := Aside0.mk (hst.up (by repeat (first | (with_reducible first | exact HB.out | apply below_alloc | apply pw_below_drewN | apply below_drew1) | exact HB.out)) (show w.heap.size ≤ w1.heap.size by omega))
    refine hK.out _ _ (LineAt.of BX5.out) ?_
    clear hK K hHeld hst hbk BX BR BS HB hb
    have HB := HB5
    intro hHeld
    (try simp only [Act.put, List.setIfInBounds_toArray, List.set_cons_zero, List.set_cons_succ])
    obtain ⟨gs, hgs⟩ : ∃ g, w1.heap.size = g := ⟨_, rfl⟩
    rw [hgs] at BS5 l1
    rw [hgs]
    clear HB5 hgs hHeld
    (refine wpAnyH_done (by kernel_rfl) ?_ _; refine NoPanic.normal ?_)
    obtain ⟨A0, d0, A8, d8, A9, d9, rfl⟩ := stepF_open HKK.out
    have t1 : w5.cell? ⟨w.heap.size, 1, none⟩ = some (.slice (some ⟨b, o, none⟩) (keys.length + 1) c1) := (blk_cell BX5.out 1).trans rfl
    have t5 : w5.cell? ⟨b, o, none⟩ = some (.string v) := (Below.cell HB.out (p := ⟨b, o, none⟩) hb0).trans HCL.out
    go_wp2_with (first | (go_at_call 69; (with_reducible refine (HSG.out _ (Tabs.below HT.out (by repeat (first | (with_reducible first | exact HB.out | apply below_alloc | apply pw_below_drewN | apply below_drew1) | exact HB.out)))).mono ?_); rintro e w6 ⟨rfl, hb⟩; have BS6 := Aside0.mk (blk_below BS5.out hb); have BX6 := Aside0.mk (blk_below BX5.out hb); have BR6 := Aside0.mk (blk_below BR5.out hb); have HBn := Aside0.mk (below_step (by repeat (first | (with_reducible first | exact HB.out | apply below_alloc | apply pw_below_drewN | apply below_drew1) | exact HB.out)) hb); clear HB; have HB := HBn; clear HBn; clear hb; have e0 : w6.cell? ⟨gs, 0, none⟩ = some (.slice A0 0 d0) := (blk_cell BS6.out 0).trans rfl; have e15 : w6.cell? ⟨gs, 15, none⟩ = some (.int .i64 2) := (blk_cell BS6.out 15).trans rfl))
    go_loopw [40] (fun v wr => v = .int .i64 0 ∧ Aside0 (wr = w6)) (fun v _ => 0)
    case atStart => exact ⟨rfl, ⟨rfl⟩⟩
    case round =>
      obtain ⟨rfl, HI⟩ := hrel
      have hwr := HI.out
      subst hwr
      have e0 : wr.cell? ⟨gs, 0, none⟩ = some (.slice A0 0 d0) := (blk_cell BS6.out 0).trans rfl; have e1 : wr.cell? ⟨gs, 1, none⟩ = some (.int .i64 0) := (blk_cell BS6.out 1).trans rfl; have e2 : wr.cell? ⟨gs, 2, none⟩ = some (.string ⟨#[]⟩) := (blk_cell BS6.out 2).trans rfl; have e3 : wr.cell? ⟨gs, 3, none⟩ = some (.int .i64 0) := (blk_cell BS6.out 3).trans rfl; have e4 : wr.cell? ⟨gs, 4, none⟩ = some (.int .u32 0) := (blk_cell BS6.out 4).trans rfl; have e5 : wr.cell? ⟨gs, 5, none⟩ = some (.bool false) := (blk_cell BS6.out 5).trans rfl; have e6 : wr.cell? ⟨gs, 6, none⟩ = some (.bool false) := (blk_cell BS6.out 6).trans rfl; have e7 : wr.cell? ⟨gs, 7, none⟩ = some (.string ⟨#[]⟩) := (blk_cell BS6.out 7).trans rfl; have e8 : wr.cell? ⟨gs, 8, none⟩ = some (.slice A8 0 d8) := (blk_cell BS6.out 8).trans rfl; have e9 : wr.cell? ⟨gs, 9, none⟩ = some (.slice A9 0 d9) := (blk_cell BS6.out 9).trans rfl; have e10 : wr.cell? ⟨gs, 10, none⟩ = some (.bool false) := (blk_cell BS6.out 10).trans rfl; have e11 : wr.cell? ⟨gs, 11, none⟩ = some (.string (badT ++ (⟨#[13, 10]⟩ : ByteArray))) := (blk_cell BS6.out 11).trans rfl; have e12 : wr.cell? ⟨gs, 12, none⟩ = some (.int .i64 x.used) := (blk_cell BS6.out 12).trans rfl; have e13 : wr.cell? ⟨gs, 13, none⟩ = some (.int .i64 0) := (blk_cell BS6.out 13).trans rfl; have e14 : wr.cell? ⟨gs, 14, none⟩ = some (.bool false) := (blk_cell BS6.out 14).trans rfl; have e15 : wr.cell? ⟨gs, 15, none⟩ = some (.int .i64 2) := (blk_cell BS6.out 15).trans rfl
      go_wp2_with (first | (refine wpList_store_F rfl 34 _ _ rfl (w.heap.size + 1) 0 _ rfl rfl (by simp [Value.oneCell']) 34 _ _ BR6.out (by simp [zStepC]) (by kernel_rfl) rfl ?_; intro w8 hbk hst; have BR8 := Aside0.mk hbk; have HB8 := Aside0.mk (hst.up HB.out (by omega)); clear hbk hst))
      (try simp only [Exit.inBlock, Exit.then]); refine bodyPost_ret (results_cell_row rfl _ _ (w.heap.size + 1) 34 _ (0, 0) _ rfl BR8.out Tryz.underlying34 rfl (by kernel_rfl)) rfl ?_
      exact ⟨⟨_, rfl, fun w2 _ _ => stepF_K w2 x.used badT A0 A8 A9 d0 d8 d9⟩, HB8.out⟩
  · go_simp
    refine hK.out _ _ (LineAt.of (by repeat (first | exact blk_at_new _ _ _ (by simp; done) | exact blk_at_new _ _ _ rfl | refine blk_alloc ?_ _ | refine blk_drew ?_ | refine blk_drewN ?_ _))) ?_
    clear hK K hHeld
    intro hHeld
    (try simp only [Act.put, List.setIfInBounds_toArray, List.set_cons_zero, List.set_cons_succ])
    refine wpAnyH_ready (rs := [5]) (by kernel_rfl) (by simp) ?_
    refine AllReadyH.cons (by simp only [List.getElem?_toArray, List.getElem?_cons_succ, List.getElem?_cons_zero]; rfl) (fun K hK => ?_) AllReadyH.nil
    go_simp
    (go_at_call 41; (with_reducible refine (HG.out _ (by repeat (first | (with_reducible first | exact HB.out | apply below_alloc | apply pw_below_drewN | apply below_drew1) | exact HB.out))).mono ?_); rintro e w1 ⟨⟨cs, rfl, hkk⟩, hb⟩; have HKK := Aside0.mk hkk.now; clear hkk; have BX := Aside0.mk (blk_below (g := w.heap.size) (o := .cells #[.string x.verb, .slice (some ⟨b, o, none⟩) (keys.length + 1) c1, .bool x.quiet, .int .i64 x.used, .slice A4 x.rest.length c4] 50 (0, 0)) (by repeat (first | exact blk_at_new _ _ _ (by simp; done) | exact blk_at_new _ _ _ rfl | refine blk_alloc ?_ _ | refine blk_drew ?_ | refine blk_drewN ?_ _)) hb); have BR := Aside0.mk (blk_below (g := w.heap.size + 1) (o := .cells zStepC 34 (0, 0)) (blk_alloc (blk_drew (blk_at_new _ _ _ (by simp))) _) hb); have HBn := Aside0.mk (below_step (by repeat (first | (with_reducible first | exact HB.out | apply below_alloc | apply pw_below_drewN | apply below_drew1) | exact HB.out)) hb); clear HB; have HB := HBn; clear HBn)
    have BS := Aside0.mk (blk_below (g := w.heap.size + 1 + 1) (o := .cells zStepC 34 (0, 0)) (by repeat (first | exact blk_at_new _ _ _ (by simp; done) | exact blk_at_new _ _ _ rfl | refine blk_alloc ?_ _ | refine blk_drew ?_ | refine blk_drewN ?_ _)) hb)
    unfold zStepC at BS
    refine hK.out _ _ (LineAt.of BX.out) ?_
    clear hK K hHeld
    intro hHeld
    (try simp only [Act.put, List.setIfInBounds_toArray, List.set_cons_zero, List.set_cons_succ])
    (refine wpAnyH_ready (rs := [7]) (by kernel_rfl) (by simp) ?_; refine AllReadyH.cons (by simp only [List.getElem?_toArray, List.getElem?_cons_succ, List.getElem?_cons_zero]; rfl) (fun K hK => ?_) AllReadyH.nil)
    (refine step_store_F rfl 34 _ _ rfl (w.heap.size + 1 + 1) 0 _ rfl rfl (fun u hu => kStep.K_one HKK.out u hu) 34 _ cs.toArray BS.out (by rw [kStep.K_len HKK.out]; first | done | decide) (by rw [kStep.K_len HKK.out]; kernel_rfl) (congrArg List.toArray (by rw [kStep.K_len HKK.out]; exact List.append_nil cs)) ?_; intro w5 hbk hst; have BS5 := Aside0.mk (show w5.heap[w.heap.size + 1 + 1]? = some (.cells cs.toArray 34 (0, 0)) from hbk))
    have BX5 := Aside0.mk (hst.blk BX.out (show w.heap.size ≠ w.heap.size + 1 + 1 by omega))
    have BR5 := Aside0.mk (hst.blk BR.out (show w.heap.size + 1 ≠ w.heap.size + 1 + 1 by omega))
    have HB5 := Aside0.mk (hst.up HB.out (show w.heap.size ≤ w.heap.size + 1 + 1 by omega))
    refine hK.out _ _ (LineAt.of BX5.out) ?_
    clear hK K hHeld hst hbk BX BR BS HB hb
    have HB := HB5
    intro hHeld
    (try simp only [Act.put, List.setIfInBounds_toArray, List.set_cons_zero, List.set_cons_succ])
    have l1 : w.heap.size + 1 < w.heap.size + 1 + 1 := by omega
    obtain ⟨gs, hgs⟩ : ∃ g, w.heap.size + 1 + 1 = g := ⟨_, rfl⟩
    rw [hgs] at BS5 l1
    rw [hgs]
    clear HB5 hgs hHeld
    (refine wpAnyH_done (by kernel_rfl) ?_ _; refine NoPanic.normal ?_)
    obtain ⟨A0, d0, A8, d8, A9, d9, rfl⟩ := stepF_open HKK.out
    have t1 : w5.cell? ⟨w.heap.size, 1, none⟩ = some (.slice (some ⟨b, o, none⟩) (keys.length + 1) c1) := (blk_cell BX5.out 1).trans rfl
    have t5 : w5.cell? ⟨b, o, none⟩ = some (.string v) := (Below.cell HB.out (p := ⟨b, o, none⟩) hb0).trans HCL.out
    go_wp2_with (first | (go_at_call 69; (with_reducible refine (HSG.out _ (Tabs.below HT.out (by repeat (first | (with_reducible first | exact HB.out | apply below_alloc | apply pw_below_drewN | apply below_drew1) | exact HB.out)))).mono ?_); rintro e w6 ⟨rfl, hb⟩; have BS6 := Aside0.mk (blk_below BS5.out hb); have BX6 := Aside0.mk (blk_below BX5.out hb); have BR6 := Aside0.mk (blk_below BR5.out hb); have HBn := Aside0.mk (below_step (by repeat (first | (with_reducible first | exact HB.out | apply below_alloc | apply pw_below_drewN | apply below_drew1) | exact HB.out)) hb); clear HB; have HB := HBn; clear HBn; clear hb; have e0 : w6.cell? ⟨gs, 0, none⟩ = some (.slice A0 0 d0) := (blk_cell BS6.out 0).trans rfl; have e15 : w6.cell? ⟨gs, 15, none⟩ = some (.int .i64 2) := (blk_cell BS6.out 15).trans rfl))
    go_loopw [40] (fun v wr => v = .int .i64 0 ∧ Aside0 (wr = w6)) (fun v _ => 0)
    case atStart => exact ⟨rfl, ⟨rfl⟩⟩
    case round =>
      obtain ⟨rfl, HI⟩ := hrel
      have hwr := HI.out
      subst hwr
      have e0 : wr.cell? ⟨gs, 0, none⟩ = some (.slice A0 0 d0) := (blk_cell BS6.out 0).trans rfl; have e1 : wr.cell? ⟨gs, 1, none⟩ = some (.int .i64 0) := (blk_cell BS6.out 1).trans rfl; have e2 : wr.cell? ⟨gs, 2, none⟩ = some (.string ⟨#[]⟩) := (blk_cell BS6.out 2).trans rfl; have e3 : wr.cell? ⟨gs, 3, none⟩ = some (.int .i64 0) := (blk_cell BS6.out 3).trans rfl; have e4 : wr.cell? ⟨gs, 4, none⟩ = some (.int .u32 0) := (blk_cell BS6.out 4).trans rfl; have e5 : wr.cell? ⟨gs, 5, none⟩ = some (.bool false) := (blk_cell BS6.out 5).trans rfl; have e6 : wr.cell? ⟨gs, 6, none⟩ = some (.bool false) := (blk_cell BS6.out 6).trans rfl; have e7 : wr.cell? ⟨gs, 7, none⟩ = some (.string ⟨#[]⟩) := (blk_cell BS6.out 7).trans rfl; have e8 : wr.cell? ⟨gs, 8, none⟩ = some (.slice A8 0 d8) := (blk_cell BS6.out 8).trans rfl; have e9 : wr.cell? ⟨gs, 9, none⟩ = some (.slice A9 0 d9) := (blk_cell BS6.out 9).trans rfl; have e10 : wr.cell? ⟨gs, 10, none⟩ = some (.bool false) := (blk_cell BS6.out 10).trans rfl; have e11 : wr.cell? ⟨gs, 11, none⟩ = some (.string (badT ++ (⟨#[13, 10]⟩ : ByteArray))) := (blk_cell BS6.out 11).trans rfl; have e12 : wr.cell? ⟨gs, 12, none⟩ = some (.int .i64 x.used) := (blk_cell BS6.out 12).trans rfl; have e13 : wr.cell? ⟨gs, 13, none⟩ = some (.int .i64 0) := (blk_cell BS6.out 13).trans rfl; have e14 : wr.cell? ⟨gs, 14, none⟩ = some (.bool false) := (blk_cell BS6.out 14).trans rfl; have e15 : wr.cell? ⟨gs, 15, none⟩ = some (.int .i64 2) := (blk_cell BS6.out 15).trans rfl
      go_wp2_with (first | (refine wpList_store_F rfl 34 _ _ rfl (w.heap.size + 1) 0 _ rfl rfl (by simp [Value.oneCell']) 34 _ _ BR6.out (by simp [zStepC]) (by kernel_rfl) rfl ?_; intro w8 hbk hst; have BR8 := Aside0.mk hbk; have HB8 := Aside0.mk (hst.up HB.out (by omega)); clear hbk hst))
      (try simp only [Exit.inBlock, Exit.then]); refine bodyPost_ret (results_cell_row rfl _ _ (w.heap.size + 1) 34 _ (0, 0) _ rfl BR8.out Tryz.underlying34 rfl (by kernel_rfl)) rfl ?_
      exact ⟨⟨_, rfl, fun w2 _ _ => stepF_K w2 x.used badT A0 A8 A9 d0 d8 d9⟩, HB8.out⟩

set_option maxRecDepth 100000 in
set_option maxHeartbeats 1000000 in
theorem gats_no (x : TextinLine) (cx : List Value) (F : Nat → Prop) (w : World) (hx : kTextinLine.K w x cx) (hw : x.words.length < 2) :
    Calls Tryz.prog 42 #[.agg cx.toArray] w (StepR F w (stepF x.used (⟨#[69, 82, 82, 79, 82]⟩ : ByteArray))) := by
  have HB := Aside0.mk (Below.refl w.heap.size w)
  have HX := Aside0.mk hx
  obtain ⟨A1, c1, A4, c4, rfl, hl1, hg1, hl4, hg4⟩ := kTextinLine_open hx
  have HO : Aside0 (∀ w', Below w.heap.size w w' → Calls Tryz.prog 18 #[.agg #[.string x.verb, .slice A1 x.words.length c1, .bool x.quiet, .int .i64 x.used, .slice A4 x.rest.length c4], .string (⟨#[69, 82, 82, 79, 82]⟩ : ByteArray)] w' (StepR (fun k => k < w.heap.size ∧ F k) w' (stepF x.used (⟨#[69, 82, 82, 79, 82]⟩ : ByteArray)))) := ⟨fun w' hb => fault_calls x _ _ _ w' (kTextinLine.K_below hb HX.out) (by decide)⟩
  clear hx hg1 hg4
  have hi : (x.words.length : Int) < 2 := by omega
  go_enter Tryz.func42, Tryz.ntmps42
  go_wp2_with (first | (refine wpList_store_K HK.out.now rfl 34 _ _ rfl (w.heap.size + 1) rfl rfl 34 _ BK.out (by kernel_rfl) rfl ?_; intro w2 hbk hlow hfar; have HK2 := Aside0.mk (hfar _ _ (fun h => absurd (h (by simp <;> omega)).1 (by omega)) HK.out); clear BK; have BK := Aside0.mk hbk; have HL := Aside0.mk hlow; clear hbk hlow hfar) | go_at_call 18; (with_reducible refine (HO.out _ (by repeat (first | (with_reducible first | exact HB.out | apply below_alloc | apply pw_below_drewN | apply below_drew1) | exact HB.out))).mono ?_); rintro e w1 ⟨⟨cs, rfl, hk⟩, hb⟩; have BK := Aside0.mk (blk_below (g := w.heap.size + 1) (by repeat (first | exact blk_at_new _ _ _ (by simp; done) | exact blk_at_new _ _ _ rfl | refine blk_alloc ?_ _ | refine blk_drew ?_ | refine blk_drewN ?_ _)) hb); have HBn := Aside0.mk (below_step (by repeat (first | (with_reducible first | exact HB.out | apply below_alloc | apply pw_below_drewN | apply below_drew1) | exact HB.out)) hb); clear HB; have HB := HBn; clear HBn; have HK := Aside0.mk hk; clear hb hk)
  (try simp only [Exit.inBlock, Exit.then]); refine bodyPost_ret (results_cell_row rfl _ _ (w.heap.size + 1) 34 _ (0, 0) _ rfl BK.out Tryz.underlying34 rfl (by rw [List.size_toArray, kStep.K_len HK.out.now]; kernel_rfl)) rfl ?_
  exact ⟨⟨_, rfl, HK2.out.mono (fun k hk h3 => (hk (by simp; omega)).2)⟩, HB.out.trans (HL.out _ (by omega))⟩
def gatsS (verb : ByteArray) (used : Int) (words : List ByteArray) : Step :=
  if words.length < 2 then stepF used (⟨#[69, 82, 82, 79, 82]⟩ : ByteArray) else if keysS words.tail = false then stepF used badT else if (sgnS (words.getD 0 ⟨#[]⟩)).2 = false then stepF used badT else stepG used verb 1 (sgnS (words.getD 0 ⟨#[]⟩)).1 words.tail
theorem gats_calls (x : TextinLine) (cx : List Value) (F : Nat → Prop) (w : World) (hx : HolF F w (fun w2 => kTextinLine.K w2 x cx)) (hT : Tabs w) (hl : x.words.length ≤ 1000000) (hs : ∀ k ∈ x.words, k.size ≤ 1000000) (hv : x.verb.size ≤ 1000000) :
    Calls Tryz.prog 42 #[.agg cx.toArray] w (StepR F w (gatsS x.verb x.used x.words)) := by
  unfold gatsS
  by_cases hn : x.words.length < 2
  · rw [if_pos hn]
    exact gats_no x cx F w hx.now hn
  rw [if_neg hn]
  obtain ⟨v, keys, hw⟩ : ∃ v keys, x.words = v :: keys := by
    cases h : x.words with
    | nil => rw [h] at hn; exact absurd (by decide) hn
    | cons a l => exact ⟨a, l, rfl⟩
  have h0 : keys.length ≠ 0 := by rw [hw, List.length_cons] at hn; omega
  have hl' : keys.length ≤ 1000000 := by rw [hw, List.length_cons] at hl; omega
  have hs' : ∀ k ∈ keys, k.size ≤ 1000000 := fun k hk => hs k (by rw [hw]; exact List.mem_cons_of_mem _ hk)
  rw [show x.words.tail = keys by rw [hw]; rfl, show x.words.getD 0 ⟨#[]⟩ = v by rw [hw]; rfl]
  cases hk : keysS keys
  · rw [if_pos rfl]
    exact gats_bad x cx v keys F w hx hT hw h0 hs' hv hk hl'
  rw [if_neg (by decide)]
  cases hz : (sgnS v).2
  · rw [if_pos rfl]
    exact gats_nan x cx v keys F w hx hT hw h0 hs' hv hk hz
  · rw [if_neg (by decide)]
    exact gats_ok x cx v keys F w hx hT hw h0 hs' hv hk hz
end Go.Proofs.YtfljijpkeckeaaaGreatDoor.X
namespace Go.Proofs.YtfljijpkeckeaaaGreatDoor.X
open Go.RowKit Go.Proofs.YtfljijpkeckeaaaGreatDoorW.PrintWords Go.Proofs.YtfljijpkeckeaaaGreatDoorW.PrintMore
set_option linter.unusedVariables false
set_option linter.unusedSimpArgs false
def stepFS (used : Int) (reply : ByteArray) (skip : Int) (line : Bool) : Step := { stepF used reply with skip := skip, line := line }
def stepFC (used : Int) (reply : ByteArray) (skip : Int) (line : Bool) : List Value := [.slice none 0 0, .int .i64 0, .string ⟨#[]⟩, .int .i64 0, .int .u32 0, .bool false, .bool false, .string ⟨#[]⟩, .slice none 0 0, .slice none 0 0, .bool false, .string (reply ++ (⟨#[13, 10]⟩ : ByteArray)), .int .i64 used, .int .i64 skip, .bool line, .int .i64 2]
theorem stepFS_K (w : World) (used : Int) (reply : ByteArray) (skip : Int) (line : Bool) : kStep.K w (stepFS used reply skip line) (stepFC used reply skip line) :=
  kStep_mk w (stepFS used reply skip line) (Nat.le_refl _) (C_nil _ _) (Nat.le_refl _) (C_nil _ _) (Nat.le_refl _) (C_nil _ _)
set_option maxRecDepth 100000 in
set_option maxHeartbeats 1000000 in
theorem fault_ex (x : TextinLine) (cx : List Value) (reply : ByteArray) (w : World) (hx : kTextinLine.K w x cx) (hr : reply.size ≤ 1000) :
    Calls Tryz.prog 18 #[.agg cx.toArray, .string reply] w fun e w' => e = .returned (.agg (stepFC x.used reply 0 false).toArray) ∧ Below w.heap.size w w' := by
  have HB := Aside0.mk (Below.refl w.heap.size w)
  obtain ⟨A1, c1, A4, c4, rfl, hl1, hg1, hl4, hg4⟩ := kTextinLine_open hx
  clear hg1 hg4 hx
  go_enter Tryz.func18, Tryz.ntmps18
  go_wp2
  ((try simp only [Exit.inBlock, Exit.then]); refine bodyPost_ret (results_cell_row rfl _ _ (w.heap.size + 1) 34 _ (0, 0) _ rfl (by repeat (first | exact blk_at_new _ _ _ (by simp; done) | exact blk_at_new _ _ _ rfl | refine blk_alloc ?_ _ | refine blk_drew ?_ | refine blk_drewN ?_ _)) Tryz.underlying34 rfl (by kernel_rfl)) rfl ?_)
  exact ⟨rfl, (by repeat (first | (with_reducible first | exact HB.out | apply below_alloc | apply pw_below_drewN | apply below_drew1) | exact HB.out))⟩
def skipN (z : Nat × Bool) : Int := if z.2 = true ∧ (z.1 : Int) ≤ 1073741824 then (z.1 : Int) + 2 else 0
set_option maxRecDepth 100000 in
set_option maxHeartbeats 1000000 in
theorem skipped_a (x : TextinLine) (cx : List Value) (reply : ByteArray) (v : ByteArray) (F : Nat → Prop) (w : World) (hx : kTextinLine.K w x cx) (hT : Tabs w) (hr : reply.size ≤ 1000) (hn : 3 < x.words.length) (hv : x.words.getD 3 ⟨#[]⟩ = v) (z : Nat) (hz : decS v = (z, false)) :
    Calls Tryz.prog 72 #[.agg cx.toArray, .string reply] w (StepR F w (stepFS x.used reply 0 false)) := by
  have HB := Aside0.mk (Below.refl w.heap.size w)
  have HX := Aside0.mk hx
  have HT := Aside0.mk hT
  obtain ⟨A1, c1, A4, c4, rfl, hl1, hg1, hl4, hg4⟩ := kTextinLine_open hx
  obtain ⟨b, o, rfl, hb0, hcell⟩ := S_cell hg1 3 hn
  rw [hv] at hcell
  have HCL := Aside0.mk hcell
  have HO : Aside0 (∀ w', Below w.heap.size w w' → Calls Tryz.prog 18 #[.agg #[.string x.verb, .slice (some ⟨b, o, none⟩) x.words.length c1, .bool x.quiet, .int .i64 x.used, .slice A4 x.rest.length c4], .string reply] w' fun e w'' => e = .returned (.agg (stepFC x.used reply 0 false).toArray) ∧ Below w'.heap.size w' w'') := ⟨fun w' hb => fault_ex x _ _ w' (kTextinLine.K_below hb HX.out) hr⟩
  have HDC := Aside0.mk (fun w => dec_w v w)
  rw [hz] at HDC
  clear hz hv hcell hx hg1 hg4 hT
  have hn3 : (3 : Int) < x.words.length := by omega
  go_enter Tryz.func72, Tryz.ntmps72
  go_wp2_with (first | (go_at_call 18; (with_reducible refine (HO.out _ (by repeat (first | (with_reducible first | exact HB.out | apply below_alloc | apply pw_below_drewN | apply below_drew1) | exact HB.out))).mono ?_); rintro e w1 ⟨rfl, hb⟩; unfold stepFC; have BX := Aside0.mk (blk_below (g := w.heap.size) (o := .cells #[.string x.verb, .slice (some ⟨b, o, none⟩) x.words.length c1, .bool x.quiet, .int .i64 x.used, .slice A4 x.rest.length c4] 50 (0, 0)) (by repeat (first | exact blk_at_new _ _ _ (by simp; done) | exact blk_at_new _ _ _ rfl | refine blk_alloc ?_ _ | refine blk_drew ?_ | refine blk_drewN ?_ _)) hb); have BR := Aside0.mk (blk_below (g := w.heap.size + 1) (o := .cells zStepC 34 (0, 0)) (by repeat (first | exact blk_at_new _ _ _ (by simp; done) | exact blk_at_new _ _ _ rfl | refine blk_alloc ?_ _ | refine blk_drew ?_ | refine blk_drewN ?_ _)) hb); have HBn := Aside0.mk (below_step (by repeat (first | (with_reducible first | exact HB.out | apply below_alloc | apply pw_below_drewN | apply below_drew1) | exact HB.out)) hb); clear HB; have HB := HBn; clear HBn; have hx1 : w.heap.size < w1.heap.size := blk_lt BX.out; have hx2 : w.heap.size + 1 < w1.heap.size := blk_lt BR.out; have hb1 : b < w1.heap.size := Nat.lt_of_lt_of_le hb0 HB.out.size; clear hb; have t0 : w1.cell? ⟨w.heap.size, 0, none⟩ = some (.string x.verb) := (blk_cell BX.out 0).trans rfl; have t1 : w1.cell? ⟨w.heap.size, 1, none⟩ = some (.slice (some ⟨b, o, none⟩) x.words.length c1) := (blk_cell BX.out 1).trans rfl; have t2 : w1.cell? ⟨w.heap.size, 2, none⟩ = some (.bool x.quiet) := (blk_cell BX.out 2).trans rfl; have t3 : w1.cell? ⟨w.heap.size, 3, none⟩ = some (.int .i64 x.used) := (blk_cell BX.out 3).trans rfl; have t4 : w1.cell? ⟨w.heap.size, 4, none⟩ = some (.slice A4 x.rest.length c4) := (blk_cell BX.out 4).trans rfl; have t5 : w1.cell? ⟨b, o + 3, none⟩ = some (.string v) := (Below.cell HB.out (p := ⟨b, o + 3, none⟩) hb0).trans HCL.out) | ((go_at_call 71; (with_reducible refine (HDC.out _ (Tabs.below HT.out (by repeat (first | (with_reducible first | exact HB.out | apply below_alloc | apply pw_below_drewN | apply below_drew1) | exact HB.out)))).mono ?_); rintro e w3 ⟨rfl, hb⟩; have BX3 := Aside0.mk (blk_below (blk_alloc BX.out _) hb); have BR3 := Aside0.mk (blk_below (blk_alloc BR.out _) hb); have BS3 := Aside0.mk (blk_below (g := w1.heap.size) (o := .cells (stepFC x.used reply 0 false).toArray 34 (0, 0)) (blk_at_new _ _ _ rfl) hb); have HBn := Aside0.mk (below_step (by repeat (first | (with_reducible first | exact HB.out | apply below_alloc | apply pw_below_drewN | apply below_drew1) | exact HB.out)) hb); clear HB; have HB := HBn; clear HBn; clear hb); (have e0 : w3.cell? ⟨w1.heap.size, 0, none⟩ = some (.slice none 0 0) := (blk_cell BS3.out 0).trans rfl; have e1 : w3.cell? ⟨w1.heap.size, 1, none⟩ = some (.int .i64 0) := (blk_cell BS3.out 1).trans rfl; have e2 : w3.cell? ⟨w1.heap.size, 2, none⟩ = some (.string ⟨#[]⟩) := (blk_cell BS3.out 2).trans rfl; have e3 : w3.cell? ⟨w1.heap.size, 3, none⟩ = some (.int .i64 0) := (blk_cell BS3.out 3).trans rfl; have e4 : w3.cell? ⟨w1.heap.size, 4, none⟩ = some (.int .u32 0) := (blk_cell BS3.out 4).trans rfl; have e5 : w3.cell? ⟨w1.heap.size, 5, none⟩ = some (.bool false) := (blk_cell BS3.out 5).trans rfl; have e6 : w3.cell? ⟨w1.heap.size, 6, none⟩ = some (.bool false) := (blk_cell BS3.out 6).trans rfl; have e7 : w3.cell? ⟨w1.heap.size, 7, none⟩ = some (.string ⟨#[]⟩) := (blk_cell BS3.out 7).trans rfl; have e8 : w3.cell? ⟨w1.heap.size, 8, none⟩ = some (.slice none 0 0) := (blk_cell BS3.out 8).trans rfl; have e9 : w3.cell? ⟨w1.heap.size, 9, none⟩ = some (.slice none 0 0) := (blk_cell BS3.out 9).trans rfl; have e10 : w3.cell? ⟨w1.heap.size, 10, none⟩ = some (.bool false) := (blk_cell BS3.out 10).trans rfl; have e11 : w3.cell? ⟨w1.heap.size, 11, none⟩ = some (.string (reply ++ (⟨#[13, 10]⟩ : ByteArray))) := (blk_cell BS3.out 11).trans rfl; have e12 : w3.cell? ⟨w1.heap.size, 12, none⟩ = some (.int .i64 x.used) := (blk_cell BS3.out 12).trans rfl; have e13 : w3.cell? ⟨w1.heap.size, 13, none⟩ = some (.int .i64 0) := (blk_cell BS3.out 13).trans rfl; have e14 : w3.cell? ⟨w1.heap.size, 14, none⟩ = some (.bool false) := (blk_cell BS3.out 14).trans rfl; have e15 : w3.cell? ⟨w1.heap.size, 15, none⟩ = some (.int .i64 2) := (blk_cell BS3.out 15).trans rfl)) | (refine wpList_store_F rfl 34 _ _ rfl (w.heap.size + 1) 0 _ rfl rfl (by simp [Value.oneCell']) 34 _ _ BR3.out (by simp [zStepC]) (by kernel_rfl) rfl ?_; intro w8 hbk hst; have BR8 := Aside0.mk hbk; have HB8 := Aside0.mk (hst.up HB.out (by omega)); clear hbk hst))
  ((try simp only [Exit.inBlock, Exit.then]); refine bodyPost_ret (results_cell_row rfl _ _ (w.heap.size + 1) 34 _ (0, 0) _ rfl BR8.out Tryz.underlying34 rfl (by kernel_rfl)) rfl ?_)
  exact ⟨⟨_, rfl, fun w2 _ _ => stepFS_K w2 x.used reply 0 false⟩, HB8.out⟩
set_option maxRecDepth 100000 in
set_option maxHeartbeats 1000000 in
theorem skipped_b (x : TextinLine) (cx : List Value) (reply : ByteArray) (v : ByteArray) (F : Nat → Prop) (w : World) (hx : kTextinLine.K w x cx) (hT : Tabs w) (hr : reply.size ≤ 1000) (hn : 3 < x.words.length) (hv : x.words.getD 3 ⟨#[]⟩ = v) (z : Nat) (hz : decS v = (z, true)) (hle : (z : Int) ≤ 1073741824) :
    Calls Tryz.prog 72 #[.agg cx.toArray, .string reply] w (StepR F w (stepFS x.used reply (↑z + 2) false)) := by
  have HB := Aside0.mk (Below.refl w.heap.size w)
  have HX := Aside0.mk hx
  have HT := Aside0.mk hT
  obtain ⟨A1, c1, A4, c4, rfl, hl1, hg1, hl4, hg4⟩ := kTextinLine_open hx
  obtain ⟨b, o, rfl, hb0, hcell⟩ := S_cell hg1 3 hn
  rw [hv] at hcell
  have HCL := Aside0.mk hcell
  have HO : Aside0 (∀ w', Below w.heap.size w w' → Calls Tryz.prog 18 #[.agg #[.string x.verb, .slice (some ⟨b, o, none⟩) x.words.length c1, .bool x.quiet, .int .i64 x.used, .slice A4 x.rest.length c4], .string reply] w' fun e w'' => e = .returned (.agg (stepFC x.used reply 0 false).toArray) ∧ Below w'.heap.size w' w'') := ⟨fun w' hb => fault_ex x _ _ w' (kTextinLine.K_below hb HX.out) hr⟩
  have HDC := Aside0.mk (fun w => dec_w v w)
  rw [hz] at HDC
  clear hz hv hcell hx hg1 hg4 hT
  have hn3 : (3 : Int) < x.words.length := by omega
  have hz0 : (0 : Int) ≤ ↑z := by omega
  go_enter Tryz.func72, Tryz.ntmps72
  go_wp2_with (first | (go_at_call 18; (with_reducible refine (HO.out _ (by repeat (first | (with_reducible first | exact HB.out | apply below_alloc | apply pw_below_drewN | apply below_drew1) | exact HB.out))).mono ?_); rintro e w1 ⟨rfl, hb⟩; unfold stepFC; have BX := Aside0.mk (blk_below (g := w.heap.size) (o := .cells #[.string x.verb, .slice (some ⟨b, o, none⟩) x.words.length c1, .bool x.quiet, .int .i64 x.used, .slice A4 x.rest.length c4] 50 (0, 0)) (by repeat (first | exact blk_at_new _ _ _ (by simp; done) | exact blk_at_new _ _ _ rfl | refine blk_alloc ?_ _ | refine blk_drew ?_ | refine blk_drewN ?_ _)) hb); have BR := Aside0.mk (blk_below (g := w.heap.size + 1) (o := .cells zStepC 34 (0, 0)) (by repeat (first | exact blk_at_new _ _ _ (by simp; done) | exact blk_at_new _ _ _ rfl | refine blk_alloc ?_ _ | refine blk_drew ?_ | refine blk_drewN ?_ _)) hb); have HBn := Aside0.mk (below_step (by repeat (first | (with_reducible first | exact HB.out | apply below_alloc | apply pw_below_drewN | apply below_drew1) | exact HB.out)) hb); clear HB; have HB := HBn; clear HBn; have hx1 : w.heap.size < w1.heap.size := blk_lt BX.out; have hx2 : w.heap.size + 1 < w1.heap.size := blk_lt BR.out; have hb1 : b < w1.heap.size := Nat.lt_of_lt_of_le hb0 HB.out.size; clear hb; have t0 : w1.cell? ⟨w.heap.size, 0, none⟩ = some (.string x.verb) := (blk_cell BX.out 0).trans rfl; have t1 : w1.cell? ⟨w.heap.size, 1, none⟩ = some (.slice (some ⟨b, o, none⟩) x.words.length c1) := (blk_cell BX.out 1).trans rfl; have t2 : w1.cell? ⟨w.heap.size, 2, none⟩ = some (.bool x.quiet) := (blk_cell BX.out 2).trans rfl; have t3 : w1.cell? ⟨w.heap.size, 3, none⟩ = some (.int .i64 x.used) := (blk_cell BX.out 3).trans rfl; have t4 : w1.cell? ⟨w.heap.size, 4, none⟩ = some (.slice A4 x.rest.length c4) := (blk_cell BX.out 4).trans rfl; have t5 : w1.cell? ⟨b, o + 3, none⟩ = some (.string v) := (Below.cell HB.out (p := ⟨b, o + 3, none⟩) hb0).trans HCL.out) | (go_at_call 71; (with_reducible refine (HDC.out _ (Tabs.below HT.out (by repeat (first | (with_reducible first | exact HB.out | apply below_alloc | apply pw_below_drewN | apply below_drew1) | exact HB.out)))).mono ?_); rintro e w3 ⟨rfl, hb⟩; have BX3 := Aside0.mk (blk_below (blk_alloc BX.out _) hb); have BR3 := Aside0.mk (blk_below (blk_alloc BR.out _) hb); have BS3 := Aside0.mk (blk_below (g := w1.heap.size) (o := .cells (stepFC x.used reply 0 false).toArray 34 (0, 0)) (blk_at_new _ _ _ rfl) hb); have HBn := Aside0.mk (below_step (by repeat (first | (with_reducible first | exact HB.out | apply below_alloc | apply pw_below_drewN | apply below_drew1) | exact HB.out)) hb); clear HB; have HB := HBn; clear HBn; clear hb) | (refine wpList_store_1 rfl 3 _ _ rfl w1.heap.size 13 (.int .i64 (↑z + 2)) rfl rfl rfl 34 _ (stepFC x.used reply (↑z + 2) false).toArray BS3.out (by simp [stepFC]) (by kernel_rfl) rfl ?_; intro w4 hbk hst; have BS4 := Aside0.mk hbk; have BR4 := Aside0.mk (hst.blk BR3.out (by omega)); have HB4 := Aside0.mk (hst.up HB.out (by omega)); clear hbk hst; have e0 : w4.cell? ⟨w1.heap.size, 0, none⟩ = some (.slice none 0 0) := (blk_cell BS4.out 0).trans rfl; have e1 : w4.cell? ⟨w1.heap.size, 1, none⟩ = some (.int .i64 0) := (blk_cell BS4.out 1).trans rfl; have e2 : w4.cell? ⟨w1.heap.size, 2, none⟩ = some (.string ⟨#[]⟩) := (blk_cell BS4.out 2).trans rfl; have e3 : w4.cell? ⟨w1.heap.size, 3, none⟩ = some (.int .i64 0) := (blk_cell BS4.out 3).trans rfl; have e4 : w4.cell? ⟨w1.heap.size, 4, none⟩ = some (.int .u32 0) := (blk_cell BS4.out 4).trans rfl; have e5 : w4.cell? ⟨w1.heap.size, 5, none⟩ = some (.bool false) := (blk_cell BS4.out 5).trans rfl; have e6 : w4.cell? ⟨w1.heap.size, 6, none⟩ = some (.bool false) := (blk_cell BS4.out 6).trans rfl; have e7 : w4.cell? ⟨w1.heap.size, 7, none⟩ = some (.string ⟨#[]⟩) := (blk_cell BS4.out 7).trans rfl; have e8 : w4.cell? ⟨w1.heap.size, 8, none⟩ = some (.slice none 0 0) := (blk_cell BS4.out 8).trans rfl; have e9 : w4.cell? ⟨w1.heap.size, 9, none⟩ = some (.slice none 0 0) := (blk_cell BS4.out 9).trans rfl; have e10 : w4.cell? ⟨w1.heap.size, 10, none⟩ = some (.bool false) := (blk_cell BS4.out 10).trans rfl; have e11 : w4.cell? ⟨w1.heap.size, 11, none⟩ = some (.string (reply ++ (⟨#[13, 10]⟩ : ByteArray))) := (blk_cell BS4.out 11).trans rfl; have e12 : w4.cell? ⟨w1.heap.size, 12, none⟩ = some (.int .i64 x.used) := (blk_cell BS4.out 12).trans rfl; have e13 : w4.cell? ⟨w1.heap.size, 13, none⟩ = some (.int .i64 (↑z + 2)) := (blk_cell BS4.out 13).trans rfl; have e14 : w4.cell? ⟨w1.heap.size, 14, none⟩ = some (.bool false) := (blk_cell BS4.out 14).trans rfl; have e15 : w4.cell? ⟨w1.heap.size, 15, none⟩ = some (.int .i64 2) := (blk_cell BS4.out 15).trans rfl) | (refine wpList_store_F rfl 34 _ _ rfl (w.heap.size + 1) 0 _ rfl rfl (by simp [Value.oneCell']) 34 _ _ BR4.out (by simp [zStepC]) (by kernel_rfl) rfl ?_; intro w8 hbk hst; have BR8 := Aside0.mk hbk; have HB8 := Aside0.mk (hst.up HB4.out (by omega)); clear hbk hst))
  ((try simp only [Exit.inBlock, Exit.then]); refine bodyPost_ret (results_cell_row rfl _ _ (w.heap.size + 1) 34 _ (0, 0) _ rfl BR8.out Tryz.underlying34 rfl (by kernel_rfl)) rfl ?_)
  exact ⟨⟨_, rfl, fun w2 _ _ => stepFS_K w2 x.used reply (↑z + 2) false⟩, HB8.out⟩
set_option maxRecDepth 100000 in
set_option maxHeartbeats 1000000 in
theorem skipped_c (x : TextinLine) (cx : List Value) (reply : ByteArray) (v : ByteArray) (F : Nat → Prop) (w : World) (hx : kTextinLine.K w x cx) (hT : Tabs w) (hr : reply.size ≤ 1000) (hn : 3 < x.words.length) (hv : x.words.getD 3 ⟨#[]⟩ = v) (z : Nat) (hz : decS v = (z, true)) (hle : ¬ (z : Int) ≤ 1073741824) :
    Calls Tryz.prog 72 #[.agg cx.toArray, .string reply] w (StepR F w (stepFS x.used reply 0 false)) := by
  have HB := Aside0.mk (Below.refl w.heap.size w)
  have HX := Aside0.mk hx
  have HT := Aside0.mk hT
  obtain ⟨A1, c1, A4, c4, rfl, hl1, hg1, hl4, hg4⟩ := kTextinLine_open hx
  obtain ⟨b, o, rfl, hb0, hcell⟩ := S_cell hg1 3 hn
  rw [hv] at hcell
  have HCL := Aside0.mk hcell
  have HO : Aside0 (∀ w', Below w.heap.size w w' → Calls Tryz.prog 18 #[.agg #[.string x.verb, .slice (some ⟨b, o, none⟩) x.words.length c1, .bool x.quiet, .int .i64 x.used, .slice A4 x.rest.length c4], .string reply] w' fun e w'' => e = .returned (.agg (stepFC x.used reply 0 false).toArray) ∧ Below w'.heap.size w' w'') := ⟨fun w' hb => fault_ex x _ _ w' (kTextinLine.K_below hb HX.out) hr⟩
  have HDC := Aside0.mk (fun w => dec_w v w)
  rw [hz] at HDC
  clear hz hv hcell hx hg1 hg4 hT
  have hn3 : (3 : Int) < x.words.length := by omega
  go_enter Tryz.func72, Tryz.ntmps72
  go_wp2_with (first | (go_at_call 18; (with_reducible refine (HO.out _ (by repeat (first | (with_reducible first | exact HB.out | apply below_alloc | apply pw_below_drewN | apply below_drew1) | exact HB.out))).mono ?_); rintro e w1 ⟨rfl, hb⟩; unfold stepFC; have BX := Aside0.mk (blk_below (g := w.heap.size) (o := .cells #[.string x.verb, .slice (some ⟨b, o, none⟩) x.words.length c1, .bool x.quiet, .int .i64 x.used, .slice A4 x.rest.length c4] 50 (0, 0)) (by repeat (first | exact blk_at_new _ _ _ (by simp; done) | exact blk_at_new _ _ _ rfl | refine blk_alloc ?_ _ | refine blk_drew ?_ | refine blk_drewN ?_ _)) hb); have BR := Aside0.mk (blk_below (g := w.heap.size + 1) (o := .cells zStepC 34 (0, 0)) (by repeat (first | exact blk_at_new _ _ _ (by simp; done) | exact blk_at_new _ _ _ rfl | refine blk_alloc ?_ _ | refine blk_drew ?_ | refine blk_drewN ?_ _)) hb); have HBn := Aside0.mk (below_step (by repeat (first | (with_reducible first | exact HB.out | apply below_alloc | apply pw_below_drewN | apply below_drew1) | exact HB.out)) hb); clear HB; have HB := HBn; clear HBn; have hx1 : w.heap.size < w1.heap.size := blk_lt BX.out; have hx2 : w.heap.size + 1 < w1.heap.size := blk_lt BR.out; have hb1 : b < w1.heap.size := Nat.lt_of_lt_of_le hb0 HB.out.size; clear hb; have t0 : w1.cell? ⟨w.heap.size, 0, none⟩ = some (.string x.verb) := (blk_cell BX.out 0).trans rfl; have t1 : w1.cell? ⟨w.heap.size, 1, none⟩ = some (.slice (some ⟨b, o, none⟩) x.words.length c1) := (blk_cell BX.out 1).trans rfl; have t2 : w1.cell? ⟨w.heap.size, 2, none⟩ = some (.bool x.quiet) := (blk_cell BX.out 2).trans rfl; have t3 : w1.cell? ⟨w.heap.size, 3, none⟩ = some (.int .i64 x.used) := (blk_cell BX.out 3).trans rfl; have t4 : w1.cell? ⟨w.heap.size, 4, none⟩ = some (.slice A4 x.rest.length c4) := (blk_cell BX.out 4).trans rfl; have t5 : w1.cell? ⟨b, o + 3, none⟩ = some (.string v) := (Below.cell HB.out (p := ⟨b, o + 3, none⟩) hb0).trans HCL.out) | ((go_at_call 71; (with_reducible refine (HDC.out _ (Tabs.below HT.out (by repeat (first | (with_reducible first | exact HB.out | apply below_alloc | apply pw_below_drewN | apply below_drew1) | exact HB.out)))).mono ?_); rintro e w3 ⟨rfl, hb⟩; have BX3 := Aside0.mk (blk_below (blk_alloc BX.out _) hb); have BR3 := Aside0.mk (blk_below (blk_alloc BR.out _) hb); have BS3 := Aside0.mk (blk_below (g := w1.heap.size) (o := .cells (stepFC x.used reply 0 false).toArray 34 (0, 0)) (blk_at_new _ _ _ rfl) hb); have HBn := Aside0.mk (below_step (by repeat (first | (with_reducible first | exact HB.out | apply below_alloc | apply pw_below_drewN | apply below_drew1) | exact HB.out)) hb); clear HB; have HB := HBn; clear HBn; clear hb); (have e0 : w3.cell? ⟨w1.heap.size, 0, none⟩ = some (.slice none 0 0) := (blk_cell BS3.out 0).trans rfl; have e1 : w3.cell? ⟨w1.heap.size, 1, none⟩ = some (.int .i64 0) := (blk_cell BS3.out 1).trans rfl; have e2 : w3.cell? ⟨w1.heap.size, 2, none⟩ = some (.string ⟨#[]⟩) := (blk_cell BS3.out 2).trans rfl; have e3 : w3.cell? ⟨w1.heap.size, 3, none⟩ = some (.int .i64 0) := (blk_cell BS3.out 3).trans rfl; have e4 : w3.cell? ⟨w1.heap.size, 4, none⟩ = some (.int .u32 0) := (blk_cell BS3.out 4).trans rfl; have e5 : w3.cell? ⟨w1.heap.size, 5, none⟩ = some (.bool false) := (blk_cell BS3.out 5).trans rfl; have e6 : w3.cell? ⟨w1.heap.size, 6, none⟩ = some (.bool false) := (blk_cell BS3.out 6).trans rfl; have e7 : w3.cell? ⟨w1.heap.size, 7, none⟩ = some (.string ⟨#[]⟩) := (blk_cell BS3.out 7).trans rfl; have e8 : w3.cell? ⟨w1.heap.size, 8, none⟩ = some (.slice none 0 0) := (blk_cell BS3.out 8).trans rfl; have e9 : w3.cell? ⟨w1.heap.size, 9, none⟩ = some (.slice none 0 0) := (blk_cell BS3.out 9).trans rfl; have e10 : w3.cell? ⟨w1.heap.size, 10, none⟩ = some (.bool false) := (blk_cell BS3.out 10).trans rfl; have e11 : w3.cell? ⟨w1.heap.size, 11, none⟩ = some (.string (reply ++ (⟨#[13, 10]⟩ : ByteArray))) := (blk_cell BS3.out 11).trans rfl; have e12 : w3.cell? ⟨w1.heap.size, 12, none⟩ = some (.int .i64 x.used) := (blk_cell BS3.out 12).trans rfl; have e13 : w3.cell? ⟨w1.heap.size, 13, none⟩ = some (.int .i64 0) := (blk_cell BS3.out 13).trans rfl; have e14 : w3.cell? ⟨w1.heap.size, 14, none⟩ = some (.bool false) := (blk_cell BS3.out 14).trans rfl; have e15 : w3.cell? ⟨w1.heap.size, 15, none⟩ = some (.int .i64 2) := (blk_cell BS3.out 15).trans rfl)) | (refine wpList_store_F rfl 34 _ _ rfl (w.heap.size + 1) 0 _ rfl rfl (by simp [Value.oneCell']) 34 _ _ BR3.out (by simp [zStepC]) (by kernel_rfl) rfl ?_; intro w8 hbk hst; have BR8 := Aside0.mk hbk; have HB8 := Aside0.mk (hst.up HB.out (by omega)); clear hbk hst))
  ((try simp only [Exit.inBlock, Exit.then]); refine bodyPost_ret (results_cell_row rfl _ _ (w.heap.size + 1) 34 _ (0, 0) _ rfl BR8.out Tryz.underlying34 rfl (by kernel_rfl)) rfl ?_)
  exact ⟨⟨_, rfl, fun w2 _ _ => stepFS_K w2 x.used reply 0 false⟩, HB8.out⟩
theorem skipped_calls (x : TextinLine) (cx : List Value) (reply : ByteArray) (v : ByteArray) (F : Nat → Prop) (w : World) (hx : kTextinLine.K w x cx) (hT : Tabs w) (hr : reply.size ≤ 1000) (hn : 3 < x.words.length) (hv : x.words.getD 3 ⟨#[]⟩ = v) :
    Calls Tryz.prog 72 #[.agg cx.toArray, .string reply] w (StepR F w (stepFS x.used reply (skipN (decS v)) false)) := by
  obtain ⟨⟨z, p⟩, hz⟩ : ∃ z, decS v = z := ⟨_, rfl⟩
  rw [hz]
  cases p
  · rw [show skipN (z, false) = 0 from if_neg (fun h => by cases h.1)]
    exact skipped_a x cx reply v F w hx hT hr hn hv z hz
  by_cases hle : (z : Int) ≤ 1073741824
  · rw [show skipN (z, true) = ↑z + 2 from if_pos ⟨rfl, hle⟩]
    exact skipped_b x cx reply v F w hx hT hr hn hv z hz hle
  · rw [show skipN (z, true) = 0 from if_neg (fun h => hle h.2)]
    exact skipped_c x cx reply v F w hx hT hr hn hv z hz hle
end Go.Proofs.YtfljijpkeckeaaaGreatDoor.X
namespace Go.Proofs.YtfljijpkeckeaaaGreatDoor.X
open Go.RowKit Go.Proofs.YtfljijpkeckeaaaGreatDoorW.PrintWords Go.Proofs.YtfljijpkeckeaaaGreatDoorW.PrintMore
set_option linter.unusedVariables false
set_option linter.unusedSimpArgs false
theorem own_Cu8 {W : World} {base : Nat} {A : Option Addr} {c : Nat} {l : List Int} (h : W.ownsRow base 5 1 (.slice A l.length c) l.length (encs (Value.int .u8) l)) : (Kd.int .u8).C W A l.length l := by
  obtain ⟨A', c', e, -, hC⟩ := Kd.R_reads (Kd.R_of_own (h1 := fun _ => rfl) (ok := fun _ => True) h (fun _ _ => trivial))
  obtain ⟨rfl, -, rfl⟩ := Value.slice.inj e
  exact hC
def largeT : ByteArray := (⟨#[83, 69, 82, 86, 69, 82, 95, 69, 82, 82, 79, 82, 32, 111, 98, 106, 101, 99, 116, 32, 116, 111, 111, 32, 108, 97, 114, 103, 101, 32, 102, 111, 114, 32, 99, 97, 99, 104, 101]⟩ : ByteArray)
def chunkT : ByteArray := (⟨#[67, 76, 73, 69, 78, 84, 95, 69, 82, 82, 79, 82, 32, 98, 97, 100, 32, 100, 97, 116, 97, 32, 99, 104, 117, 110, 107]⟩ : ByteArray)
def stepM : Step := { zStep with e := 3 }
def stepMC : List Value := [.slice none 0 0, .int .i64 0, .string ⟨#[]⟩, .int .i64 0, .int .u32 0, .bool false, .bool false, .string ⟨#[]⟩, .slice none 0 0, .slice none 0 0, .bool false, .string ⟨#[]⟩, .int .i64 0, .int .i64 0, .bool false, .int .i64 3]
theorem stepM_K (w : World) : kStep.K w stepM stepMC := kStep_mk w stepM (Nat.le_refl _) (C_nil _ _) (Nat.le_refl _) (C_nil _ _) (Nat.le_refl _) (C_nil _ _)
def badA (q p1 : Bool) (z1 : Nat) (p2 p3 p4 : Bool) : Bool := !q || (!p1 || (decide ((z1 : Int) > 4294967295) || (!p2 || (!p3 || !p4))))
def cmdS (op : Int) (key : ByteArray) (v : List Int) (flags exp cas : Int) : Cmd := { zCmd with op := op, key := key, value := v, flags := flags, exp := exp, cas := cas }
def storesR (verb : ByteArray) (quiet : Bool) (used : Int) (rest : List Int) (op : Int) (v0 v1 v2 v3 : ByteArray) (cas : Nat × Bool) : Step :=
  if badA (keyS v0) (decS v1).2 (decS v1).1 (sgnS v2).2 (decS v3).2 cas.2 = true then stepFS used badT (skipN (decS v3)) false
  else if ((decS v3).1 : Int) > 1000 then stepFS used largeT (skipN (decS v3)) false
  else if (bodyS rest ((decS v3).1 : Int)).2.2 = 3 then stepM
  else if (bodyS rest ((decS v3).1 : Int)).2.2 = 2 then stepFS (used + (bodyS rest ((decS v3).1 : Int)).2.1) chunkT 0 true
  else stepO (used + (bodyS rest ((decS v3).1 : Int)).2.1) (formT verb quiet [v0]) (cmdS op v0 (bodyS rest ((decS v3).1 : Int)).1 ((decS v1).1 : Int) (sgnS v2).1 (cas.1 : Int))
theorem bodyS_e (l : List Int) (n : Int) (h0 : 0 ≤ n) (hn : n ≤ 1000) : (bodyS l n).2.2 = 3 ∧ (bodyS l n).2.1 = 0 ∨ (bodyS l n).2.2 = 2 ∧ (bodyS l n).2.1 = n ∨ (bodyS l n).2.2 = 0 ∧ (bodyS l n).2.1 = n + 2 := by
  unfold bodyS
  rw [if_neg (by omega)]
  split
  · exact .inl ⟨rfl, rfl⟩
  split
  · exact .inr (.inr ⟨rfl, rfl⟩)
  · exact .inr (.inl ⟨rfl, rfl⟩)
def casS (n : Nat) (v : ByteArray) : Nat × Bool := if n = 5 then decS v else (0, true)
set_option maxRecDepth 100000 in
set_option maxHeartbeats 1000000 in
theorem stores_walk (x : TextinLine) (cx : List Value) (op : Int) (v0 v1 v2 v3 v4 : ByteArray) (F : Nat → Prop) (w : World) (hx : HolF F w (fun w2 => kTextinLine.K w2 x cx)) (hT : Tabs w) (hn : x.words.length = 4 ∨ x.words.length = 5)
    (h0 : x.words.getD 0 ⟨#[]⟩ = v0) (h1 : x.words.getD 1 ⟨#[]⟩ = v1) (h2 : x.words.getD 2 ⟨#[]⟩ = v2) (h3 : x.words.getD 3 ⟨#[]⟩ = v3) (h4 : x.words.getD 4 ⟨#[]⟩ = v4) (hk : v0.size ≤ 1000000) (hu0 : 0 ≤ x.used) (hu1 : x.used ≤ 1000000) (h8 : B8 x.rest) (hrl : x.rest.length ≤ 1000000) :
    Calls Tryz.prog 45 #[.agg cx.toArray, .int .i64 op, .int .i64 (x.words.length : Int)] w (StepR F w (storesR x.verb x.quiet x.used x.rest op v0 v1 v2 v3 (casS x.words.length v4))) := by
  have HB := Aside0.mk (Below.refl w.heap.size w)
  have HXF := Aside0.mk hx
  have HX := Aside0.mk hx.now
  have HT := Aside0.mk hT
  have HN := Aside0.mk hn
  obtain ⟨A1, c1, A4, c4, rfl, hl1, hg1, hl4, hg4⟩ := kTextinLine_open hx.now
  have HG := Aside0.mk hg1
  have HG4 := Aside0.mk hg4
  obtain ⟨b, o, rfl, hb0, hcell0⟩ := S_cell hg1 0 (by omega)
  rw [h0, Nat.add_zero] at hcell0
  have HC0 := Aside0.mk hcell0
  have HC1 : Aside0 (w.cell? ⟨b, o + 1, none⟩ = some (.string v1)) := by
    obtain ⟨b', o', e', -, h⟩ := S_cell hg1 1 (by omega)
    obtain ⟨rfl, rfl⟩ : b = b' ∧ o = o' := by simpa using e'
    rw [h1] at h
    exact ⟨h⟩
  have HC2 : Aside0 (w.cell? ⟨b, o + 2, none⟩ = some (.string v2)) := by
    obtain ⟨b', o', e', -, h⟩ := S_cell hg1 2 (by omega)
    obtain ⟨rfl, rfl⟩ : b = b' ∧ o = o' := by simpa using e'
    rw [h2] at h
    exact ⟨h⟩
  have HC3 : Aside0 (w.cell? ⟨b, o + 3, none⟩ = some (.string v3)) := by
    obtain ⟨b', o', e', -, h⟩ := S_cell hg1 3 (by omega)
    obtain ⟨rfl, rfl⟩ : b = b' ∧ o = o' := by simpa using e'
    rw [h3] at h
    exact ⟨h⟩
  have HC4 : Aside0 (x.words.length = 5 → w.cell? ⟨b, o + 4, none⟩ = some (.string v4)) := ⟨fun h5 => by
    obtain ⟨b', o', e', -, h⟩ := S_cell hg1 4 (by omega)
    obtain ⟨rfl, rfl⟩ : b = b' ∧ o = o' := by simpa using e'
    rw [h4] at h
    exact h⟩
  have HK0 := Aside0.mk (fun w => fkey_calls v0 w hk)
  obtain ⟨R, hR⟩ : ∃ R, storesR x.verb x.quiet x.used x.rest op v0 v1 v2 v3 (casS x.words.length v4) = R := ⟨_, rfl⟩
  rw [hR]
  unfold storesR at hR
  have H8 := Aside0.mk h8
  have HSK : Aside0 (∀ reply : ByteArray, reply.size ≤ 1000 → ∀ w', Below w.heap.size w w' → Calls Tryz.prog 72 #[.agg #[.string x.verb, .slice (some ⟨b, o, none⟩) x.words.length c1, .bool x.quiet, .int .i64 x.used, .slice A4 x.rest.length c4], .string reply] w' (StepR (fun k => k < w.heap.size ∧ F k) w' (stepFS x.used reply (skipN (decS v3)) false))) := ⟨fun reply hr w' hb => skipped_calls x _ reply v3 _ w' (kTextinLine.K_below hb HX.out) (Tabs.below HT.out hb) hr (by have := HN.out; omega) h3⟩
  have HD1 := Aside0.mk (fun w => dec_w v1 w)
  have HS2 := Aside0.mk (fun w => sgn_w v2 w)
  have HD3 := Aside0.mk (fun w => dec_w v3 w)
  have HD4 := Aside0.mk (fun w => dec_w v4 w)
  obtain ⟨⟨z1, p1⟩, hz1⟩ : ∃ z, decS v1 = z := ⟨_, rfl⟩
  obtain ⟨⟨z2, p2⟩, hz2⟩ : ∃ z, sgnS v2 = z := ⟨_, rfl⟩
  obtain ⟨⟨z3, p3⟩, hz3⟩ : ∃ z, decS v3 = z := ⟨_, rfl⟩
  obtain ⟨⟨z4, p4⟩, hz4⟩ : ∃ z, casS x.words.length v4 = z := ⟨_, rfl⟩
  have HZ4 := Aside0.mk hz4
  rw [hz1] at HD1
  rw [hz2] at HS2
  rw [hz3] at HD3
  obtain ⟨q, hq⟩ : ∃ q, keyS v0 = q := ⟨_, rfl⟩
  rw [hq] at HK0
  rw [hz1, hz2, hz3, hz4, hq] at hR
  rw [hz3] at HSK
  have HR := Aside0.mk hR
  have HQ := Aside0.mk hq
  obtain ⟨bd, hbd⟩ : ∃ bd, badA q p1 z1 p2 p3 p4 = bd := ⟨_, rfl⟩
  rw [hbd] at HR
  have HBD := Aside0.mk hbd
  clear hR hq hbd h8
  clear hx hg1 hg4 hT h0 h1 h2 h3 h4 hcell0 hk hz1 hz2 hz3 hz4
  have hn1 : (3 : Int) < x.words.length := by omega
  have hn2 : (x.words.length : Int) ≤ c1 := by omega
  clear hn
  go_enter Tryz.func45, Tryz.ntmps45
  go_upto_region 1 with fail
  obtain ⟨W, hW⟩ : ∃ W, (w.alloc (.cells #[.string x.verb, .slice (some ⟨b, o, none⟩) x.words.length c1, .bool x.quiet, .int .i64 x.used, .slice A4 x.rest.length c4] 50 (0, 0))).alloc (.cells zStepC 34 (0, 0)) = W := ⟨_, rfl⟩
  have hW2 := hW
  unfold zStepC at hW2
  rw [hW2]
  have BX := Aside0.mk (show W.heap[w.heap.size]? = _ from hW ▸ blk_alloc (blk_at_new _ _ _ rfl) _)
  have BR := Aside0.mk (show W.heap[w.heap.size + 1]? = _ from hW ▸ blk_at_new _ _ _ (by simp))
  have HBn : Aside0 (Below w.heap.size w W) := ⟨hW ▸ (by repeat (first | (with_reducible first | exact HB.out | apply below_alloc | apply pw_below_drewN | apply below_drew1) | exact HB.out))⟩
  clear HB hW hW2
  have HB := HBn
  clear HBn
  have t1 : W.cell? ⟨w.heap.size, 1, none⟩ = some (.slice (some ⟨b, o, none⟩) x.words.length c1) := (blk_cell BX.out 1).trans rfl; have k0 : W.cell? ⟨b, o, none⟩ = some (.string v0) := (Below.cell HB.out (p := ⟨b, o, none⟩) hb0).trans HC0.out; have k1 : W.cell? ⟨b, o + 1, none⟩ = some (.string v1) := (Below.cell HB.out (p := ⟨b, o + 1, none⟩) hb0).trans HC1.out; have k2 : W.cell? ⟨b, o + 2, none⟩ = some (.string v2) := (Below.cell HB.out (p := ⟨b, o + 2, none⟩) hb0).trans HC2.out; have k3 : W.cell? ⟨b, o + 3, none⟩ = some (.string v3) := (Below.cell HB.out (p := ⟨b, o + 3, none⟩) hb0).trans HC3.out
  go_upto_if 51 with (first | (go_at_call 71; (with_reducible refine (HD1.out _ (Tabs.below HT.out (by repeat (first | (with_reducible first | exact HB.out | apply below_alloc | apply pw_below_drewN | apply below_drew1) | exact HB.out)))).mono ?_); rintro e w1 ⟨rfl, hb⟩; have BXn := Aside0.mk (blk_below BX.out hb); have BRn := Aside0.mk (blk_below BR.out hb); clear BX BR t1 k0 k1 k2 k3; have BX := BXn; have BR := BRn; clear BXn BRn; have HBn := Aside0.mk (below_step (by repeat (first | (with_reducible first | exact HB.out | apply below_alloc | apply pw_below_drewN | apply below_drew1) | exact HB.out)) hb); clear HB; have HB := HBn; clear HBn; clear hb; have t1 : w1.cell? ⟨w.heap.size, 1, none⟩ = some (.slice (some ⟨b, o, none⟩) x.words.length c1) := (blk_cell BX.out 1).trans rfl; have k0 : w1.cell? ⟨b, o, none⟩ = some (.string v0) := (Below.cell HB.out (p := ⟨b, o, none⟩) hb0).trans HC0.out; have k1 : w1.cell? ⟨b, o + 1, none⟩ = some (.string v1) := (Below.cell HB.out (p := ⟨b, o + 1, none⟩) hb0).trans HC1.out; have k2 : w1.cell? ⟨b, o + 2, none⟩ = some (.string v2) := (Below.cell HB.out (p := ⟨b, o + 2, none⟩) hb0).trans HC2.out; have k3 : w1.cell? ⟨b, o + 3, none⟩ = some (.string v3) := (Below.cell HB.out (p := ⟨b, o + 3, none⟩) hb0).trans HC3.out) | (go_at_call 69; (with_reducible refine (HS2.out _ (Tabs.below HT.out (by repeat (first | (with_reducible first | exact HB.out | apply below_alloc | apply pw_below_drewN | apply below_drew1) | exact HB.out)))).mono ?_); rintro e w1 ⟨rfl, hb⟩; have BXn := Aside0.mk (blk_below BX.out hb); have BRn := Aside0.mk (blk_below BR.out hb); clear BX BR t1 k0 k1 k2 k3; have BX := BXn; have BR := BRn; clear BXn BRn; have HBn := Aside0.mk (below_step (by repeat (first | (with_reducible first | exact HB.out | apply below_alloc | apply pw_below_drewN | apply below_drew1) | exact HB.out)) hb); clear HB; have HB := HBn; clear HBn; clear hb; have t1 : w1.cell? ⟨w.heap.size, 1, none⟩ = some (.slice (some ⟨b, o, none⟩) x.words.length c1) := (blk_cell BX.out 1).trans rfl; have k0 : w1.cell? ⟨b, o, none⟩ = some (.string v0) := (Below.cell HB.out (p := ⟨b, o, none⟩) hb0).trans HC0.out; have k1 : w1.cell? ⟨b, o + 1, none⟩ = some (.string v1) := (Below.cell HB.out (p := ⟨b, o + 1, none⟩) hb0).trans HC1.out; have k2 : w1.cell? ⟨b, o + 2, none⟩ = some (.string v2) := (Below.cell HB.out (p := ⟨b, o + 2, none⟩) hb0).trans HC2.out; have k3 : w1.cell? ⟨b, o + 3, none⟩ = some (.string v3) := (Below.cell HB.out (p := ⟨b, o + 3, none⟩) hb0).trans HC3.out) | (go_at_call 71; (with_reducible refine (HD3.out _ (Tabs.below HT.out (by repeat (first | (with_reducible first | exact HB.out | apply below_alloc | apply pw_below_drewN | apply below_drew1) | exact HB.out)))).mono ?_); rintro e w1 ⟨rfl, hb⟩; have BXn := Aside0.mk (blk_below BX.out hb); have BRn := Aside0.mk (blk_below BR.out hb); clear BX BR t1 k0 k1 k2 k3; have BX := BXn; have BR := BRn; clear BXn BRn; have HBn := Aside0.mk (below_step (by repeat (first | (with_reducible first | exact HB.out | apply below_alloc | apply pw_below_drewN | apply below_drew1) | exact HB.out)) hb); clear HB; have HB := HBn; clear HBn; clear hb; have t1 : w1.cell? ⟨w.heap.size, 1, none⟩ = some (.slice (some ⟨b, o, none⟩) x.words.length c1) := (blk_cell BX.out 1).trans rfl; have k0 : w1.cell? ⟨b, o, none⟩ = some (.string v0) := (Below.cell HB.out (p := ⟨b, o, none⟩) hb0).trans HC0.out; have k1 : w1.cell? ⟨b, o + 1, none⟩ = some (.string v1) := (Below.cell HB.out (p := ⟨b, o + 1, none⟩) hb0).trans HC1.out; have k2 : w1.cell? ⟨b, o + 2, none⟩ = some (.string v2) := (Below.cell HB.out (p := ⟨b, o + 2, none⟩) hb0).trans HC2.out; have k3 : w1.cell? ⟨b, o + 3, none⟩ = some (.string v3) := (Below.cell HB.out (p := ⟨b, o + 3, none⟩) hb0).trans HC3.out))
  go_cut [13, 14] (fun sc sd wx => sc = .int .u64 ↑z4 ∧ sd = .bool p4 ∧ Aside0 (wx.heap[w.heap.size]? = some (.cells #[.string x.verb, .slice (some ⟨b, o, none⟩) x.words.length c1, .bool x.quiet, .int .i64 x.used, .slice A4 x.rest.length c4] 50 (0, 0)) ∧ wx.heap[w.heap.size + 1]? = some (.cells zStepC 34 (0, 0)) ∧ Below w.heap.size w wx))
  case first =>
    by_cases h5 : x.words.length = 5
    · have h5i : (4 : Int) < x.words.length := by omega
      have k4 : w1.cell? ⟨b, o + 4, none⟩ = some (.string v4) := (Below.cell HB.out (p := ⟨b, o + 4, none⟩) hb0).trans (HC4.out h5)
      have hz4 := HZ4.out
      unfold casS at hz4
      rw [if_pos h5] at hz4
      rw [hz4] at HD4
      clear h5 hz4
      go_wp2_with (first | (go_at_call 71; (with_reducible refine (HD4.out _ (Tabs.below HT.out (by repeat (first | (with_reducible first | exact HB.out | apply below_alloc | apply pw_below_drewN | apply below_drew1) | exact HB.out)))).mono ?_); rintro e w1 ⟨rfl, hb⟩; have BXn := Aside0.mk (blk_below BX.out hb); have BRn := Aside0.mk (blk_below BR.out hb); clear BX BR t1 k0 k1 k2 k3; have BX := BXn; have BR := BRn; clear BXn BRn; have HBn := Aside0.mk (below_step (by repeat (first | (with_reducible first | exact HB.out | apply below_alloc | apply pw_below_drewN | apply below_drew1) | exact HB.out)) hb); clear HB; have HB := HBn; clear HBn; clear hb; have t1 : w1.cell? ⟨w.heap.size, 1, none⟩ = some (.slice (some ⟨b, o, none⟩) x.words.length c1) := (blk_cell BX.out 1).trans rfl; have k0 : w1.cell? ⟨b, o, none⟩ = some (.string v0) := (Below.cell HB.out (p := ⟨b, o, none⟩) hb0).trans HC0.out; have k1 : w1.cell? ⟨b, o + 1, none⟩ = some (.string v1) := (Below.cell HB.out (p := ⟨b, o + 1, none⟩) hb0).trans HC1.out; have k2 : w1.cell? ⟨b, o + 2, none⟩ = some (.string v2) := (Below.cell HB.out (p := ⟨b, o + 2, none⟩) hb0).trans HC2.out; have k3 : w1.cell? ⟨b, o + 3, none⟩ = some (.string v3) := (Below.cell HB.out (p := ⟨b, o + 3, none⟩) hb0).trans HC3.out))
      go_meet
      case rel => exact ⟨rfl, rfl, ⟨BX.out, BR.out, HB.out⟩⟩
    · have h5i : (x.words.length : Int) ≤ 4 := by have := HN.out; omega
      have hz4 := HZ4.out
      unfold casS at hz4
      rw [if_neg h5] at hz4
      obtain ⟨rfl, rfl⟩ : 0 = z4 ∧ true = p4 := by simpa using hz4
      clear h5 hz4
      go_wp2
      go_meet
      case rel => exact ⟨rfl, rfl, ⟨BX.out, BR.out, HB.out⟩⟩
  case rest =>
    obtain ⟨rfl, rfl, HW⟩ := hcut
    obtain ⟨hx0, hr0, hB⟩ := HW.out; have BX := Aside0.mk hx0; have BR := Aside0.mk hr0; have HB := Aside0.mk hB; clear hx0 hr0 hB HW; have t1 : wc.cell? ⟨w.heap.size, 1, none⟩ = some (.slice (some ⟨b, o, none⟩) x.words.length c1) := (blk_cell BX.out 1).trans rfl; have k0 : wc.cell? ⟨b, o, none⟩ = some (.string v0) := (Below.cell HB.out (p := ⟨b, o, none⟩) hb0).trans HC0.out; have k1 : wc.cell? ⟨b, o + 1, none⟩ = some (.string v1) := (Below.cell HB.out (p := ⟨b, o + 1, none⟩) hb0).trans HC1.out; have k2 : wc.cell? ⟨b, o + 2, none⟩ = some (.string v2) := (Below.cell HB.out (p := ⟨b, o + 2, none⟩) hb0).trans HC2.out; have k3 : wc.cell? ⟨b, o + 3, none⟩ = some (.string v3) := (Below.cell HB.out (p := ⟨b, o + 3, none⟩) hb0).trans HC3.out
    go_upto_region 9 with fail
    go_cut [60] (fun st wx => st = .bool bd ∧ Aside0 (wx.heap[w.heap.size]? = some (.cells #[.string x.verb, .slice (some ⟨b, o, none⟩) x.words.length c1, .bool x.quiet, .int .i64 x.used, .slice A4 x.rest.length c4] 50 (0, 0)) ∧ wx.heap[w.heap.size + 1]? = some (.cells zStepC 34 (0, 0)) ∧ Below w.heap.size w wx))
    case first =>
      cases q
      · (go_wp2_with (first | (go_at_call 67; (with_reducible refine (HK0.out _).mono ?_); rintro e w1 ⟨rfl, hb⟩; have BXn := Aside0.mk (blk_below BX.out hb); have BRn := Aside0.mk (blk_below BR.out hb); clear BX BR t1 k0 k1 k2 k3; have BX := BXn; have BR := BRn; clear BXn BRn; have HBn := Aside0.mk (below_step (by repeat (first | (with_reducible first | exact HB.out | apply below_alloc | apply pw_below_drewN | apply below_drew1) | exact HB.out)) hb); clear HB; have HB := HBn; clear HBn; clear hb; have t1 : w1.cell? ⟨w.heap.size, 1, none⟩ = some (.slice (some ⟨b, o, none⟩) x.words.length c1) := (blk_cell BX.out 1).trans rfl; have k0 : w1.cell? ⟨b, o, none⟩ = some (.string v0) := (Below.cell HB.out (p := ⟨b, o, none⟩) hb0).trans HC0.out; have k1 : w1.cell? ⟨b, o + 1, none⟩ = some (.string v1) := (Below.cell HB.out (p := ⟨b, o + 1, none⟩) hb0).trans HC1.out; have k2 : w1.cell? ⟨b, o + 2, none⟩ = some (.string v2) := (Below.cell HB.out (p := ⟨b, o + 2, none⟩) hb0).trans HC2.out; have k3 : w1.cell? ⟨b, o + 3, none⟩ = some (.string v3) := (Below.cell HB.out (p := ⟨b, o + 3, none⟩) hb0).trans HC3.out)); go_meet; case rel => exact ⟨by rw [← HBD.out]; first | rfl | (simp [badA, hf]; done) | (simp [badA]; done) | (simp [badA]; omega), ⟨BX.out, BR.out, HB.out⟩⟩)
      cases p1
      · (go_wp2_with (first | (go_at_call 67; (with_reducible refine (HK0.out _).mono ?_); rintro e w1 ⟨rfl, hb⟩; have BXn := Aside0.mk (blk_below BX.out hb); have BRn := Aside0.mk (blk_below BR.out hb); clear BX BR t1 k0 k1 k2 k3; have BX := BXn; have BR := BRn; clear BXn BRn; have HBn := Aside0.mk (below_step (by repeat (first | (with_reducible first | exact HB.out | apply below_alloc | apply pw_below_drewN | apply below_drew1) | exact HB.out)) hb); clear HB; have HB := HBn; clear HBn; clear hb; have t1 : w1.cell? ⟨w.heap.size, 1, none⟩ = some (.slice (some ⟨b, o, none⟩) x.words.length c1) := (blk_cell BX.out 1).trans rfl; have k0 : w1.cell? ⟨b, o, none⟩ = some (.string v0) := (Below.cell HB.out (p := ⟨b, o, none⟩) hb0).trans HC0.out; have k1 : w1.cell? ⟨b, o + 1, none⟩ = some (.string v1) := (Below.cell HB.out (p := ⟨b, o + 1, none⟩) hb0).trans HC1.out; have k2 : w1.cell? ⟨b, o + 2, none⟩ = some (.string v2) := (Below.cell HB.out (p := ⟨b, o + 2, none⟩) hb0).trans HC2.out; have k3 : w1.cell? ⟨b, o + 3, none⟩ = some (.string v3) := (Below.cell HB.out (p := ⟨b, o + 3, none⟩) hb0).trans HC3.out)); go_meet; case rel => exact ⟨by rw [← HBD.out]; first | rfl | (simp [badA, hf]; done) | (simp [badA]; done) | (simp [badA]; omega), ⟨BX.out, BR.out, HB.out⟩⟩)
      by_cases hf : (z1 : Int) > 4294967295
      · (go_wp2_with (first | (go_at_call 67; (with_reducible refine (HK0.out _).mono ?_); rintro e w1 ⟨rfl, hb⟩; have BXn := Aside0.mk (blk_below BX.out hb); have BRn := Aside0.mk (blk_below BR.out hb); clear BX BR t1 k0 k1 k2 k3; have BX := BXn; have BR := BRn; clear BXn BRn; have HBn := Aside0.mk (below_step (by repeat (first | (with_reducible first | exact HB.out | apply below_alloc | apply pw_below_drewN | apply below_drew1) | exact HB.out)) hb); clear HB; have HB := HBn; clear HBn; clear hb; have t1 : w1.cell? ⟨w.heap.size, 1, none⟩ = some (.slice (some ⟨b, o, none⟩) x.words.length c1) := (blk_cell BX.out 1).trans rfl; have k0 : w1.cell? ⟨b, o, none⟩ = some (.string v0) := (Below.cell HB.out (p := ⟨b, o, none⟩) hb0).trans HC0.out; have k1 : w1.cell? ⟨b, o + 1, none⟩ = some (.string v1) := (Below.cell HB.out (p := ⟨b, o + 1, none⟩) hb0).trans HC1.out; have k2 : w1.cell? ⟨b, o + 2, none⟩ = some (.string v2) := (Below.cell HB.out (p := ⟨b, o + 2, none⟩) hb0).trans HC2.out; have k3 : w1.cell? ⟨b, o + 3, none⟩ = some (.string v3) := (Below.cell HB.out (p := ⟨b, o + 3, none⟩) hb0).trans HC3.out)); go_meet; case rel => exact ⟨by rw [← HBD.out]; first | rfl | (simp [badA, hf]; done) | (simp [badA]; done) | (simp [badA]; omega), ⟨BX.out, BR.out, HB.out⟩⟩)
      cases p2
      · (go_wp2_with (first | (go_at_call 67; (with_reducible refine (HK0.out _).mono ?_); rintro e w1 ⟨rfl, hb⟩; have BXn := Aside0.mk (blk_below BX.out hb); have BRn := Aside0.mk (blk_below BR.out hb); clear BX BR t1 k0 k1 k2 k3; have BX := BXn; have BR := BRn; clear BXn BRn; have HBn := Aside0.mk (below_step (by repeat (first | (with_reducible first | exact HB.out | apply below_alloc | apply pw_below_drewN | apply below_drew1) | exact HB.out)) hb); clear HB; have HB := HBn; clear HBn; clear hb; have t1 : w1.cell? ⟨w.heap.size, 1, none⟩ = some (.slice (some ⟨b, o, none⟩) x.words.length c1) := (blk_cell BX.out 1).trans rfl; have k0 : w1.cell? ⟨b, o, none⟩ = some (.string v0) := (Below.cell HB.out (p := ⟨b, o, none⟩) hb0).trans HC0.out; have k1 : w1.cell? ⟨b, o + 1, none⟩ = some (.string v1) := (Below.cell HB.out (p := ⟨b, o + 1, none⟩) hb0).trans HC1.out; have k2 : w1.cell? ⟨b, o + 2, none⟩ = some (.string v2) := (Below.cell HB.out (p := ⟨b, o + 2, none⟩) hb0).trans HC2.out; have k3 : w1.cell? ⟨b, o + 3, none⟩ = some (.string v3) := (Below.cell HB.out (p := ⟨b, o + 3, none⟩) hb0).trans HC3.out)); go_meet; case rel => exact ⟨by rw [← HBD.out]; first | rfl | (simp [badA, hf]; done) | (simp [badA]; done) | (simp [badA]; omega), ⟨BX.out, BR.out, HB.out⟩⟩)
      cases p3
      · (go_wp2_with (first | (go_at_call 67; (with_reducible refine (HK0.out _).mono ?_); rintro e w1 ⟨rfl, hb⟩; have BXn := Aside0.mk (blk_below BX.out hb); have BRn := Aside0.mk (blk_below BR.out hb); clear BX BR t1 k0 k1 k2 k3; have BX := BXn; have BR := BRn; clear BXn BRn; have HBn := Aside0.mk (below_step (by repeat (first | (with_reducible first | exact HB.out | apply below_alloc | apply pw_below_drewN | apply below_drew1) | exact HB.out)) hb); clear HB; have HB := HBn; clear HBn; clear hb; have t1 : w1.cell? ⟨w.heap.size, 1, none⟩ = some (.slice (some ⟨b, o, none⟩) x.words.length c1) := (blk_cell BX.out 1).trans rfl; have k0 : w1.cell? ⟨b, o, none⟩ = some (.string v0) := (Below.cell HB.out (p := ⟨b, o, none⟩) hb0).trans HC0.out; have k1 : w1.cell? ⟨b, o + 1, none⟩ = some (.string v1) := (Below.cell HB.out (p := ⟨b, o + 1, none⟩) hb0).trans HC1.out; have k2 : w1.cell? ⟨b, o + 2, none⟩ = some (.string v2) := (Below.cell HB.out (p := ⟨b, o + 2, none⟩) hb0).trans HC2.out; have k3 : w1.cell? ⟨b, o + 3, none⟩ = some (.string v3) := (Below.cell HB.out (p := ⟨b, o + 3, none⟩) hb0).trans HC3.out)); go_meet; case rel => exact ⟨by rw [← HBD.out]; first | rfl | (simp [badA, hf]; done) | (simp [badA]; done) | (simp [badA]; omega), ⟨BX.out, BR.out, HB.out⟩⟩)
      cases p4
      · (go_wp2_with (first | (go_at_call 67; (with_reducible refine (HK0.out _).mono ?_); rintro e w1 ⟨rfl, hb⟩; have BXn := Aside0.mk (blk_below BX.out hb); have BRn := Aside0.mk (blk_below BR.out hb); clear BX BR t1 k0 k1 k2 k3; have BX := BXn; have BR := BRn; clear BXn BRn; have HBn := Aside0.mk (below_step (by repeat (first | (with_reducible first | exact HB.out | apply below_alloc | apply pw_below_drewN | apply below_drew1) | exact HB.out)) hb); clear HB; have HB := HBn; clear HBn; clear hb; have t1 : w1.cell? ⟨w.heap.size, 1, none⟩ = some (.slice (some ⟨b, o, none⟩) x.words.length c1) := (blk_cell BX.out 1).trans rfl; have k0 : w1.cell? ⟨b, o, none⟩ = some (.string v0) := (Below.cell HB.out (p := ⟨b, o, none⟩) hb0).trans HC0.out; have k1 : w1.cell? ⟨b, o + 1, none⟩ = some (.string v1) := (Below.cell HB.out (p := ⟨b, o + 1, none⟩) hb0).trans HC1.out; have k2 : w1.cell? ⟨b, o + 2, none⟩ = some (.string v2) := (Below.cell HB.out (p := ⟨b, o + 2, none⟩) hb0).trans HC2.out; have k3 : w1.cell? ⟨b, o + 3, none⟩ = some (.string v3) := (Below.cell HB.out (p := ⟨b, o + 3, none⟩) hb0).trans HC3.out)); go_meet; case rel => exact ⟨by rw [← HBD.out]; first | rfl | (simp [badA, hf]; done) | (simp [badA]; done) | (simp [badA]; omega), ⟨BX.out, BR.out, HB.out⟩⟩)
      · (go_wp2_with (first | (go_at_call 67; (with_reducible refine (HK0.out _).mono ?_); rintro e w1 ⟨rfl, hb⟩; have BXn := Aside0.mk (blk_below BX.out hb); have BRn := Aside0.mk (blk_below BR.out hb); clear BX BR t1 k0 k1 k2 k3; have BX := BXn; have BR := BRn; clear BXn BRn; have HBn := Aside0.mk (below_step (by repeat (first | (with_reducible first | exact HB.out | apply below_alloc | apply pw_below_drewN | apply below_drew1) | exact HB.out)) hb); clear HB; have HB := HBn; clear HBn; clear hb; have t1 : w1.cell? ⟨w.heap.size, 1, none⟩ = some (.slice (some ⟨b, o, none⟩) x.words.length c1) := (blk_cell BX.out 1).trans rfl; have k0 : w1.cell? ⟨b, o, none⟩ = some (.string v0) := (Below.cell HB.out (p := ⟨b, o, none⟩) hb0).trans HC0.out; have k1 : w1.cell? ⟨b, o + 1, none⟩ = some (.string v1) := (Below.cell HB.out (p := ⟨b, o + 1, none⟩) hb0).trans HC1.out; have k2 : w1.cell? ⟨b, o + 2, none⟩ = some (.string v2) := (Below.cell HB.out (p := ⟨b, o + 2, none⟩) hb0).trans HC2.out; have k3 : w1.cell? ⟨b, o + 3, none⟩ = some (.string v3) := (Below.cell HB.out (p := ⟨b, o + 3, none⟩) hb0).trans HC3.out)); go_meet; case rel => exact ⟨by rw [← HBD.out]; first | rfl | (simp [badA, hf]; done) | (simp [badA]; done) | (simp [badA]; omega), ⟨BX.out, BR.out, HB.out⟩⟩)
    case rest =>
      obtain ⟨rfl, HW⟩ := hcut
      clear HB BX BR t1 k0 k1 k2 k3
      obtain ⟨hx0, hr0, hB⟩ := HW.out; have BX := Aside0.mk hx0; have BR := Aside0.mk hr0; have HB := Aside0.mk hB; clear hx0 hr0 hB HW; have t1 : wc.cell? ⟨w.heap.size, 1, none⟩ = some (.slice (some ⟨b, o, none⟩) x.words.length c1) := (blk_cell BX.out 1).trans rfl; have k0 : wc.cell? ⟨b, o, none⟩ = some (.string v0) := (Below.cell HB.out (p := ⟨b, o, none⟩) hb0).trans HC0.out; have k1 : wc.cell? ⟨b, o + 1, none⟩ = some (.string v1) := (Below.cell HB.out (p := ⟨b, o + 1, none⟩) hb0).trans HC1.out; have k2 : wc.cell? ⟨b, o + 2, none⟩ = some (.string v2) := (Below.cell HB.out (p := ⟨b, o + 2, none⟩) hb0).trans HC2.out; have k3 : wc.cell? ⟨b, o + 3, none⟩ = some (.string v3) := (Below.cell HB.out (p := ⟨b, o + 3, none⟩) hb0).trans HC3.out
      have t0 : wc.cell? ⟨w.heap.size, 0, none⟩ = some (.string x.verb) := (blk_cell BX.out 0).trans rfl; have t2 : wc.cell? ⟨w.heap.size, 2, none⟩ = some (.bool x.quiet) := (blk_cell BX.out 2).trans rfl; have t3 : wc.cell? ⟨w.heap.size, 3, none⟩ = some (.int .i64 x.used) := (blk_cell BX.out 3).trans rfl; have t4 : wc.cell? ⟨w.heap.size, 4, none⟩ = some (.slice A4 x.rest.length c4) := (blk_cell BX.out 4).trans rfl
      have GLT := Aside0.mk (blk_lt BR.out)
      cases bd
      · have hR := HR.out
        rw [if_neg (by decide)] at hR
        by_cases hl : (z3 : Int) > 1000
        · rw [if_pos (by exact hl)] at hR
          subst hR
          have HOL : Aside0 (∀ w', Below w.heap.size w w' → Calls Tryz.prog 72 #[.agg #[.string x.verb, .slice (some ⟨b, o, none⟩) x.words.length c1, .bool x.quiet, .int .i64 x.used, .slice A4 x.rest.length c4], .string (⟨#[83, 69, 82, 86, 69, 82, 95, 69, 82, 82, 79, 82, 32, 111, 98, 106, 101, 99, 116, 32, 116, 111, 111, 32, 108, 97, 114, 103, 101, 32, 102, 111, 114, 32, 99, 97, 99, 104, 101]⟩ : ByteArray)] w' (StepR (fun k => k < w.heap.size ∧ F k) w' (stepFS x.used largeT (skipN (z3, p3)) false))) := ⟨HSK.out _ (by decide)⟩
          clear HR
          go_wp2_with (first | (go_at_call 72; (with_reducible refine (HOL.out _ (by repeat (first | (with_reducible first | exact HB.out | apply below_alloc | apply pw_below_drewN | apply below_drew1) | exact HB.out))).mono ?_); rintro e w1 ⟨⟨cs, rfl, hk⟩, hb⟩; have BK := Aside0.mk (blk_below BR.out hb); have HBn := Aside0.mk (below_step (by repeat (first | (with_reducible first | exact HB.out | apply below_alloc | apply pw_below_drewN | apply below_drew1) | exact HB.out)) hb); clear HB; have HB := HBn; clear HBn; have HK := Aside0.mk hk; clear hb hk) | (refine wpList_store_K HK.out.now rfl 34 _ _ rfl (w.heap.size + 1) rfl rfl 34 _ BK.out (by kernel_rfl) rfl ?_; intro w8 hbk hlow hfar; have HK2 := Aside0.mk (hfar _ _ (fun h => absurd (h GLT.out).1 (by omega)) HK.out); clear BK; have BK := Aside0.mk hbk; have HL := Aside0.mk hlow; clear hbk hlow hfar))
          ((try simp only [Exit.inBlock, Exit.then]); refine bodyPost_ret (results_cell_row rfl _ _ (w.heap.size + 1) 34 _ (0, 0) _ rfl BK.out Tryz.underlying34 rfl (by rw [List.size_toArray, kStep.K_len HK.out.now]; kernel_rfl)) rfl ?_)
          exact ⟨⟨_, rfl, HK2.out.mono (fun k hk h3 => (hk (by have := GLT.out; omega)).2)⟩, HB.out.trans (HL.out _ (by omega))⟩
        · rw [if_neg (by exact hl)] at hR
          have HRn := Aside0.mk hR
          clear HR hR
          have HR := HRn
          clear HRn
          have hz0 : (0 : Int) ≤ ↑z3 := by omega
          have hz1 : (z3 : Int) ≤ 1000 := by omega
          have hE := bodyS_e x.rest ↑z3 hz0 hz1
          have HBY : Aside0 (∀ w', Below w.heap.size w w' → Calls Tryz.prog 73 #[.slice A4 x.rest.length c4, .int .i64 ↑z3] w' (BL w' (bodyS x.rest ↑z3))) := ⟨fun w' hb => fbody_calls x.rest A4 c4 ↑z3 w' (Kd.C_below HG4.out hb) hl4 hrl H8.out⟩
          obtain ⟨⟨vl, u, e⟩, hB⟩ : ∃ r, bodyS x.rest ↑z3 = r := ⟨_, rfl⟩
          rw [hB] at HBY hE HR
          clear hB hl
          dsimp only at HR hE
          have HXU : Aside0 (∀ w', Below w.heap.size w w' → kTextinLine.K w' { x with used := x.used + u } [.string x.verb, .slice (some ⟨b, o, none⟩) x.words.length c1, .bool x.quiet, .int .i64 (x.used + u), .slice A4 x.rest.length c4]) := ⟨fun w' hb => kTextinLine_mk w' { x with used := x.used + u } hl1 (Kd.C_below HG.out hb) hl4 (Kd.C_below HG4.out hb)⟩
          rcases hE with ⟨rfl, rfl⟩ | ⟨rfl, hu⟩ | ⟨rfl, hu⟩
          · have hR := HR.out
            rw [if_pos rfl] at hR
            subst hR
            clear HR HXU
            have hs0 : (0 : Int) ≤ x.used + 0 := by omega
            have hs1 : x.used + 0 ≤ 9223372036854775807 := by omega
            go_wp2_with (first | (go_at_call 73; (with_reducible refine (HBY.out _ (by repeat (first | (with_reducible first | exact HB.out | apply below_alloc | apply pw_below_drewN | apply below_drew1) | exact HB.out))).mono ?_); rintro e w1 ⟨V, rfl, hrow⟩; have hb := hrow.2; have HRW := Aside0.mk hrow; clear hrow; have BXn := Aside0.mk (blk_below BX.out hb); have BRn := Aside0.mk (blk_below BR.out hb); clear BX BR t1 t2 t3 t4 k0 k1 k2 k3; have BX := BXn; have BR := BRn; clear BXn BRn; have HBn := Aside0.mk (below_step (by repeat (first | (with_reducible first | exact HB.out | apply below_alloc | apply pw_below_drewN | apply below_drew1) | exact HB.out)) hb); clear HB; have HB := HBn; clear HBn; clear hb; have t3 : w1.cell? ⟨w.heap.size, 3, none⟩ = some (.int .i64 x.used) := (blk_cell BX.out 3).trans rfl) | (refine wpList_store_1 rfl 3 _ _ rfl w.heap.size 3 (.int .i64 x.used) rfl rfl rfl 50 _ #[.string x.verb, .slice (some ⟨b, o, none⟩) x.words.length c1, .bool x.quiet, .int .i64 x.used, .slice A4 x.rest.length c4] BX.out (by simp) (by kernel_rfl) rfl ?_; intro w2 hbk hst; have BR2 := Aside0.mk (hst.blk BR.out (by omega)); have HB2 := Aside0.mk (hst.up HB.out (by omega)); clear hbk hst BX BR HB t3; have HB := HB2; clear HB2) | (refine wpList_store_F rfl 34 _ _ rfl (w.heap.size + 1) 0 stepMC rfl rfl (by simp [stepMC, Value.oneCell']) 34 _ _ BR2.out (by simp [zStepC, stepMC]) (by kernel_rfl) rfl ?_; intro w8 hbk hst; have BR8 := Aside0.mk hbk; have HB8 := Aside0.mk (hst.up HB.out (by omega)); clear hbk hst))
            ((try simp only [Exit.inBlock, Exit.then]); refine bodyPost_ret (results_cell_row rfl _ _ (w.heap.size + 1) 34 _ (0, 0) _ rfl BR8.out Tryz.underlying34 rfl (by kernel_rfl)) rfl ?_)
            exact ⟨⟨_, rfl, fun w2 _ _ => stepM_K w2⟩, HB8.out⟩
          · have hR := HR.out
            rw [if_neg (by decide), if_pos rfl] at hR
            subst hR
            have HOC : Aside0 (∀ w', Below w.heap.size w w' → Calls Tryz.prog 18 #[.agg #[.string x.verb, .slice (some ⟨b, o, none⟩) x.words.length c1, .bool x.quiet, .int .i64 (x.used + u), .slice A4 x.rest.length c4], .string (⟨#[67, 76, 73, 69, 78, 84, 95, 69, 82, 82, 79, 82, 32, 98, 97, 100, 32, 100, 97, 116, 97, 32, 99, 104, 117, 110, 107]⟩ : ByteArray)] w' fun e w'' => e = .returned (.agg (stepFC (x.used + u) chunkT 0 false).toArray) ∧ Below w'.heap.size w' w'') := ⟨fun w' hb => fault_ex { x with used := x.used + u } _ chunkT w' (HXU.out w' hb) (by decide)⟩
            have hs0 : (0 : Int) ≤ x.used + u := by omega
            have hs1 : x.used + u ≤ 9223372036854775807 := by omega
            clear hu
            clear HR HXU
            go_wp2_with (first | (go_at_call 73; (with_reducible refine (HBY.out _ (by repeat (first | (with_reducible first | exact HB.out | apply below_alloc | apply pw_below_drewN | apply below_drew1) | exact HB.out))).mono ?_); rintro e w1 ⟨V, rfl, hrow⟩; have hb := hrow.2; have HRW := Aside0.mk hrow; clear hrow; have BXn := Aside0.mk (blk_below BX.out hb); have BRn := Aside0.mk (blk_below BR.out hb); clear BX BR t1 t2 t3 t4 k0 k1 k2 k3; have BX := BXn; have BR := BRn; clear BXn BRn; have HBn := Aside0.mk (below_step (by repeat (first | (with_reducible first | exact HB.out | apply below_alloc | apply pw_below_drewN | apply below_drew1) | exact HB.out)) hb); clear HB; have HB := HBn; clear HBn; clear hb; have t3 : w1.cell? ⟨w.heap.size, 3, none⟩ = some (.int .i64 x.used) := (blk_cell BX.out 3).trans rfl) | (refine wpList_store_1 rfl 3 _ _ rfl w.heap.size 3 (.int .i64 (x.used + u)) rfl rfl rfl 50 _ #[.string x.verb, .slice (some ⟨b, o, none⟩) x.words.length c1, .bool x.quiet, .int .i64 (x.used + u), .slice A4 x.rest.length c4] BX.out (by simp) (by kernel_rfl) rfl ?_; intro w2 hbk hst; have BX2 := Aside0.mk hbk; have BR2 := Aside0.mk (hst.blk BR.out (by omega)); have HB2 := Aside0.mk (hst.up HB.out (by omega)); have HST := Aside0.mk hst; clear hbk hst BX BR HB t3; have HB := HB2; clear HB2; have hx2 : w.heap.size < w2.heap.size := blk_lt BX2.out; have hr2 : w.heap.size + 1 < w2.heap.size := blk_lt BR2.out; have t0 : w2.cell? ⟨w.heap.size, 0, none⟩ = some (.string x.verb) := (blk_cell BX2.out 0).trans rfl; have t1 : w2.cell? ⟨w.heap.size, 1, none⟩ = some (.slice (some ⟨b, o, none⟩) x.words.length c1) := (blk_cell BX2.out 1).trans rfl; have t2 : w2.cell? ⟨w.heap.size, 2, none⟩ = some (.bool x.quiet) := (blk_cell BX2.out 2).trans rfl; have t3 : w2.cell? ⟨w.heap.size, 3, none⟩ = some (.int .i64 (x.used + u)) := (blk_cell BX2.out 3).trans rfl; have t4 : w2.cell? ⟨w.heap.size, 4, none⟩ = some (.slice A4 x.rest.length c4) := (blk_cell BX2.out 4).trans rfl) | (go_at_call 18; (with_reducible refine (HOC.out _ (by repeat (first | (with_reducible first | exact HB.out | apply below_alloc | apply pw_below_drewN | apply below_drew1) | exact HB.out))).mono ?_); rintro e w3 ⟨rfl, hb⟩; unfold stepFC; have BR3 := Aside0.mk (blk_below BR2.out hb); have HBn := Aside0.mk (below_step (by repeat (first | (with_reducible first | exact HB.out | apply below_alloc | apply pw_below_drewN | apply below_drew1) | exact HB.out)) hb); clear HB; have HB := HBn; clear HBn; clear hb; have hr3 : w.heap.size + 1 < w3.heap.size := blk_lt BR3.out) | (refine wpList_store_1 rfl 4 _ _ rfl w3.heap.size 14 (.bool true) rfl rfl rfl 34 _ (stepFC (x.used + u) chunkT 0 true).toArray (blk_at_new _ _ _ rfl) (by simp) (by kernel_rfl) rfl ?_; intro w4 hbk hst; have BS4 := Aside0.mk hbk; have BR4 := Aside0.mk (hst.blk (blk_alloc BR3.out _) (by omega)); have HB4 := Aside0.mk (hst.up (by repeat (first | (with_reducible first | exact HB.out | apply below_alloc | apply pw_below_drewN | apply below_drew1) | exact HB.out)) (by omega)); clear hbk hst HB; have HB := HB4; clear HB4; have e0 : w4.cell? ⟨w3.heap.size, 0, none⟩ = some (.slice none 0 0) := (blk_cell BS4.out 0).trans rfl; have e1 : w4.cell? ⟨w3.heap.size, 1, none⟩ = some (.int .i64 0) := (blk_cell BS4.out 1).trans rfl; have e2 : w4.cell? ⟨w3.heap.size, 2, none⟩ = some (.string ⟨#[]⟩) := (blk_cell BS4.out 2).trans rfl; have e3 : w4.cell? ⟨w3.heap.size, 3, none⟩ = some (.int .i64 0) := (blk_cell BS4.out 3).trans rfl; have e4 : w4.cell? ⟨w3.heap.size, 4, none⟩ = some (.int .u32 0) := (blk_cell BS4.out 4).trans rfl; have e5 : w4.cell? ⟨w3.heap.size, 5, none⟩ = some (.bool false) := (blk_cell BS4.out 5).trans rfl; have e6 : w4.cell? ⟨w3.heap.size, 6, none⟩ = some (.bool false) := (blk_cell BS4.out 6).trans rfl; have e7 : w4.cell? ⟨w3.heap.size, 7, none⟩ = some (.string ⟨#[]⟩) := (blk_cell BS4.out 7).trans rfl; have e8 : w4.cell? ⟨w3.heap.size, 8, none⟩ = some (.slice none 0 0) := (blk_cell BS4.out 8).trans rfl; have e9 : w4.cell? ⟨w3.heap.size, 9, none⟩ = some (.slice none 0 0) := (blk_cell BS4.out 9).trans rfl; have e10 : w4.cell? ⟨w3.heap.size, 10, none⟩ = some (.bool false) := (blk_cell BS4.out 10).trans rfl; have e11 : w4.cell? ⟨w3.heap.size, 11, none⟩ = some (.string (chunkT ++ (⟨#[13, 10]⟩ : ByteArray))) := (blk_cell BS4.out 11).trans rfl; have e12 : w4.cell? ⟨w3.heap.size, 12, none⟩ = some (.int .i64 (x.used + u)) := (blk_cell BS4.out 12).trans rfl; have e13 : w4.cell? ⟨w3.heap.size, 13, none⟩ = some (.int .i64 0) := (blk_cell BS4.out 13).trans rfl; have e14 : w4.cell? ⟨w3.heap.size, 14, none⟩ = some (.bool true) := (blk_cell BS4.out 14).trans rfl; have e15 : w4.cell? ⟨w3.heap.size, 15, none⟩ = some (.int .i64 2) := (blk_cell BS4.out 15).trans rfl) | (refine wpList_store_F rfl 34 _ _ rfl (w.heap.size + 1) 0 _ rfl rfl (by simp [Value.oneCell']) 34 _ _ BR4.out (by simp [zStepC]) (by kernel_rfl) rfl ?_; intro w8 hbk hst; have BR8 := Aside0.mk hbk; have HB8 := Aside0.mk (hst.up HB.out (by omega)); clear hbk hst))
            ((try simp only [Exit.inBlock, Exit.then]); refine bodyPost_ret (results_cell_row rfl _ _ (w.heap.size + 1) 34 _ (0, 0) _ rfl BR8.out Tryz.underlying34 rfl (by kernel_rfl)) rfl ?_)
            exact ⟨⟨_, rfl, fun w2 _ _ => stepFS_K w2 (x.used + u) chunkT 0 true⟩, HB8.out⟩
          · have hR := HR.out
            rw [if_neg (by decide), if_neg (by decide)] at hR
            subst hR
            have hs0 : (0 : Int) ≤ x.used + u := by omega
            have hs1 : x.used + u ≤ 9223372036854775807 := by omega
            clear hu
            clear HR
            go_wp2_with (first | (go_at_call 73; (with_reducible refine (HBY.out _ (by repeat (first | (with_reducible first | exact HB.out | apply below_alloc | apply pw_below_drewN | apply below_drew1) | exact HB.out))).mono ?_); rintro e w1 ⟨V, rfl, hrow⟩; have hb := hrow.2; have HRW := Aside0.mk hrow; clear hrow; have BXn := Aside0.mk (blk_below BX.out hb); have BRn := Aside0.mk (blk_below BR.out hb); clear BX BR t1 t2 t3 t4 k0 k1 k2 k3; have BX := BXn; have BR := BRn; clear BXn BRn; have HBn := Aside0.mk (below_step (by repeat (first | (with_reducible first | exact HB.out | apply below_alloc | apply pw_below_drewN | apply below_drew1) | exact HB.out)) hb); clear HB; have HB := HBn; clear HBn; clear hb; have t3 : w1.cell? ⟨w.heap.size, 3, none⟩ = some (.int .i64 x.used) := (blk_cell BX.out 3).trans rfl) | (refine wpList_store_1 rfl 3 _ _ rfl w.heap.size 3 (.int .i64 (x.used + u)) rfl rfl rfl 50 _ #[.string x.verb, .slice (some ⟨b, o, none⟩) x.words.length c1, .bool x.quiet, .int .i64 (x.used + u), .slice A4 x.rest.length c4] BX.out (by simp) (by kernel_rfl) rfl ?_; intro w2 hbk hst; have BX2 := Aside0.mk hbk; have BR2 := Aside0.mk (hst.blk BR.out (by omega)); have HB2 := Aside0.mk (hst.up HB.out (by omega)); have HST := Aside0.mk hst; clear hbk hst BX BR HB t3; have HB := HB2; clear HB2; have hx2 : w.heap.size < w2.heap.size := blk_lt BX2.out; have hr2 : w.heap.size + 1 < w2.heap.size := blk_lt BR2.out; have t0 : w2.cell? ⟨w.heap.size, 0, none⟩ = some (.string x.verb) := (blk_cell BX2.out 0).trans rfl; have t1 : w2.cell? ⟨w.heap.size, 1, none⟩ = some (.slice (some ⟨b, o, none⟩) x.words.length c1) := (blk_cell BX2.out 1).trans rfl; have t2 : w2.cell? ⟨w.heap.size, 2, none⟩ = some (.bool x.quiet) := (blk_cell BX2.out 2).trans rfl; have t3 : w2.cell? ⟨w.heap.size, 3, none⟩ = some (.int .i64 (x.used + u)) := (blk_cell BX2.out 3).trans rfl; have t4 : w2.cell? ⟨w.heap.size, 4, none⟩ = some (.slice A4 x.rest.length c4) := (blk_cell BX2.out 4).trans rfl))
            have hbf := HBD.out
            simp only [badA, Bool.or_eq_false_iff, Bool.not_eq_false', decide_eq_false_iff_not] at hbf
            obtain ⟨rfl, rfl, hzl, rfl, rfl, rfl⟩ := hbf
            have hn0 : 0 < x.words.length := by omega
            have hz1a : (0 : Int) ≤ ↑z1 := by omega
            have hz1b : (z1 : Int) ≤ 4294967295 := by omega
            have hw32 : IntKind.u32.wrap ↑z1 = ↑z1 := by show (↑z1 : Int) % 4294967296 = ↑z1; omega
            have hks : keysOf (cmdS op v0 vl ↑z1 z2 ↑z4).key = [v0] := by
              unfold keysOf
              refine if_neg (fun h => ?_)
              have h : v0.size = 0 := h
              have h2 := HQ.out
              have : keyS v0 = false := by unfold keyS; rw [decide_eq_false (by omega), Bool.false_and]
              rw [this] at h2
              cases h2
            obtain ⟨A', c', rfl, hlv, -⟩ := HRW.out.C
            have HCV : Aside0 (HolF (fun k => k ≠ w.heap.size + 1 ∧ (k < w.heap.size → F k)) w2.drew (fun w3 => (Kd.int .u8).C w3 A' vl.length vl)) := ⟨fun w3 hb3 hk3 => own_Cu8 (own_keep HRW.out.1 (fun k h1 h2 => by
              have hlt := GLT.out
              have e1 := hk3 k (by rw [World.size_drew]; have := HST.out.size; omega) ⟨by omega, fun h => by omega⟩
              exact e1.trans (HST.out.block k (by omega))))⟩
            have HO1 : Aside0 (Calls Tryz.prog 70 #[.agg #[.string x.verb, .slice (some ⟨b, o, none⟩) x.words.length c1, .bool x.quiet, .int .i64 (x.used + u), .slice A4 x.rest.length c4], .agg #[.int .i64 op, .string v0, .slice A' vl.length c', .int .u32 ↑z1, .int .i64 z2, .int .u64 ↑z4, .int .u64 0, .int .u64 0, .bool false, .bool false]] w2.drew (StepR (fun k => k ≠ w.heap.size + 1 ∧ (k < w.heap.size → F k)) w2.drew (stepO (x.used + u) (formT x.verb x.quiet [v0]) (cmdS op v0 vl ↑z1 z2 ↑z4)))) := ⟨by
              have := one_calls { x with used := x.used + u } (cmdS op v0 vl ↑z1 z2 ↑z4) _ _ (fun k => k ≠ w.heap.size + 1 ∧ (k < w.heap.size → F k)) w2.drew (HXU.out w2.drew (by repeat (first | (with_reducible first | exact HB.out | apply below_alloc | apply pw_below_drewN | apply below_drew1) | exact HB.out))) (HCV.out.imp (fun w3 h => kCmd_mk w3 (cmdS op v0 vl ↑z1 z2 ↑z4) hlv h))
              rw [hks] at this
              exact this⟩
            clear hks HCV HRW HST HXU hs0 hs1 hzl
            (refine wp_region_noPanic ?_; refine wp_region_held_drew (S := fun w' => LineAt x.verb (.slice (some ⟨b, o, none⟩) x.words.length c1) x.quiet (x.used + u) (.slice A4 x.rest.length c4) w.heap.size w' ∧ w'.cell? ⟨b, o, none⟩ = some (.string v0)) (by kernel_rfl) ⟨LineAt.of (blk_drew BX2.out), (Below.cell (below_drew1 HB.out) (p := ⟨b, o, none⟩) hb0).trans HC0.out⟩ ?_; intro hHeld)
            (refine wpAnyH_take (i := 0) (v := ?_) (by simp only [List.getElem?_toArray, List.getElem?_cons_succ, List.getElem?_cons_zero]; rfl) (by kernel_rfl) (by kernel_rfl) (by kernel_rfl) (fun _ _ _ h => h) (Or.inl ⟨by rfl, ?_⟩) (by exact hHeld) ?_; rotate_left; (focus (intro w' hSw; obtain ⟨⟨s0, s1, s2, s3, s4⟩, s5⟩ := hSw; go_simp; (try with_reducible rfl); done)); (try simp only [Act.put, List.setIfInBounds_toArray, List.set_cons_zero, List.set_cons_succ]))
            (refine wpAnyH_take (i := 1) (v := ?_) (by simp only [List.getElem?_toArray, List.getElem?_cons_succ, List.getElem?_cons_zero]; rfl) (by kernel_rfl) (by kernel_rfl) (by kernel_rfl) (fun _ _ _ h => h) (Or.inl ⟨by rfl, ?_⟩) (by exact hHeld) ?_; rotate_left; (focus (intro w' hSw; obtain ⟨⟨s0, s1, s2, s3, s4⟩, s5⟩ := hSw; go_simp; (try with_reducible rfl); done)); (try simp only [Act.put, List.setIfInBounds_toArray, List.set_cons_zero, List.set_cons_succ]))
            (refine wpAnyH_take (i := 2) (v := ?_) (by simp only [List.getElem?_toArray, List.getElem?_cons_succ, List.getElem?_cons_zero]; rfl) (by kernel_rfl) (by kernel_rfl) (by kernel_rfl) (fun _ _ _ h => h) (Or.inl ⟨by rfl, ?_⟩) (by exact hHeld) ?_; rotate_left; (focus (intro w' hSw; obtain ⟨⟨s0, s1, s2, s3, s4⟩, s5⟩ := hSw; go_simp; (try with_reducible rfl); done)); (try simp only [Act.put, List.setIfInBounds_toArray, List.set_cons_zero, List.set_cons_succ]))
            (refine wpAnyH_take (i := 3) (v := ?_) (by simp only [List.getElem?_toArray, List.getElem?_cons_succ, List.getElem?_cons_zero]; rfl) (by kernel_rfl) (by kernel_rfl) (by kernel_rfl) (fun _ _ _ h => h) (Or.inl ⟨by rfl, ?_⟩) (by exact hHeld) ?_; rotate_left; (focus (intro w' hSw; obtain ⟨⟨s0, s1, s2, s3, s4⟩, s5⟩ := hSw; go_simp; (try with_reducible rfl); done)); (try simp only [Act.put, List.setIfInBounds_toArray, List.set_cons_zero, List.set_cons_succ]))
            (refine wpAnyH_take (i := 4) (v := ?_) (by simp only [List.getElem?_toArray, List.getElem?_cons_succ, List.getElem?_cons_zero]; rfl) (by kernel_rfl) (by kernel_rfl) (by kernel_rfl) (fun _ _ _ h => h) (Or.inl ⟨by rfl, ?_⟩) (by exact hHeld) ?_; rotate_left; (focus (intro w' hSw; obtain ⟨⟨s0, s1, s2, s3, s4⟩, s5⟩ := hSw; go_simp; (try with_reducible rfl); done)); (try simp only [Act.put, List.setIfInBounds_toArray, List.set_cons_zero, List.set_cons_succ]))
            (refine wpAnyH_take (i := 5) (v := ?_) (by simp only [List.getElem?_toArray, List.getElem?_cons_succ, List.getElem?_cons_zero]; rfl) (by kernel_rfl) (by kernel_rfl) (by kernel_rfl) (fun _ _ _ h => h) (Or.inl ⟨by rfl, ?_⟩) (by exact hHeld) ?_; rotate_left; (focus (intro w' hSw; obtain ⟨⟨s0, s1, s2, s3, s4⟩, s5⟩ := hSw; go_simp; (try with_reducible rfl); done)); (try simp only [Act.put, List.setIfInBounds_toArray, List.set_cons_zero, List.set_cons_succ]))
            (refine wpAnyH_take (i := 6) (v := ?_) (by simp only [List.getElem?_toArray, List.getElem?_cons_succ, List.getElem?_cons_zero]; rfl) (by kernel_rfl) (by kernel_rfl) (by kernel_rfl) (fun _ _ _ h => h) (Or.inl ⟨by rfl, ?_⟩) (by exact hHeld) ?_; rotate_left; (focus (intro w' hSw; obtain ⟨⟨s0, s1, s2, s3, s4⟩, s5⟩ := hSw; go_simp; (try with_reducible rfl); done)); (try simp only [Act.put, List.setIfInBounds_toArray, List.set_cons_zero, List.set_cons_succ]))
            (refine wpAnyH_take (i := 7) (v := ?_) (by simp only [List.getElem?_toArray, List.getElem?_cons_succ, List.getElem?_cons_zero]; rfl) (by kernel_rfl) (by kernel_rfl) (by kernel_rfl) (fun _ _ _ h => h) (Or.inl ⟨by rfl, ?_⟩) (by exact hHeld) ?_; rotate_left; (focus (intro w' hSw; obtain ⟨⟨s0, s1, s2, s3, s4⟩, s5⟩ := hSw; go_simp; (try with_reducible rfl); done)); (try simp only [Act.put, List.setIfInBounds_toArray, List.set_cons_zero, List.set_cons_succ]))
            (refine wpAnyH_take (i := 8) (v := ?_) (by simp only [List.getElem?_toArray, List.getElem?_cons_succ, List.getElem?_cons_zero]; rfl) (by kernel_rfl) (by kernel_rfl) (by kernel_rfl) (fun _ _ _ h => h) (Or.inl ⟨by rfl, ?_⟩) (by exact hHeld) ?_; rotate_left; (focus (intro w' hSw; obtain ⟨⟨s0, s1, s2, s3, s4⟩, s5⟩ := hSw; go_simp; (try with_reducible rfl); done)); (try simp only [Act.put, List.setIfInBounds_toArray, List.set_cons_zero, List.set_cons_succ]))
            (refine wpAnyH_take (i := 9) (v := ?_) (by simp only [List.getElem?_toArray, List.getElem?_cons_succ, List.getElem?_cons_zero]; rfl) (by kernel_rfl) (by kernel_rfl) (by kernel_rfl) (fun _ _ _ h => h) (Or.inl ⟨by rfl, ?_⟩) (by exact hHeld) ?_; rotate_left; (focus (intro w' hSw; obtain ⟨⟨s0, s1, s2, s3, s4⟩, s5⟩ := hSw; go_simp; (try with_reducible rfl); done)); (try simp only [Act.put, List.setIfInBounds_toArray, List.set_cons_zero, List.set_cons_succ]))
            (refine wpAnyH_take (i := 10) (v := ?_) (by simp only [List.getElem?_toArray, List.getElem?_cons_succ, List.getElem?_cons_zero]; rfl) (by kernel_rfl) (by kernel_rfl) (by kernel_rfl) (fun _ _ _ h => h) (Or.inl ⟨by rfl, ?_⟩) (by exact hHeld) ?_; rotate_left; (focus (intro w' hSw; obtain ⟨⟨s0, s1, s2, s3, s4⟩, s5⟩ := hSw; go_simp; (try with_reducible rfl); done)); (try simp only [Act.put, List.setIfInBounds_toArray, List.set_cons_zero, List.set_cons_succ]))
            (refine wpAnyH_take (i := 11) (v := ?_) (by simp only [List.getElem?_toArray, List.getElem?_cons_succ, List.getElem?_cons_zero]; rfl) (by kernel_rfl) (by kernel_rfl) (by kernel_rfl) (fun _ _ _ h => h) (Or.inl ⟨by rfl, ?_⟩) (by exact hHeld) ?_; rotate_left; (focus (intro w' hSw; obtain ⟨⟨s0, s1, s2, s3, s4⟩, s5⟩ := hSw; go_simp; (try with_reducible rfl); done)); (try simp only [Act.put, List.setIfInBounds_toArray, List.set_cons_zero, List.set_cons_succ]))
            refine wpAnyH_ready (rs := [12]) (by kernel_rfl) (by simp) ?_
            refine AllReadyH.cons (by simp only [List.getElem?_toArray, List.getElem?_cons_succ, List.getElem?_cons_zero]; rfl) (fun K hK => ?_) AllReadyH.nil
            go_simp
            (go_at_call 70; (with_reducible refine HO1.out.mono ?_); rintro e w5 ⟨⟨cs, rfl, hk⟩, hb⟩)
            have BX5 := Aside0.mk (blk_below (blk_drew BX2.out) hb)
            have BR5 := Aside0.mk (blk_below (blk_drew BR2.out) hb)
            have HBn := Aside0.mk (below_step (by repeat (first | (with_reducible first | exact HB.out | apply below_alloc | apply pw_below_drewN | apply below_drew1) | exact HB.out)) hb); clear HB; have HB := HBn; clear HBn
            have HK := Aside0.mk hk
            have hgd : w.heap.size + 1 < w2.drew.heap.size := by rw [World.size_drew]; exact hr2
            refine hK.out _ _ ⟨LineAt.of BX5.out, (Below.cell HB.out (p := ⟨b, o, none⟩) hb0).trans HC0.out⟩ ?_
            clear hK K hHeld hk hb
            intro hHeld
            (try simp only [Act.put, List.setIfInBounds_toArray, List.set_cons_zero, List.set_cons_succ])
            refine wpAnyH_ready (rs := [13]) (by kernel_rfl) (by simp) ?_
            refine AllReadyH.cons (by simp only [List.getElem?_toArray, List.getElem?_cons_succ, List.getElem?_cons_zero]; rfl) (fun K hK => ?_) AllReadyH.nil
            refine step_store_F rfl 34 _ _ rfl (w.heap.size + 1) 0 cs rfl rfl (fun u hu => kStep.K_one HK.out.now u hu) 34 _ cs.toArray BR5.out (by rw [kStep.K_len HK.out.now]; first | done | decide) (by rw [kStep.K_len HK.out.now]; kernel_rfl) (congrArg List.toArray (by rw [kStep.K_len HK.out.now]; exact List.append_nil cs)) ?_
            intro w6 hbk hst
            have BK := Aside0.mk hbk
            have HK2 := Aside0.mk (hst.hol HK.out (fun h => (h hgd).1 rfl))
            have HB6 := Aside0.mk (hst.up HB.out (by omega))
            refine hK.out _ _ ⟨LineAt.of (hst.blk BX5.out (by omega)), (Below.cell HB6.out (p := ⟨b, o, none⟩) hb0).trans HC0.out⟩ ?_
            clear hK K hHeld hbk hst
            intro hHeld
            (try simp only [Act.put, List.setIfInBounds_toArray, List.set_cons_zero, List.set_cons_succ])
            (refine wpAnyH_done (by kernel_rfl) ?_ _; refine NoPanic.normal ?_)
            go_wp2
            ((try simp only [Exit.inBlock, Exit.then]); refine bodyPost_ret (results_cell_row rfl _ _ (w.heap.size + 1) 34 _ (0, 0) _ rfl BK.out Tryz.underlying34 rfl (by rw [List.size_toArray, kStep.K_len HK.out.now]; kernel_rfl)) rfl ?_)
            exact ⟨⟨_, rfl, HK2.out.mono (fun k hk h3 => (hk (by omega)).2 h3)⟩, HB6.out⟩
      · have hR := HR.out
        rw [if_pos rfl] at hR
        subst hR
        have HOB : Aside0 (∀ w', Below w.heap.size w w' → Calls Tryz.prog 72 #[.agg #[.string x.verb, .slice (some ⟨b, o, none⟩) x.words.length c1, .bool x.quiet, .int .i64 x.used, .slice A4 x.rest.length c4], .string (⟨#[67, 76, 73, 69, 78, 84, 95, 69, 82, 82, 79, 82, 32, 98, 97, 100, 32, 99, 111, 109, 109, 97, 110, 100, 32, 108, 105, 110, 101, 32, 102, 111, 114, 109, 97, 116]⟩ : ByteArray)] w' (StepR (fun k => k < w.heap.size ∧ F k) w' (stepFS x.used badT (skipN (z3, p3)) false))) := ⟨HSK.out _ (by decide)⟩
        clear HR
        go_wp2_with (first | (go_at_call 72; (with_reducible refine (HOB.out _ (by repeat (first | (with_reducible first | exact HB.out | apply below_alloc | apply pw_below_drewN | apply below_drew1) | exact HB.out))).mono ?_); rintro e w1 ⟨⟨cs, rfl, hk⟩, hb⟩; have BK := Aside0.mk (blk_below BR.out hb); have HBn := Aside0.mk (below_step (by repeat (first | (with_reducible first | exact HB.out | apply below_alloc | apply pw_below_drewN | apply below_drew1) | exact HB.out)) hb); clear HB; have HB := HBn; clear HBn; have HK := Aside0.mk hk; clear hb hk) | (refine wpList_store_K HK.out.now rfl 34 _ _ rfl (w.heap.size + 1) rfl rfl 34 _ BK.out (by kernel_rfl) rfl ?_; intro w8 hbk hlow hfar; have HK2 := Aside0.mk (hfar _ _ (fun h => absurd (h GLT.out).1 (by omega)) HK.out); clear BK; have BK := Aside0.mk hbk; have HL := Aside0.mk hlow; clear hbk hlow hfar))
        ((try simp only [Exit.inBlock, Exit.then]); refine bodyPost_ret (results_cell_row rfl _ _ (w.heap.size + 1) 34 _ (0, 0) _ rfl BK.out Tryz.underlying34 rfl (by rw [List.size_toArray, kStep.K_len HK.out.now]; kernel_rfl)) rfl ?_)
        exact ⟨⟨_, rfl, HK2.out.mono (fun k hk h3 => (hk (by have := GLT.out; omega)).2)⟩, HB.out.trans (HL.out _ (by omega))⟩
end Go.Proofs.YtfljijpkeckeaaaGreatDoor.X
namespace Go.Proofs.YtfljijpkeckeaaaGreatDoor.X
open Go.RowKit Go.Proofs.YtfljijpkeckeaaaGreatDoorW.PrintWords Go.Proofs.YtfljijpkeckeaaaGreatDoorW.PrintMore
set_option linter.unusedVariables false
set_option linter.unusedSimpArgs false
def moreB (verb : ByteArray) (n : Nat) : Bool := decide ((n : Int) = asksL verb.toList + 1) || (verb.toList == [102, 108, 117, 115, 104, 95, 97, 108, 108]) && decide (n ≤ 2)
def hushB (verb : ByteArray) (words : List ByteArray) : Bool := decide (0 < words.length) && (moreB verb words.length && ((words.getD (words.length - 1) ⟨#[]⟩).toList == [110, 111, 114, 101, 112, 108, 121]))
theorem asksL_in (l : List UInt8) : -1 ≤ asksL l ∧ asksL l ≤ 5 := by
  unfold asksL
  repeat' split
  all_goals omega
def HushP (g : Nat) (cells : Array Value) (w : World) (e : Ending) (w' : World) : Prop := e = .returned (.tuple #[]) ∧ w'.heap[g]? = some (.cells cells 50 (0, 0)) ∧ (∀ B, B ≤ g → Below B w w') ∧ (∀ k, k < w.heap.size → k ≠ g → w'.heap[k]? = w.heap[k]?)
set_option maxRecDepth 100000 in
set_option maxHeartbeats 1000000 in
theorem hush_calls (g : Nat) (verb : ByteArray) (A1 : Option Addr) (c1 : Nat) (words : List ByteArray) (quiet : Bool) (used : Int) (v4 : Value) (w : World) (hg : w.heap[g]? = some (.cells #[.string verb, .slice A1 words.length c1, .bool quiet, .int .i64 used, v4] 50 (0, 0)))
    (hC : Kd.string.C w A1 words.length words) (hc : words.length ≤ c1) (hl : words.length ≤ 1000000) :
    Calls Tryz.prog 21 #[.pointer (some ⟨g, 0, none⟩)] w
      (HushP g (if hushB verb words = true then #[.string verb, .slice A1 (words.length - 1) c1, .bool true, .int .i64 used, v4] else #[.string verb, .slice A1 words.length c1, .bool quiet, .int .i64 used, v4]) w) := by
  have BX := Aside0.mk hg
  have HC := Aside0.mk hC
  obtain ⟨R, hR⟩ : ∃ R, (if hushB verb words = true then #[.string verb, .slice A1 (words.length - 1) c1, .bool true, .int .i64 used, v4] else #[.string verb, .slice A1 words.length c1, .bool quiet, .int .i64 used, v4]) = R := ⟨_, rfl⟩
  rw [hR]
  unfold hushB at hR
  have HA := Aside0.mk (fun w => asks_w verb w)
  have hin := asksL_in verb.toList
  obtain ⟨mo, hmo⟩ : ∃ mo, moreB verb words.length = mo := ⟨_, rfl⟩
  rw [hmo] at hR
  unfold moreB at hmo
  obtain ⟨a, ha⟩ : ∃ a, asksL verb.toList = a := ⟨_, rfl⟩
  rw [ha] at HA hin hmo
  obtain ⟨fl, hfl⟩ : ∃ fl, (verb.toList == [102, 108, 117, 115, 104, 95, 97, 108, 108]) = fl := ⟨_, rfl⟩
  have HFL := Aside0.mk hfl
  rw [hfl] at hmo
  obtain ⟨n, hn⟩ : ∃ n, words.length = n := ⟨_, rfl⟩
  have HN := Aside0.mk hn
  rw [hn] at BX HC hR hmo hc hl
  have HR := Aside0.mk hR
  have HMO := Aside0.mk hmo
  clear hg hC hR hmo ha hn hfl
  have ha0 : -1 ≤ a := hin.1
  have ha1 : a ≤ 5 := hin.2
  clear hin
  have hn0 : (0 : Int) ≤ n := by omega
  have hs0 : (0 : Int) ≤ a + 1 := by omega
  have hs1 : a + 1 ≤ 9223372036854775807 := by omega
  have t0 : w.cell? ⟨g, 0, none⟩ = some (.string verb) := (blk_cell BX.out 0).trans rfl; have t1 : w.cell? ⟨g, 1, none⟩ = some (.slice A1 n c1) := (blk_cell BX.out 1).trans rfl
  go_enter Tryz.func21, Tryz.ntmps21
  go_upto_region 1 with fail
  go_cut [3] (fun sm wx => sm = .bool mo ∧ Aside0 (wx.heap[g]? = some (.cells #[.string verb, .slice A1 n c1, .bool quiet, .int .i64 used, v4] 50 (0, 0)) ∧ Below w.heap.size w wx))
  case first =>
    have hfl := HFL.out
    by_cases h1 : (n : Int) = a + 1
    · have h1b : ((n : Int) == a + 1) = true := beq_iff_eq.2 h1
      have H1 := Aside0.mk h1
      clear h1
      go_wp2_with (first | (go_at_call 44; (with_reducible refine (HA.out _).mono ?_); rintro e w1 ⟨rfl, hb⟩; have BX1 := Aside0.mk (blk_below BX.out hb); have HB1 := Aside0.mk hb; clear hb; have t0 : w1.cell? ⟨g, 0, none⟩ = some (.string verb) := (blk_cell BX1.out 0).trans rfl; have t1 : w1.cell? ⟨g, 1, none⟩ = some (.slice A1 n c1) := (blk_cell BX1.out 1).trans rfl))
      go_meet
      case rel => exact ⟨by have h1 := H1.out; rw [← HMO.out]; first | rfl | (simp [moreB, *]; done) | (simp [moreB, *]; omega), ⟨BX1.out, HB1.out⟩⟩
    have h1b : ((n : Int) == a + 1) = false := beq_eq_false_iff_ne.2 h1
    have H1 := Aside0.mk h1
    clear h1
    cases fl
    · go_wp2_with (first | (go_at_call 44; (with_reducible refine (HA.out _).mono ?_); rintro e w1 ⟨rfl, hb⟩; have BX1 := Aside0.mk (blk_below BX.out hb); have HB1 := Aside0.mk hb; clear hb; have t0 : w1.cell? ⟨g, 0, none⟩ = some (.string verb) := (blk_cell BX1.out 0).trans rfl; have t1 : w1.cell? ⟨g, 1, none⟩ = some (.slice A1 n c1) := (blk_cell BX1.out 1).trans rfl))
      go_meet
      case rel => exact ⟨by have h1 := H1.out; rw [← HMO.out]; first | rfl | (simp [moreB, *]; done) | (simp [moreB, *]; omega), ⟨BX1.out, HB1.out⟩⟩
    by_cases h2 : (n : Int) ≤ 2
    · go_wp2_with (first | (go_at_call 44; (with_reducible refine (HA.out _).mono ?_); rintro e w1 ⟨rfl, hb⟩; have BX1 := Aside0.mk (blk_below BX.out hb); have HB1 := Aside0.mk hb; clear hb; have t0 : w1.cell? ⟨g, 0, none⟩ = some (.string verb) := (blk_cell BX1.out 0).trans rfl; have t1 : w1.cell? ⟨g, 1, none⟩ = some (.slice A1 n c1) := (blk_cell BX1.out 1).trans rfl))
      go_meet
      case rel => exact ⟨by have h1 := H1.out; rw [← HMO.out]; first | rfl | (simp [moreB, *]; done) | (simp [moreB, *]; omega), ⟨BX1.out, HB1.out⟩⟩
    · go_wp2_with (first | (go_at_call 44; (with_reducible refine (HA.out _).mono ?_); rintro e w1 ⟨rfl, hb⟩; have BX1 := Aside0.mk (blk_below BX.out hb); have HB1 := Aside0.mk hb; clear hb; have t0 : w1.cell? ⟨g, 0, none⟩ = some (.string verb) := (blk_cell BX1.out 0).trans rfl; have t1 : w1.cell? ⟨g, 1, none⟩ = some (.slice A1 n c1) := (blk_cell BX1.out 1).trans rfl))
      go_meet
      case rel => exact ⟨by have h1 := H1.out; rw [← HMO.out]; first | rfl | (simp [moreB, *]; done) | (simp [moreB, *]; omega), ⟨BX1.out, HB1.out⟩⟩
  case rest =>
    obtain ⟨rfl, HI⟩ := hcut
    have BXc := Aside0.mk HI.out.1
    have HBc := Aside0.mk HI.out.2
    clear HI t0 t1
    have t0 : wc.cell? ⟨g, 0, none⟩ = some (.string verb) := (blk_cell BXc.out 0).trans rfl; have t1 : wc.cell? ⟨g, 1, none⟩ = some (.slice A1 n c1) := (blk_cell BXc.out 1).trans rfl
    by_cases hz : n = 0
    · subst hz
      have hR := HR.out
      rw [decide_eq_false (by omega), Bool.false_and, if_neg (by decide)] at hR
      subst hR
      go_wp2
      go_end0; exact ⟨rfl, BXc.out, fun B hB => HBc.out.mono (Nat.le_of_lt (Nat.lt_of_le_of_lt hB (blk_lt BX.out))), fun k hk _ => HBc.out.block k hk⟩
    obtain ⟨m, rfl⟩ : ∃ m, n = m + 1 := ⟨n - 1, by omega⟩
    have hR := HR.out
    rw [decide_eq_true (by omega), Bool.true_and, Nat.add_sub_cancel] at hR
    cases mo
    · rw [Bool.false_and, if_neg (by decide)] at hR
      subst hR
      go_wp2
      go_end0; exact ⟨rfl, BXc.out, fun B hB => HBc.out.mono (Nat.le_of_lt (Nat.lt_of_le_of_lt hB (blk_lt BX.out))), fun k hk _ => HBc.out.block k hk⟩
    rw [Bool.true_and] at hR
    have hC := HC.out
    rw [← HN.out] at hC
    obtain ⟨b, o, rfl, hb0, hcell⟩ := S_cell hC m (by rw [HN.out]; omega)
    obtain ⟨z, hz2⟩ : ∃ z, words.getD m ⟨#[]⟩ = z := ⟨_, rfl⟩
    rw [hz2] at hR hcell
    have hc2 : wc.cell? ⟨b, o + m, none⟩ = some (.string z) := (Below.cell HBc.out (p := ⟨b, o + m, none⟩) hb0).trans hcell
    obtain ⟨y, hy⟩ : ∃ y, (z.toList == [110, 111, 114, 101, 112, 108, 121]) = y := ⟨_, rfl⟩
    rw [hy] at hR
    clear hC hcell hz2
    cases y
    · rw [if_neg (by decide)] at hR
      subst hR
      go_wp2
      go_end0; exact ⟨rfl, BXc.out, fun B hB => HBc.out.mono (Nat.le_of_lt (Nat.lt_of_le_of_lt hB (blk_lt BX.out))), fun k hk _ => HBc.out.block k hk⟩
    · rw [if_pos rfl] at hR
      subst hR
      go_wp2_with (first | (refine wpList_store_1 rfl 27 _ _ rfl g 1 (.slice (some ⟨b, o, none⟩) m c1) rfl rfl rfl 50 _ #[.string verb, .slice (some ⟨b, o, none⟩) m c1, .bool quiet, .int .i64 used, v4] BXc.out (by simp) (by kernel_rfl) rfl ?_; intro w2 hbk hst; have BX2 := Aside0.mk hbk; have HS2 := Aside0.mk hst; clear hbk hst) | (refine wpList_store_1 rfl 4 _ _ rfl g 2 (.bool true) rfl rfl rfl 50 _ #[.string verb, .slice (some ⟨b, o, none⟩) m c1, .bool true, .int .i64 used, v4] BX2.out (by simp) (by kernel_rfl) rfl ?_; intro w3 hbk hst; have BX3 := Aside0.mk hbk; have HS3 := Aside0.mk hst; clear hbk hst))
      go_end0
      exact ⟨rfl, BX3.out, fun B hB => (HBc.out.mono (Nat.le_of_lt (Nat.lt_of_le_of_lt hB (blk_lt BX.out)))).trans ((HS2.out.below B hB).trans (HS3.out.below B hB)), fun k hk hkg => (HS3.out.block k hkg).trans ((HS2.out.block k hkg).trans (HBc.out.block k hk))⟩
def storesS (verb : ByteArray) (quiet : Bool) (used : Int) (words : List ByteArray) (rest : List Int) (op : Int) (many : Nat) : Step :=
  if words.length ≠ many then stepF used (⟨#[69, 82, 82, 79, 82]⟩ : ByteArray) else storesR verb quiet used rest op (words.getD 0 ⟨#[]⟩) (words.getD 1 ⟨#[]⟩) (words.getD 2 ⟨#[]⟩) (words.getD 3 ⟨#[]⟩) (casS words.length (words.getD 4 ⟨#[]⟩))
end Go.Proofs.YtfljijpkeckeaaaGreatDoor.X
namespace Go.Proofs.YtfljijpkeckeaaaGreatDoor.X
open Go.RowKit Go.Proofs.YtfljijpkeckeaaaGreatDoorW.PrintWords Go.Proofs.YtfljijpkeckeaaaGreatDoorW.PrintMore
set_option linter.unusedVariables false
set_option linter.unusedSimpArgs false
set_option maxRecDepth 100000 in
set_option maxHeartbeats 1000000 in
theorem stores_no (x : TextinLine) (cx : List Value) (op many : Int) (F : Nat → Prop) (w : World) (hx : kTextinLine.K w x cx) (hw : (x.words.length : Int) ≠ many) :
    Calls Tryz.prog 45 #[.agg cx.toArray, .int .i64 op, .int .i64 many] w (StepR F w (stepF x.used (⟨#[69, 82, 82, 79, 82]⟩ : ByteArray))) := by
  have HB := Aside0.mk (Below.refl w.heap.size w)
  have HX := Aside0.mk hx
  obtain ⟨A1, c1, A4, c4, rfl, hl1, hg1, hl4, hg4⟩ := kTextinLine_open hx
  have HO : Aside0 (∀ w', Below w.heap.size w w' → Calls Tryz.prog 18 #[.agg #[.string x.verb, .slice A1 x.words.length c1, .bool x.quiet, .int .i64 x.used, .slice A4 x.rest.length c4], .string (⟨#[69, 82, 82, 79, 82]⟩ : ByteArray)] w' (StepR (fun k => k < w.heap.size ∧ F k) w' (stepF x.used (⟨#[69, 82, 82, 79, 82]⟩ : ByteArray)))) := ⟨fun w' hb => fault_calls x _ _ _ w' (kTextinLine.K_below hb HX.out) (by decide)⟩
  clear hx hg1 hg4
  have hwb : ((x.words.length : Int) == many) = false := beq_eq_false_iff_ne.2 hw
  go_enter Tryz.func45, Tryz.ntmps45
  go_wp2_with (first | (refine wpList_store_K HK.out.now rfl 34 _ _ rfl (w.heap.size + 1) rfl rfl 34 _ BK.out (by kernel_rfl) rfl ?_; intro w2 hbk hlow hfar; have HK2 := Aside0.mk (hfar _ _ (fun h => absurd (h (by simp <;> omega)).1 (by omega)) HK.out); clear BK; have BK := Aside0.mk hbk; have HL := Aside0.mk hlow; clear hbk hlow hfar) | go_at_call 18; (with_reducible refine (HO.out _ (by repeat (first | (with_reducible first | exact HB.out | apply below_alloc | apply pw_below_drewN | apply below_drew1) | exact HB.out))).mono ?_); rintro e w1 ⟨⟨cs, rfl, hk⟩, hb⟩; have BK := Aside0.mk (blk_below (g := w.heap.size + 1) (by repeat (first | exact blk_at_new _ _ _ (by simp; done) | exact blk_at_new _ _ _ rfl | refine blk_alloc ?_ _ | refine blk_drew ?_ | refine blk_drewN ?_ _)) hb); have HBn := Aside0.mk (below_step (by repeat (first | (with_reducible first | exact HB.out | apply below_alloc | apply pw_below_drewN | apply below_drew1) | exact HB.out)) hb); clear HB; have HB := HBn; clear HBn; have HK := Aside0.mk hk; clear hb hk)
  ((try simp only [Exit.inBlock, Exit.then]); refine bodyPost_ret (results_cell_row rfl _ _ (w.heap.size + 1) 34 _ (0, 0) _ rfl BK.out Tryz.underlying34 rfl (by rw [List.size_toArray, kStep.K_len HK.out.now]; kernel_rfl)) rfl ?_)
  exact ⟨⟨_, rfl, HK2.out.mono (fun k hk h3 => (hk (by simp; omega)).2)⟩, HB.out.trans (HL.out _ (by omega))⟩
theorem stores_calls (x : TextinLine) (cx : List Value) (F : Nat → Prop) (w : World) (hx : HolF F w (fun w2 => kTextinLine.K w2 x cx)) (hT : Tabs w) (hl : x.words.length ≤ 1000000) (hs : ∀ k ∈ x.words, k.size ≤ 1000000) (hu0 : 0 ≤ x.used) (hu1 : x.used ≤ 1000000) (h8 : B8 x.rest) (hrl : x.rest.length ≤ 1000000) (op : Int) (many : Nat) (hm : many = 4 ∨ many = 5) :
    Calls Tryz.prog 45 #[.agg cx.toArray, .int .i64 op, .int .i64 (many : Int)] w (StepR F w (storesS x.verb x.quiet x.used x.words x.rest op many)) := by
  unfold storesS
  by_cases hw : x.words.length = many
  · rw [if_neg (fun h => h hw)]
    subst hw
    refine stores_walk x cx op _ _ _ _ _ F w hx hT hm rfl rfl rfl rfl rfl ?_ hu0 hu1 h8 hrl
    refine hs _ ?_
    rw [List.getD_eq_getElem?_getD, List.getElem?_eq_getElem (show 0 < x.words.length by omega)]
    exact List.getElem_mem _
  · rw [if_pos hw]
    exact stores_no x cx op many F w hx.now (by omega)
theorem lit_ne {a : ByteArray} {l : List UInt8} (h : a ≠ ⟨l.toArray⟩) : (a.toList == l) = false := by
  rw [beq_eq_false_iff_ne]
  intro e
  refine h ?_
  rw [ByteArray.toList_eq] at e
  rcases a with ⟨⟨q⟩⟩
  have e : q = l := e
  rw [e]
theorem words_hol {x : TextinLine} {F : Nat → Prop} {w : World} {A1 A4 : Option Addr} {c1 c4 : Nat} (hx : HolF F w (fun w2 => kTextinLine.K w2 x [.string x.verb, .slice A1 x.words.length c1, .bool x.quiet, .int .i64 x.used, .slice A4 x.rest.length c4])) : HolF F w (fun w2 => Kd.string.C w2 A1 x.words.length x.words) := hx.imp (fun w2 h => by
  obtain ⟨A1', c1', A4', c4', e, -, hg, -, -⟩ := kTextinLine_open h
  simp only [List.cons.injEq, Value.slice.injEq, and_true, true_and] at e
  obtain ⟨⟨rfl, rfl⟩, rfl, rfl⟩ := e
  exact hg)
def LoudR (F : Nat → Prop) (w : World) (st : Step) (b : Bool) (e : Ending) (w' : World) : Prop := (∃ cs, e = .returned (.tuple #[.agg cs.toArray, .bool b]) ∧ HolF (fun k => k < w.heap.size → F k) w' (fun w2 => kStep.K w2 st cs)) ∧ Below w.heap.size w w'
def loudS (verb : ByteArray) (used : Int) (words : List ByteArray) : Step × Bool :=
  if verb = (⟨#[103, 101, 116]⟩ : ByteArray) ∨ verb = (⟨#[103, 101, 116, 115]⟩ : ByteArray) then (getsS verb used words 0, true) else if verb = (⟨#[103, 97, 116]⟩ : ByteArray) ∨ verb = (⟨#[103, 97, 116, 115]⟩ : ByteArray) then (gatsS verb used words, true)
  else if verb = (⟨#[118, 101, 114, 115, 105, 111, 110]⟩ : ByteArray) then (bareS verb words.length used 15, true) else if verb = (⟨#[113, 117, 105, 116]⟩ : ByteArray) then (bareS verb words.length used 16, true) else (zStep, false)
set_option maxRecDepth 100000 in
set_option maxHeartbeats 1000000 in
theorem loud_get (x : TextinLine) (cx : List Value) (F : Nat → Prop) (w : World) (hx : HolF F w (fun w2 => kTextinLine.K w2 x cx)) (hT : Tabs w) (hl : x.words.length ≤ 1000000) (hs : ∀ k ∈ x.words, k.size ≤ 1000000) (hu0 : 0 ≤ x.used) (hu1 : x.used ≤ 1000000) (h8 : B8 x.rest) (hrl : x.rest.length ≤ 1000000) (hq : x.quiet = false) (hv : x.verb = (⟨#[103, 101, 116]⟩ : ByteArray)) :
    Calls Tryz.prog 20 #[.agg cx.toArray] w (LoudR F w (getsS x.verb x.used x.words 0) true) := by
  have HB := Aside0.mk (Below.refl w.heap.size w)
  have HX := Aside0.mk hx
  have HT := Aside0.mk hT
  have hvs : x.verb.size ≤ 1000000 := by rw [hv]; decide
  obtain ⟨A1, c1, A4, c4, rfl, hl1, hg1, hl4, hg4⟩ := kTextinLine_open hx.now
  obtain ⟨R, hR⟩ : ∃ R, getsS x.verb x.used x.words 0 = R := ⟨_, rfl⟩
  have HO : Aside0 (∀ w', Below w.heap.size w w' → Calls Tryz.prog 41 #[.agg #[.string x.verb, .slice A1 x.words.length c1, .bool x.quiet, .int .i64 x.used, .slice A4 x.rest.length c4], .agg #[.int .i64 0, .string ⟨#[]⟩, .slice none 0 0, .int .u32 0, .int .i64 0, .int .u64 0, .int .u64 0, .int .u64 0, .bool false, .bool false], .slice A1 x.words.length c1] w' (StepR (fun k => k < w.heap.size ∧ F k) w' R)) := ⟨fun w' hb => by rw [← hR]; exact gets_calls x _ 0 x.words A1 c1 _ w' (kTextinLine.K_below hb HX.out.now) hl hs hvs (words_hol (HX.out.deep hb)) hl1⟩
  rw [hR]
  rw [hv] at HO ⊢
  clear hx hg1 hg4 hR hv hvs hT hs h8 hq
  go_enter Tryz.func20, Tryz.ntmps20
  go_wp2_with (first | (refine wpList_store_K HK.out.now rfl 34 _ _ rfl (w.heap.size + 1) rfl rfl 34 _ BK.out (by kernel_rfl) rfl ?_; intro w2 hbk hlow hfar; have HK2 := Aside0.mk (hfar _ _ (fun h => absurd (h (by simp <;> omega)).1 (by omega)) HK.out); clear BK; have BK := Aside0.mk hbk; have HL := Aside0.mk hlow; clear hbk hlow hfar) | go_at_call 41; (with_reducible refine (HO.out _ (by repeat (first | (with_reducible first | exact HB.out | apply below_alloc | apply pw_below_drewN | apply below_drew1) | exact HB.out))).mono ?_); rintro e w1 ⟨⟨cs, rfl, hk⟩, hb⟩; have BK := Aside0.mk (blk_below (g := w.heap.size + 1) (by repeat (first | exact blk_at_new _ _ _ (by simp; done) | exact blk_at_new _ _ _ rfl | refine blk_alloc ?_ _ | refine blk_drew ?_ | refine blk_drewN ?_ _)) hb); have HBn := Aside0.mk (below_step (by repeat (first | (with_reducible first | exact HB.out | apply below_alloc | apply pw_below_drewN | apply below_drew1) | exact HB.out)) hb); clear HB; have HB := HBn; clear HBn; have HK := Aside0.mk hk; clear hb hk)
  ((try simp only [Exit.inBlock, Exit.then]); refine bodyPost_ret (results_ct rfl _ _ (w.heap.size + 1) 34 _ (0, 0) _ rfl BK.out Tryz.underlying34 rfl (by rw [List.size_toArray, kStep.K_len HK.out.now]; kernel_rfl)) rfl ?_)
  exact ⟨⟨_, rfl, HK2.out.mono (fun k hk h3 => (hk (by simp; omega)).2)⟩, HB.out.trans (HL.out _ (by omega))⟩
set_option maxRecDepth 100000 in
set_option maxHeartbeats 1000000 in
theorem loud_gets (x : TextinLine) (cx : List Value) (F : Nat → Prop) (w : World) (hx : HolF F w (fun w2 => kTextinLine.K w2 x cx)) (hT : Tabs w) (hl : x.words.length ≤ 1000000) (hs : ∀ k ∈ x.words, k.size ≤ 1000000) (hu0 : 0 ≤ x.used) (hu1 : x.used ≤ 1000000) (h8 : B8 x.rest) (hrl : x.rest.length ≤ 1000000) (hq : x.quiet = false) (hv : x.verb = (⟨#[103, 101, 116, 115]⟩ : ByteArray)) :
    Calls Tryz.prog 20 #[.agg cx.toArray] w (LoudR F w (getsS x.verb x.used x.words 0) true) := by
  have HB := Aside0.mk (Below.refl w.heap.size w)
  have HX := Aside0.mk hx
  have HT := Aside0.mk hT
  have hvs : x.verb.size ≤ 1000000 := by rw [hv]; decide
  obtain ⟨A1, c1, A4, c4, rfl, hl1, hg1, hl4, hg4⟩ := kTextinLine_open hx.now
  obtain ⟨R, hR⟩ : ∃ R, getsS x.verb x.used x.words 0 = R := ⟨_, rfl⟩
  have HO : Aside0 (∀ w', Below w.heap.size w w' → Calls Tryz.prog 41 #[.agg #[.string x.verb, .slice A1 x.words.length c1, .bool x.quiet, .int .i64 x.used, .slice A4 x.rest.length c4], .agg #[.int .i64 0, .string ⟨#[]⟩, .slice none 0 0, .int .u32 0, .int .i64 0, .int .u64 0, .int .u64 0, .int .u64 0, .bool false, .bool false], .slice A1 x.words.length c1] w' (StepR (fun k => k < w.heap.size ∧ F k) w' R)) := ⟨fun w' hb => by rw [← hR]; exact gets_calls x _ 0 x.words A1 c1 _ w' (kTextinLine.K_below hb HX.out.now) hl hs hvs (words_hol (HX.out.deep hb)) hl1⟩
  rw [hR]
  rw [hv] at HO ⊢
  clear hx hg1 hg4 hR hv hvs hT hs h8 hq
  go_enter Tryz.func20, Tryz.ntmps20
  go_wp2_with (first | (refine wpList_store_K HK.out.now rfl 34 _ _ rfl (w.heap.size + 1) rfl rfl 34 _ BK.out (by kernel_rfl) rfl ?_; intro w2 hbk hlow hfar; have HK2 := Aside0.mk (hfar _ _ (fun h => absurd (h (by simp <;> omega)).1 (by omega)) HK.out); clear BK; have BK := Aside0.mk hbk; have HL := Aside0.mk hlow; clear hbk hlow hfar) | go_at_call 41; (with_reducible refine (HO.out _ (by repeat (first | (with_reducible first | exact HB.out | apply below_alloc | apply pw_below_drewN | apply below_drew1) | exact HB.out))).mono ?_); rintro e w1 ⟨⟨cs, rfl, hk⟩, hb⟩; have BK := Aside0.mk (blk_below (g := w.heap.size + 1) (by repeat (first | exact blk_at_new _ _ _ (by simp; done) | exact blk_at_new _ _ _ rfl | refine blk_alloc ?_ _ | refine blk_drew ?_ | refine blk_drewN ?_ _)) hb); have HBn := Aside0.mk (below_step (by repeat (first | (with_reducible first | exact HB.out | apply below_alloc | apply pw_below_drewN | apply below_drew1) | exact HB.out)) hb); clear HB; have HB := HBn; clear HBn; have HK := Aside0.mk hk; clear hb hk)
  ((try simp only [Exit.inBlock, Exit.then]); refine bodyPost_ret (results_ct rfl _ _ (w.heap.size + 1) 34 _ (0, 0) _ rfl BK.out Tryz.underlying34 rfl (by rw [List.size_toArray, kStep.K_len HK.out.now]; kernel_rfl)) rfl ?_)
  exact ⟨⟨_, rfl, HK2.out.mono (fun k hk h3 => (hk (by simp; omega)).2)⟩, HB.out.trans (HL.out _ (by omega))⟩
set_option maxRecDepth 100000 in
set_option maxHeartbeats 1000000 in
theorem loud_gat (x : TextinLine) (cx : List Value) (F : Nat → Prop) (w : World) (hx : HolF F w (fun w2 => kTextinLine.K w2 x cx)) (hT : Tabs w) (hl : x.words.length ≤ 1000000) (hs : ∀ k ∈ x.words, k.size ≤ 1000000) (hu0 : 0 ≤ x.used) (hu1 : x.used ≤ 1000000) (h8 : B8 x.rest) (hrl : x.rest.length ≤ 1000000) (hq : x.quiet = false) (hv : x.verb = (⟨#[103, 97, 116]⟩ : ByteArray)) :
    Calls Tryz.prog 20 #[.agg cx.toArray] w (LoudR F w (gatsS x.verb x.used x.words) true) := by
  have HB := Aside0.mk (Below.refl w.heap.size w)
  have HX := Aside0.mk hx
  have HT := Aside0.mk hT
  have hvs : x.verb.size ≤ 1000000 := by rw [hv]; decide
  obtain ⟨A1, c1, A4, c4, rfl, hl1, hg1, hl4, hg4⟩ := kTextinLine_open hx.now
  obtain ⟨R, hR⟩ : ∃ R, gatsS x.verb x.used x.words = R := ⟨_, rfl⟩
  have HO : Aside0 (∀ w', Below w.heap.size w w' → Calls Tryz.prog 42 #[.agg #[.string x.verb, .slice A1 x.words.length c1, .bool x.quiet, .int .i64 x.used, .slice A4 x.rest.length c4]] w' (StepR (fun k => k < w.heap.size ∧ F k) w' R)) := ⟨fun w' hb => by rw [← hR]; exact gats_calls x _ _ w' (HX.out.deep hb) (Tabs.below HT.out hb) hl hs hvs⟩
  rw [hR]
  rw [hv] at HO ⊢
  clear hx hg1 hg4 hR hv hvs hT hs h8 hq
  go_enter Tryz.func20, Tryz.ntmps20
  go_wp2_with (first | (refine wpList_store_K HK.out.now rfl 34 _ _ rfl (w.heap.size + 1) rfl rfl 34 _ BK.out (by kernel_rfl) rfl ?_; intro w2 hbk hlow hfar; have HK2 := Aside0.mk (hfar _ _ (fun h => absurd (h (by simp <;> omega)).1 (by omega)) HK.out); clear BK; have BK := Aside0.mk hbk; have HL := Aside0.mk hlow; clear hbk hlow hfar) | go_at_call 42; (with_reducible refine (HO.out _ (by repeat (first | (with_reducible first | exact HB.out | apply below_alloc | apply pw_below_drewN | apply below_drew1) | exact HB.out))).mono ?_); rintro e w1 ⟨⟨cs, rfl, hk⟩, hb⟩; have BK := Aside0.mk (blk_below (g := w.heap.size + 1) (by repeat (first | exact blk_at_new _ _ _ (by simp; done) | exact blk_at_new _ _ _ rfl | refine blk_alloc ?_ _ | refine blk_drew ?_ | refine blk_drewN ?_ _)) hb); have HBn := Aside0.mk (below_step (by repeat (first | (with_reducible first | exact HB.out | apply below_alloc | apply pw_below_drewN | apply below_drew1) | exact HB.out)) hb); clear HB; have HB := HBn; clear HBn; have HK := Aside0.mk hk; clear hb hk)
  ((try simp only [Exit.inBlock, Exit.then]); refine bodyPost_ret (results_ct rfl _ _ (w.heap.size + 1) 34 _ (0, 0) _ rfl BK.out Tryz.underlying34 rfl (by rw [List.size_toArray, kStep.K_len HK.out.now]; kernel_rfl)) rfl ?_)
  exact ⟨⟨_, rfl, HK2.out.mono (fun k hk h3 => (hk (by simp; omega)).2)⟩, HB.out.trans (HL.out _ (by omega))⟩
set_option maxRecDepth 100000 in
set_option maxHeartbeats 1000000 in
theorem loud_gats (x : TextinLine) (cx : List Value) (F : Nat → Prop) (w : World) (hx : HolF F w (fun w2 => kTextinLine.K w2 x cx)) (hT : Tabs w) (hl : x.words.length ≤ 1000000) (hs : ∀ k ∈ x.words, k.size ≤ 1000000) (hu0 : 0 ≤ x.used) (hu1 : x.used ≤ 1000000) (h8 : B8 x.rest) (hrl : x.rest.length ≤ 1000000) (hq : x.quiet = false) (hv : x.verb = (⟨#[103, 97, 116, 115]⟩ : ByteArray)) :
    Calls Tryz.prog 20 #[.agg cx.toArray] w (LoudR F w (gatsS x.verb x.used x.words) true) := by
  have HB := Aside0.mk (Below.refl w.heap.size w)
  have HX := Aside0.mk hx
  have HT := Aside0.mk hT
  have hvs : x.verb.size ≤ 1000000 := by rw [hv]; decide
  obtain ⟨A1, c1, A4, c4, rfl, hl1, hg1, hl4, hg4⟩ := kTextinLine_open hx.now
  obtain ⟨R, hR⟩ : ∃ R, gatsS x.verb x.used x.words = R := ⟨_, rfl⟩
  have HO : Aside0 (∀ w', Below w.heap.size w w' → Calls Tryz.prog 42 #[.agg #[.string x.verb, .slice A1 x.words.length c1, .bool x.quiet, .int .i64 x.used, .slice A4 x.rest.length c4]] w' (StepR (fun k => k < w.heap.size ∧ F k) w' R)) := ⟨fun w' hb => by rw [← hR]; exact gats_calls x _ _ w' (HX.out.deep hb) (Tabs.below HT.out hb) hl hs hvs⟩
  rw [hR]
  rw [hv] at HO ⊢
  clear hx hg1 hg4 hR hv hvs hT hs h8 hq
  go_enter Tryz.func20, Tryz.ntmps20
  go_wp2_with (first | (refine wpList_store_K HK.out.now rfl 34 _ _ rfl (w.heap.size + 1) rfl rfl 34 _ BK.out (by kernel_rfl) rfl ?_; intro w2 hbk hlow hfar; have HK2 := Aside0.mk (hfar _ _ (fun h => absurd (h (by simp <;> omega)).1 (by omega)) HK.out); clear BK; have BK := Aside0.mk hbk; have HL := Aside0.mk hlow; clear hbk hlow hfar) | go_at_call 42; (with_reducible refine (HO.out _ (by repeat (first | (with_reducible first | exact HB.out | apply below_alloc | apply pw_below_drewN | apply below_drew1) | exact HB.out))).mono ?_); rintro e w1 ⟨⟨cs, rfl, hk⟩, hb⟩; have BK := Aside0.mk (blk_below (g := w.heap.size + 1) (by repeat (first | exact blk_at_new _ _ _ (by simp; done) | exact blk_at_new _ _ _ rfl | refine blk_alloc ?_ _ | refine blk_drew ?_ | refine blk_drewN ?_ _)) hb); have HBn := Aside0.mk (below_step (by repeat (first | (with_reducible first | exact HB.out | apply below_alloc | apply pw_below_drewN | apply below_drew1) | exact HB.out)) hb); clear HB; have HB := HBn; clear HBn; have HK := Aside0.mk hk; clear hb hk)
  ((try simp only [Exit.inBlock, Exit.then]); refine bodyPost_ret (results_ct rfl _ _ (w.heap.size + 1) 34 _ (0, 0) _ rfl BK.out Tryz.underlying34 rfl (by rw [List.size_toArray, kStep.K_len HK.out.now]; kernel_rfl)) rfl ?_)
  exact ⟨⟨_, rfl, HK2.out.mono (fun k hk h3 => (hk (by simp; omega)).2)⟩, HB.out.trans (HL.out _ (by omega))⟩
set_option maxRecDepth 100000 in
set_option maxHeartbeats 1000000 in
theorem loud_version (x : TextinLine) (cx : List Value) (F : Nat → Prop) (w : World) (hx : HolF F w (fun w2 => kTextinLine.K w2 x cx)) (hT : Tabs w) (hl : x.words.length ≤ 1000000) (hs : ∀ k ∈ x.words, k.size ≤ 1000000) (hu0 : 0 ≤ x.used) (hu1 : x.used ≤ 1000000) (h8 : B8 x.rest) (hrl : x.rest.length ≤ 1000000) (hq : x.quiet = false) (hv : x.verb = (⟨#[118, 101, 114, 115, 105, 111, 110]⟩ : ByteArray)) :
    Calls Tryz.prog 20 #[.agg cx.toArray] w (LoudR F w (bareS x.verb x.words.length x.used 15) true) := by
  have HB := Aside0.mk (Below.refl w.heap.size w)
  have HX := Aside0.mk hx
  have HT := Aside0.mk hT
  have hvs : x.verb.size ≤ 1000000 := by rw [hv]; decide
  obtain ⟨A1, c1, A4, c4, rfl, hl1, hg1, hl4, hg4⟩ := kTextinLine_open hx.now
  obtain ⟨R, hR⟩ : ∃ R, bareS x.verb x.words.length x.used 15 = R := ⟨_, rfl⟩
  have HO : Aside0 (∀ w', Below w.heap.size w w' → Calls Tryz.prog 43 #[.agg #[.string x.verb, .slice A1 x.words.length c1, .bool x.quiet, .int .i64 x.used, .slice A4 x.rest.length c4], .int .i64 15] w' (StepR (fun k => k < w.heap.size ∧ F k) w' R)) := ⟨fun w' hb => by rw [← hR]; exact bare_calls x _ 15 _ w' (kTextinLine.K_below hb HX.out.now) hq⟩
  rw [hR]
  rw [hv] at HO ⊢
  clear hx hg1 hg4 hR hv hvs hT hs h8 hq
  go_enter Tryz.func20, Tryz.ntmps20
  go_wp2_with (first | (refine wpList_store_K HK.out.now rfl 34 _ _ rfl (w.heap.size + 1) rfl rfl 34 _ BK.out (by kernel_rfl) rfl ?_; intro w2 hbk hlow hfar; have HK2 := Aside0.mk (hfar _ _ (fun h => absurd (h (by simp <;> omega)).1 (by omega)) HK.out); clear BK; have BK := Aside0.mk hbk; have HL := Aside0.mk hlow; clear hbk hlow hfar) | go_at_call 43; (with_reducible refine (HO.out _ (by repeat (first | (with_reducible first | exact HB.out | apply below_alloc | apply pw_below_drewN | apply below_drew1) | exact HB.out))).mono ?_); rintro e w1 ⟨⟨cs, rfl, hk⟩, hb⟩; have BK := Aside0.mk (blk_below (g := w.heap.size + 1) (by repeat (first | exact blk_at_new _ _ _ (by simp; done) | exact blk_at_new _ _ _ rfl | refine blk_alloc ?_ _ | refine blk_drew ?_ | refine blk_drewN ?_ _)) hb); have HBn := Aside0.mk (below_step (by repeat (first | (with_reducible first | exact HB.out | apply below_alloc | apply pw_below_drewN | apply below_drew1) | exact HB.out)) hb); clear HB; have HB := HBn; clear HBn; have HK := Aside0.mk hk; clear hb hk)
  ((try simp only [Exit.inBlock, Exit.then]); refine bodyPost_ret (results_ct rfl _ _ (w.heap.size + 1) 34 _ (0, 0) _ rfl BK.out Tryz.underlying34 rfl (by rw [List.size_toArray, kStep.K_len HK.out.now]; kernel_rfl)) rfl ?_)
  exact ⟨⟨_, rfl, HK2.out.mono (fun k hk h3 => (hk (by simp; omega)).2)⟩, HB.out.trans (HL.out _ (by omega))⟩
set_option maxRecDepth 100000 in
set_option maxHeartbeats 1000000 in
theorem loud_quit (x : TextinLine) (cx : List Value) (F : Nat → Prop) (w : World) (hx : HolF F w (fun w2 => kTextinLine.K w2 x cx)) (hT : Tabs w) (hl : x.words.length ≤ 1000000) (hs : ∀ k ∈ x.words, k.size ≤ 1000000) (hu0 : 0 ≤ x.used) (hu1 : x.used ≤ 1000000) (h8 : B8 x.rest) (hrl : x.rest.length ≤ 1000000) (hq : x.quiet = false) (hv : x.verb = (⟨#[113, 117, 105, 116]⟩ : ByteArray)) :
    Calls Tryz.prog 20 #[.agg cx.toArray] w (LoudR F w (bareS x.verb x.words.length x.used 16) true) := by
  have HB := Aside0.mk (Below.refl w.heap.size w)
  have HX := Aside0.mk hx
  have HT := Aside0.mk hT
  have hvs : x.verb.size ≤ 1000000 := by rw [hv]; decide
  obtain ⟨A1, c1, A4, c4, rfl, hl1, hg1, hl4, hg4⟩ := kTextinLine_open hx.now
  obtain ⟨R, hR⟩ : ∃ R, bareS x.verb x.words.length x.used 16 = R := ⟨_, rfl⟩
  have HO : Aside0 (∀ w', Below w.heap.size w w' → Calls Tryz.prog 43 #[.agg #[.string x.verb, .slice A1 x.words.length c1, .bool x.quiet, .int .i64 x.used, .slice A4 x.rest.length c4], .int .i64 16] w' (StepR (fun k => k < w.heap.size ∧ F k) w' R)) := ⟨fun w' hb => by rw [← hR]; exact bare_calls x _ 16 _ w' (kTextinLine.K_below hb HX.out.now) hq⟩
  rw [hR]
  rw [hv] at HO ⊢
  clear hx hg1 hg4 hR hv hvs hT hs h8 hq
  go_enter Tryz.func20, Tryz.ntmps20
  go_wp2_with (first | (refine wpList_store_K HK.out.now rfl 34 _ _ rfl (w.heap.size + 1) rfl rfl 34 _ BK.out (by kernel_rfl) rfl ?_; intro w2 hbk hlow hfar; have HK2 := Aside0.mk (hfar _ _ (fun h => absurd (h (by simp <;> omega)).1 (by omega)) HK.out); clear BK; have BK := Aside0.mk hbk; have HL := Aside0.mk hlow; clear hbk hlow hfar) | go_at_call 43; (with_reducible refine (HO.out _ (by repeat (first | (with_reducible first | exact HB.out | apply below_alloc | apply pw_below_drewN | apply below_drew1) | exact HB.out))).mono ?_); rintro e w1 ⟨⟨cs, rfl, hk⟩, hb⟩; have BK := Aside0.mk (blk_below (g := w.heap.size + 1) (by repeat (first | exact blk_at_new _ _ _ (by simp; done) | exact blk_at_new _ _ _ rfl | refine blk_alloc ?_ _ | refine blk_drew ?_ | refine blk_drewN ?_ _)) hb); have HBn := Aside0.mk (below_step (by repeat (first | (with_reducible first | exact HB.out | apply below_alloc | apply pw_below_drewN | apply below_drew1) | exact HB.out)) hb); clear HB; have HB := HBn; clear HBn; have HK := Aside0.mk hk; clear hb hk)
  ((try simp only [Exit.inBlock, Exit.then]); refine bodyPost_ret (results_ct rfl _ _ (w.heap.size + 1) 34 _ (0, 0) _ rfl BK.out Tryz.underlying34 rfl (by rw [List.size_toArray, kStep.K_len HK.out.now]; kernel_rfl)) rfl ?_)
  exact ⟨⟨_, rfl, HK2.out.mono (fun k hk h3 => (hk (by simp; omega)).2)⟩, HB.out.trans (HL.out _ (by omega))⟩
theorem zStep_K (w : World) : kStep.K w zStep zStepC.toList := kStep_mk w zStep (Nat.le_refl _) (C_nil _ _) (Nat.le_refl _) (C_nil _ _) (Nat.le_refl _) (C_nil _ _)
set_option maxRecDepth 100000 in
set_option maxHeartbeats 1000000 in
theorem loud_no (x : TextinLine) (cx : List Value) (F : Nat → Prop) (w : World) (hx : HolF F w (fun w2 => kTextinLine.K w2 x cx)) (hT : Tabs w) (hl : x.words.length ≤ 1000000) (hs : ∀ k ∈ x.words, k.size ≤ 1000000) (hu0 : 0 ≤ x.used) (hu1 : x.used ≤ 1000000) (h8 : B8 x.rest) (hrl : x.rest.length ≤ 1000000) (hv : x.verb ≠ (⟨#[103, 101, 116]⟩ : ByteArray) ∧ x.verb ≠ (⟨#[103, 101, 116, 115]⟩ : ByteArray) ∧ x.verb ≠ (⟨#[103, 97, 116]⟩ : ByteArray) ∧ x.verb ≠ (⟨#[103, 97, 116, 115]⟩ : ByteArray) ∧ x.verb ≠ (⟨#[118, 101, 114, 115, 105, 111, 110]⟩ : ByteArray) ∧ x.verb ≠ (⟨#[113, 117, 105, 116]⟩ : ByteArray)) :
    Calls Tryz.prog 20 #[.agg cx.toArray] w (LoudR F w zStep false) := by
  have HB := Aside0.mk (Below.refl w.heap.size w)
  obtain ⟨A1, c1, A4, c4, rfl, hl1, hg1, hl4, hg4⟩ := kTextinLine_open hx.now
  obtain ⟨n0, n1, n2, n3, n4, n5⟩ := hv
  have b0 : (x.verb.toList == ([103, 101, 116] : List UInt8)) = false := lit_ne n0
  have b1 : (x.verb.toList == ([103, 101, 116, 115] : List UInt8)) = false := lit_ne n1
  have b2 : (x.verb.toList == ([103, 97, 116] : List UInt8)) = false := lit_ne n2
  have b3 : (x.verb.toList == ([103, 97, 116, 115] : List UInt8)) = false := lit_ne n3
  have b4 : (x.verb.toList == ([118, 101, 114, 115, 105, 111, 110] : List UInt8)) = false := lit_ne n4
  have b5 : (x.verb.toList == ([113, 117, 105, 116] : List UInt8)) = false := lit_ne n5
  clear hx hg1 hg4 n0 n1 n2 n3 n4 n5
  go_enter Tryz.func20, Tryz.ntmps20
  go_wp2
  ((try simp only [Exit.inBlock, Exit.then]); refine bodyPost_ret (results_ct rfl _ _ (w.heap.size + 1) 34 _ (0, 0) _ rfl (by repeat (first | exact blk_at_new _ _ _ (by simp; done) | exact blk_at_new _ _ _ rfl | refine blk_alloc ?_ _ | refine blk_drew ?_ | refine blk_drewN ?_ _)) Tryz.underlying34 rfl (by kernel_rfl)) rfl ?_)
  exact ⟨⟨_, rfl, fun w2 _ _ => zStep_K w2⟩, (by repeat (first | (with_reducible first | exact HB.out | apply below_alloc | apply pw_below_drewN | apply below_drew1) | exact HB.out))⟩
theorem loud_calls (x : TextinLine) (cx : List Value) (F : Nat → Prop) (w : World) (hx : HolF F w (fun w2 => kTextinLine.K w2 x cx)) (hT : Tabs w) (hl : x.words.length ≤ 1000000) (hs : ∀ k ∈ x.words, k.size ≤ 1000000) (hu0 : 0 ≤ x.used) (hu1 : x.used ≤ 1000000) (h8 : B8 x.rest) (hrl : x.rest.length ≤ 1000000) (hq : x.quiet = false) :
    Calls Tryz.prog 20 #[.agg cx.toArray] w (LoudR F w (loudS x.verb x.used x.words).1 (loudS x.verb x.used x.words).2) := by
  unfold loudS
  by_cases h0 : x.verb = (⟨#[103, 101, 116]⟩ : ByteArray)
  · rw [if_pos (.inl h0)]
    exact loud_get x cx F w hx hT hl hs hu0 hu1 h8 hrl hq h0
  by_cases h1 : x.verb = (⟨#[103, 101, 116, 115]⟩ : ByteArray)
  · rw [if_pos (.inr h1)]
    exact loud_gets x cx F w hx hT hl hs hu0 hu1 h8 hrl hq h1
  rw [if_neg (fun h => h.elim h0 h1)]
  by_cases h2 : x.verb = (⟨#[103, 97, 116]⟩ : ByteArray)
  · rw [if_pos (.inl h2)]
    exact loud_gat x cx F w hx hT hl hs hu0 hu1 h8 hrl hq h2
  by_cases h3 : x.verb = (⟨#[103, 97, 116, 115]⟩ : ByteArray)
  · rw [if_pos (.inr h3)]
    exact loud_gats x cx F w hx hT hl hs hu0 hu1 h8 hrl hq h3
  rw [if_neg (fun h => h.elim h2 h3)]
  by_cases h4 : x.verb = (⟨#[118, 101, 114, 115, 105, 111, 110]⟩ : ByteArray)
  · rw [if_pos h4]
    exact loud_version x cx F w hx hT hl hs hu0 hu1 h8 hrl hq h4
  rw [if_neg h4]
  by_cases h5 : x.verb = (⟨#[113, 117, 105, 116]⟩ : ByteArray)
  · rw [if_pos h5]
    exact loud_quit x cx F w hx hT hl hs hu0 hu1 h8 hrl hq h5
  rw [if_neg h5]
  exact loud_no x cx F w hx hT hl hs hu0 hu1 h8 hrl ⟨h0, h1, h2, h3, h4, h5⟩
end Go.Proofs.YtfljijpkeckeaaaGreatDoor.X
