/- TextoutHits: the walk. -/
import Derived.Test.YtkolleohenjhmaaDoorPMany
import Derived.IntWalk
namespace Go.Proofs.YtkolleohenjhmaaDoor.X
open Go.RowKit Go.Proofs.YtkolleohenjhmaaDoorW.PrintWords Go.Proofs.YtkolleohenjhmaaDoorW.PrintMore
set_option linter.unusedVariables false
set_option linter.unusedSimpArgs false

def hitC (key : ByteArray) : S38 := ⟨0, key, [], 0, 0, 0, 0, 0, false, false⟩
def hitX (x : S40) : S40 := ⟨0, x.f1, x.f2, x.f3, x.f4, x.f5, x.f6, x.f7, x.f8⟩
theorem bytesOf_app (a b : ByteArray) : bytesOf (a ++ b) = bytesOf a ++ bytesOf b := by
  unfold bytesOf
  rw [ByteArray.data_append, Array.toList_append, List.map_append]
def headB (cas : Bool) (key : ByteArray) (x : S40) : ByteArray := if cas = true then (((((((⟨#[86, 65, 76, 85, 69, 32]⟩ : ByteArray) ++ key) ++ (⟨#[32]⟩ : ByteArray)) ++ showI x.f2) ++ (⟨#[32]⟩ : ByteArray)) ++ showI (x.f1.length : Int)) ++ (⟨#[32]⟩ : ByteArray)) ++ showI x.f3 else ((((((⟨#[86, 65, 76, 85, 69, 32]⟩ : ByteArray) ++ key) ++ (⟨#[32]⟩ : ByteArray)) ++ showI x.f2) ++ (⟨#[32]⟩ : ByteArray)) ++ showI (x.f1.length : Int))
theorem strEND : strOfNums [69, 78, 68, 13, 10] = (⟨#[69, 78, 68, 13, 10]⟩ : ByteArray) := by decide
theorem hit_L (cas : Bool) (key : ByteArray) (x : S40) {H : ByteArray} {L : List Int} (hk : key.size ≤ 1000) (hH : headB cas key x = H) (hL : encI [hitC key] false cas [hitX x] = L) (s2 : (showI x.f2).size ≤ 20) (s3 : (showI x.f3).size ≤ 20) (sl : (showI (x.f1.length : Int)).size ≤ 20) :
    L = bytesOf H ++ ([13, 10] ++ (x.f1 ++ [13, 10, 69, 78, 68, 13, 10])) ∧ H.size ≤ 1100 := by
  subst hH; subst hL
  constructor
  · rw [encI_cons, if_pos (show (hitC key).f0 = 0 ∨ (hitC key).f0 = 1 from Or.inl rfl)]
    show (pieceI cas (hitC key) (hitX x) ++ []) ++ bytesOf (lineB [(⟨#[69, 78, 68]⟩ : ByteArray)]) = _
    rw [List.append_nil]
    unfold pieceI
    rw [lineB_words]
    have e1 : lineB [(⟨#[69, 78, 68]⟩ : ByteArray)] = (⟨#[69, 78, 68, 13, 10]⟩ : ByteArray) := by unfold lineB; rw [joinB_one]; rfl
    have e7 : (⟨#[86, 65, 76, 85, 69]⟩ : ByteArray) ++ (⟨#[32]⟩ : ByteArray) = (⟨#[86, 65, 76, 85, 69, 32]⟩ : ByteArray) := by decide
    rw [e1, e7]
    have e2 : bytesOf ((⟨#[69, 78, 68, 13, 10]⟩ : ByteArray)) = [69, 78, 68, 13, 10] := by decide
    have e3 : bytesOf ((⟨#[13, 10]⟩ : ByteArray)) = [13, 10] := by decide
    have e4 : bytesOf crlf = [13, 10] := by decide
    rw [e2, e3]
    unfold headB hitC hitX
    cases cas
    · simp only [Bool.false_eq_true, if_false, bs_add_nil, bytesOf_app, e4, List.append_assoc, List.cons_append, List.nil_append]
    · simp only [if_true, bytesOf_app, e4, List.append_assoc, List.cons_append, List.nil_append]
  · have e6 : ((⟨#[86, 65, 76, 85, 69, 32]⟩ : ByteArray) : ByteArray).size = 6 := rfl
    have e1 : ((⟨#[32]⟩ : ByteArray) : ByteArray).size = 1 := rfl
    unfold headB
    split
    · simp only [ByteArray.size_append, e6, e1]; omega
    · simp only [ByteArray.size_append, e6, e1]; omega
section
variable {H : ByteArray} {L V : List Int} {W : World} {b o k : Nat}
theorem hit_len (h : L = bytesOf H ++ ([13, 10] ++ (V ++ [13, 10, 69, 78, 68, 13, 10]))) : L.length = H.size + 2 + V.length + 7 := by
  rw [h]
  simp only [List.length_append, bytesOf_len, List.length_cons, List.length_nil]
  omega
theorem cut_head (h : L = bytesOf H ++ ([13, 10] ++ (V ++ [13, 10, 69, 78, 68, 13, 10]))) (hC : Bytes W (some ⟨b, o, none⟩) L) : (Kd.int .u8).C W (some ⟨b, o, none⟩) H.size (bytesOf H) := by
  have hn := hit_len h
  have e : L.take H.size = bytesOf H := by
    rw [h, List.take_left' (bytesOf_len H)]
  have h2 := Kd.C_take (m := H.size) hC (by omega)
  rw [e, bytesOf_len] at h2
  exact h2
theorem cut_mid (h : L = bytesOf H ++ ([13, 10] ++ (V ++ [13, 10, 69, 78, 68, 13, 10]))) (hC : Bytes W (some ⟨b, o, none⟩) L) (hk : L.length ≤ k) : (Kd.int .u8).C W (some ⟨b, o + (H.size + 2), none⟩) V.length V := by
  have hn := hit_len h
  have e : (L.take (H.size + 2 + V.length)).drop (H.size + 2) = V := by
    rw [h, ← List.append_assoc, ← List.append_assoc, List.take_left' (by simp [bytesOf_len]; omega), List.drop_left' (by simp [bytesOf_len])]
  have h2 := Kd.C_mid (lo := H.size + 2) (hi := H.size + 2 + V.length) hC (by omega) (by omega) hk
  rw [e, if_neg (by omega)] at h2
  have h3 : (⟨b, o, none⟩ : Addr).add ((H.size + 2) * (Kd.int .u8).sz) = ⟨b, o + (H.size + 2), none⟩ := by
    show (⟨b, o, none⟩ : Addr).add ((H.size + 2) * 1) = _
    unfold Addr.add
    split <;> simp_all
  rw [← h3]
  exact h2
theorem cut_tail (h : L = bytesOf H ++ ([13, 10] ++ (V ++ [13, 10, 69, 78, 68, 13, 10]))) (hC : Bytes W (some ⟨b, o, none⟩) L) (hk : L.length ≤ k) : (Kd.int .u8).C W (some ⟨b, o + (H.size + 2 + V.length + 2), none⟩) 5 [69, 78, 68, 13, 10] := by
  have hn := hit_len h
  have e : L.drop (H.size + 2 + V.length + 2) = [69, 78, 68, 13, 10] := by
    rw [h, show bytesOf H ++ ([13, 10] ++ (V ++ [13, 10, 69, 78, 68, 13, 10])) = ((bytesOf H ++ [13, 10]) ++ V ++ [13, 10]) ++ [69, 78, 68, 13, 10] by simp, List.drop_left' (by simp [bytesOf_len]; omega)]
  have h2 := Kd.C_drop (m := H.size + 2 + V.length + 2) hC (by omega) hk
  rw [e, if_neg (by omega)] at h2
  have h3 : (⟨b, o, none⟩ : Addr).add ((H.size + 2 + V.length + 2) * (Kd.int .u8).sz) = ⟨b, o + (H.size + 2 + V.length + 2), none⟩ := by
    show (⟨b, o, none⟩ : Addr).add ((H.size + 2 + V.length + 2) * 1) = _
    unfold Addr.add
    split <;> simp_all
  rw [← h3]
  exact h2
end
theorem hit_ok (key : ByteArray) (x : S40) (hk : key.size ≤ 1000) (h1 : x.f1.length ≤ 1000) (h2 : 0 ≤ x.f2 ∧ x.f2 ≤ 4294967295) (h3 : 0 ≤ x.f3 ∧ x.f3 ≤ 18446744073709551615) (h5 : 0 ≤ x.f5 ∧ x.f5 ≤ 18446744073709551615) : Okl [hitC key] [hitX x] := by
  refine ⟨?_, fun y hy => ?_⟩
  · unfold okV hitC hitX
    simp
    omega
  · obtain rfl := List.mem_singleton.1 hy
    exact h5
set_option maxHeartbeats 8000000 in
set_option maxRecDepth 100000 in
theorem hits_w (key : ByteArray) (x : S40) (cas : Bool) (B : Option Addr) (d : Nat) (w : World) (hk : key.size ≤ 9223372036854775807) (hd : x.f1.length ≤ d) (hC : Bytes w B x.f1) (hw : RWf x) (hT : Tabs w) :
    Calls Tryd.prog 5 #[.string key, .agg #[.int .i64 x.f0, .slice B x.f1.length d, .int .u32 x.f2, .int .u64 x.f3, .int .i64 x.f4, .int .u64 x.f5, .bool x.f6, .bool x.f7, .bool x.f8], .bool cas] w fun e w' => e = .returned (.bool true) ∧ Below w.heap.size w w' := by
  obtain ⟨hw1, hw2, hw3, hw5, hwb⟩ := hw
  have HT := Aside0.mk hT; have HC := Aside0.mk hC
  have HB := Aside0.mk (Below.refl w.heap.size w)
  clear hT hC hwb
  go_enter Tryd.func5, Tryd.ntmps5
  go_upto_region 1 with (fail)
  have HQ : Aside0 ((w.alloc (.cells #[.int .i64 x.f0, .slice B x.f1.length d, .int .u32 x.f2, .int .u64 x.f3, .int .i64 x.f4, .int .u64 x.f5, .bool x.f6, .bool x.f7, .bool x.f8] 40)).heap[w.heap.size]? = some (.cells #[.int .i64 x.f0, .slice B x.f1.length d, .int .u32 x.f2, .int .u64 x.f3, .int .i64 x.f4, .int .u64 x.f5, .bool x.f6, .bool x.f7, .bool x.f8] 40 (0, 0))) := ⟨ha_at rfl⟩
  go_upto_region 2 with (go_at_call 8; (with_reducible refine (awake_w _ (Tabs.below HT.out (by repeat (first | (with_reducible first | exact HB.out | apply below_alloc | apply pw_below_drewN | apply below_drew1) | exact HB.out)))).mono ?_); rintro e w1 ⟨rfl, hb⟩; have HBn := Aside0.mk (below_step (by repeat (first | (with_reducible first | exact HB.out | apply below_alloc | apply pw_below_drewN | apply below_drew1) | exact HB.out)) hb); clear HB; have HB := HBn; clear HBn; have HQ1 := Aside0.mk ((hb.block w.heap.size (Array.getElem?_eq_some_iff.1 HQ.out).1).trans HQ.out); clear hb HQ)
  have hq0 := HQ1.out
  have r0 := blk_cells hq0 0 _ rfl; have r1 := blk_cells hq0 1 _ rfl; have r2 := blk_cells hq0 2 _ rfl; have r3 := blk_cells hq0 3 _ rfl; have r4 := blk_cells hq0 4 _ rfl; have r5 := blk_cells hq0 5 _ rfl; have r6 := blk_cells hq0 6 _ rfl; have r7 := blk_cells hq0 7 _ rfl; have r8 := blk_cells hq0 8 _ rfl
  have f0 := blk_free hq0 0
  clear hq0
  by_cases hbig : 1000 < key.size
  · go_wp2
    go_ret
    exact ⟨rfl, (by repeat (first | (with_reducible first | exact HB.out | apply below_alloc | apply pw_below_drewN | apply below_drew1) | exact HB.out))⟩
  by_cases hbig2 : 1000 < x.f1.length
  · go_wp2
    go_ret
    exact ⟨rfl, (by repeat (first | (with_reducible first | exact HB.out | apply below_alloc | apply pw_below_drewN | apply below_drew1) | exact HB.out))⟩
  have s2 := showI_size x.f2 (by omega)
  have s3 := showI_size x.f3 hw3.2
  have sl := showI_size (x.f1.length : Int) (by omega)
  have HX0 : Aside0 (Okl [hitC key] [hitX x]) := ⟨hit_ok key x (by omega) (by omega) hw2 hw3 hw5⟩
  go_upto_region 6 with (fail)
  have hb2 : Below w.heap.size w (w1.setCell ⟨w.heap.size, 0, none⟩ (.int .i64 0)) := HB.out.setCell (p := ⟨w.heap.size, 0, none⟩) (Nat.le_refl _) _
  have hq2 : (w1.setCell ⟨w.heap.size, 0, none⟩ (.int .i64 0)).heap[w.heap.size]? = some (.cells #[.int .i64 0, .slice B x.f1.length d, .int .u32 x.f2, .int .u64 x.f3, .int .i64 x.f4, .int .u64 x.f5, .bool x.f6, .bool x.f7, .bool x.f8] 40 (0, 0)) := blk_put HQ1.out 0 _ rfl
  have hz2 : (w1.setCell ⟨w.heap.size, 0, none⟩ (.int .i64 0)).heap.size = w1.heap.size := by simp
  rw [← hz2]
  generalize w1.setCell ⟨w.heap.size, 0, none⟩ (.int .i64 0) = W1 at *
  have HQ2 := Aside0.mk hq2
  clear HB HQ1 r0 r1 r2 r3 r4 r5 r6 r7 r8 f0 hz2 hq2
  have HB := Aside0.mk hb2
  clear hb2
  have r0 := blk_cells HQ2.out 0 _ rfl; have r1 := blk_cells HQ2.out 1 _ rfl; have r2 := blk_cells HQ2.out 2 _ rfl; have r3 := blk_cells HQ2.out 3 _ rfl; have r4 := blk_cells HQ2.out 4 _ rfl; have r5 := blk_cells HQ2.out 5 _ rfl; have r6 := blk_cells HQ2.out 6 _ rfl; have r7 := blk_cells HQ2.out 7 _ rfl; have r8 := blk_cells HQ2.out 8 _ rfl
  have hqlt : w.heap.size < W1.heap.size := (Array.getElem?_eq_some_iff.1 HQ2.out).1
  go_upto_region 7 with (go_at_call 10; ((refine (enc_w2 _ 1 [hitC key] _ _ _ _ _ _ _ none 0 [] none 0 [] _ _ 1 [hitX x] _ _ rfl rfl _ ?hA HX0.out (Tabs.below HT.out (by repeat (first | (with_reducible first | exact HB.out | apply below_alloc | apply pw_below_drewN | apply below_drew1) | exact HB.out)))).mono ?_); (case hA => exact ⟨C_at_blk k38 (by repeat first | (apply ha_at; (simp; done)) | apply ha_old) [hitC key] (by simp) (reps_one rfl (k38_mk _ (hitC key) (A2 := none) (c2 := 0) (Nat.le_refl _) (Kd.C_nil _ _))), Nat.le_refl _, Kd.C_nil _ _, Nat.le_refl _, Kd.C_nil _ _, Nat.le_refl _, C_at_blk k40 (by repeat first | (apply ha_at; (simp; done)) | apply ha_old) [hitX x] (by simp) (reps_one rfl (k40_mk _ (hitX x) hd (Kd.C_below HC.out (by repeat (first | (with_reducible first | exact HB.out | apply below_alloc | apply pw_below_drewN | apply below_drew1) | exact HB.out))))), Nat.le_refl _⟩); rintro e x1 ⟨E, kE, rfl, hke, hbs, hb⟩; have HBB := Aside0.mk hbs; have HQ3 := Aside0.mk ((hb.block w.heap.size (Array.getElem?_eq_some_iff.1 (ha_old (ha_old (ha_old HQ2.out)))).1).trans (ha_old (ha_old (ha_old HQ2.out)))); have HBn := Aside0.mk (below_step (by repeat (first | (with_reducible first | exact HB.out | apply below_alloc | apply pw_below_drewN | apply below_drew1) | exact HB.out)) hb); clear HB; have HB := HBn; clear HBn; clear hb hbs))
  clear r0 r1 r2 r3 r4 r5 r6 r7 r8 hqlt
  obtain ⟨L, hL⟩ : ∃ L, encI [hitC key] false cas [hitX x] = L := ⟨_, rfl⟩
  rw [hL] at HBB hke ⊢
  have HL := Aside0.mk hL
  clear hL
  have HCT0 : Aside0 ((9223372036854775807 < 6 + key.size) = False) := ⟨by simp; omega⟩
  have HCT1 : Aside0 ((9223372036854775807 < 6 + key.size + 1) = False) := ⟨by simp; omega⟩
  have HCT2 : Aside0 ((9223372036854775807 < 6 + key.size + 1 + (showI x.f2).size) = False) := ⟨by simp; omega⟩
  have HCT3 : Aside0 ((9223372036854775807 < 6 + key.size + 1 + (showI x.f2).size + 1) = False) := ⟨by simp; omega⟩
  have HCT4 : Aside0 ((9223372036854775807 < 6 + key.size + 1 + (showI x.f2).size + 1 + (showI (x.f1.length : Int)).size) = False) := ⟨by simp; omega⟩
  have HCT5 : Aside0 ((9223372036854775807 < 6 + key.size + 1 + (showI x.f2).size + 1 + (showI (x.f1.length : Int)).size + 1) = False) := ⟨by simp; omega⟩
  have HCT6 : Aside0 ((9223372036854775807 < 6 + key.size + 1 + (showI x.f2).size + 1 + (showI (x.f1.length : Int)).size + 1 + (showI x.f3).size) = False) := ⟨by simp; omega⟩
  have HWR1 : Aside0 (IntKind.u64.wrap x.f2 = x.f2) := ⟨u64w _ hw2.1 (by omega)⟩
  have HWR2 : Aside0 (IntKind.u64.wrap (x.f1.length : Int) = x.f1.length) := ⟨u64w _ (by omega) (by omega)⟩
  have r1 := blk_cells HQ3.out 1 _ rfl; have r2 := blk_cells HQ3.out 2 _ rfl; have r3 := blk_cells HQ3.out 3 _ rfl
  have hqlt : w.heap.size < x1.heap.size := (Array.getElem?_eq_some_iff.1 HQ3.out).1
  have hct0 := HCT0.out
  have hct1 := HCT1.out
  have hct2 := HCT2.out
  have hct3 := HCT3.out
  have hct4 := HCT4.out
  have hct5 := HCT5.out
  have hct6 := HCT6.out
  (refine wp_region_noPanic ?_; refine wp_region_held_drew (S := (fun w' => Aside0 (Below x1.heap.size x1 w'))) (by kernel_rfl) ⟨below_drew1 (Below.refl _ _)⟩ ?_; intro hHeld)
  (refine wpAnyH_take (i := 0) (v := ?_) (by simp only [List.getElem?_toArray, List.getElem?_cons_succ, List.getElem?_cons_zero]; rfl) (by kernel_rfl) (by kernel_rfl) (by kernel_rfl) (fun _ _ _ h => h) (Or.inl ⟨by rfl, ?_⟩) (by exact hHeld) ?_; rotate_left; (focus (intro w' hSw; obtain ⟨hc_, hf_⟩ := bcell (Aside0.out (show Aside0 _ from hSw)); clear hSw; go_simp; (try with_reducible rfl); done)); (try simp only [Act.put, List.setIfInBounds_toArray, List.set_cons_zero, List.set_cons_succ]))
  (refine wpAnyH_take (i := 1) (v := ?_) (by simp only [List.getElem?_toArray, List.getElem?_cons_succ, List.getElem?_cons_zero]; rfl) (by kernel_rfl) (by kernel_rfl) (by kernel_rfl) (fun _ _ _ h => h) (Or.inl ⟨by rfl, ?_⟩) (by exact hHeld) ?_; rotate_left; (focus (intro w' hSw; obtain ⟨hc_, hf_⟩ := bcell (Aside0.out (show Aside0 _ from hSw)); clear hSw; go_simp; (try with_reducible rfl); done)); (try simp only [Act.put, List.setIfInBounds_toArray, List.set_cons_zero, List.set_cons_succ]))
  (refine wpAnyH_take (i := 2) (v := ?_) (by simp only [List.getElem?_toArray, List.getElem?_cons_succ, List.getElem?_cons_zero]; rfl) (by kernel_rfl) (by kernel_rfl) (by kernel_rfl) (fun _ _ _ h => h) (Or.inl ⟨by rfl, ?_⟩) (by exact hHeld) ?_; rotate_left; (focus (intro w' hSw; obtain ⟨hc_, hf_⟩ := bcell (Aside0.out (show Aside0 _ from hSw)); clear hSw; go_simp; (try with_reducible rfl); done)); (try simp only [Act.put, List.setIfInBounds_toArray, List.set_cons_zero, List.set_cons_succ]))
  (refine wpAnyH_take (i := 3) (v := ?_) (by simp only [List.getElem?_toArray, List.getElem?_cons_succ, List.getElem?_cons_zero]; rfl) (by kernel_rfl) (by kernel_rfl) (by kernel_rfl) (fun _ _ _ h => h) (Or.inl ⟨by rfl, ?_⟩) (by exact hHeld) ?_; rotate_left; (focus (intro w' hSw; obtain ⟨hc_, hf_⟩ := bcell (Aside0.out (show Aside0 _ from hSw)); clear hSw; go_simp; (try with_reducible rfl); done)); (try simp only [Act.put, List.setIfInBounds_toArray, List.set_cons_zero, List.set_cons_succ]))
  (refine wpAnyH_take (i := 4) (v := ?_) (by simp only [List.getElem?_toArray, List.getElem?_cons_succ, List.getElem?_cons_zero]; rfl) (by kernel_rfl) (by kernel_rfl) (by kernel_rfl) (fun _ _ _ h => h) (Or.inl ⟨by rfl, ?_⟩) (by exact hHeld) ?_; rotate_left; (focus (intro w' hSw; obtain ⟨hc_, hf_⟩ := bcell (Aside0.out (show Aside0 _ from hSw)); clear hSw; go_simp; (try with_reducible rfl); done)); (try simp only [Act.put, List.setIfInBounds_toArray, List.set_cons_zero, List.set_cons_succ]))
  (refine wpAnyH_take (i := 5) (v := ?_) (by simp only [List.getElem?_toArray, List.getElem?_cons_succ, List.getElem?_cons_zero]; rfl) (by kernel_rfl) (by kernel_rfl) (by kernel_rfl) (fun _ _ _ h => h) (Or.inl ⟨by rfl, ?_⟩) (by exact hHeld) ?_; rotate_left; (focus (intro w' hSw; obtain ⟨hc_, hf_⟩ := bcell (Aside0.out (show Aside0 _ from hSw)); clear hSw; go_simp; (try with_reducible rfl); done)); (try simp only [Act.put, List.setIfInBounds_toArray, List.set_cons_zero, List.set_cons_succ]))
  (refine wpAnyH_take (i := 9) (v := ?_) (by simp only [List.getElem?_toArray, List.getElem?_cons_succ, List.getElem?_cons_zero]; rfl) (by kernel_rfl) (by kernel_rfl) (by kernel_rfl) (fun _ _ _ h => h) (Or.inl ⟨by rfl, ?_⟩) (by exact hHeld) ?_; rotate_left; (focus (intro w' hSw; obtain ⟨hc_, hf_⟩ := bcell (Aside0.out (show Aside0 _ from hSw)); clear hSw; go_simp; (try with_reducible rfl); done)); (try simp only [Act.put, List.setIfInBounds_toArray, List.set_cons_zero, List.set_cons_succ]))
  (refine wpAnyH_take (i := 10) (v := ?_) (by simp only [List.getElem?_toArray, List.getElem?_cons_succ, List.getElem?_cons_zero]; rfl) (by kernel_rfl) (by kernel_rfl) (by kernel_rfl) (fun _ _ _ h => h) (Or.inl ⟨by rfl, ?_⟩) (by exact hHeld) ?_; rotate_left; (focus (intro w' hSw; obtain ⟨hc_, hf_⟩ := bcell (Aside0.out (show Aside0 _ from hSw)); clear hSw; go_simp; (try with_reducible rfl); done)); (try simp only [Act.put, List.setIfInBounds_toArray, List.set_cons_zero, List.set_cons_succ]))
  (refine wpAnyH_take (i := 11) (v := ?_) (by simp only [List.getElem?_toArray, List.getElem?_cons_succ, List.getElem?_cons_zero]; rfl) (by kernel_rfl) (by kernel_rfl) (by kernel_rfl) (fun _ _ _ h => h) (Or.inl ⟨by rfl, ?_⟩) (by exact hHeld) ?_; rotate_left; (focus (intro w' hSw; obtain ⟨hc_, hf_⟩ := bcell (Aside0.out (show Aside0 _ from hSw)); clear hSw; go_simp; (try with_reducible rfl); done)); (try simp only [Act.put, List.setIfInBounds_toArray, List.set_cons_zero, List.set_cons_succ]))
  (refine wpAnyH_take (i := 12) (v := ?_) (by simp only [List.getElem?_toArray, List.getElem?_cons_succ, List.getElem?_cons_zero]; rfl) (by kernel_rfl) (by kernel_rfl) (by kernel_rfl) (fun _ _ _ h => h) (Or.inl ⟨by rfl, ?_⟩) (by exact hHeld) ?_; rotate_left; (focus (intro w' hSw; obtain ⟨hc_, hf_⟩ := bcell (Aside0.out (show Aside0 _ from hSw)); clear hSw; go_simp; (try with_reducible rfl); done)); (try simp only [Act.put, List.setIfInBounds_toArray, List.set_cons_zero, List.set_cons_succ]))
  (refine wpAnyH_ready (rs := [6]) (by kernel_rfl) (by simp) ?_; refine (AllReadyH.cons (by simp only [List.getElem?_toArray, List.getElem?_cons_succ, List.getElem?_cons_zero]; rfl) (fun K hK => ?_) AllReadyH.nil); go_simp; ((try rw [HWR1.out]); go_at_call 14; (with_reducible refine (rshow_w _ hw2.1 (by omega) _).mono ?_); rintro e x2 ⟨rfl, hb⟩); refine hK.out _ _ (by (try dsimp only); exact ⟨below_step hHeld.out hb⟩) ?_; clear hK K hHeld; intro hHeld; (try simp only [Act.put, List.setIfInBounds_toArray, List.set_cons_zero, List.set_cons_succ]))
  (refine wpAnyH_take (i := 7) (v := ?_) (by simp only [List.getElem?_toArray, List.getElem?_cons_succ, List.getElem?_cons_zero]; rfl) (by kernel_rfl) (by kernel_rfl) (by kernel_rfl) (fun _ _ _ h => h) (Or.inl ⟨by rfl, ?_⟩) (by exact hHeld) ?_; rotate_left; (focus (intro w' hSw; obtain ⟨hc_, hf_⟩ := bcell (Aside0.out (show Aside0 _ from hSw)); clear hSw; go_simp; (try with_reducible rfl); done)); (try simp only [Act.put, List.setIfInBounds_toArray, List.set_cons_zero, List.set_cons_succ]))
  (refine wpAnyH_take (i := 8) (v := ?_) (by simp only [List.getElem?_toArray, List.getElem?_cons_succ, List.getElem?_cons_zero]; rfl) (by kernel_rfl) (by kernel_rfl) (by kernel_rfl) (fun _ _ _ h => h) (Or.inl ⟨by rfl, ?_⟩) (by exact hHeld) ?_; rotate_left; (focus (intro w' hSw; obtain ⟨hc_, hf_⟩ := bcell (Aside0.out (show Aside0 _ from hSw)); clear hSw; go_simp; (try with_reducible rfl); done)); (try simp only [Act.put, List.setIfInBounds_toArray, List.set_cons_zero, List.set_cons_succ]))
  (refine wpAnyH_ready (rs := [13]) (by kernel_rfl) (by simp) ?_; refine (AllReadyH.cons (by simp only [List.getElem?_toArray, List.getElem?_cons_succ, List.getElem?_cons_zero]; rfl) (fun K hK => ?_) AllReadyH.nil); go_simp; ((try rw [HWR2.out]); go_at_call 14; (with_reducible refine (rshow_w _ (by omega) (by omega) _).mono ?_); rintro e x3 ⟨rfl, hb⟩); refine hK.out _ _ (by (try dsimp only); exact ⟨below_step hHeld.out hb⟩) ?_; clear hK K hHeld; intro hHeld; (try simp only [Act.put, List.setIfInBounds_toArray, List.set_cons_zero, List.set_cons_succ]))
  (refine wpAnyH_take (i := 14) (v := ?_) (by simp only [List.getElem?_toArray, List.getElem?_cons_succ, List.getElem?_cons_zero]; rfl) (by kernel_rfl) (by kernel_rfl) (by kernel_rfl) (fun _ _ _ h => h) (Or.inl ⟨by rfl, ?_⟩) (by exact hHeld) ?_; rotate_left; (focus (intro w' hSw; obtain ⟨hc_, hf_⟩ := bcell (Aside0.out (show Aside0 _ from hSw)); clear hSw; go_simp; (try with_reducible rfl); done)); (try simp only [Act.put, List.setIfInBounds_toArray, List.set_cons_zero, List.set_cons_succ]))
  (refine wpAnyH_take (i := 15) (v := ?_) (by simp only [List.getElem?_toArray, List.getElem?_cons_succ, List.getElem?_cons_zero]; rfl) (by kernel_rfl) (by kernel_rfl) (by kernel_rfl) (fun _ _ _ h => h) (Or.inl ⟨by rfl, ?_⟩) (by exact hHeld) ?_; rotate_left; (focus (intro w' hSw; obtain ⟨hc_, hf_⟩ := bcell (Aside0.out (show Aside0 _ from hSw)); clear hSw; go_simp; (try with_reducible rfl); done)); (try simp only [Act.put, List.setIfInBounds_toArray, List.set_cons_zero, List.set_cons_succ]))
  (refine wpAnyH_done (by kernel_rfl) ?_ _; refine NoPanic.normal ?_)
  have HB7 := Aside0.mk (below_step HB.out hHeld.out)
  have hup7 := hHeld.out
  have HQ7 := Aside0.mk ((hup7.block w.heap.size hqlt).trans HQ3.out)
  have HBB7 := Aside0.mk (Kd.C_below HBB.out hup7)
  clear HB HBB HQ3 hHeld hup7 r1 r2 r3 hqlt
  have HB := HB7
  clear HB7
  have r1 := blk_cells HQ7.out 1 _ rfl; have r2 := blk_cells HQ7.out 2 _ rfl; have r3 := blk_cells HQ7.out 3 _ rfl
  have hqlt : w.heap.size < x3.heap.size := (Array.getElem?_eq_some_iff.1 HQ7.out).1
  cases cas
  · go_upto_region 10 with (fail)
    obtain ⟨H, hH⟩ : ∃ H, ((((((⟨#[86, 65, 76, 85, 69, 32]⟩ : ByteArray) ++ key) ++ (⟨#[32]⟩ : ByteArray)) ++ showI x.f2) ++ (⟨#[32]⟩ : ByteArray)) ++ showI (x.f1.length : Int)) = H := ⟨_, rfl⟩
    have HH : Aside0 (headB false key x = H) := ⟨hH⟩
    rw [hH]
    clear hH HCT0 HCT1 HCT2 HCT3 HCT4 HCT5 HCT6 hct0 hct1 hct2 hct3 hct4 hct5 hct6
    have HX3 : Aside0 (Below w.heap.size w x3) := HB
    have HQ9 := HQ7; have HBB9 := HBB7
    obtain ⟨hLH, hHs⟩ := hit_L false key x (by omega) HH.out HL.out (by omega) (by omega) (by omega)
    have hLn : L.length = H.size + 2 + x.f1.length + 7 := hit_len hLH
    obtain ⟨eb, eo, rfl, heb⟩ := some_of HBB9.out (by omega) (by decide)
    have FB1 : Aside0 ((Kd.int .u8).C x3 (some ⟨eb, eo, none⟩) H.size (bytesOf H)) := ⟨cut_head hLH HBB9.out⟩
    have FB2 : Aside0 ((Kd.int .u8).C x3 (some ⟨eb, eo + (H.size + 2), none⟩) x.f1.length x.f1) := ⟨cut_mid hLH HBB9.out hke⟩
    have FB3 : Aside0 ((Kd.int .u8).C x3 (some ⟨eb, eo + (H.size + 2 + x.f1.length + 2), none⟩) 5 [69, 78, 68, 13, 10]) := ⟨cut_tail hLH HBB9.out hke⟩
    have FB4 : Aside0 ((Kd.int .u8).C x3 B x.f1.length x.f1) := ⟨Kd.C_below HC.out HB.out⟩
    have HLN := Aside0.mk hLn
    rw [hLn] at hke ⊢
    clear hLH hLn HBB9
    have hke1 : H.size ≤ kE := by omega
    have hke4 : ¬ kE = H.size + 2 := by omega
    have hke5 : ¬ kE = H.size + 2 + x.f1.length + 2 := by omega
    have hke6 : ((H.size : Int) + 2 + x.f1.length) ≤ kE := by omega
    have hke7 : ((H.size : Int) + 2 + x.f1.length + 7) ≤ kE := by omega
    have hke8 : ((H.size : Int) + 2 + x.f1.length + 2) ≤ (H.size : Int) + 2 + x.f1.length + 7 := by omega
    have hp1 : (0 : Int) ≤ (H.size : Int) + 2 := by omega
    have hp2 : (0 : Int) ≤ (H.size : Int) + 2 + x.f1.length := by omega
    have hp3 : (0 : Int) ≤ (H.size : Int) + 2 + x.f1.length + 2 := by omega
    have hp4 : (H.size : Int) + 2 ≤ (H.size : Int) + 2 + x.f1.length := by omega
    have hn1 : ((H.size : Int) + 2).toNat = H.size + 2 := by omega
    have hn2 : ((H.size : Int) + 2 + x.f1.length).toNat = H.size + 2 + x.f1.length := by omega
    have hn3 : ((H.size : Int) + 2 + x.f1.length + 2).toNat = H.size + 2 + x.f1.length + 2 := by omega
    have hx1 : max ((H.size : Int) + 2 + x.f1.length) 0 = (H.size : Int) + 2 + x.f1.length := by omega
    have hw1' : IntKind.i64.wrap ((H.size : Int) + 2 + x.f1.length) = (H.size : Int) + 2 + x.f1.length := IntWalk.i64_in _ (by omega)
    have hw2' : IntKind.i64.wrap ((H.size : Int) + 2 + x.f1.length + 2) = (H.size : Int) + 2 + x.f1.length + 2 := IntWalk.i64_in _ (by omega)
    have hw3' : IntKind.i64.wrap ((H.size : Int) + 2 + x.f1.length + 7 - 5) = (H.size : Int) + 2 + x.f1.length + 2 := by rw [show (H.size : Int) + 2 + x.f1.length + 7 - 5 = (H.size : Int) + 2 + x.f1.length + 2 by omega]; exact hw2'
    go_upto_region 13 with (fail)
    (refine wp_region_noPanic ?_; refine wp_region_held_drew (S := (fun w' => Aside0 (Below x3.heap.size x3 w'))) (by kernel_rfl) ⟨below_drew1 (Below.refl _ _)⟩ ?_; intro hHeld)
    (refine wpAnyH_take (i := 0) (v := ?_) (by simp only [List.getElem?_toArray, List.getElem?_cons_succ, List.getElem?_cons_zero]; rfl) (by kernel_rfl) (by kernel_rfl) (by kernel_rfl) (fun _ _ _ h => h) (Or.inl ⟨by rfl, ?_⟩) (by exact hHeld) ?_; rotate_left; (focus (intro w' hSw; obtain ⟨hc_, hf_⟩ := bcell (Aside0.out (show Aside0 _ from hSw)); clear hSw; go_simp; (try with_reducible rfl); done)); (try simp only [Act.put, List.setIfInBounds_toArray, List.set_cons_zero, List.set_cons_succ]))
    (refine wpAnyH_take (i := 1) (v := ?_) (by simp only [List.getElem?_toArray, List.getElem?_cons_succ, List.getElem?_cons_zero]; rfl) (by kernel_rfl) (by kernel_rfl) (by kernel_rfl) (fun _ _ _ h => h) (Or.inl ⟨by rfl, ?_⟩) (by exact hHeld) ?_; rotate_left; (focus (intro w' hSw; obtain ⟨hc_, hf_⟩ := bcell (Aside0.out (show Aside0 _ from hSw)); clear hSw; go_simp; (try with_reducible rfl); done)); (try simp only [Act.put, List.setIfInBounds_toArray, List.set_cons_zero, List.set_cons_succ]))
    (refine wpAnyH_take (i := 2) (v := ?_) (by simp only [List.getElem?_toArray, List.getElem?_cons_succ, List.getElem?_cons_zero]; rfl) (by kernel_rfl) (by kernel_rfl) (by kernel_rfl) (fun _ _ _ h => h) (Or.inl ⟨by rfl, ?_⟩) (by exact hHeld) ?_; rotate_left; (focus (intro w' hSw; obtain ⟨hc_, hf_⟩ := bcell (Aside0.out (show Aside0 _ from hSw)); clear hSw; go_simp; (try with_reducible rfl); done)); (try simp only [Act.put, List.setIfInBounds_toArray, List.set_cons_zero, List.set_cons_succ]))
    (refine wpAnyH_take (i := 3) (v := ?_) (by simp only [List.getElem?_toArray, List.getElem?_cons_succ, List.getElem?_cons_zero]; rfl) (by kernel_rfl) (by kernel_rfl) (by kernel_rfl) (fun _ _ _ h => h) (Or.inl ⟨by rfl, ?_⟩) (by exact hHeld) ?_; rotate_left; (focus (intro w' hSw; obtain ⟨hc_, hf_⟩ := bcell (Aside0.out (show Aside0 _ from hSw)); clear hSw; go_simp; (try with_reducible rfl); done)); (try simp only [Act.put, List.setIfInBounds_toArray, List.set_cons_zero, List.set_cons_succ]))
    (refine wpAnyH_take (i := 4) (v := ?_) (by simp only [List.getElem?_toArray, List.getElem?_cons_succ, List.getElem?_cons_zero]; rfl) (by kernel_rfl) (by kernel_rfl) (by kernel_rfl) (fun _ _ _ h => h) (Or.inl ⟨by rfl, ?_⟩) (by exact hHeld) ?_; rotate_left; (focus (intro w' hSw; (try dsimp only at hSw); go_simp; rw [Kd.C_string Tryd.underlying32 Tryd.underlying5 Tryd.underlying9 (Kd.C_below FB1.out hSw.out)]; rw [strOfNums_bytesOf]; (try simp only [Result.andThen]); (try rfl); done)); (try simp only [Act.put, List.setIfInBounds_toArray, List.set_cons_zero, List.set_cons_succ]))
    (refine wpAnyH_take (i := 5) (v := ?_) (by simp only [List.getElem?_toArray, List.getElem?_cons_succ, List.getElem?_cons_zero]; rfl) (by kernel_rfl) (by kernel_rfl) (by kernel_rfl) (fun _ _ _ h => h) (Or.inl ⟨by rfl, ?_⟩) (by exact hHeld) ?_; rotate_left; (focus (intro w' hSw; obtain ⟨hc_, hf_⟩ := bcell (Aside0.out (show Aside0 _ from hSw)); clear hSw; go_simp; (try with_reducible rfl); done)); (try simp only [Act.put, List.setIfInBounds_toArray, List.set_cons_zero, List.set_cons_succ]))
    (refine wpAnyH_take (i := 6) (v := ?_) (by simp only [List.getElem?_toArray, List.getElem?_cons_succ, List.getElem?_cons_zero]; rfl) (by kernel_rfl) (by kernel_rfl) (by kernel_rfl) (fun _ _ _ h => h) (Or.inl ⟨by rfl, ?_⟩) (by exact hHeld) ?_; rotate_left; (focus (intro w' hSw; obtain ⟨hc_, hf_⟩ := bcell (Aside0.out (show Aside0 _ from hSw)); clear hSw; go_simp; (try with_reducible rfl); done)); (try simp only [Act.put, List.setIfInBounds_toArray, List.set_cons_zero, List.set_cons_succ]))
    (refine wpAnyH_take (i := 7) (v := ?_) (by simp only [List.getElem?_toArray, List.getElem?_cons_succ, List.getElem?_cons_zero]; rfl) (by kernel_rfl) (by kernel_rfl) (by kernel_rfl) (fun _ _ _ h => h) (Or.inl ⟨by rfl, ?_⟩) (by exact hHeld) ?_; rotate_left; (focus (intro w' hSw; obtain ⟨hc_, hf_⟩ := bcell (Aside0.out (show Aside0 _ from hSw)); clear hSw; go_simp; (try with_reducible rfl); done)); (try simp only [Act.put, List.setIfInBounds_toArray, List.set_cons_zero, List.set_cons_succ]))
    (refine wpAnyH_take (i := 8) (v := ?_) (by simp only [List.getElem?_toArray, List.getElem?_cons_succ, List.getElem?_cons_zero]; rfl) (by kernel_rfl) (by kernel_rfl) (by kernel_rfl) (fun _ _ _ h => h) (Or.inl ⟨by rfl, ?_⟩) (by exact hHeld) ?_; rotate_left; (focus (intro w' hSw; obtain ⟨hc_, hf_⟩ := bcell (Aside0.out (show Aside0 _ from hSw)); clear hSw; go_simp; (try with_reducible rfl); done)); (try simp only [Act.put, List.setIfInBounds_toArray, List.set_cons_zero, List.set_cons_succ]))
    (refine wpAnyH_take (i := 9) (v := ?_) (by simp only [List.getElem?_toArray, List.getElem?_cons_succ, List.getElem?_cons_zero]; rfl) (by kernel_rfl) (by kernel_rfl) (by kernel_rfl) (fun _ _ _ h => h) (Or.inl ⟨by rfl, ?_⟩) (by exact hHeld) ?_; rotate_left; (focus (intro w' hSw; obtain ⟨hc_, hf_⟩ := bcell (Aside0.out (show Aside0 _ from hSw)); clear hSw; go_simp; (try with_reducible rfl); done)); (try simp only [Act.put, List.setIfInBounds_toArray, List.set_cons_zero, List.set_cons_succ]))
    (refine wpAnyH_take (i := 10) (v := ?_) (by simp only [List.getElem?_toArray, List.getElem?_cons_succ, List.getElem?_cons_zero]; rfl) (by kernel_rfl) (by kernel_rfl) (by kernel_rfl) (fun _ _ _ h => h) (Or.inl ⟨by rfl, ?_⟩) (by exact hHeld) ?_; rotate_left; (focus (intro w' hSw; obtain ⟨hc_, hf_⟩ := bcell (Aside0.out (show Aside0 _ from hSw)); clear hSw; go_simp; (try with_reducible rfl); done)); (try simp only [Act.put, List.setIfInBounds_toArray, List.set_cons_zero, List.set_cons_succ]))
    (refine wpAnyH_take (i := 11) (v := ?_) (by simp only [List.getElem?_toArray, List.getElem?_cons_succ, List.getElem?_cons_zero]; rfl) (by kernel_rfl) (by kernel_rfl) (by kernel_rfl) (fun _ _ _ h => h) (Or.inl ⟨by rfl, ?_⟩) (by exact hHeld) ?_; rotate_left; (focus (intro w' hSw; obtain ⟨hc_, hf_⟩ := bcell (Aside0.out (show Aside0 _ from hSw)); clear hSw; go_simp; (try with_reducible rfl); done)); (try simp only [Act.put, List.setIfInBounds_toArray, List.set_cons_zero, List.set_cons_succ]))
    (refine wpAnyH_take (i := 12) (v := ?_) (by simp only [List.getElem?_toArray, List.getElem?_cons_succ, List.getElem?_cons_zero]; rfl) (by kernel_rfl) (by kernel_rfl) (by kernel_rfl) (fun _ _ _ h => h) (Or.inl ⟨by rfl, ?_⟩) (by exact hHeld) ?_; rotate_left; (focus (intro w' hSw; obtain ⟨hc_, hf_⟩ := bcell (Aside0.out (show Aside0 _ from hSw)); clear hSw; go_simp; (try with_reducible rfl); done)); (try simp only [Act.put, List.setIfInBounds_toArray, List.set_cons_zero, List.set_cons_succ]))
    (refine wpAnyH_take (i := 13) (v := ?_) (by simp only [List.getElem?_toArray, List.getElem?_cons_succ, List.getElem?_cons_zero]; rfl) (by kernel_rfl) (by kernel_rfl) (by kernel_rfl) (fun _ _ _ h => h) (Or.inl ⟨by rfl, ?_⟩) (by exact hHeld) ?_; rotate_left; (focus (intro w' hSw; obtain ⟨hc_, hf_⟩ := bcell (Aside0.out (show Aside0 _ from hSw)); clear hSw; go_simp; (try with_reducible rfl); done)); (try simp only [Act.put, List.setIfInBounds_toArray, List.set_cons_zero, List.set_cons_succ]))
    (refine wpAnyH_take (i := 14) (v := ?_) (by simp only [List.getElem?_toArray, List.getElem?_cons_succ, List.getElem?_cons_zero]; rfl) (by kernel_rfl) (by kernel_rfl) (by kernel_rfl) (fun _ _ _ h => h) (Or.inl ⟨by rfl, ?_⟩) (by exact hHeld) ?_; rotate_left; (focus (intro w' hSw; obtain ⟨hc_, hf_⟩ := bcell (Aside0.out (show Aside0 _ from hSw)); clear hSw; go_simp; (try with_reducible rfl); done)); (try simp only [Act.put, List.setIfInBounds_toArray, List.set_cons_zero, List.set_cons_succ]))
    (refine wpAnyH_take (i := 15) (v := ?_) (by simp only [List.getElem?_toArray, List.getElem?_cons_succ, List.getElem?_cons_zero]; rfl) (by kernel_rfl) (by kernel_rfl) (by kernel_rfl) (fun _ _ _ h => h) (Or.inl ⟨by rfl, ?_⟩) (by exact hHeld) ?_; rotate_left; (focus (intro w' hSw; obtain ⟨hc_, hf_⟩ := bcell (Aside0.out (show Aside0 _ from hSw)); clear hSw; go_simp; (try with_reducible rfl); done)); (try simp only [Act.put, List.setIfInBounds_toArray, List.set_cons_zero, List.set_cons_succ]))
    (refine wpAnyH_take (i := 16) (v := ?_) (by simp only [List.getElem?_toArray, List.getElem?_cons_succ, List.getElem?_cons_zero]; rfl) (by kernel_rfl) (by kernel_rfl) (by kernel_rfl) (fun _ _ _ h => h) (Or.inl ⟨by rfl, ?_⟩) (by exact hHeld) ?_; rotate_left; (focus (intro w' hSw; (try dsimp only at hSw); go_simp; rw [Kd.C_string Tryd.underlying32 Tryd.underlying5 Tryd.underlying9 (Kd.C_below FB2.out hSw.out)]; (try simp only [Result.andThen]); (try rfl); done)); (try simp only [Act.put, List.setIfInBounds_toArray, List.set_cons_zero, List.set_cons_succ]))
    (refine wpAnyH_take (i := 17) (v := ?_) (by simp only [List.getElem?_toArray, List.getElem?_cons_succ, List.getElem?_cons_zero]; rfl) (by kernel_rfl) (by kernel_rfl) (by kernel_rfl) (fun _ _ _ h => h) (Or.inl ⟨by rfl, ?_⟩) (by exact hHeld) ?_; rotate_left; (focus (intro w' hSw; obtain ⟨hc_, hf_⟩ := bcell (Aside0.out (show Aside0 _ from hSw)); clear hSw; go_simp; (try with_reducible rfl); done)); (try simp only [Act.put, List.setIfInBounds_toArray, List.set_cons_zero, List.set_cons_succ]))
    (refine wpAnyH_take (i := 18) (v := ?_) (by simp only [List.getElem?_toArray, List.getElem?_cons_succ, List.getElem?_cons_zero]; rfl) (by kernel_rfl) (by kernel_rfl) (by kernel_rfl) (fun _ _ _ h => h) (Or.inl ⟨by rfl, ?_⟩) (by exact hHeld) ?_; rotate_left; (focus (intro w' hSw; obtain ⟨hc_, hf_⟩ := bcell (Aside0.out (show Aside0 _ from hSw)); clear hSw; go_simp; (try with_reducible rfl); done)); (try simp only [Act.put, List.setIfInBounds_toArray, List.set_cons_zero, List.set_cons_succ]))
    (refine wpAnyH_take (i := 19) (v := ?_) (by simp only [List.getElem?_toArray, List.getElem?_cons_succ, List.getElem?_cons_zero]; rfl) (by kernel_rfl) (by kernel_rfl) (by kernel_rfl) (fun _ _ _ h => h) (Or.inl ⟨by rfl, ?_⟩) (by exact hHeld) ?_; rotate_left; (focus (intro w' hSw; (try dsimp only at hSw); go_simp; rw [Kd.C_string Tryd.underlying32 Tryd.underlying5 Tryd.underlying9 (Kd.C_below FB4.out hSw.out)]; (try simp only [Result.andThen]); (try rfl); done)); (try simp only [Act.put, List.setIfInBounds_toArray, List.set_cons_zero, List.set_cons_succ]))
    (refine wpAnyH_take (i := 20) (v := ?_) (by simp only [List.getElem?_toArray, List.getElem?_cons_succ, List.getElem?_cons_zero]; rfl) (by kernel_rfl) (by kernel_rfl) (by kernel_rfl) (fun _ _ _ h => h) (Or.inl ⟨by rfl, ?_⟩) (by exact hHeld) ?_; rotate_left; (focus (intro w' hSw; obtain ⟨hc_, hf_⟩ := bcell (Aside0.out (show Aside0 _ from hSw)); clear hSw; go_simp; (try with_reducible rfl); done)); (try simp only [Act.put, List.setIfInBounds_toArray, List.set_cons_zero, List.set_cons_succ]))
    (refine wpAnyH_take (i := 21) (v := ?_) (by simp only [List.getElem?_toArray, List.getElem?_cons_succ, List.getElem?_cons_zero]; rfl) (by kernel_rfl) (by kernel_rfl) (by kernel_rfl) (fun _ _ _ h => h) (Or.inl ⟨by rfl, ?_⟩) (by exact hHeld) ?_; rotate_left; (focus (intro w' hSw; obtain ⟨hc_, hf_⟩ := bcell (Aside0.out (show Aside0 _ from hSw)); clear hSw; go_simp; (try with_reducible rfl); done)); (try simp only [Act.put, List.setIfInBounds_toArray, List.set_cons_zero, List.set_cons_succ]))
    (refine wpAnyH_take (i := 22) (v := ?_) (by simp only [List.getElem?_toArray, List.getElem?_cons_succ, List.getElem?_cons_zero]; rfl) (by kernel_rfl) (by kernel_rfl) (by kernel_rfl) (fun _ _ _ h => h) (Or.inl ⟨by rfl, ?_⟩) (by exact hHeld) ?_; rotate_left; (focus (intro w' hSw; obtain ⟨hc_, hf_⟩ := bcell (Aside0.out (show Aside0 _ from hSw)); clear hSw; go_simp; (try with_reducible rfl); done)); (try simp only [Act.put, List.setIfInBounds_toArray, List.set_cons_zero, List.set_cons_succ]))
    (refine wpAnyH_take (i := 23) (v := ?_) (by simp only [List.getElem?_toArray, List.getElem?_cons_succ, List.getElem?_cons_zero]; rfl) (by kernel_rfl) (by kernel_rfl) (by kernel_rfl) (fun _ _ _ h => h) (Or.inl ⟨by rfl, ?_⟩) (by exact hHeld) ?_; rotate_left; (focus (intro w' hSw; obtain ⟨hc_, hf_⟩ := bcell (Aside0.out (show Aside0 _ from hSw)); clear hSw; go_simp; (try with_reducible rfl); done)); (try simp only [Act.put, List.setIfInBounds_toArray, List.set_cons_zero, List.set_cons_succ]))
    (refine wpAnyH_take (i := 24) (v := ?_) (by simp only [List.getElem?_toArray, List.getElem?_cons_succ, List.getElem?_cons_zero]; rfl) (by kernel_rfl) (by kernel_rfl) (by kernel_rfl) (fun _ _ _ h => h) (Or.inl ⟨by rfl, ?_⟩) (by exact hHeld) ?_; rotate_left; (focus (intro w' hSw; obtain ⟨hc_, hf_⟩ := bcell (Aside0.out (show Aside0 _ from hSw)); clear hSw; go_simp; (try with_reducible rfl); done)); (try simp only [Act.put, List.setIfInBounds_toArray, List.set_cons_zero, List.set_cons_succ]))
    (refine wpAnyH_take (i := 25) (v := ?_) (by simp only [List.getElem?_toArray, List.getElem?_cons_succ, List.getElem?_cons_zero]; rfl) (by kernel_rfl) (by kernel_rfl) (by kernel_rfl) (fun _ _ _ h => h) (Or.inl ⟨by rfl, ?_⟩) (by exact hHeld) ?_; rotate_left; (focus (intro w' hSw; obtain ⟨hc_, hf_⟩ := bcell (Aside0.out (show Aside0 _ from hSw)); clear hSw; go_simp; (try with_reducible rfl); done)); (try simp only [Act.put, List.setIfInBounds_toArray, List.set_cons_zero, List.set_cons_succ]))
    (refine wpAnyH_take (i := 26) (v := ?_) (by simp only [List.getElem?_toArray, List.getElem?_cons_succ, List.getElem?_cons_zero]; rfl) (by kernel_rfl) (by kernel_rfl) (by kernel_rfl) (fun _ _ _ h => h) (Or.inl ⟨by rfl, ?_⟩) (by exact hHeld) ?_; rotate_left; (focus (intro w' hSw; obtain ⟨hc_, hf_⟩ := bcell (Aside0.out (show Aside0 _ from hSw)); clear hSw; go_simp; (try with_reducible rfl); done)); (try simp only [Act.put, List.setIfInBounds_toArray, List.set_cons_zero, List.set_cons_succ]))
    (refine wpAnyH_take (i := 27) (v := ?_) (by simp only [List.getElem?_toArray, List.getElem?_cons_succ, List.getElem?_cons_zero]; rfl) (by kernel_rfl) (by kernel_rfl) (by kernel_rfl) (fun _ _ _ h => h) (Or.inl ⟨by rfl, ?_⟩) (by exact hHeld) ?_; rotate_left; (focus (intro w' hSw; obtain ⟨hc_, hf_⟩ := bcell (Aside0.out (show Aside0 _ from hSw)); clear hSw; go_simp; (try with_reducible rfl); done)); (try simp only [Act.put, List.setIfInBounds_toArray, List.set_cons_zero, List.set_cons_succ]))
    (refine wpAnyH_take (i := 28) (v := ?_) (by simp only [List.getElem?_toArray, List.getElem?_cons_succ, List.getElem?_cons_zero]; rfl) (by kernel_rfl) (by kernel_rfl) (by kernel_rfl) (fun _ _ _ h => h) (Or.inl ⟨by rfl, ?_⟩) (by exact hHeld) ?_; rotate_left; (focus (intro w' hSw; (try dsimp only at hSw); go_simp; rw [Kd.C_string Tryd.underlying32 Tryd.underlying5 Tryd.underlying9 (Kd.C_below FB3.out hSw.out)]; rw [strEND]; (try simp only [Result.andThen]); (try rfl); done)); (try simp only [Act.put, List.setIfInBounds_toArray, List.set_cons_zero, List.set_cons_succ]))
    (refine wpAnyH_take (i := 29) (v := ?_) (by simp only [List.getElem?_toArray, List.getElem?_cons_succ, List.getElem?_cons_zero]; rfl) (by kernel_rfl) (by kernel_rfl) (by kernel_rfl) (fun _ _ _ h => h) (Or.inl ⟨by rfl, ?_⟩) (by exact hHeld) ?_; rotate_left; (focus (intro w' hSw; obtain ⟨hc_, hf_⟩ := bcell (Aside0.out (show Aside0 _ from hSw)); clear hSw; go_simp; (try with_reducible rfl); done)); (try simp only [Act.put, List.setIfInBounds_toArray, List.set_cons_zero, List.set_cons_succ]))
    (refine wpAnyH_take (i := 30) (v := ?_) (by simp only [List.getElem?_toArray, List.getElem?_cons_succ, List.getElem?_cons_zero]; rfl) (by kernel_rfl) (by kernel_rfl) (by kernel_rfl) (fun _ _ _ h => h) (Or.inl ⟨by rfl, ?_⟩) (by exact hHeld) ?_; rotate_left; (focus (intro w' hSw; obtain ⟨hc_, hf_⟩ := bcell (Aside0.out (show Aside0 _ from hSw)); clear hSw; go_simp; (try with_reducible rfl); done)); (try simp only [Act.put, List.setIfInBounds_toArray, List.set_cons_zero, List.set_cons_succ]))
    (refine wpAnyH_take (i := 31) (v := ?_) (by simp only [List.getElem?_toArray, List.getElem?_cons_succ, List.getElem?_cons_zero]; rfl) (by kernel_rfl) (by kernel_rfl) (by kernel_rfl) (fun _ _ _ h => h) (Or.inl ⟨by rfl, ?_⟩) (by exact hHeld) ?_; rotate_left; (focus (intro w' hSw; obtain ⟨hc_, hf_⟩ := bcell (Aside0.out (show Aside0 _ from hSw)); clear hSw; go_simp; (try with_reducible rfl); done)); (try simp only [Act.put, List.setIfInBounds_toArray, List.set_cons_zero, List.set_cons_succ]))
    (refine wpAnyH_done (by kernel_rfl) ?_ _; refine NoPanic.normal ?_)
    go_wp2
    go_ret
    exact ⟨rfl, below_step HB.out hHeld.out⟩
  · go_upto_region 10 with (go_at_call 14; (with_reducible refine (rshow_w _ hw3.1 hw3.2 _).mono ?_); rintro e x4 ⟨rfl, hb⟩; have HQ9 := Aside0.mk ((hb.block w.heap.size hqlt).trans HQ7.out); have HBB9 := Aside0.mk (Kd.C_below HBB7.out hb); have HBn := Aside0.mk (below_step (by repeat (first | (with_reducible first | exact HB.out | apply below_alloc | apply pw_below_drewN | apply below_drew1) | exact HB.out)) hb); clear HB; have HB := HBn; clear HBn; clear hb)
    obtain ⟨H, hH⟩ : ∃ H, (((((((⟨#[86, 65, 76, 85, 69, 32]⟩ : ByteArray) ++ key) ++ (⟨#[32]⟩ : ByteArray)) ++ showI x.f2) ++ (⟨#[32]⟩ : ByteArray)) ++ showI (x.f1.length : Int)) ++ (⟨#[32]⟩ : ByteArray)) ++ showI x.f3 = H := ⟨_, rfl⟩
    have HH : Aside0 (headB true key x = H) := ⟨hH⟩
    rw [hH]
    clear hH HCT0 HCT1 HCT2 HCT3 HCT4 HCT5 HCT6 hct0 hct1 hct2 hct3 hct4 hct5 hct6
    clear r1 r2 r3 hqlt
    have r1 := blk_cells HQ9.out 1 _ rfl; have r2 := blk_cells HQ9.out 2 _ rfl; have r3 := blk_cells HQ9.out 3 _ rfl
    have hqlt : w.heap.size < x4.heap.size := (Array.getElem?_eq_some_iff.1 HQ9.out).1
    obtain ⟨hLH, hHs⟩ := hit_L true key x (by omega) HH.out HL.out (by omega) (by omega) (by omega)
    have hLn : L.length = H.size + 2 + x.f1.length + 7 := hit_len hLH
    obtain ⟨eb, eo, rfl, heb⟩ := some_of HBB9.out (by omega) (by decide)
    have FB1 : Aside0 ((Kd.int .u8).C x4 (some ⟨eb, eo, none⟩) H.size (bytesOf H)) := ⟨cut_head hLH HBB9.out⟩
    have FB2 : Aside0 ((Kd.int .u8).C x4 (some ⟨eb, eo + (H.size + 2), none⟩) x.f1.length x.f1) := ⟨cut_mid hLH HBB9.out hke⟩
    have FB3 : Aside0 ((Kd.int .u8).C x4 (some ⟨eb, eo + (H.size + 2 + x.f1.length + 2), none⟩) 5 [69, 78, 68, 13, 10]) := ⟨cut_tail hLH HBB9.out hke⟩
    have FB4 : Aside0 ((Kd.int .u8).C x4 B x.f1.length x.f1) := ⟨Kd.C_below HC.out HB.out⟩
    have HLN := Aside0.mk hLn
    rw [hLn] at hke ⊢
    clear hLH hLn HBB9
    have hke1 : H.size ≤ kE := by omega
    have hke4 : ¬ kE = H.size + 2 := by omega
    have hke5 : ¬ kE = H.size + 2 + x.f1.length + 2 := by omega
    have hke6 : ((H.size : Int) + 2 + x.f1.length) ≤ kE := by omega
    have hke7 : ((H.size : Int) + 2 + x.f1.length + 7) ≤ kE := by omega
    have hke8 : ((H.size : Int) + 2 + x.f1.length + 2) ≤ (H.size : Int) + 2 + x.f1.length + 7 := by omega
    have hp1 : (0 : Int) ≤ (H.size : Int) + 2 := by omega
    have hp2 : (0 : Int) ≤ (H.size : Int) + 2 + x.f1.length := by omega
    have hp3 : (0 : Int) ≤ (H.size : Int) + 2 + x.f1.length + 2 := by omega
    have hp4 : (H.size : Int) + 2 ≤ (H.size : Int) + 2 + x.f1.length := by omega
    have hn1 : ((H.size : Int) + 2).toNat = H.size + 2 := by omega
    have hn2 : ((H.size : Int) + 2 + x.f1.length).toNat = H.size + 2 + x.f1.length := by omega
    have hn3 : ((H.size : Int) + 2 + x.f1.length + 2).toNat = H.size + 2 + x.f1.length + 2 := by omega
    have hx1 : max ((H.size : Int) + 2 + x.f1.length) 0 = (H.size : Int) + 2 + x.f1.length := by omega
    have hw1' : IntKind.i64.wrap ((H.size : Int) + 2 + x.f1.length) = (H.size : Int) + 2 + x.f1.length := IntWalk.i64_in _ (by omega)
    have hw2' : IntKind.i64.wrap ((H.size : Int) + 2 + x.f1.length + 2) = (H.size : Int) + 2 + x.f1.length + 2 := IntWalk.i64_in _ (by omega)
    have hw3' : IntKind.i64.wrap ((H.size : Int) + 2 + x.f1.length + 7 - 5) = (H.size : Int) + 2 + x.f1.length + 2 := by rw [show (H.size : Int) + 2 + x.f1.length + 7 - 5 = (H.size : Int) + 2 + x.f1.length + 2 by omega]; exact hw2'
    go_upto_region 13 with (fail)
    (refine wp_region_noPanic ?_; refine wp_region_held_drew (S := (fun w' => Aside0 (Below x4.heap.size x4 w'))) (by kernel_rfl) ⟨below_drew1 (Below.refl _ _)⟩ ?_; intro hHeld)
    (refine wpAnyH_take (i := 0) (v := ?_) (by simp only [List.getElem?_toArray, List.getElem?_cons_succ, List.getElem?_cons_zero]; rfl) (by kernel_rfl) (by kernel_rfl) (by kernel_rfl) (fun _ _ _ h => h) (Or.inl ⟨by rfl, ?_⟩) (by exact hHeld) ?_; rotate_left; (focus (intro w' hSw; obtain ⟨hc_, hf_⟩ := bcell (Aside0.out (show Aside0 _ from hSw)); clear hSw; go_simp; (try with_reducible rfl); done)); (try simp only [Act.put, List.setIfInBounds_toArray, List.set_cons_zero, List.set_cons_succ]))
    (refine wpAnyH_take (i := 1) (v := ?_) (by simp only [List.getElem?_toArray, List.getElem?_cons_succ, List.getElem?_cons_zero]; rfl) (by kernel_rfl) (by kernel_rfl) (by kernel_rfl) (fun _ _ _ h => h) (Or.inl ⟨by rfl, ?_⟩) (by exact hHeld) ?_; rotate_left; (focus (intro w' hSw; obtain ⟨hc_, hf_⟩ := bcell (Aside0.out (show Aside0 _ from hSw)); clear hSw; go_simp; (try with_reducible rfl); done)); (try simp only [Act.put, List.setIfInBounds_toArray, List.set_cons_zero, List.set_cons_succ]))
    (refine wpAnyH_take (i := 2) (v := ?_) (by simp only [List.getElem?_toArray, List.getElem?_cons_succ, List.getElem?_cons_zero]; rfl) (by kernel_rfl) (by kernel_rfl) (by kernel_rfl) (fun _ _ _ h => h) (Or.inl ⟨by rfl, ?_⟩) (by exact hHeld) ?_; rotate_left; (focus (intro w' hSw; obtain ⟨hc_, hf_⟩ := bcell (Aside0.out (show Aside0 _ from hSw)); clear hSw; go_simp; (try with_reducible rfl); done)); (try simp only [Act.put, List.setIfInBounds_toArray, List.set_cons_zero, List.set_cons_succ]))
    (refine wpAnyH_take (i := 3) (v := ?_) (by simp only [List.getElem?_toArray, List.getElem?_cons_succ, List.getElem?_cons_zero]; rfl) (by kernel_rfl) (by kernel_rfl) (by kernel_rfl) (fun _ _ _ h => h) (Or.inl ⟨by rfl, ?_⟩) (by exact hHeld) ?_; rotate_left; (focus (intro w' hSw; obtain ⟨hc_, hf_⟩ := bcell (Aside0.out (show Aside0 _ from hSw)); clear hSw; go_simp; (try with_reducible rfl); done)); (try simp only [Act.put, List.setIfInBounds_toArray, List.set_cons_zero, List.set_cons_succ]))
    (refine wpAnyH_take (i := 4) (v := ?_) (by simp only [List.getElem?_toArray, List.getElem?_cons_succ, List.getElem?_cons_zero]; rfl) (by kernel_rfl) (by kernel_rfl) (by kernel_rfl) (fun _ _ _ h => h) (Or.inl ⟨by rfl, ?_⟩) (by exact hHeld) ?_; rotate_left; (focus (intro w' hSw; (try dsimp only at hSw); go_simp; rw [Kd.C_string Tryd.underlying32 Tryd.underlying5 Tryd.underlying9 (Kd.C_below FB1.out hSw.out)]; rw [strOfNums_bytesOf]; (try simp only [Result.andThen]); (try rfl); done)); (try simp only [Act.put, List.setIfInBounds_toArray, List.set_cons_zero, List.set_cons_succ]))
    (refine wpAnyH_take (i := 5) (v := ?_) (by simp only [List.getElem?_toArray, List.getElem?_cons_succ, List.getElem?_cons_zero]; rfl) (by kernel_rfl) (by kernel_rfl) (by kernel_rfl) (fun _ _ _ h => h) (Or.inl ⟨by rfl, ?_⟩) (by exact hHeld) ?_; rotate_left; (focus (intro w' hSw; obtain ⟨hc_, hf_⟩ := bcell (Aside0.out (show Aside0 _ from hSw)); clear hSw; go_simp; (try with_reducible rfl); done)); (try simp only [Act.put, List.setIfInBounds_toArray, List.set_cons_zero, List.set_cons_succ]))
    (refine wpAnyH_take (i := 6) (v := ?_) (by simp only [List.getElem?_toArray, List.getElem?_cons_succ, List.getElem?_cons_zero]; rfl) (by kernel_rfl) (by kernel_rfl) (by kernel_rfl) (fun _ _ _ h => h) (Or.inl ⟨by rfl, ?_⟩) (by exact hHeld) ?_; rotate_left; (focus (intro w' hSw; obtain ⟨hc_, hf_⟩ := bcell (Aside0.out (show Aside0 _ from hSw)); clear hSw; go_simp; (try with_reducible rfl); done)); (try simp only [Act.put, List.setIfInBounds_toArray, List.set_cons_zero, List.set_cons_succ]))
    (refine wpAnyH_take (i := 7) (v := ?_) (by simp only [List.getElem?_toArray, List.getElem?_cons_succ, List.getElem?_cons_zero]; rfl) (by kernel_rfl) (by kernel_rfl) (by kernel_rfl) (fun _ _ _ h => h) (Or.inl ⟨by rfl, ?_⟩) (by exact hHeld) ?_; rotate_left; (focus (intro w' hSw; obtain ⟨hc_, hf_⟩ := bcell (Aside0.out (show Aside0 _ from hSw)); clear hSw; go_simp; (try with_reducible rfl); done)); (try simp only [Act.put, List.setIfInBounds_toArray, List.set_cons_zero, List.set_cons_succ]))
    (refine wpAnyH_take (i := 8) (v := ?_) (by simp only [List.getElem?_toArray, List.getElem?_cons_succ, List.getElem?_cons_zero]; rfl) (by kernel_rfl) (by kernel_rfl) (by kernel_rfl) (fun _ _ _ h => h) (Or.inl ⟨by rfl, ?_⟩) (by exact hHeld) ?_; rotate_left; (focus (intro w' hSw; obtain ⟨hc_, hf_⟩ := bcell (Aside0.out (show Aside0 _ from hSw)); clear hSw; go_simp; (try with_reducible rfl); done)); (try simp only [Act.put, List.setIfInBounds_toArray, List.set_cons_zero, List.set_cons_succ]))
    (refine wpAnyH_take (i := 9) (v := ?_) (by simp only [List.getElem?_toArray, List.getElem?_cons_succ, List.getElem?_cons_zero]; rfl) (by kernel_rfl) (by kernel_rfl) (by kernel_rfl) (fun _ _ _ h => h) (Or.inl ⟨by rfl, ?_⟩) (by exact hHeld) ?_; rotate_left; (focus (intro w' hSw; obtain ⟨hc_, hf_⟩ := bcell (Aside0.out (show Aside0 _ from hSw)); clear hSw; go_simp; (try with_reducible rfl); done)); (try simp only [Act.put, List.setIfInBounds_toArray, List.set_cons_zero, List.set_cons_succ]))
    (refine wpAnyH_take (i := 10) (v := ?_) (by simp only [List.getElem?_toArray, List.getElem?_cons_succ, List.getElem?_cons_zero]; rfl) (by kernel_rfl) (by kernel_rfl) (by kernel_rfl) (fun _ _ _ h => h) (Or.inl ⟨by rfl, ?_⟩) (by exact hHeld) ?_; rotate_left; (focus (intro w' hSw; obtain ⟨hc_, hf_⟩ := bcell (Aside0.out (show Aside0 _ from hSw)); clear hSw; go_simp; (try with_reducible rfl); done)); (try simp only [Act.put, List.setIfInBounds_toArray, List.set_cons_zero, List.set_cons_succ]))
    (refine wpAnyH_take (i := 11) (v := ?_) (by simp only [List.getElem?_toArray, List.getElem?_cons_succ, List.getElem?_cons_zero]; rfl) (by kernel_rfl) (by kernel_rfl) (by kernel_rfl) (fun _ _ _ h => h) (Or.inl ⟨by rfl, ?_⟩) (by exact hHeld) ?_; rotate_left; (focus (intro w' hSw; obtain ⟨hc_, hf_⟩ := bcell (Aside0.out (show Aside0 _ from hSw)); clear hSw; go_simp; (try with_reducible rfl); done)); (try simp only [Act.put, List.setIfInBounds_toArray, List.set_cons_zero, List.set_cons_succ]))
    (refine wpAnyH_take (i := 12) (v := ?_) (by simp only [List.getElem?_toArray, List.getElem?_cons_succ, List.getElem?_cons_zero]; rfl) (by kernel_rfl) (by kernel_rfl) (by kernel_rfl) (fun _ _ _ h => h) (Or.inl ⟨by rfl, ?_⟩) (by exact hHeld) ?_; rotate_left; (focus (intro w' hSw; obtain ⟨hc_, hf_⟩ := bcell (Aside0.out (show Aside0 _ from hSw)); clear hSw; go_simp; (try with_reducible rfl); done)); (try simp only [Act.put, List.setIfInBounds_toArray, List.set_cons_zero, List.set_cons_succ]))
    (refine wpAnyH_take (i := 13) (v := ?_) (by simp only [List.getElem?_toArray, List.getElem?_cons_succ, List.getElem?_cons_zero]; rfl) (by kernel_rfl) (by kernel_rfl) (by kernel_rfl) (fun _ _ _ h => h) (Or.inl ⟨by rfl, ?_⟩) (by exact hHeld) ?_; rotate_left; (focus (intro w' hSw; obtain ⟨hc_, hf_⟩ := bcell (Aside0.out (show Aside0 _ from hSw)); clear hSw; go_simp; (try with_reducible rfl); done)); (try simp only [Act.put, List.setIfInBounds_toArray, List.set_cons_zero, List.set_cons_succ]))
    (refine wpAnyH_take (i := 14) (v := ?_) (by simp only [List.getElem?_toArray, List.getElem?_cons_succ, List.getElem?_cons_zero]; rfl) (by kernel_rfl) (by kernel_rfl) (by kernel_rfl) (fun _ _ _ h => h) (Or.inl ⟨by rfl, ?_⟩) (by exact hHeld) ?_; rotate_left; (focus (intro w' hSw; obtain ⟨hc_, hf_⟩ := bcell (Aside0.out (show Aside0 _ from hSw)); clear hSw; go_simp; (try with_reducible rfl); done)); (try simp only [Act.put, List.setIfInBounds_toArray, List.set_cons_zero, List.set_cons_succ]))
    (refine wpAnyH_take (i := 15) (v := ?_) (by simp only [List.getElem?_toArray, List.getElem?_cons_succ, List.getElem?_cons_zero]; rfl) (by kernel_rfl) (by kernel_rfl) (by kernel_rfl) (fun _ _ _ h => h) (Or.inl ⟨by rfl, ?_⟩) (by exact hHeld) ?_; rotate_left; (focus (intro w' hSw; obtain ⟨hc_, hf_⟩ := bcell (Aside0.out (show Aside0 _ from hSw)); clear hSw; go_simp; (try with_reducible rfl); done)); (try simp only [Act.put, List.setIfInBounds_toArray, List.set_cons_zero, List.set_cons_succ]))
    (refine wpAnyH_take (i := 16) (v := ?_) (by simp only [List.getElem?_toArray, List.getElem?_cons_succ, List.getElem?_cons_zero]; rfl) (by kernel_rfl) (by kernel_rfl) (by kernel_rfl) (fun _ _ _ h => h) (Or.inl ⟨by rfl, ?_⟩) (by exact hHeld) ?_; rotate_left; (focus (intro w' hSw; (try dsimp only at hSw); go_simp; rw [Kd.C_string Tryd.underlying32 Tryd.underlying5 Tryd.underlying9 (Kd.C_below FB2.out hSw.out)]; (try simp only [Result.andThen]); (try rfl); done)); (try simp only [Act.put, List.setIfInBounds_toArray, List.set_cons_zero, List.set_cons_succ]))
    (refine wpAnyH_take (i := 17) (v := ?_) (by simp only [List.getElem?_toArray, List.getElem?_cons_succ, List.getElem?_cons_zero]; rfl) (by kernel_rfl) (by kernel_rfl) (by kernel_rfl) (fun _ _ _ h => h) (Or.inl ⟨by rfl, ?_⟩) (by exact hHeld) ?_; rotate_left; (focus (intro w' hSw; obtain ⟨hc_, hf_⟩ := bcell (Aside0.out (show Aside0 _ from hSw)); clear hSw; go_simp; (try with_reducible rfl); done)); (try simp only [Act.put, List.setIfInBounds_toArray, List.set_cons_zero, List.set_cons_succ]))
    (refine wpAnyH_take (i := 18) (v := ?_) (by simp only [List.getElem?_toArray, List.getElem?_cons_succ, List.getElem?_cons_zero]; rfl) (by kernel_rfl) (by kernel_rfl) (by kernel_rfl) (fun _ _ _ h => h) (Or.inl ⟨by rfl, ?_⟩) (by exact hHeld) ?_; rotate_left; (focus (intro w' hSw; obtain ⟨hc_, hf_⟩ := bcell (Aside0.out (show Aside0 _ from hSw)); clear hSw; go_simp; (try with_reducible rfl); done)); (try simp only [Act.put, List.setIfInBounds_toArray, List.set_cons_zero, List.set_cons_succ]))
    (refine wpAnyH_take (i := 19) (v := ?_) (by simp only [List.getElem?_toArray, List.getElem?_cons_succ, List.getElem?_cons_zero]; rfl) (by kernel_rfl) (by kernel_rfl) (by kernel_rfl) (fun _ _ _ h => h) (Or.inl ⟨by rfl, ?_⟩) (by exact hHeld) ?_; rotate_left; (focus (intro w' hSw; (try dsimp only at hSw); go_simp; rw [Kd.C_string Tryd.underlying32 Tryd.underlying5 Tryd.underlying9 (Kd.C_below FB4.out hSw.out)]; (try simp only [Result.andThen]); (try rfl); done)); (try simp only [Act.put, List.setIfInBounds_toArray, List.set_cons_zero, List.set_cons_succ]))
    (refine wpAnyH_take (i := 20) (v := ?_) (by simp only [List.getElem?_toArray, List.getElem?_cons_succ, List.getElem?_cons_zero]; rfl) (by kernel_rfl) (by kernel_rfl) (by kernel_rfl) (fun _ _ _ h => h) (Or.inl ⟨by rfl, ?_⟩) (by exact hHeld) ?_; rotate_left; (focus (intro w' hSw; obtain ⟨hc_, hf_⟩ := bcell (Aside0.out (show Aside0 _ from hSw)); clear hSw; go_simp; (try with_reducible rfl); done)); (try simp only [Act.put, List.setIfInBounds_toArray, List.set_cons_zero, List.set_cons_succ]))
    (refine wpAnyH_take (i := 21) (v := ?_) (by simp only [List.getElem?_toArray, List.getElem?_cons_succ, List.getElem?_cons_zero]; rfl) (by kernel_rfl) (by kernel_rfl) (by kernel_rfl) (fun _ _ _ h => h) (Or.inl ⟨by rfl, ?_⟩) (by exact hHeld) ?_; rotate_left; (focus (intro w' hSw; obtain ⟨hc_, hf_⟩ := bcell (Aside0.out (show Aside0 _ from hSw)); clear hSw; go_simp; (try with_reducible rfl); done)); (try simp only [Act.put, List.setIfInBounds_toArray, List.set_cons_zero, List.set_cons_succ]))
    (refine wpAnyH_take (i := 22) (v := ?_) (by simp only [List.getElem?_toArray, List.getElem?_cons_succ, List.getElem?_cons_zero]; rfl) (by kernel_rfl) (by kernel_rfl) (by kernel_rfl) (fun _ _ _ h => h) (Or.inl ⟨by rfl, ?_⟩) (by exact hHeld) ?_; rotate_left; (focus (intro w' hSw; obtain ⟨hc_, hf_⟩ := bcell (Aside0.out (show Aside0 _ from hSw)); clear hSw; go_simp; (try with_reducible rfl); done)); (try simp only [Act.put, List.setIfInBounds_toArray, List.set_cons_zero, List.set_cons_succ]))
    (refine wpAnyH_take (i := 23) (v := ?_) (by simp only [List.getElem?_toArray, List.getElem?_cons_succ, List.getElem?_cons_zero]; rfl) (by kernel_rfl) (by kernel_rfl) (by kernel_rfl) (fun _ _ _ h => h) (Or.inl ⟨by rfl, ?_⟩) (by exact hHeld) ?_; rotate_left; (focus (intro w' hSw; obtain ⟨hc_, hf_⟩ := bcell (Aside0.out (show Aside0 _ from hSw)); clear hSw; go_simp; (try with_reducible rfl); done)); (try simp only [Act.put, List.setIfInBounds_toArray, List.set_cons_zero, List.set_cons_succ]))
    (refine wpAnyH_take (i := 24) (v := ?_) (by simp only [List.getElem?_toArray, List.getElem?_cons_succ, List.getElem?_cons_zero]; rfl) (by kernel_rfl) (by kernel_rfl) (by kernel_rfl) (fun _ _ _ h => h) (Or.inl ⟨by rfl, ?_⟩) (by exact hHeld) ?_; rotate_left; (focus (intro w' hSw; obtain ⟨hc_, hf_⟩ := bcell (Aside0.out (show Aside0 _ from hSw)); clear hSw; go_simp; (try with_reducible rfl); done)); (try simp only [Act.put, List.setIfInBounds_toArray, List.set_cons_zero, List.set_cons_succ]))
    (refine wpAnyH_take (i := 25) (v := ?_) (by simp only [List.getElem?_toArray, List.getElem?_cons_succ, List.getElem?_cons_zero]; rfl) (by kernel_rfl) (by kernel_rfl) (by kernel_rfl) (fun _ _ _ h => h) (Or.inl ⟨by rfl, ?_⟩) (by exact hHeld) ?_; rotate_left; (focus (intro w' hSw; obtain ⟨hc_, hf_⟩ := bcell (Aside0.out (show Aside0 _ from hSw)); clear hSw; go_simp; (try with_reducible rfl); done)); (try simp only [Act.put, List.setIfInBounds_toArray, List.set_cons_zero, List.set_cons_succ]))
    (refine wpAnyH_take (i := 26) (v := ?_) (by simp only [List.getElem?_toArray, List.getElem?_cons_succ, List.getElem?_cons_zero]; rfl) (by kernel_rfl) (by kernel_rfl) (by kernel_rfl) (fun _ _ _ h => h) (Or.inl ⟨by rfl, ?_⟩) (by exact hHeld) ?_; rotate_left; (focus (intro w' hSw; obtain ⟨hc_, hf_⟩ := bcell (Aside0.out (show Aside0 _ from hSw)); clear hSw; go_simp; (try with_reducible rfl); done)); (try simp only [Act.put, List.setIfInBounds_toArray, List.set_cons_zero, List.set_cons_succ]))
    (refine wpAnyH_take (i := 27) (v := ?_) (by simp only [List.getElem?_toArray, List.getElem?_cons_succ, List.getElem?_cons_zero]; rfl) (by kernel_rfl) (by kernel_rfl) (by kernel_rfl) (fun _ _ _ h => h) (Or.inl ⟨by rfl, ?_⟩) (by exact hHeld) ?_; rotate_left; (focus (intro w' hSw; obtain ⟨hc_, hf_⟩ := bcell (Aside0.out (show Aside0 _ from hSw)); clear hSw; go_simp; (try with_reducible rfl); done)); (try simp only [Act.put, List.setIfInBounds_toArray, List.set_cons_zero, List.set_cons_succ]))
    (refine wpAnyH_take (i := 28) (v := ?_) (by simp only [List.getElem?_toArray, List.getElem?_cons_succ, List.getElem?_cons_zero]; rfl) (by kernel_rfl) (by kernel_rfl) (by kernel_rfl) (fun _ _ _ h => h) (Or.inl ⟨by rfl, ?_⟩) (by exact hHeld) ?_; rotate_left; (focus (intro w' hSw; (try dsimp only at hSw); go_simp; rw [Kd.C_string Tryd.underlying32 Tryd.underlying5 Tryd.underlying9 (Kd.C_below FB3.out hSw.out)]; rw [strEND]; (try simp only [Result.andThen]); (try rfl); done)); (try simp only [Act.put, List.setIfInBounds_toArray, List.set_cons_zero, List.set_cons_succ]))
    (refine wpAnyH_take (i := 29) (v := ?_) (by simp only [List.getElem?_toArray, List.getElem?_cons_succ, List.getElem?_cons_zero]; rfl) (by kernel_rfl) (by kernel_rfl) (by kernel_rfl) (fun _ _ _ h => h) (Or.inl ⟨by rfl, ?_⟩) (by exact hHeld) ?_; rotate_left; (focus (intro w' hSw; obtain ⟨hc_, hf_⟩ := bcell (Aside0.out (show Aside0 _ from hSw)); clear hSw; go_simp; (try with_reducible rfl); done)); (try simp only [Act.put, List.setIfInBounds_toArray, List.set_cons_zero, List.set_cons_succ]))
    (refine wpAnyH_take (i := 30) (v := ?_) (by simp only [List.getElem?_toArray, List.getElem?_cons_succ, List.getElem?_cons_zero]; rfl) (by kernel_rfl) (by kernel_rfl) (by kernel_rfl) (fun _ _ _ h => h) (Or.inl ⟨by rfl, ?_⟩) (by exact hHeld) ?_; rotate_left; (focus (intro w' hSw; obtain ⟨hc_, hf_⟩ := bcell (Aside0.out (show Aside0 _ from hSw)); clear hSw; go_simp; (try with_reducible rfl); done)); (try simp only [Act.put, List.setIfInBounds_toArray, List.set_cons_zero, List.set_cons_succ]))
    (refine wpAnyH_take (i := 31) (v := ?_) (by simp only [List.getElem?_toArray, List.getElem?_cons_succ, List.getElem?_cons_zero]; rfl) (by kernel_rfl) (by kernel_rfl) (by kernel_rfl) (fun _ _ _ h => h) (Or.inl ⟨by rfl, ?_⟩) (by exact hHeld) ?_; rotate_left; (focus (intro w' hSw; obtain ⟨hc_, hf_⟩ := bcell (Aside0.out (show Aside0 _ from hSw)); clear hSw; go_simp; (try with_reducible rfl); done)); (try simp only [Act.put, List.setIfInBounds_toArray, List.set_cons_zero, List.set_cons_succ]))
    (refine wpAnyH_done (by kernel_rfl) ?_ _; refine NoPanic.normal ?_)
    go_wp2
    go_ret
    exact ⟨rfl, below_step HB.out hHeld.out⟩
theorem hits_calls (key : ByteArray) (x : S40) (cas : Bool) (cs : List Value) (w : World) (hk : key.size ≤ 9223372036854775807) (hx : k40.K w x cs) (hw : RWf x) (hT : Tabs w) :
    Calls Tryd.prog 5 #[.string key, .agg cs.toArray, .bool cas] w fun e w' => e = .returned (.bool true) ∧ Below w.heap.size w w' := by
  obtain ⟨B, d, rfl, hd, hC⟩ := k40_open hx
  exact hits_w key x cas B d w hk hd hC hw hT
end Go.Proofs.YtkolleohenjhmaaDoor.X
