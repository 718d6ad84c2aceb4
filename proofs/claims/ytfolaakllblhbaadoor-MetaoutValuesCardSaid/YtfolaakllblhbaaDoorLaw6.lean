/- Chapter 19's fourth law, MetaoutValues: the walk. -/
import Derived.Test.YtfolaakllblhbaaDoorLaw5
namespace Go.Proofs.YtfolaakllblhbaaDoor.X
open Go.RowKit Go.Proofs.YtfolaakllblhbaaDoorW.PrintWords
set_option linter.unusedVariables false
set_option linter.unusedSimpArgs false

def valCmd (key : ByteArray) : Cmd := { zCmd with op := 12, key := key }
def valQ (key f : ByteArray) : Request := { zRequest with cmds := [valCmd key], form := { zForm with flags := f } }
theorem valCmd_K (W : World) (key : ByteArray) : kCmd.K W (valCmd key) [.int .i64 12, .string key, .slice none 0 0, .int .u32 0, .int .i64 0, .int .u64 0, .int .u64 0, .int .u64 0, .bool false, .bool false] :=
  kCmd_mk W (valCmd key) (A2 := none) (c2 := 0) (Nat.le_refl 0) (C_none _ W)
theorem sv_below {w W W2 : World} {B3 : Option Addr} {n3 d3 : Nat} (hb : Below W.heap.size W W2) (h : Aside0 (Below w.heap.size w W) ∧ W.cell? ⟨w.heap.size, 1, none⟩ = some (.slice B3 n3 d3)) : Aside0 (Below w.heap.size w W2) ∧ W2.cell? ⟨w.heap.size, 1, none⟩ = some (.slice B3 n3 d3) :=
  ⟨⟨below_step h.1.out hb⟩, (hb.cell (World.block_lt_of_cell? _ _ h.2)).trans h.2⟩
theorem sv_drew {w W : World} {B3 : Option Addr} {n3 d3 : Nat} (h : Aside0 (Below w.heap.size w W) ∧ W.cell? ⟨w.heap.size, 1, none⟩ = some (.slice B3 n3 d3)) : Aside0 (Below w.heap.size w W.drew) ∧ W.drew.cell? ⟨w.heap.size, 1, none⟩ = some (.slice B3 n3 d3) := ⟨⟨below_drew1 h.1.out⟩, h.2⟩
theorem sv_b {w W : World} {B3 : Option Addr} {n3 d3 : Nat} (h : Aside0 (Below w.heap.size w W) ∧ W.cell? ⟨w.heap.size, 1, none⟩ = some (.slice B3 n3 d3)) : Below w.heap.size w W := h.1.out
theorem upon_strof6 {P : Program} {o : Oper} {a : Act} {K : Act → World → Prop} {Q : Exit → Act → World → Prop} {W : World} (src dst e : TypeId) (A : Option Addr) (n c : Nat) (xs : List Int)
    (hs : P.underlying src = some (.slice e)) (he : P.underlying e = some (.int .u8)) (hd : P.underlying dst = some .string) (hC : (Kd.int .u8).C W A n xs)
    (h : K (a.put o.dst (.string (strOfNums xs))) W) : Oper.upon P o a K Q (((convert src dst (.slice A n c)).run P W).andThen fun v w' => .ok (.value v) w') := by
  rw [Kd.C_string (c := c) hs he hd hC]
  exact h
theorem valQ_K {W : World} {b : Nat} {fr : Nat × Nat} (key f : ByteArray) (h : W.heap[b]? = some (.cells #[.int .i64 12, .string key, .slice none 0 0, .int .u32 0, .int .i64 0, .int .u64 0, .int .u64 0, .int .u64 0, .bool false, .bool false] 42 fr)) :
    kRequest.K W (valQ key f) [.slice (some ⟨b, 0, none⟩) 1 1, .int .i64 0, .string ⟨#[]⟩, .int .i64 0, .int .u32 0, .bool false, .bool false, .string f, .slice none 0 0, .slice none 0 0, .bool false] :=
  kRequest_mk W (valQ key f) (A0 := some ⟨b, 0, none⟩) (c0 := 1) (Nat.le_refl 1) (C_at_blk kCmd h [valCmd key] (by simp) (reps_one rfl (valCmd_K W key))) (A8 := none) (c8 := 0) (Nat.le_refl 0) (C_none Kd.string W) (A9 := none) (c9 := 0) (Nat.le_refl 0) (C_none Kd.string W)
theorem oneR_C {W : World} {b : Nat} {fr : Nat × Nat} (y : Result) (hs : y.status = 0) {B3 : Option Addr} {d3 : Nat} (hl : y.value.length ≤ d3) (hC : (Kd.int .u8).C W B3 y.value.length y.value)
    (h : W.heap[b]? = some (.cells #[.int .i64 0, .slice B3 y.value.length d3, .int .u32 y.flags, .int .u64 y.cas, .int .i64 y.ttl, .int .u64 y.number, .bool y.stale, .bool y.won, .bool y.lost] 33 fr)) :
    kResult.C W (some ⟨b, 0, none⟩) 1 [y] := by
  rw [← hs] at h
  exact C_at_blk kResult h [y] (by simp) (reps_one rfl (kResult_mk W y hl hC))
theorem oneR_K (W : World) (y : Result) (hs : y.status = 0) {B3 : Option Addr} {d3 : Nat} (hl : y.value.length ≤ d3) (hC : (Kd.int .u8).C W B3 y.value.length y.value) :
    kResult.K W y [.int .i64 0, .slice B3 y.value.length d3, .int .u32 y.flags, .int .u64 y.cas, .int .i64 y.ttl, .int .u64 y.number, .bool y.stale, .bool y.won, .bool y.lost] := by
  have := kResult_mk W y hl hC
  rwa [hs] at this
set_option maxHeartbeats 4000000 in
set_option maxRecDepth 100000 in
theorem values_calls (x : Result) (key : ByteArray) (cx : List Value) (w : World) (hx : kResult.K w x cx) (hxw : x.Wf) (hks : key.size ≤ 9223372036854775807) (hT : Tabs w) :
    Calls Tryd.prog 6 #[.agg cx.toArray, .string key] w fun e w' => e = .returned (.bool true) ∧ Below w.heap.size w w' := by
  obtain ⟨B3, d3, rfl, hl3, hC3⟩ := kResult_open hx
  have HC3 := Aside0.mk hC3
  have HT := Aside0.mk hT; have HXW := Aside0.mk hxw
  have hm3 := hxw.value.1
  have HB := Aside0.mk (Below.refl w.heap.size w)
  clear hx hC3 hT hxw
  by_cases hbig : (2000 : Int) < x.value.length ∨ (300 : Int) < key.size
  · go_enter Tryd.func6, Tryd.ntmps6
    go_upto_region 2 with (go_at_call 7; (with_reducible refine (awake_calls _ (Tabs.below HT.out (by repeat (first | (with_reducible first | exact HB.out | apply below_alloc | apply pw_below_drewN | apply below_drew1) | exact HB.out)))).mono ?_); rintro e w1 ⟨rfl, hb⟩; have HX1 := Aside0.mk ((hb.block w.heap.size (by simp)).trans (ha_at rfl)); have HBn := Aside0.mk (below_step (by repeat (first | (with_reducible first | exact HB.out | apply below_alloc | apply pw_below_drewN | apply below_drew1) | exact HB.out)) hb); clear HB; have HB := HBn; clear HBn; clear hb; have x0 := fun j v => blk_cells HX1.out j v; have b1 := x0 1 _ rfl; clear x0)
    by_cases h20 : (2000 : Int) < x.value.length
    · go_wp2
      go_ret
      exact ⟨rfl, HB.out.trans (Below.refl _ _)⟩
    · have h2 : (300 : Int) < key.size := by omega
      go_wp2
      go_ret
      exact ⟨rfl, HB.out.trans (Below.refl _ _)⟩
  · have h20 : ¬ (2000 : Int) < x.value.length := by omega
    have h2 : ¬ (300 : Int) < key.size := by omega
    obtain ⟨y, hy⟩ : ∃ y : Result, y = { x with status := 0 } := ⟨_, rfl⟩
    have hyw : y.Wf := by subst hy; exact { HXW.out with status := ⟨by show (-9223372036854775808 : Int) ≤ 0; omega, by show (0 : Int) ≤ 9223372036854775807; omega⟩ }
    have hyv : y.value = x.value := by subst hy; rfl
    have hys : y.status = 0 := by subst hy; rfl
    have hxy : (x.flags = y.flags ∧ x.cas = y.cas ∧ x.ttl = y.ttl ∧ x.number = y.number) ∧ x.stale = y.stale ∧ x.won = y.won ∧ x.lost = y.lost := by subst hy; exact ⟨⟨rfl, rfl, rfl, rfl⟩, rfl, rfl, rfl⟩
    obtain ⟨x0, xv, x2, x3, x4, x5, x6, x7, x8⟩ := x
    dsimp only at hyv hxy hl3 HC3 hm3 h20 hbig
    obtain ⟨⟨rfl, rfl, rfl, rfl⟩, rfl, rfl, rfl⟩ := hxy
    subst hyv
    have HYW := Aside0.mk hyw
    clear hy hyw HXW hbig
    have q1t : Aside0 (∀ c i, (mTold (valQ key (⟨#[118]⟩ : ByteArray)) y c i).1.size ≤ 1000) := ⟨told_nokeys (valQ key (⟨#[118]⟩ : ByteArray)) y rfl rfl HYW.out (by omega)⟩
    have q2t : Aside0 (∀ c i, (mTold (valQ key (⟨#[]⟩ : ByteArray)) y c i).1.size ≤ 1000) := ⟨told_nokeys (valQ key (⟨#[]⟩ : ByteArray)) y rfl rfl HYW.out (by omega)⟩
    have HE1 : Aside0 (strOfNums (mEncode (valQ key (⟨#[118]⟩ : ByteArray)) [y]) = (⟨#[86, 65, 32]⟩ : ByteArray) ++ showI (y.value.length : Int) ++ mFlags (valQ key (⟨#[]⟩ : ByteArray)) y ++ (⟨#[13, 10]⟩ : ByteArray) ++ strOfNums y.value ++ (⟨#[13, 10]⟩ : ByteArray)) := ⟨by
      rw [mEncode_v (valQ key (⟨#[118]⟩ : ByteArray)) y key rfl rfl rfl hys, strOfNums_bytesOf]
      unfold mFull
      have hv : mValue y = strOfNums y.value := by unfold mValue; rw [if_neg (by omega)]
      rw [hv, strOfNums_size, mFlags_v (valQ key (⟨#[118]⟩ : ByteArray)) (valQ key (⟨#[]⟩ : ByteArray)) y rfl rfl]⟩
    have HE2 : Aside0 (strOfNums (mEncode (valQ key (⟨#[]⟩ : ByteArray)) [y]) = (⟨#[72, 68]⟩ : ByteArray) ++ mFlags (valQ key (⟨#[]⟩ : ByteArray)) y ++ (⟨#[13, 10]⟩ : ByteArray)) := ⟨by
      rw [mEncode_e (valQ key (⟨#[]⟩ : ByteArray)) y key rfl rfl rfl hys, strOfNums_bytesOf]⟩
    have hFs := mFlags_size (valQ key (⟨#[]⟩ : ByteArray)) y q2t.out (by show 0 ≤ 1000; omega)
    have HP1 : Aside0 (∀ c ∈ (valQ key (⟨#[118]⟩ : ByteArray)).form.flags.data.toList, c.toNat < 128) := ⟨by show ∀ c ∈ ([118] : List UInt8), c.toNat < 128; decide⟩
    have HP2 : Aside0 (∀ c ∈ (valQ key (⟨#[]⟩ : ByteArray)).form.flags.data.toList, c.toNat < 128) := ⟨by show ∀ c ∈ ([] : List UInt8), c.toNat < 128; decide⟩
    have hlen1 : (valQ key (⟨#[118]⟩ : ByteArray)).form.flags.size ≤ 1000 := by show 1 ≤ 1000; omega
    have hlen2 : (valQ key (⟨#[]⟩ : ByteArray)).form.flags.size ≤ 1000 := by show 0 ≤ 1000; omega
    have HYW1 : Aside0 (∀ z ∈ [y], z.Wf) := ⟨fun z hz => by obtain rfl := List.mem_singleton.1 hz; exact HYW.out⟩
    have q1t1 : Aside0 (∀ z ∈ [y], ∀ c i, (mTold (valQ key (⟨#[118]⟩ : ByteArray)) z c i).1.size ≤ 1000) := ⟨fun z hz => by obtain rfl := List.mem_singleton.1 hz; exact q1t.out⟩
    have q2t1 : Aside0 (∀ z ∈ [y], ∀ c i, (mTold (valQ key (⟨#[]⟩ : ByteArray)) z c i).1.size ≤ 1000) := ⟨fun z hz => by obtain rfl := List.mem_singleton.1 hz; exact q2t.out⟩
    have HV1 : Aside0 (∀ z ∈ [y], z.value.length ≤ 1000000) := ⟨fun z hz => by obtain rfl := List.mem_singleton.1 hz; omega⟩
    obtain ⟨F, hF⟩ : ∃ F, mFlags (valQ key (⟨#[]⟩ : ByteArray)) y = F := ⟨_, rfl⟩
    have hSs := showI_size (y.value.length : Int) (by omega)
    have hVs := strOfNums_size y.value
    rw [hF] at HE1 HE2 hFs
    have HF := Aside0.mk hF
    clear hF
    go_enter Tryd.func6, Tryd.ntmps6
    go_upto_region 4 with (go_at_call 7; (with_reducible refine (awake_calls _ (Tabs.below HT.out (by repeat (first | (with_reducible first | exact HB.out | apply below_alloc | apply pw_below_drewN | apply below_drew1) | exact HB.out)))).mono ?_); rintro e w1 ⟨rfl, hb⟩; have HX1 := Aside0.mk ((hb.block w.heap.size (by simp)).trans (ha_at rfl)); have HBn := Aside0.mk (below_step (by repeat (first | (with_reducible first | exact HB.out | apply below_alloc | apply pw_below_drewN | apply below_drew1) | exact HB.out)) hb); clear HB; have HB := HBn; clear HBn; clear hb; have hw1 := HB.out.size; have x0 := fun j v => blk_cells HX1.out j v; have b0 := x0 0 _ rfl; have b1 := x0 1 _ rfl; have b2 := x0 2 _ rfl; have b3 := x0 3 _ rfl; have b4 := x0 4 _ rfl; have b5 := x0 5 _ rfl; have b6 := x0 6 _ rfl; have b7 := x0 7 _ rfl; have b8 := x0 8 _ rfl; have z0 := blk_free HX1.out 0; clear x0)
    have hlt : w.heap.size < w1.heap.size := (Array.getElem?_eq_some_iff.1 HX1.out).1
    have HX2 := Aside0.mk (heap_setCell_same w1 w.heap.size 0 _ _ (.int .i64 0) HX1.out)
    have HB2 := Aside0.mk (HB.out.setCell (p := ⟨w.heap.size, 0, none⟩) (Nat.le_refl _) (.int .i64 0))
    go_upto_region 5 with (fail)
    go_cut [6] (fun v6 wc => v6 = .pointer (some ⟨w1.heap.size + 1, 0, none⟩) ∧ wc.heap[w.heap.size]? = some (.cells #[.int .i64 0, .slice B3 y.value.length d3, .int .u32 y.flags, .int .u64 y.cas, .int .i64 y.ttl, .int .u64 y.number, .bool y.stale, .bool y.won, .bool y.lost] 33 (0, 0)) ∧ wc.heap[w1.heap.size]? = some (.cells #[.int .i64 12, .string key, .slice none 0 0, .int .u32 0, .int .i64 0, .int .u64 0, .int .u64 0, .int .u64 0, .bool false, .bool false] 42 (0, 0)) ∧ wc.heap[w1.heap.size + 1]? = some (.cells #[.slice (some ⟨w1.heap.size, 0, none⟩) 1 1, .int .i64 0, .string ⟨#[]⟩, .int .i64 0, .int .u32 0, .bool false, .bool false, .string (⟨#[118]⟩ : ByteArray), .slice none 0 0, .slice none 0 0, .bool false] 28 (0, 0)) ∧ Below w.heap.size w wc)
    case first =>
      go_wp2
      go_meet
      have hsz : (w1.setCell ⟨w.heap.size, 0, none⟩ (.int .i64 0)).heap.size = w1.heap.size := World.size_setCell ..
      exact ⟨rfl, ha_old (ha_old HX2.out), ha_old (ha_at hsz), ha_at (by simp), below_alloc (below_alloc HB2.out _) _⟩
    case rest =>
      obtain ⟨rfl, hxb, hcb, hrb, hbw⟩ := hcut
      clear HB HB2 HX1 HX2 b0 b1 b2 b3 b4 b5 b6 b7 b8 z0
      have HB := Aside0.mk hbw; have HXB := Aside0.mk hxb; have HCB := Aside0.mk hcb; have HRB := Aside0.mk hrb
      clear hbw hxb hcb hrb
      have hwsz := HB.out.size
      have hx0 : w.heap.size < wc.heap.size := (Array.getElem?_eq_some_iff.1 HXB.out).1
      have hc0 : w1.heap.size < wc.heap.size := (Array.getElem?_eq_some_iff.1 HCB.out).1
      have hr0 : w1.heap.size + 1 < wc.heap.size := (Array.getElem?_eq_some_iff.1 HRB.out).1
      have b0 := blk_cells HXB.out 0 _ rfl; have b1 := blk_cells HXB.out 1 _ rfl; have b2 := blk_cells HXB.out 2 _ rfl; have b3 := blk_cells HXB.out 3 _ rfl; have b4 := blk_cells HXB.out 4 _ rfl; have b5 := blk_cells HXB.out 5 _ rfl; have b6 := blk_cells HXB.out 6 _ rfl; have b7 := blk_cells HXB.out 7 _ rfl; have b8 := blk_cells HXB.out 8 _ rfl
      have a0 := blk_cells HRB.out 0 _ rfl; have a1 := blk_cells HRB.out 1 _ rfl; have a2 := blk_cells HRB.out 2 _ rfl; have a3 := blk_cells HRB.out 3 _ rfl; have a4 := blk_cells HRB.out 4 _ rfl; have a5 := blk_cells HRB.out 5 _ rfl; have a6 := blk_cells HRB.out 6 _ rfl; have a7 := blk_cells HRB.out 7 _ rfl; have a8 := blk_cells HRB.out 8 _ rfl; have a9 := blk_cells HRB.out 9 _ rfl; have a10 := blk_cells HRB.out 10 _ rfl
      go_upto_region 7 with (first
        | (go_at_call 10; (refine (mEncode_calls (valQ key (⟨#[118]⟩ : ByteArray)) [y] _ _ _ _ (valQ_K key (⟨#[118]⟩ : ByteArray) (ha_old HCB.out)) (Nat.le_refl 1) (oneR_C y hys hl3 (Kd.C_below HC3.out (by repeat (first | (with_reducible first | exact HB.out | apply below_alloc | apply pw_below_drewN | apply below_drew1) | exact HB.out))) (ha_at rfl)) HYW1.out (Tabs.below HT.out (by repeat (first | (with_reducible first | exact HB.out | apply below_alloc | apply pw_below_drewN | apply below_drew1) | exact HB.out))) HP1.out hlen1 q1t1.out HV1.out).mono ?_); rintro e w4 ⟨E1, k1, rfl, hk1, hbs, hb⟩; have HBS := Aside0.mk hbs; have HX4 := Aside0.mk ((hb.block w.heap.size (by simp; omega)).trans (ha_old HXB.out)); have HC4 := Aside0.mk ((hb.block w1.heap.size (by simp; omega)).trans (ha_old HCB.out)); have HR4 := Aside0.mk ((hb.block (w1.heap.size + 1) (by simp; omega)).trans (ha_old HRB.out)); have HBn := Aside0.mk (below_step (by repeat (first | (with_reducible first | exact HB.out | apply below_alloc | apply pw_below_drewN | apply below_drew1) | exact HB.out)) hb); clear HB; have HB := HBn; clear HBn; clear hbs hb; clear b0 b1 b2 b3 b4 b5 b6 b7 b8 a0 a1 a2 a3 a4 a5 a6 a7 a8 a9 a10; have b0 := blk_cells HX4.out 0 _ rfl; have b1 := blk_cells HX4.out 1 _ rfl; have b2 := blk_cells HX4.out 2 _ rfl; have b3 := blk_cells HX4.out 3 _ rfl; have b4 := blk_cells HX4.out 4 _ rfl; have b5 := blk_cells HX4.out 5 _ rfl; have b6 := blk_cells HX4.out 6 _ rfl; have b7 := blk_cells HX4.out 7 _ rfl; have b8 := blk_cells HX4.out 8 _ rfl; have a0 := blk_cells HR4.out 0 _ rfl; have a1 := blk_cells HR4.out 1 _ rfl; have a2 := blk_cells HR4.out 2 _ rfl; have a3 := blk_cells HR4.out 3 _ rfl; have a4 := blk_cells HR4.out 4 _ rfl; have a5 := blk_cells HR4.out 5 _ rfl; have a6 := blk_cells HR4.out 6 _ rfl; have a7 := blk_cells HR4.out 7 _ rfl; have a8 := blk_cells HR4.out 8 _ rfl; have a9 := blk_cells HR4.out 9 _ rfl; have a10 := blk_cells HR4.out 10 _ rfl; have z7 := blk_free HR4.out 7)
        | ((with_reducible refine gate_dst (N := 35) rfl ?_); refine wp_strof rfl _ _ _ _ rfl _ _ _ _ rfl Tryd.underlying30 Tryd.underlying5 Tryd.underlying9 HBS.out ?_; rw [HE1.out]))
      have HR5 := Aside0.mk (heap_setCell_same w4 (w1.heap.size + 1) 7 _ _ (.string (⟨#[]⟩ : ByteArray)) HR4.out)
      have HX5 := Aside0.mk ((heap_setCell_other w4 ⟨w1.heap.size + 1, 7, none⟩ w.heap.size (.string (⟨#[]⟩ : ByteArray)) (by show w.heap.size ≠ w1.heap.size + 1; omega)).trans HX4.out)
      have HC5 := Aside0.mk ((heap_setCell_other w4 ⟨w1.heap.size + 1, 7, none⟩ w1.heap.size (.string (⟨#[]⟩ : ByteArray)) (by show w1.heap.size ≠ w1.heap.size + 1; omega)).trans HC4.out)
      have HB5 := Aside0.mk (HB.out.setCell (p := ⟨w1.heap.size + 1, 7, none⟩) (by show w.heap.size ≤ w1.heap.size + 1; omega) (.string (⟨#[]⟩ : ByteArray)))
      go_cut [7] (fun v7 wd => v7 = .string ((⟨#[86, 65, 32]⟩ : ByteArray) ++ showI (y.value.length : Int) ++ F ++ (⟨#[13, 10]⟩ : ByteArray) ++ strOfNums y.value ++ (⟨#[13, 10]⟩ : ByteArray)) ∧ wd.heap[w.heap.size]? = some (.cells #[.int .i64 0, .slice B3 y.value.length d3, .int .u32 y.flags, .int .u64 y.cas, .int .i64 y.ttl, .int .u64 y.number, .bool y.stale, .bool y.won, .bool y.lost] 33 (0, 0)) ∧ wd.heap[w1.heap.size]? = some (.cells #[.int .i64 12, .string key, .slice none 0 0, .int .u32 0, .int .i64 0, .int .u64 0, .int .u64 0, .int .u64 0, .bool false, .bool false] 42 (0, 0)) ∧ wd.heap[w1.heap.size + 1]? = some (.cells #[.slice (some ⟨w1.heap.size, 0, none⟩) 1 1, .int .i64 0, .string ⟨#[]⟩, .int .i64 0, .int .u32 0, .bool false, .bool false, .string (⟨#[]⟩ : ByteArray), .slice none 0 0, .slice none 0 0, .bool false] 28 (0, 0)) ∧ Below w.heap.size w wd)
      case first =>
        go_wp2
        go_meet
        exact ⟨rfl, HX5.out, HC5.out, HR5.out, HB5.out⟩
      case rest =>
        obtain ⟨rfl, hxb, hcb, hrb, hbw⟩ := hcut
        clear b0 b1 b2 b3 b4 b5 b6 b7 b8 a0 a1 a2 a3 a4 a5 a6 a7 a8 a9 a10
        clear HB HX4 HC4 HR4 HX5 HC5 HR5 HB5 HXB HCB HRB HBS z7 hx0 hc0 hr0 hwsz
        generalize wc = wd at *
        have HB := Aside0.mk hbw; have HXB := Aside0.mk hxb; have HCB := Aside0.mk hcb; have HRB := Aside0.mk hrb
        clear hbw hxb hcb hrb
        have hwsz := HB.out.size
        have hx0 : w.heap.size < wd.heap.size := (Array.getElem?_eq_some_iff.1 HXB.out).1
        have hc0 : w1.heap.size < wd.heap.size := (Array.getElem?_eq_some_iff.1 HCB.out).1
        have hr0 : w1.heap.size + 1 < wd.heap.size := (Array.getElem?_eq_some_iff.1 HRB.out).1
        have b0 := blk_cells HXB.out 0 _ rfl; have b1 := blk_cells HXB.out 1 _ rfl; have b2 := blk_cells HXB.out 2 _ rfl; have b3 := blk_cells HXB.out 3 _ rfl; have b4 := blk_cells HXB.out 4 _ rfl; have b5 := blk_cells HXB.out 5 _ rfl; have b6 := blk_cells HXB.out 6 _ rfl; have b7 := blk_cells HXB.out 7 _ rfl; have b8 := blk_cells HXB.out 8 _ rfl
        have a0 := blk_cells HRB.out 0 _ rfl; have a1 := blk_cells HRB.out 1 _ rfl; have a2 := blk_cells HRB.out 2 _ rfl; have a3 := blk_cells HRB.out 3 _ rfl; have a4 := blk_cells HRB.out 4 _ rfl; have a5 := blk_cells HRB.out 5 _ rfl; have a6 := blk_cells HRB.out 6 _ rfl; have a7 := blk_cells HRB.out 7 _ rfl; have a8 := blk_cells HRB.out 8 _ rfl; have a9 := blk_cells HRB.out 9 _ rfl; have a10 := blk_cells HRB.out 10 _ rfl
        go_upto_region 9 with (first
          | (go_at_call 10; (refine (mEncode_calls (valQ key (⟨#[]⟩ : ByteArray)) [y] _ _ _ _ (valQ_K key (⟨#[]⟩ : ByteArray) (ha_old HCB.out)) (Nat.le_refl 1) (oneR_C y hys hl3 (Kd.C_below HC3.out (by repeat (first | (with_reducible first | exact HB.out | apply below_alloc | apply pw_below_drewN | apply below_drew1) | exact HB.out))) (ha_at rfl)) HYW1.out (Tabs.below HT.out (by repeat (first | (with_reducible first | exact HB.out | apply below_alloc | apply pw_below_drewN | apply below_drew1) | exact HB.out))) HP2.out hlen2 q2t1.out HV1.out).mono ?_); rintro e w6 ⟨E2, k2, rfl, hk2, hbs, hb⟩; have HBS := Aside0.mk hbs; have HX4 := Aside0.mk ((hb.block w.heap.size (by simp; omega)).trans (ha_old HXB.out)); have HC4 := Aside0.mk ((hb.block w1.heap.size (by simp; omega)).trans (ha_old HCB.out)); have HR4 := Aside0.mk ((hb.block (w1.heap.size + 1) (by simp; omega)).trans (ha_old HRB.out)); have HBn := Aside0.mk (below_step (by repeat (first | (with_reducible first | exact HB.out | apply below_alloc | apply pw_below_drewN | apply below_drew1) | exact HB.out)) hb); clear HB; have HB := HBn; clear HBn; clear hbs hb; clear b0 b1 b2 b3 b4 b5 b6 b7 b8 a0 a1 a2 a3 a4 a5 a6 a7 a8 a9 a10; have b0 := blk_cells HX4.out 0 _ rfl; have b1 := blk_cells HX4.out 1 _ rfl; have b2 := blk_cells HX4.out 2 _ rfl; have b3 := blk_cells HX4.out 3 _ rfl; have b4 := blk_cells HX4.out 4 _ rfl; have b5 := blk_cells HX4.out 5 _ rfl; have b6 := blk_cells HX4.out 6 _ rfl; have b7 := blk_cells HX4.out 7 _ rfl; have b8 := blk_cells HX4.out 8 _ rfl; have a0 := blk_cells HR4.out 0 _ rfl; have a1 := blk_cells HR4.out 1 _ rfl; have a2 := blk_cells HR4.out 2 _ rfl; have a3 := blk_cells HR4.out 3 _ rfl; have a4 := blk_cells HR4.out 4 _ rfl; have a5 := blk_cells HR4.out 5 _ rfl; have a6 := blk_cells HR4.out 6 _ rfl; have a7 := blk_cells HR4.out 7 _ rfl; have a8 := blk_cells HR4.out 8 _ rfl; have a9 := blk_cells HR4.out 9 _ rfl; have a10 := blk_cells HR4.out 10 _ rfl)
          | ((with_reducible refine gate_dst (N := 42) rfl ?_); refine wp_strof rfl _ _ _ _ rfl _ _ _ _ rfl Tryd.underlying30 Tryd.underlying5 Tryd.underlying9 HBS.out ?_; rw [HE2.out]))
        go_upto_region 10 with (go_at_call 12; (refine (mFlags_calls (valQ key (⟨#[]⟩ : ByteArray)) y _ _ _ (valQ_K key (⟨#[]⟩ : ByteArray) HC4.out) (oneR_K _ y hys hl3 (Kd.C_below HC3.out HB.out)) HYW.out (Tabs.below HT.out (by repeat (first | (with_reducible first | exact HB.out | apply below_alloc | apply pw_below_drewN | apply below_drew1) | exact HB.out))) HP2.out hlen2 q2t.out).mono ?_); rintro e w7 ⟨rfl, hb⟩; rw [HF.out]; have HX5 := Aside0.mk ((hb.block w.heap.size (Array.getElem?_eq_some_iff.1 HX4.out).1).trans HX4.out); have HBn := Aside0.mk (below_step (by repeat (first | (with_reducible first | exact HB.out | apply below_alloc | apply pw_below_drewN | apply below_drew1) | exact HB.out)) hb); clear HB; have HB := HBn; clear HBn; clear hb)
        clear b0 b1 b2 b3 b4 b5 b6 b7 b8 a0 a1 a2 a3 a4 a5 a6 a7 a8 a9 a10
        have hS : Aside0 (Below w.heap.size w w7) ∧ w7.cell? ⟨w.heap.size, 1, none⟩ = some (.slice B3 y.value.length d3) := ⟨HB, blk_cells HX5.out 1 _ rfl⟩
        have e1 : ¬ 9223372036854775807 < 3 + (showI (y.value.length : Int)).size := by omega
        have e2 : ¬ 9223372036854775807 < 3 + (showI (y.value.length : Int)).size + F.size := by omega
        have e3 : ¬ 9223372036854775807 < 3 + (showI (y.value.length : Int)).size + F.size + 2 := by omega
        have e4 : ¬ 9223372036854775807 < 3 + (showI (y.value.length : Int)).size + F.size + 2 + y.value.length := by omega
        have e5 : ¬ 9223372036854775807 < 3 + (showI (y.value.length : Int)).size + F.size + 2 + y.value.length + 2 := by omega
        have e6 : ¬ 9223372036854775807 < 2 + F.size := by omega
        have e7 : ¬ 9223372036854775807 < 2 + F.size + 2 := by omega
        have hwr : IntKind.u64.wrap (y.value.length : Int) = y.value.length := by rw [IntKind.wrap_u64]; omega
        (refine wp_region_noPanic ?_; refine wp_region_held_drew (S := (fun w' => Aside0 (Below w.heap.size w w') ∧ w'.cell? ⟨w.heap.size, 1, none⟩ = some (.slice B3 y.value.length d3))) (by kernel_rfl) (by (try dsimp only); (first | assumption | exact sv_drew hS | exact sv_below hb (by assumption))) ?_; intro hHeld)
        (refine wpAnyH_take (i := 0) (v := ?_) (by simp only [List.getElem?_toArray, List.getElem?_cons_succ, List.getElem?_cons_zero]; rfl) (by kernel_rfl) (by kernel_rfl) (by kernel_rfl) (fun _ _ _ h => h) (Or.inl ⟨by rfl, ?_⟩) (by assumption) ?_; rotate_left; (focus (intro w hSw; (try dsimp only at hSw); go_simp; (try with_reducible rfl); done)); (try simp only [Act.put, List.setIfInBounds_toArray, List.set_cons_zero, List.set_cons_succ]))
        (refine wpAnyH_take (i := 1) (v := ?_) (by simp only [List.getElem?_toArray, List.getElem?_cons_succ, List.getElem?_cons_zero]; rfl) (by kernel_rfl) (by kernel_rfl) (by kernel_rfl) (fun _ _ _ h => h) (Or.inl ⟨by rfl, ?_⟩) (by assumption) ?_; rotate_left; (focus (intro w hSw; (try dsimp only at hSw); go_simp; (try with_reducible rfl); done)); (try simp only [Act.put, List.setIfInBounds_toArray, List.set_cons_zero, List.set_cons_succ]))
        (refine wpAnyH_take (i := 2) (v := ?_) (by simp only [List.getElem?_toArray, List.getElem?_cons_succ, List.getElem?_cons_zero]; rfl) (by kernel_rfl) (by kernel_rfl) (by kernel_rfl) (fun _ _ _ h => h) (Or.inl ⟨by rfl, ?_⟩) (by assumption) ?_; rotate_left; (focus (intro w hSw; (try dsimp only at hSw); go_simp; (try with_reducible rfl); done)); (try simp only [Act.put, List.setIfInBounds_toArray, List.set_cons_zero, List.set_cons_succ]))
        (refine wpAnyH_take (i := 3) (v := ?_) (by simp only [List.getElem?_toArray, List.getElem?_cons_succ, List.getElem?_cons_zero]; rfl) (by kernel_rfl) (by kernel_rfl) (by kernel_rfl) (fun _ _ _ h => h) (Or.inl ⟨by rfl, ?_⟩) (by assumption) ?_; rotate_left; (focus (intro w hSw; (try dsimp only at hSw); go_simp; (try with_reducible rfl); done)); (try simp only [Act.put, List.setIfInBounds_toArray, List.set_cons_zero, List.set_cons_succ]))
        (refine wpAnyH_take (i := 4) (v := ?_) (by simp only [List.getElem?_toArray, List.getElem?_cons_succ, List.getElem?_cons_zero]; rfl) (by kernel_rfl) (by kernel_rfl) (by kernel_rfl) (fun _ _ _ h => h) (Or.inl ⟨by rfl, ?_⟩) (by assumption) ?_; rotate_left; (focus (intro w hSw; (try dsimp only at hSw); go_simp; (try with_reducible rfl); done)); (try simp only [Act.put, List.setIfInBounds_toArray, List.set_cons_zero, List.set_cons_succ]))
        (refine wpAnyH_take (i := 7) (v := ?_) (by simp only [List.getElem?_toArray, List.getElem?_cons_succ, List.getElem?_cons_zero]; rfl) (by kernel_rfl) (by kernel_rfl) (by kernel_rfl) (fun _ _ _ h => h) (Or.inl ⟨by rfl, ?_⟩) (by assumption) ?_; rotate_left; (focus (intro w hSw; (try dsimp only at hSw); go_simp; (try with_reducible rfl); done)); (try simp only [Act.put, List.setIfInBounds_toArray, List.set_cons_zero, List.set_cons_succ]))
        (refine wpAnyH_take (i := 10) (v := ?_) (by simp only [List.getElem?_toArray, List.getElem?_cons_succ, List.getElem?_cons_zero]; rfl) (by kernel_rfl) (by kernel_rfl) (by kernel_rfl) (fun _ _ _ h => h) (Or.inl ⟨by rfl, ?_⟩) (by assumption) ?_; rotate_left; (focus (intro w hSw; (try dsimp only at hSw); go_simp; (try with_reducible rfl); done)); (try simp only [Act.put, List.setIfInBounds_toArray, List.set_cons_zero, List.set_cons_succ]))
        (refine wpAnyH_take (i := 11) (v := ?_) (by simp only [List.getElem?_toArray, List.getElem?_cons_succ, List.getElem?_cons_zero]; rfl) (by kernel_rfl) (by kernel_rfl) (by kernel_rfl) (fun _ _ _ h => h) (Or.inl ⟨by rfl, ?_⟩) (by assumption) ?_; rotate_left; (focus (intro w hSw; (try dsimp only at hSw); go_simp; (try with_reducible rfl); done)); (try simp only [Act.put, List.setIfInBounds_toArray, List.set_cons_zero, List.set_cons_succ]))
        refine wpAnyH_ready (rs := [5, 12]) (by kernel_rfl) (by simp) ?_
        refine (AllReadyH.cons (by simp only [List.getElem?_toArray, List.getElem?_cons_succ, List.getElem?_cons_zero]; rfl) (fun K hK => ?_) (AllReadyH.cons (by simp only [List.getElem?_toArray, List.getElem?_cons_succ, List.getElem?_cons_zero]; rfl) (fun K hK => ?_) AllReadyH.nil))
        · focus
            (go_simp; (go_at_call 16; (try rw [hwr]); (with_reducible refine (rShow_calls _ _ (by omega) (by omega)).mono ?_); rintro e w8 ⟨rfl, hb⟩); refine hK.out _ _ (by (try dsimp only); (first | assumption | exact sv_drew hS | exact sv_below hb (by assumption))) ?_; clear hK K hHeld; intro hHeld; (try simp only [Act.put, List.setIfInBounds_toArray, List.set_cons_zero, List.set_cons_succ]))
            (refine wpAnyH_take (i := 6) (v := ?_) (by simp only [List.getElem?_toArray, List.getElem?_cons_succ, List.getElem?_cons_zero]; rfl) (by kernel_rfl) (by kernel_rfl) (by kernel_rfl) (fun _ _ _ h => h) (Or.inl ⟨by rfl, ?_⟩) (by assumption) ?_; rotate_left; (focus (intro w hSw; (try dsimp only at hSw); go_simp; (try with_reducible rfl); done)); (try simp only [Act.put, List.setIfInBounds_toArray, List.set_cons_zero, List.set_cons_succ]))
            (refine wpAnyH_take (i := 8) (v := ?_) (by simp only [List.getElem?_toArray, List.getElem?_cons_succ, List.getElem?_cons_zero]; rfl) (by kernel_rfl) (by kernel_rfl) (by kernel_rfl) (fun _ _ _ h => h) (Or.inl ⟨by rfl, ?_⟩) (by assumption) ?_; rotate_left; (focus (intro w hSw; (try dsimp only at hSw); go_simp; (try with_reducible rfl); done)); (try simp only [Act.put, List.setIfInBounds_toArray, List.set_cons_zero, List.set_cons_succ]))
            (refine wpAnyH_take (i := 9) (v := ?_) (by simp only [List.getElem?_toArray, List.getElem?_cons_succ, List.getElem?_cons_zero]; rfl) (by kernel_rfl) (by kernel_rfl) (by kernel_rfl) (fun _ _ _ h => h) (Or.inl ⟨by rfl, ?_⟩) (by assumption) ?_; rotate_left; (focus (intro w hSw; (try dsimp only at hSw); go_simp; (try with_reducible rfl); done)); (try simp only [Act.put, List.setIfInBounds_toArray, List.set_cons_zero, List.set_cons_succ]))
            refine wpAnyH_ready (rs := [12]) (by kernel_rfl) (by simp) ?_
            refine (AllReadyH.cons (by simp only [List.getElem?_toArray, List.getElem?_cons_succ, List.getElem?_cons_zero]; rfl) (fun K hK => ?_) AllReadyH.nil)
            (go_simp; (refine upon_strof6 30 9 5 _ _ _ _ Tryd.underlying30 Tryd.underlying5 Tryd.underlying9 (Kd.C_below HC3.out (sv_b (by assumption))) ?_); refine hK.out _ _ (by (try dsimp only); (first | assumption | exact sv_drew hS | exact sv_below hb (by assumption))) ?_; clear hK K hHeld; intro hHeld; (try simp only [Act.put, List.setIfInBounds_toArray, List.set_cons_zero, List.set_cons_succ]))
            (refine wpAnyH_take (i := 13) (v := ?_) (by simp only [List.getElem?_toArray, List.getElem?_cons_succ, List.getElem?_cons_zero]; rfl) (by kernel_rfl) (by kernel_rfl) (by kernel_rfl) (fun _ _ _ h => h) (Or.inl ⟨by rfl, ?_⟩) (by assumption) ?_; rotate_left; (focus (intro w hSw; (try dsimp only at hSw); go_simp; (try with_reducible rfl); done)); (try simp only [Act.put, List.setIfInBounds_toArray, List.set_cons_zero, List.set_cons_succ]))
            (refine wpAnyH_take (i := 14) (v := ?_) (by simp only [List.getElem?_toArray, List.getElem?_cons_succ, List.getElem?_cons_zero]; rfl) (by kernel_rfl) (by kernel_rfl) (by kernel_rfl) (fun _ _ _ h => h) (Or.inl ⟨by rfl, ?_⟩) (by assumption) ?_; rotate_left; (focus (intro w hSw; (try dsimp only at hSw); go_simp; (try with_reducible rfl); done)); (try simp only [Act.put, List.setIfInBounds_toArray, List.set_cons_zero, List.set_cons_succ]))
            (refine wpAnyH_take (i := 15) (v := ?_) (by simp only [List.getElem?_toArray, List.getElem?_cons_succ, List.getElem?_cons_zero]; rfl) (by kernel_rfl) (by kernel_rfl) (by kernel_rfl) (fun _ _ _ h => h) (Or.inl ⟨by rfl, ?_⟩) (by assumption) ?_; rotate_left; (focus (intro w hSw; (try dsimp only at hSw); go_simp; (try with_reducible rfl); done)); (try simp only [Act.put, List.setIfInBounds_toArray, List.set_cons_zero, List.set_cons_succ]))
            (refine wpAnyH_take (i := 16) (v := ?_) (by simp only [List.getElem?_toArray, List.getElem?_cons_succ, List.getElem?_cons_zero]; rfl) (by kernel_rfl) (by kernel_rfl) (by kernel_rfl) (fun _ _ _ h => h) (Or.inl ⟨by rfl, ?_⟩) (by assumption) ?_; rotate_left; (focus (intro w hSw; (try dsimp only at hSw); go_simp; (try with_reducible rfl); done)); (try simp only [Act.put, List.setIfInBounds_toArray, List.set_cons_zero, List.set_cons_succ]))
            (refine wpAnyH_take (i := 17) (v := ?_) (by simp only [List.getElem?_toArray, List.getElem?_cons_succ, List.getElem?_cons_zero]; rfl) (by kernel_rfl) (by kernel_rfl) (by kernel_rfl) (fun _ _ _ h => h) (Or.inl ⟨by rfl, ?_⟩) (by assumption) ?_; rotate_left; (focus (intro w hSw; (try dsimp only at hSw); go_simp; (try with_reducible rfl); done)); (try simp only [Act.put, List.setIfInBounds_toArray, List.set_cons_zero, List.set_cons_succ]))
            (refine wpAnyH_take (i := 18) (v := ?_) (by simp only [List.getElem?_toArray, List.getElem?_cons_succ, List.getElem?_cons_zero]; rfl) (by kernel_rfl) (by kernel_rfl) (by kernel_rfl) (fun _ _ _ h => h) (Or.inl ⟨by rfl, ?_⟩) (by assumption) ?_; rotate_left; (focus (intro w hSw; (try dsimp only at hSw); go_simp; (try with_reducible rfl); done)); (try simp only [Act.put, List.setIfInBounds_toArray, List.set_cons_zero, List.set_cons_succ]))
            (refine wpAnyH_take (i := 19) (v := ?_) (by simp only [List.getElem?_toArray, List.getElem?_cons_succ, List.getElem?_cons_zero]; rfl) (by kernel_rfl) (by kernel_rfl) (by kernel_rfl) (fun _ _ _ h => h) (Or.inl ⟨by rfl, ?_⟩) (by assumption) ?_; rotate_left; (focus (intro w hSw; (try dsimp only at hSw); go_simp; (try with_reducible rfl); done)); (try simp only [Act.put, List.setIfInBounds_toArray, List.set_cons_zero, List.set_cons_succ]))
            (refine wpAnyH_take (i := 20) (v := ?_) (by simp only [List.getElem?_toArray, List.getElem?_cons_succ, List.getElem?_cons_zero]; rfl) (by kernel_rfl) (by kernel_rfl) (by kernel_rfl) (fun _ _ _ h => h) (Or.inl ⟨by rfl, ?_⟩) (by assumption) ?_; rotate_left; (focus (intro w hSw; (try dsimp only at hSw); go_simp; (try with_reducible rfl); done)); (try simp only [Act.put, List.setIfInBounds_toArray, List.set_cons_zero, List.set_cons_succ]))
            (refine wpAnyH_take (i := 21) (v := ?_) (by simp only [List.getElem?_toArray, List.getElem?_cons_succ, List.getElem?_cons_zero]; rfl) (by kernel_rfl) (by kernel_rfl) (by kernel_rfl) (fun _ _ _ h => h) (Or.inl ⟨by rfl, ?_⟩) (by assumption) ?_; rotate_left; (focus (intro w hSw; (try dsimp only at hSw); go_simp; (try with_reducible rfl); done)); (try simp only [Act.put, List.setIfInBounds_toArray, List.set_cons_zero, List.set_cons_succ]))
            (refine wpAnyH_take (i := 22) (v := ?_) (by simp only [List.getElem?_toArray, List.getElem?_cons_succ, List.getElem?_cons_zero]; rfl) (by kernel_rfl) (by kernel_rfl) (by kernel_rfl) (fun _ _ _ h => h) (Or.inl ⟨by rfl, ?_⟩) (by assumption) ?_; rotate_left; (focus (intro w hSw; (try dsimp only at hSw); go_simp; (try with_reducible rfl); done)); (try simp only [Act.put, List.setIfInBounds_toArray, List.set_cons_zero, List.set_cons_succ]))
            (refine wpAnyH_take (i := 23) (v := ?_) (by simp only [List.getElem?_toArray, List.getElem?_cons_succ, List.getElem?_cons_zero]; rfl) (by kernel_rfl) (by kernel_rfl) (by kernel_rfl) (fun _ _ _ h => h) (Or.inl ⟨by rfl, ?_⟩) (by assumption) ?_; rotate_left; (focus (intro w hSw; (try dsimp only at hSw); go_simp; (try with_reducible rfl); done)); (try simp only [Act.put, List.setIfInBounds_toArray, List.set_cons_zero, List.set_cons_succ]))
            (refine wpAnyH_done (by kernel_rfl) ?_ _; refine NoPanic.normal ?_)
            go_wp2
            go_ret
            exact ⟨rfl, (sv_b hHeld).trans (Below.refl _ _)⟩
        · focus
            (go_simp; (refine upon_strof6 30 9 5 _ _ _ _ Tryd.underlying30 Tryd.underlying5 Tryd.underlying9 (Kd.C_below HC3.out (sv_b (by assumption))) ?_); refine hK.out _ _ (by (try dsimp only); (first | assumption | exact sv_drew hS | exact sv_below hb (by assumption))) ?_; clear hK K hHeld; intro hHeld; (try simp only [Act.put, List.setIfInBounds_toArray, List.set_cons_zero, List.set_cons_succ]))
            refine wpAnyH_ready (rs := [5]) (by kernel_rfl) (by simp) ?_
            refine (AllReadyH.cons (by simp only [List.getElem?_toArray, List.getElem?_cons_succ, List.getElem?_cons_zero]; rfl) (fun K hK => ?_) AllReadyH.nil)
            (go_simp; (go_at_call 16; (try rw [hwr]); (with_reducible refine (rShow_calls _ _ (by omega) (by omega)).mono ?_); rintro e w8 ⟨rfl, hb⟩); refine hK.out _ _ (by (try dsimp only); (first | assumption | exact sv_drew hS | exact sv_below hb (by assumption))) ?_; clear hK K hHeld; intro hHeld; (try simp only [Act.put, List.setIfInBounds_toArray, List.set_cons_zero, List.set_cons_succ]))
            (refine wpAnyH_take (i := 6) (v := ?_) (by simp only [List.getElem?_toArray, List.getElem?_cons_succ, List.getElem?_cons_zero]; rfl) (by kernel_rfl) (by kernel_rfl) (by kernel_rfl) (fun _ _ _ h => h) (Or.inl ⟨by rfl, ?_⟩) (by assumption) ?_; rotate_left; (focus (intro w hSw; (try dsimp only at hSw); go_simp; (try with_reducible rfl); done)); (try simp only [Act.put, List.setIfInBounds_toArray, List.set_cons_zero, List.set_cons_succ]))
            (refine wpAnyH_take (i := 8) (v := ?_) (by simp only [List.getElem?_toArray, List.getElem?_cons_succ, List.getElem?_cons_zero]; rfl) (by kernel_rfl) (by kernel_rfl) (by kernel_rfl) (fun _ _ _ h => h) (Or.inl ⟨by rfl, ?_⟩) (by assumption) ?_; rotate_left; (focus (intro w hSw; (try dsimp only at hSw); go_simp; (try with_reducible rfl); done)); (try simp only [Act.put, List.setIfInBounds_toArray, List.set_cons_zero, List.set_cons_succ]))
            (refine wpAnyH_take (i := 9) (v := ?_) (by simp only [List.getElem?_toArray, List.getElem?_cons_succ, List.getElem?_cons_zero]; rfl) (by kernel_rfl) (by kernel_rfl) (by kernel_rfl) (fun _ _ _ h => h) (Or.inl ⟨by rfl, ?_⟩) (by assumption) ?_; rotate_left; (focus (intro w hSw; (try dsimp only at hSw); go_simp; (try with_reducible rfl); done)); (try simp only [Act.put, List.setIfInBounds_toArray, List.set_cons_zero, List.set_cons_succ]))
            (refine wpAnyH_take (i := 13) (v := ?_) (by simp only [List.getElem?_toArray, List.getElem?_cons_succ, List.getElem?_cons_zero]; rfl) (by kernel_rfl) (by kernel_rfl) (by kernel_rfl) (fun _ _ _ h => h) (Or.inl ⟨by rfl, ?_⟩) (by assumption) ?_; rotate_left; (focus (intro w hSw; (try dsimp only at hSw); go_simp; (try with_reducible rfl); done)); (try simp only [Act.put, List.setIfInBounds_toArray, List.set_cons_zero, List.set_cons_succ]))
            (refine wpAnyH_take (i := 14) (v := ?_) (by simp only [List.getElem?_toArray, List.getElem?_cons_succ, List.getElem?_cons_zero]; rfl) (by kernel_rfl) (by kernel_rfl) (by kernel_rfl) (fun _ _ _ h => h) (Or.inl ⟨by rfl, ?_⟩) (by assumption) ?_; rotate_left; (focus (intro w hSw; (try dsimp only at hSw); go_simp; (try with_reducible rfl); done)); (try simp only [Act.put, List.setIfInBounds_toArray, List.set_cons_zero, List.set_cons_succ]))
            (refine wpAnyH_take (i := 15) (v := ?_) (by simp only [List.getElem?_toArray, List.getElem?_cons_succ, List.getElem?_cons_zero]; rfl) (by kernel_rfl) (by kernel_rfl) (by kernel_rfl) (fun _ _ _ h => h) (Or.inl ⟨by rfl, ?_⟩) (by assumption) ?_; rotate_left; (focus (intro w hSw; (try dsimp only at hSw); go_simp; (try with_reducible rfl); done)); (try simp only [Act.put, List.setIfInBounds_toArray, List.set_cons_zero, List.set_cons_succ]))
            (refine wpAnyH_take (i := 16) (v := ?_) (by simp only [List.getElem?_toArray, List.getElem?_cons_succ, List.getElem?_cons_zero]; rfl) (by kernel_rfl) (by kernel_rfl) (by kernel_rfl) (fun _ _ _ h => h) (Or.inl ⟨by rfl, ?_⟩) (by assumption) ?_; rotate_left; (focus (intro w hSw; (try dsimp only at hSw); go_simp; (try with_reducible rfl); done)); (try simp only [Act.put, List.setIfInBounds_toArray, List.set_cons_zero, List.set_cons_succ]))
            (refine wpAnyH_take (i := 17) (v := ?_) (by simp only [List.getElem?_toArray, List.getElem?_cons_succ, List.getElem?_cons_zero]; rfl) (by kernel_rfl) (by kernel_rfl) (by kernel_rfl) (fun _ _ _ h => h) (Or.inl ⟨by rfl, ?_⟩) (by assumption) ?_; rotate_left; (focus (intro w hSw; (try dsimp only at hSw); go_simp; (try with_reducible rfl); done)); (try simp only [Act.put, List.setIfInBounds_toArray, List.set_cons_zero, List.set_cons_succ]))
            (refine wpAnyH_take (i := 18) (v := ?_) (by simp only [List.getElem?_toArray, List.getElem?_cons_succ, List.getElem?_cons_zero]; rfl) (by kernel_rfl) (by kernel_rfl) (by kernel_rfl) (fun _ _ _ h => h) (Or.inl ⟨by rfl, ?_⟩) (by assumption) ?_; rotate_left; (focus (intro w hSw; (try dsimp only at hSw); go_simp; (try with_reducible rfl); done)); (try simp only [Act.put, List.setIfInBounds_toArray, List.set_cons_zero, List.set_cons_succ]))
            (refine wpAnyH_take (i := 19) (v := ?_) (by simp only [List.getElem?_toArray, List.getElem?_cons_succ, List.getElem?_cons_zero]; rfl) (by kernel_rfl) (by kernel_rfl) (by kernel_rfl) (fun _ _ _ h => h) (Or.inl ⟨by rfl, ?_⟩) (by assumption) ?_; rotate_left; (focus (intro w hSw; (try dsimp only at hSw); go_simp; (try with_reducible rfl); done)); (try simp only [Act.put, List.setIfInBounds_toArray, List.set_cons_zero, List.set_cons_succ]))
            (refine wpAnyH_take (i := 20) (v := ?_) (by simp only [List.getElem?_toArray, List.getElem?_cons_succ, List.getElem?_cons_zero]; rfl) (by kernel_rfl) (by kernel_rfl) (by kernel_rfl) (fun _ _ _ h => h) (Or.inl ⟨by rfl, ?_⟩) (by assumption) ?_; rotate_left; (focus (intro w hSw; (try dsimp only at hSw); go_simp; (try with_reducible rfl); done)); (try simp only [Act.put, List.setIfInBounds_toArray, List.set_cons_zero, List.set_cons_succ]))
            (refine wpAnyH_take (i := 21) (v := ?_) (by simp only [List.getElem?_toArray, List.getElem?_cons_succ, List.getElem?_cons_zero]; rfl) (by kernel_rfl) (by kernel_rfl) (by kernel_rfl) (fun _ _ _ h => h) (Or.inl ⟨by rfl, ?_⟩) (by assumption) ?_; rotate_left; (focus (intro w hSw; (try dsimp only at hSw); go_simp; (try with_reducible rfl); done)); (try simp only [Act.put, List.setIfInBounds_toArray, List.set_cons_zero, List.set_cons_succ]))
            (refine wpAnyH_take (i := 22) (v := ?_) (by simp only [List.getElem?_toArray, List.getElem?_cons_succ, List.getElem?_cons_zero]; rfl) (by kernel_rfl) (by kernel_rfl) (by kernel_rfl) (fun _ _ _ h => h) (Or.inl ⟨by rfl, ?_⟩) (by assumption) ?_; rotate_left; (focus (intro w hSw; (try dsimp only at hSw); go_simp; (try with_reducible rfl); done)); (try simp only [Act.put, List.setIfInBounds_toArray, List.set_cons_zero, List.set_cons_succ]))
            (refine wpAnyH_take (i := 23) (v := ?_) (by simp only [List.getElem?_toArray, List.getElem?_cons_succ, List.getElem?_cons_zero]; rfl) (by kernel_rfl) (by kernel_rfl) (by kernel_rfl) (fun _ _ _ h => h) (Or.inl ⟨by rfl, ?_⟩) (by assumption) ?_; rotate_left; (focus (intro w hSw; (try dsimp only at hSw); go_simp; (try with_reducible rfl); done)); (try simp only [Act.put, List.setIfInBounds_toArray, List.set_cons_zero, List.set_cons_succ]))
            (refine wpAnyH_done (by kernel_rfl) ?_ _; refine NoPanic.normal ?_)
            go_wp2
            go_ret
            exact ⟨rfl, (sv_b hHeld).trans (Below.refl _ _)⟩
end Go.Proofs.YtfolaakllblhbaaDoor.X
