/- textout.values: what keys have. -/
import Derived.Test.YtkolleohenjhmaaDoorBuf
import Derived.Deep.RegionHeld3
import Derived.Deep.DeepCutAuto
import Derived.Deep.CutBlock
namespace Go.Proofs.YtkolleohenjhmaaDoor.X
open Go.RowKit Go.Proofs.YtkolleohenjhmaaDoorW.PrintWords Go.Proofs.YtkolleohenjhmaaDoorW.PrintMore
set_option linter.unusedVariables false
set_option linter.unusedSimpArgs false

def okV (l0 : List S38) (l1 : List S40) : Bool :=
  decide (l1.length ≤ 100) && (l0.all (fun c => decide (c.f1.size ≤ 3000)) && l1.all (fun x => decide (x.f1.length ≤ 3000 ∧ 0 ≤ x.f2 ∧ x.f2 ≤ 4294967295 ∧ 0 ≤ x.f3 ∧ x.f3 ≤ 18446744073709551615)))
def wordsOf (cas : Bool) (c : S38) (x : S40) : List ByteArray := [(⟨#[86, 65, 76, 85, 69]⟩ : ByteArray), c.f1, showI x.f2, showI (x.f1.length : Int)] ++ (if cas then [showI x.f3] else [])
def lineB (ws : List ByteArray) : ByteArray := joinB ws ++ (⟨#[13, 10]⟩ : ByteArray)
def pieceI (cas : Bool) (c : S38) (x : S40) : List Int := bytesOf (lineB (wordsOf cas c x)) ++ (x.f1 ++ bytesOf (⟨#[13, 10]⟩ : ByteArray))
def valP (cas : Bool) : List S38 → List S40 → List Int
  | c :: cs, x :: xs => (if x.f0 = 0 then pieceI cas c x else []) ++ valP cas cs xs
  | _, _ => []
def textout_values.f (l0_0 : List S38) (a0_1 : Int) (a0_2 : ByteArray) (a0_3 : Int) (a0_4 : Int) (a0_5 : Bool) (a0_6 : Bool) (a0_7 : ByteArray) (l0_8 : List ByteArray) (l0_9 : List ByteArray) (a0_10 : Bool) (l1 : List S40) : Option (List Int) :=
  if okV l0_0 l1 = true then some (valP a0_6 l0_0 l1 ++ bytesOf (lineB [(⟨#[69, 78, 68]⟩ : ByteArray)])) else none
theorem showI_size (n : Int) (h : n ≤ 18446744073709551615) : (showI n).size ≤ 20 := by
  have hd : (Lib.decDigits n.toNat).length ≤ 20 := by
    rw [Lib.decDigits_length]
    by_cases h0 : n.toNat = 0
    · rw [h0, show Lib.nDigits 0 = 1 by simp [Lib.nDigits]]; omega
    · have := Lib.numDigits_eq n.toNat (by omega) (by omega)
      split at this <;> omega
  simpa [showI, ByteArray.size] using hd
theorem okV_at {l0 : List S38} {l1 : List S40} (h : okV l0 l1 = true) : l1.length ≤ 100 ∧ (∀ c ∈ l0, c.f1.size ≤ 3000) ∧ ∀ x ∈ l1, x.f1.length ≤ 3000 ∧ 0 ≤ x.f2 ∧ x.f2 ≤ 4294967295 ∧ 0 ≤ x.f3 ∧ x.f3 ≤ 18446744073709551615 := by
  unfold okV at h
  rw [Bool.and_eq_true, Bool.and_eq_true, List.all_eq_true, List.all_eq_true] at h
  exact ⟨of_decide_eq_true h.1, fun c hc => of_decide_eq_true (h.2.1 c hc), fun x hx => of_decide_eq_true (h.2.2 x hx)⟩
theorem wordsOf_ok (cas : Bool) (c : S38) (x : S40) (hc : c.f1.size ≤ 3000) (hx : x.f1.length ≤ 3000 ∧ 0 ≤ x.f2 ∧ x.f2 ≤ 4294967295 ∧ 0 ≤ x.f3 ∧ x.f3 ≤ 18446744073709551615) : okW (wordsOf cas c x) = true := by
  have s1 := showI_size x.f2 (by omega)
  have s2 := showI_size (x.f1.length : Int) (by omega)
  have s3 := showI_size x.f3 (by omega)
  unfold okW wordsOf
  cases cas
  · simp
    refine ⟨?_, ?_, ?_, ?_⟩
    · decide
    · omega
    · omega
    · omega
  · simp
    refine ⟨?_, ?_, ?_, ?_, ?_⟩
    · decide
    · omega
    · omega
    · omega
    · omega
theorem line_f (ws : List ByteArray) (h : okW ws = true) : textout_line.f ws = some (lineB ws) := by
  unfold textout_line.f lineB
  rw [if_pos h]
theorem lineB_size (ws : List ByteArray) (h : okW ws = true) : (lineB ws).size ≤ 50002 := by
  have := joinB_size ws h
  unfold lineB
  rw [ByteArray.size_append]
  show _ + 2 ≤ _
  omega
theorem valP_end (cas : Bool) (l0 : List S38) (l1 : List S40) (pos : Nat) (h : l0.length ≤ pos ∨ l1.length ≤ pos) : valP cas (l0.drop pos) (l1.drop pos) = [] := by
  rcases h with h | h
  · rw [List.drop_eq_nil_of_le h]
    unfold valP
    rfl
  · rw [List.drop_eq_nil_of_le h]
    cases l0.drop pos <;> rfl
theorem valP_step (cas : Bool) (l0 : List S38) (l1 : List S40) (pos : Nat) (h0 : pos < l0.length) (h1 : pos < l1.length) : valP cas (l0.drop pos) (l1.drop pos) = (if (rd_T40 l1 (pos : Nat)).f0 = 0 then pieceI cas (rd_T38 l0 (pos : Nat)) (rd_T40 l1 (pos : Nat)) else []) ++ valP cas (l0.drop (pos + 1)) (l1.drop (pos + 1)) := by
  have e0 : rd_T38 l0 (pos : Nat) = l0[pos] := by
    unfold rd_T38
    rw [Int.toNat_natCast, List.getD_eq_getElem?_getD, List.getElem?_eq_getElem h0]
    rfl
  have e1 : rd_T40 l1 (pos : Nat) = l1[pos] := by
    unfold rd_T40
    rw [Int.toNat_natCast, List.getD_eq_getElem?_getD, List.getElem?_eq_getElem h1]
    rfl
  rw [e0, e1, List.drop_eq_getElem_cons h0, List.drop_eq_getElem_cons h1]
  rfl
def capB (pos : Nat) : Nat := pos * 60000
theorem capB_step (pos : Nat) : capB (pos + 1) = capB pos + 60000 := by unfold capB; omega
theorem capB_le (pos : Nat) (h : pos ≤ 100) : capB pos ≤ 6000000 := by unfold capB; omega
theorem sw_below {W1 W W2 : World} {q eb eo X : Nat} {v0 v1 v2 v3 : Value} (hb : Below W.heap.size W W2) (h : Aside0 (Below W1.heap.size W1 W) ∧ W.cell? ⟨q, 0, none⟩ = some v0 ∧ W.cell? ⟨eb, eo + 1, none⟩ = some v1 ∧ W.cell? ⟨X, 2, none⟩ = some v2 ∧ W.cell? ⟨X, 1, none⟩ = some v3) : Aside0 (Below W1.heap.size W1 W2) ∧ W2.cell? ⟨q, 0, none⟩ = some v0 ∧ W2.cell? ⟨eb, eo + 1, none⟩ = some v1 ∧ W2.cell? ⟨X, 2, none⟩ = some v2 ∧ W2.cell? ⟨X, 1, none⟩ = some v3 :=
  ⟨⟨below_step h.1.out hb⟩, (hb.cell (World.block_lt_of_cell? _ _ h.2.1)).trans h.2.1, (hb.cell (World.block_lt_of_cell? _ _ h.2.2.1)).trans h.2.2.1, (hb.cell (World.block_lt_of_cell? _ _ h.2.2.2.1)).trans h.2.2.2.1, (hb.cell (World.block_lt_of_cell? _ _ h.2.2.2.2)).trans h.2.2.2.2⟩
theorem sw_drew {W1 W : World} {q eb eo X : Nat} {v0 v1 v2 v3 : Value} (h : Aside0 (Below W1.heap.size W1 W) ∧ W.cell? ⟨q, 0, none⟩ = some v0 ∧ W.cell? ⟨eb, eo + 1, none⟩ = some v1 ∧ W.cell? ⟨X, 2, none⟩ = some v2 ∧ W.cell? ⟨X, 1, none⟩ = some v3) : Aside0 (Below W1.heap.size W1 W.drew) ∧ W.drew.cell? ⟨q, 0, none⟩ = some v0 ∧ W.drew.cell? ⟨eb, eo + 1, none⟩ = some v1 ∧ W.drew.cell? ⟨X, 2, none⟩ = some v2 ∧ W.drew.cell? ⟨X, 1, none⟩ = some v3 := ⟨⟨below_drew1 h.1.out⟩, h.2⟩
theorem sw_alloc {W1 W : World} {q eb eo X : Nat} {v0 v1 v2 v3 : Value} (h : Aside0 (Below W1.heap.size W1 W) ∧ W.cell? ⟨q, 0, none⟩ = some v0 ∧ W.cell? ⟨eb, eo + 1, none⟩ = some v1 ∧ W.cell? ⟨X, 2, none⟩ = some v2 ∧ W.cell? ⟨X, 1, none⟩ = some v3) (o : Obj) : Aside0 (Below W1.heap.size W1 (W.alloc o)) ∧ (W.alloc o).cell? ⟨q, 0, none⟩ = some v0 ∧ (W.alloc o).cell? ⟨eb, eo + 1, none⟩ = some v1 ∧ (W.alloc o).cell? ⟨X, 2, none⟩ = some v2 ∧ (W.alloc o).cell? ⟨X, 1, none⟩ = some v3 := sw_below (below_alloc (Below.refl _ _) o) h
theorem sw_b {W1 W : World} {q eb eo X : Nat} {v0 v1 v2 v3 : Value} (h : Aside0 (Below W1.heap.size W1 W) ∧ W.cell? ⟨q, 0, none⟩ = some v0 ∧ W.cell? ⟨eb, eo + 1, none⟩ = some v1 ∧ W.cell? ⟨X, 2, none⟩ = some v2 ∧ W.cell? ⟨X, 1, none⟩ = some v3) : Below W1.heap.size W1 W := h.1.out
theorem infoStr : (Tryd.prog.info? 9).map (fun i => (i.zero, i.size, i.bytes)) = some (some (.string ⟨#[]⟩), 1, 16) := by kernel_rfl
set_option maxHeartbeats 4000000 in
set_option maxRecDepth 100000 in
theorem textout_values.calls (A0_0 : Option Addr) (c0_0 : Nat) (l0_0 : List S38) (a0_1 : Int) (a0_2 : ByteArray) (a0_3 : Int) (a0_4 : Int) (a0_5 : Bool) (a0_6 : Bool) (a0_7 : ByteArray) (A0_8 : Option Addr) (c0_8 : Nat) (l0_8 : List ByteArray) (A0_9 : Option Addr) (c0_9 : Nat) (l0_9 : List ByteArray) (a0_10 : Bool) (A1 : Option Addr) (c1 : Nat) (l1 : List S40) (r : List Int) (w : World) (hr0_0 : Kd.C k38 w A0_0 l0_0.length l0_0) (hc0_0 : l0_0.length ≤ c0_0) (hr0_8 : Kd.C Kd.string w A0_8 l0_8.length l0_8) (hc0_8 : l0_8.length ≤ c0_8) (hr0_9 : Kd.C Kd.string w A0_9 l0_9.length l0_9) (hc0_9 : l0_9.length ≤ c0_9) (hr1 : Kd.C k40 w A1 l1.length l1) (hc1 : l1.length ≤ c1) (hT : Tabs w) (h : textout_values.f l0_0 a0_1 a0_2 a0_3 a0_4 a0_5 a0_6 a0_7 l0_8 l0_9 a0_10 l1 = some r) :
    Calls Tryd.prog 15 #[.agg #[.slice A0_0 l0_0.length c0_0, .int .i64 a0_1, .string a0_2, .int .i64 a0_3, .int .u32 a0_4, .bool a0_5, .bool a0_6, .string a0_7, .slice A0_8 l0_8.length c0_8, .slice A0_9 l0_9.length c0_9, .bool a0_10], .slice A1 l1.length c1] w fun e w' => ∃ v0_ : Value, e = .returned (v0_) ∧ Kd.V (Kd.int .u8) 5 w' w.heap.size (fun k_ => (w.heap.size ≤ k_)) v0_ r ∧ Below w.heap.size w w' := by
  unfold textout_values.f at h
  split at h
  · next hok =>
    obtain rfl := Option.some.inj h
    have hok2 := okV_at hok
    have hm1 := hr1.2.1
    have HC0 := Aside0.mk hr0_0; have HC1 := Aside0.mk hr1; have HT := Aside0.mk hT; have HK0 := Aside0.mk hok2.2.1; have HK1 := Aside0.mk hok2.2.2; have hl100 := hok2.1
    clear h hok hok2 hr0_0 hr0_8 hr0_9 hr1 hT
    go_enter Tryd.func15, Tryd.ntmps15
    go_wp2
    go_loopw [11] (fun v11 wr => ∃ (pos : Nat) (acc : List Int), v11 = .int .i64 pos ∧ pos ≤ l1.length ∧ IsBuf w.heap.size (w.heap.size + 1) acc wr ∧ wr.heap[w.heap.size]? = some (.cells #[.slice A0_0 l0_0.length c0_0, .int .i64 a0_1, .string a0_2, .int .i64 a0_3, .int .u32 a0_4, .bool a0_5, .bool a0_6, .string a0_7, .slice A0_8 l0_8.length c0_8, .slice A0_9 l0_9.length c0_9, .bool a0_10] 28 (0, 0)) ∧ Below w.heap.size w wr ∧ Aside0 (acc ++ valP a0_6 (l0_0.drop pos) (l1.drop pos) = valP a0_6 l0_0 l1) ∧ Aside0 (acc.length ≤ capB pos)) (fun v11 _ => l1.length - (intOf v11).toNat)
    case atStart =>
      refine ⟨0, [], rfl, by omega, ?_, ?_, ?_, ⟨rfl⟩, ⟨Nat.zero_le _⟩⟩
      · exact ⟨by omega, .slice none 0 0, 0, ha_at (by simp), World.ownsRow_nil _ _ _ _, by simp [Value.ownBlock]⟩
      · exact ha_old (ha_at rfl)
      · exact below_alloc (below_alloc (Below.refl _ _) _) _
    case round =>
      obtain ⟨pos, acc, rfl, hps, hI, hqb, hbw, hacc, hal⟩ := hrel
      have HI := Aside0.mk hI; have HB := Aside0.mk hbw; have HQ := Aside0.mk hqb
      have hwsz := hbw.size
      have hbuf : w.heap.size + 1 < wr.heap.size := Lib.IsBuffer.lt HI.out
      have hlt0 : w.heap.size < wr.heap.size := (Array.getElem?_eq_some_iff.1 HQ.out).1
      have q0 := fun j v => blk_cells hqb j v
      have a0 := q0 0 _ rfl; have a6 := q0 6 _ rfl
      clear q0 hI hbw hqb
      by_cases hp : pos < l1.length
      · have hpi : (pos : Int) < l1.length := by omega
        have hm0 := HC0.out.2.1
        obtain ⟨ad, B3, d3, hA1, r0, r1, r2, r3, r4, r5, r6, r7, r8, hl3, hC3⟩ := at_T40 HC1.out (pos : Int) (by omega) hpi
        obtain ⟨x, hx⟩ : ∃ x, rd_T40 l1 (pos : Int) = x := ⟨_, rfl⟩
        have hxm : x ∈ l1 := by
          rw [← hx]
          unfold rd_T40
          rw [Int.toNat_natCast, List.getD_eq_getElem?_getD, List.getElem?_eq_getElem hp]
          exact List.getElem_mem hp
        have hxb := HK1.out x hxm
        rw [hx] at r0 r1 r2 r3 r4 r5 r6 r7 r8 hl3 hC3
        rw [Int.toNat_natCast] at r0 r1 r2 r3 r4 r5 r6 r7 r8
        obtain ⟨bb, bo, hpl, hbb⟩ := addr_plain r0
        rw [hpl] at r0 r1 r2 r3 r4 r5 r6 r7 r8
        dsimp only at r1 r2 r3 r4 r5 r6 r7 r8
        have up := fun (o : Nat) => HB.out.cell (p := ⟨bb, o, none⟩) hbb
        have hAb : x.f1 ≠ [] → ∀ a, B3 = some a → a.block < w.heap.size := fun hne a ha => by
          obtain ⟨a2, e2, hc2⟩ := hC3.2.2 (List.length_pos_iff.2 hne)
          obtain rfl := Option.some.inj (ha.symm.trans e2)
          obtain ⟨cs2, _, hK2, hcell2⟩ := hc2 0 _ (List.getElem?_eq_getElem (List.length_pos_iff.2 hne))
          obtain rfl := hK2
          have := World.block_lt_of_cell? _ _ (hcell2 0 _ rfl)
          rw [show (Kd.int .u8).sz = 1 from rfl, Nat.zero_mul, Nat.zero_add, Addr.add_zero'] at this
          exact this
        replace r0 := (up _).trans r0
        replace r1 := (up _).trans r1
        replace r2 := (up _).trans r2
        replace r3 := (up _).trans r3
        replace r4 := (up _).trans r4
        replace r5 := (up _).trans r5
        replace r6 := (up _).trans r6
        replace r7 := (up _).trans r7
        replace r8 := (up _).trans r8
        replace hbb : bb < wr.heap.size := Nat.lt_of_lt_of_le hbb hwsz
        clear up
        subst hA1
        have HX := Aside0.mk hx
        have HC3 := Aside0.mk hC3
        have HAb := Aside0.mk hAb
        clear hC3 hxm hAb
        by_cases hpc : pos < l0_0.length
        · have hpci : (pos : Int) < l0_0.length := by omega
          have hst := valP_step a0_6 l0_0 l1 pos hpc hp
          rw [hx] at hst
          by_cases hs : x.f0 = 0
          · have hs1 : (x.f0 == 0) = true := beq_iff_eq.2 hs
            have hs2 : (x.f0 != 0) = false := by rw [bne, hs1]; rfl
            rw [if_pos hs] at hst
            have HST := Aside0.mk hst
            clear hst hs
            obtain ⟨cd, B4, d4, hA0, s0, s1, _⟩ := at_T38 HC0.out (pos : Int) (by omega) hpci
            obtain ⟨cm, hcm⟩ : ∃ cm, rd_T38 l0_0 (pos : Int) = cm := ⟨_, rfl⟩
            have hcmm : cm ∈ l0_0 := by
              rw [← hcm]
              unfold rd_T38
              rw [Int.toNat_natCast, List.getD_eq_getElem?_getD, List.getElem?_eq_getElem hpc]
              exact List.getElem_mem hpc
            have hck := HK0.out cm hcmm
            rw [hcm] at s0 s1
            rw [Int.toNat_natCast] at s0 s1
            obtain ⟨eb, eo, hpl2, heb⟩ := addr_plain s0
            rw [hpl2] at s0 s1
            dsimp only at s1
            replace s1 := (HB.out.cell (p := ⟨eb, eo + 1, none⟩) heb).trans s1
            replace heb : eb < wr.heap.size := Nat.lt_of_lt_of_le heb hwsz
            subst hA0
            have HCM := Aside0.mk hcm
            clear hcm hcmm
            go_upto_region 6 with (fail)
            have hI1 := HI.out.alloc (.cells #[.int .i64 x.f0, .slice B3 x.f1.length d3, .int .u32 x.f2, .int .u64 x.f3, .int .i64 x.f4, .int .u64 x.f5, .bool x.f6, .bool x.f7, .bool x.f8] 40)
            have hq1 := ha_old (o := .cells #[.int .i64 x.f0, .slice B3 x.f1.length d3, .int .u32 x.f2, .int .u64 x.f3, .int .i64 x.f4, .int .u64 x.f5, .bool x.f6, .bool x.f7, .bool x.f8] 40) HQ.out
            have hb1 := below_alloc HB.out (.cells #[.int .i64 x.f0, .slice B3 x.f1.length d3, .int .u32 x.f2, .int .u64 x.f3, .int .i64 x.f4, .int .u64 x.f5, .bool x.f6, .bool x.f7, .bool x.f8] 40)
            have hx1 := ha_at (o := .cells #[.int .i64 x.f0, .slice B3 x.f1.length d3, .int .u32 x.f2, .int .u64 x.f3, .int .i64 x.f4, .int .u64 x.f5, .bool x.f6, .bool x.f7, .bool x.f8] 40) (rfl : wr.heap.size = wr.heap.size)
            have hk1 : (wr.alloc (.cells #[.int .i64 x.f0, .slice B3 x.f1.length d3, .int .u32 x.f2, .int .u64 x.f3, .int .i64 x.f4, .int .u64 x.f5, .bool x.f6, .bool x.f7, .bool x.f8] 40)).cell? ⟨eb, eo + 1, none⟩ = some (.string cm.f1) := ((below_alloc (Below.refl _ wr) _).cell (p := ⟨eb, eo + 1, none⟩) heb).trans s1
            generalize wr.alloc (.cells #[.int .i64 x.f0, .slice B3 x.f1.length d3, .int .u32 x.f2, .int .u64 x.f3, .int .i64 x.f4, .int .u64 x.f5, .bool x.f6, .bool x.f7, .bool x.f8] 40) = W1 at *
            have HI1 := Aside0.mk hI1; have HQ1 := Aside0.mk hq1; have HB1 := Aside0.mk hb1; have HX1 := Aside0.mk hx1
            have hw1 : IntKind.u64.wrap x.f2 = x.f2 := by rw [IntKind.wrap_u64]; omega
            have hw2 : IntKind.u64.wrap (x.f1.length : Int) = x.f1.length := by rw [IntKind.wrap_u64]; omega
            have hS := (⟨⟨Below.refl _ _⟩, blk_cells HQ1.out 0 _ rfl, hk1, blk_cells HX1.out 2 _ rfl, blk_cells HX1.out 1 _ rfl⟩ : Aside0 (Below W1.heap.size W1 W1) ∧ W1.cell? ⟨w.heap.size, 0, none⟩ = some (.slice (some cd) l0_0.length c0_0) ∧ W1.cell? ⟨eb, eo + 1, none⟩ = some (.string cm.f1) ∧ W1.cell? ⟨wr.heap.size, 2, none⟩ = some (.int .u32 x.f2) ∧ W1.cell? ⟨wr.heap.size, 1, none⟩ = some (.slice B3 x.f1.length d3))
            clear hI1 hq1 hb1 hx1 hk1 r0 r1 r2 r3 r4 r5 r6 r7 r8 s0 s1 a0 a6
            (refine wp_region_noPanic ?_; refine wp_region_held_drew (S := (fun w' => Aside0 (Below W1.heap.size W1 w') ∧ w'.cell? ⟨w.heap.size, 0, none⟩ = some (.slice (some cd) l0_0.length c0_0) ∧ w'.cell? ⟨eb, eo + 1, none⟩ = some (.string cm.f1) ∧ w'.cell? ⟨wr.heap.size, 2, none⟩ = some (.int .u32 x.f2) ∧ w'.cell? ⟨wr.heap.size, 1, none⟩ = some (.slice B3 x.f1.length d3))) (by kernel_rfl) (by (try dsimp only); (first | assumption | exact sw_drew hS | exact sw_below hb (by assumption) | exact sw_alloc (by assumption) _)) ?_; intro hHeld)
            (refine wpAnyH_take (i := 0) (v := ?_) (by simp only [List.getElem?_toArray, List.getElem?_cons_succ, List.getElem?_cons_zero]; rfl) (by kernel_rfl) (by kernel_rfl) (by kernel_rfl) (fun _ _ _ h => h) (Or.inl ⟨by rfl, ?_⟩) (by assumption) ?_; rotate_left; (focus (intro w hSw; (try dsimp only at hSw); go_simp; (try with_reducible rfl); done)); (try simp only [Act.put, List.setIfInBounds_toArray, List.set_cons_zero, List.set_cons_succ]))
            (refine wpAnyH_take (i := 1) (v := ?_) (by simp only [List.getElem?_toArray, List.getElem?_cons_succ, List.getElem?_cons_zero]; rfl) (by kernel_rfl) (by kernel_rfl) (by kernel_rfl) (fun _ _ _ h => h) (Or.inl ⟨by rfl, ?_⟩) (by assumption) ?_; rotate_left; (focus (intro w hSw; (try dsimp only at hSw); go_simp; (try with_reducible rfl); done)); (try simp only [Act.put, List.setIfInBounds_toArray, List.set_cons_zero, List.set_cons_succ]))
            (refine wpAnyH_take (i := 2) (v := ?_) (by simp only [List.getElem?_toArray, List.getElem?_cons_succ, List.getElem?_cons_zero]; rfl) (by kernel_rfl) (by kernel_rfl) (by kernel_rfl) (fun _ _ _ h => h) (Or.inl ⟨by rfl, ?_⟩) (by assumption) ?_; rotate_left; (focus (intro w hSw; (try dsimp only at hSw); go_simp; (try with_reducible rfl); done)); (try simp only [Act.put, List.setIfInBounds_toArray, List.set_cons_zero, List.set_cons_succ]))
            (refine wpAnyH_take (i := 3) (v := ?_) (by simp only [List.getElem?_toArray, List.getElem?_cons_succ, List.getElem?_cons_zero]; rfl) (by kernel_rfl) (by kernel_rfl) (by kernel_rfl) (fun _ _ _ h => h) (Or.inl ⟨by rfl, ?_⟩) (by assumption) ?_; rotate_left; (focus (intro w hSw; (try dsimp only at hSw); go_simp; (try with_reducible rfl); done)); (try simp only [Act.put, List.setIfInBounds_toArray, List.set_cons_zero, List.set_cons_succ]))
            (refine wpAnyH_take (i := 4) (v := ?_) (by simp only [List.getElem?_toArray, List.getElem?_cons_succ, List.getElem?_cons_zero]; rfl) (by kernel_rfl) (by kernel_rfl) (by kernel_rfl) (fun _ _ _ h => h) (Or.inl ⟨by rfl, ?_⟩) (by assumption) ?_; rotate_left; (focus (intro w hSw; (try dsimp only at hSw); go_simp; (try with_reducible rfl); done)); (try simp only [Act.put, List.setIfInBounds_toArray, List.set_cons_zero, List.set_cons_succ]))
            (refine wpAnyH_take (i := 5) (v := ?_) (by simp only [List.getElem?_toArray, List.getElem?_cons_succ, List.getElem?_cons_zero]; rfl) (by kernel_rfl) (by kernel_rfl) (by kernel_rfl) (fun _ _ _ h => h) (Or.inl ⟨by rfl, ?_⟩) (by assumption) ?_; rotate_left; (focus (intro w hSw; (try dsimp only at hSw); go_simp; (try with_reducible rfl); done)); (try simp only [Act.put, List.setIfInBounds_toArray, List.set_cons_zero, List.set_cons_succ]))
            (refine wpAnyH_take (i := 6) (v := ?_) (by simp only [List.getElem?_toArray, List.getElem?_cons_succ, List.getElem?_cons_zero]; rfl) (by kernel_rfl) (by kernel_rfl) (by kernel_rfl) (fun _ _ _ h => h) (Or.inl ⟨by rfl, ?_⟩) (by assumption) ?_; rotate_left; (focus (intro w hSw; (try dsimp only at hSw); go_simp; (try with_reducible rfl); done)); (try simp only [Act.put, List.setIfInBounds_toArray, List.set_cons_zero, List.set_cons_succ]))
            (refine wpAnyH_take (i := 7) (v := ?_) (by simp only [List.getElem?_toArray, List.getElem?_cons_succ, List.getElem?_cons_zero]; rfl) (by kernel_rfl) (by kernel_rfl) (by kernel_rfl) (fun _ _ _ h => h) (Or.inl ⟨by rfl, ?_⟩) (by assumption) ?_; rotate_left; (focus (intro w hSw; (try dsimp only at hSw); go_simp; (try with_reducible rfl); done)); (try simp only [Act.put, List.setIfInBounds_toArray, List.set_cons_zero, List.set_cons_succ]))
            (refine wpAnyH_take (i := 8) (v := ?_) (by simp only [List.getElem?_toArray, List.getElem?_cons_succ, List.getElem?_cons_zero]; rfl) (by kernel_rfl) (by kernel_rfl) (by kernel_rfl) (fun _ _ _ h => h) (Or.inl ⟨by rfl, ?_⟩) (by assumption) ?_; rotate_left; (focus (intro w hSw; (try dsimp only at hSw); go_simp; (try with_reducible rfl); done)); (try simp only [Act.put, List.setIfInBounds_toArray, List.set_cons_zero, List.set_cons_succ]))
            (refine wpAnyH_take (i := 10) (v := ?_) (by simp only [List.getElem?_toArray, List.getElem?_cons_succ, List.getElem?_cons_zero]; rfl) (by kernel_rfl) (by kernel_rfl) (by kernel_rfl) (fun _ _ _ h => h) (Or.inl ⟨by rfl, ?_⟩) (by assumption) ?_; rotate_left; (focus (intro w hSw; (try dsimp only at hSw); go_simp; (try with_reducible rfl); done)); (try simp only [Act.put, List.setIfInBounds_toArray, List.set_cons_zero, List.set_cons_succ]))
            (refine wpAnyH_take (i := 11) (v := ?_) (by simp only [List.getElem?_toArray, List.getElem?_cons_succ, List.getElem?_cons_zero]; rfl) (by kernel_rfl) (by kernel_rfl) (by kernel_rfl) (fun _ _ _ h => h) (Or.inl ⟨by rfl, ?_⟩) (by assumption) ?_; rotate_left; (focus (intro w hSw; (try dsimp only at hSw); go_simp; (try with_reducible rfl); done)); (try simp only [Act.put, List.setIfInBounds_toArray, List.set_cons_zero, List.set_cons_succ]))
            (refine wpAnyH_take (i := 12) (v := ?_) (by simp only [List.getElem?_toArray, List.getElem?_cons_succ, List.getElem?_cons_zero]; rfl) (by kernel_rfl) (by kernel_rfl) (by kernel_rfl) (fun _ _ _ h => h) (Or.inl ⟨by rfl, ?_⟩) (by assumption) ?_; rotate_left; (focus (intro w hSw; (try dsimp only at hSw); go_simp; (try with_reducible rfl); done)); (try simp only [Act.put, List.setIfInBounds_toArray, List.set_cons_zero, List.set_cons_succ]))
            (refine wpAnyH_take (i := 13) (v := ?_) (by simp only [List.getElem?_toArray, List.getElem?_cons_succ, List.getElem?_cons_zero]; rfl) (by kernel_rfl) (by kernel_rfl) (by kernel_rfl) (fun _ _ _ h => h) (Or.inl ⟨by rfl, ?_⟩) (by assumption) ?_; rotate_left; (focus (intro w hSw; (try dsimp only at hSw); go_simp; (try with_reducible rfl); done)); (try simp only [Act.put, List.setIfInBounds_toArray, List.set_cons_zero, List.set_cons_succ]))
            (refine wpAnyH_ready (rs := [9]) (by kernel_rfl) (by simp) ?_; refine AllReadyH.cons (by simp only [List.getElem?_toArray, List.getElem?_cons_succ, List.getElem?_cons_zero]; rfl) (fun K hK => ?_) AllReadyH.nil; go_simp; (go_at_call 18; (try rw [hw1]); (with_reducible refine (show_calls _ _ (by omega) (by omega) (Tabs.below HT.out (below_step HB1.out (sw_b (by assumption))))).mono ?_); rintro e w9 ⟨rfl, hb⟩); refine hK.out _ _ (by (try dsimp only); (first | assumption | exact sw_drew hS | exact sw_below hb (by assumption) | exact sw_alloc (by assumption) _)) ?_; clear hK K hHeld; intro hHeld; (try simp only [Act.put, List.setIfInBounds_toArray, List.set_cons_zero, List.set_cons_succ]))
            (refine wpAnyH_ready (rs := [14]) (by kernel_rfl) (by simp) ?_; refine AllReadyH.cons (by simp only [List.getElem?_toArray, List.getElem?_cons_succ, List.getElem?_cons_zero]; rfl) (fun K hK => ?_) AllReadyH.nil; go_simp; (go_at_call 18; (try rw [hw2]); (with_reducible refine (show_calls _ _ (by omega) (by omega) (Tabs.below HT.out (below_step HB1.out (sw_b (by assumption))))).mono ?_); rintro e w14 ⟨rfl, hb⟩); refine hK.out _ _ (by (try dsimp only); (first | assumption | exact sw_drew hS | exact sw_below hb (by assumption) | exact sw_alloc (by assumption) _)) ?_; clear hK K hHeld; intro hHeld; (try simp only [Act.put, List.setIfInBounds_toArray, List.set_cons_zero, List.set_cons_succ]))
            have hH14 := hHeld
            (refine wpAnyH_ready (rs := [15]) (by kernel_rfl) (by simp) ?_; refine AllReadyH.cons (by simp only [List.getElem?_toArray, List.getElem?_cons_succ, List.getElem?_cons_zero]; rfl) (fun K hK => ?_) AllReadyH.nil; go_simp; skip; refine hK.out _ _ (by (try dsimp only); (first | assumption | exact sw_drew hS | exact sw_below hb (by assumption) | exact sw_alloc (by assumption) _)) ?_; clear hK K hHeld; intro hHeld; (try simp only [Act.put, List.setIfInBounds_toArray, List.set_cons_zero, List.set_cons_succ]))
            (refine wpAnyH_take (i := 16) (v := ?_) (by simp only [List.getElem?_toArray, List.getElem?_cons_succ, List.getElem?_cons_zero]; rfl) (by kernel_rfl) (by kernel_rfl) (by kernel_rfl) (fun _ _ _ h => h) (Or.inl ⟨by rfl, ?_⟩) (by assumption) ?_; rotate_left; (focus (intro w hSw; (try dsimp only at hSw); go_simp; (try with_reducible rfl); done)); (try simp only [Act.put, List.setIfInBounds_toArray, List.set_cons_zero, List.set_cons_succ]))
            (refine wpAnyH_done (by kernel_rfl) ?_ _; refine NoPanic.normal ?_)
            have HBH := Aside0.mk HB1.out
            clear HB
            have HB := Aside0.mk (sw_b hHeld)
            have HQ2 := Aside0.mk ((HB.out.block w.heap.size (Array.getElem?_eq_some_iff.1 HQ1.out).1).trans HQ1.out)
            have HX2 := Aside0.mk ((HB.out.block wr.heap.size (Array.getElem?_eq_some_iff.1 HX1.out).1).trans HX1.out)
            have a6 := blk_cells HQ2.out 6 _ rfl
            have b1 := blk_cells HX2.out 1 _ rfl
            have b3 := blk_cells HX2.out 3 _ rfl
            have hwl := wordsOf_ok a0_6 cm x hck hxb
            have hls := lineB_size _ hwl
            have HWL := Aside0.mk hwl
            clear hS hHeld hwl
            have HAL := Aside0.mk hal.out
            have hacl : acc.length ≤ 6000000 := by have h1 := hal.out; have h2 := capB_le pos (by omega); omega
            cases a0_6
            · have HW2 : Aside0 (okW ([(⟨#[86, 65, 76, 85, 69]⟩ : ByteArray), cm.f1, showI x.f2, showI (x.f1.length : Int)]) = true) := ⟨HWL.out⟩
              replace hls : (lineB ([(⟨#[86, 65, 76, 85, 69]⟩ : ByteArray), cm.f1, showI x.f2, showI (x.f1.length : Int)])).size ≤ 50002 := hls
              go_upto_region 10 with (first
                | (go_at_call 20; (refine (textout_line.calls _ _ ([(⟨#[86, 65, 76, 85, 69]⟩ : ByteArray), cm.f1, showI x.f2, showI (x.f1.length : Int)]) _ _ ?hCC (by simp) (line_f _ HW2.out)).mono ?_); (case hCC => exact Strs_at (ha_at rfl) _ (by simp) rfl); rintro e w16 ⟨rfl, hb⟩; have HBn := Aside0.mk (below_step (by repeat (first | (with_reducible first | exact HB.out | apply below_alloc | apply pw_below_drewN | apply below_drew1) | exact HB.out)) hb); clear HB; have HB := HBn; clear HBn; clear hb; have HQ3 := Aside0.mk ((HB.out.block w.heap.size (Array.getElem?_eq_some_iff.1 HQ1.out).1).trans HQ1.out); have HX3 := Aside0.mk ((HB.out.block wr.heap.size (Array.getElem?_eq_some_iff.1 HX1.out).1).trans HX1.out); have hz16 := HB.out.size; have hz1 := HBH.out.size)
                | (go_at_call 19; (with_reducible refine (writes_calls w.heap.size (w.heap.size + 1) acc _ _ (isbuf_below HI1.out HB.out) (by omega) (by omega)).mono ?_); rintro e w17 ⟨rfl, h1, h2, h3⟩; have HI4 := Aside0.mk h1; have HB4 := Aside0.mk ((below_step HBH.out HB.out).trans h2); have HQ4 := Aside0.mk (h3 _ _ HQ3.out (by intro e; injection e; omega) (by intro c fz e; injection e with _ e2 _; exact absurd e2 (by decide))); have HX4 := Aside0.mk (h3 _ _ HX3.out (by intro e; injection e; omega) (by intro c fz e; injection e with _ e2 _; exact absurd e2 (by decide))); clear h1 h2 h3; have b1 := blk_cells HX4.out 1 _ rfl; have hz17 := HB4.out.size))
              go_upto_region 11 with (go_at_call 21; (refine (write_calls w.heap.size (w.heap.size + 1) _ B3 d3 x.f1 _ HI4.out (Kd.C_below HC3.out HB4.out) hz17 HAb.out (by rw [List.length_append, bytesOf_length]; omega)).mono ?_); rintro e w18 ⟨n18, rfl, h1, h2, h3⟩; have HI5 := Aside0.mk h1; have HB5 := Aside0.mk (HB4.out.trans h2); have HQ5 := Aside0.mk (h3 _ _ HQ4.out (by intro e; injection e; omega) (by intro c fz e; injection e with _ e2 _; exact absurd e2 (by decide))); clear h1 h2 h3; have hz18 := HB5.out.size)
              go_wp2_with (go_at_call 19; (refine (writes_calls w.heap.size (w.heap.size + 1) _ _ _ HI5.out hz18 (by rw [List.length_append, List.length_append, bytesOf_length]; show _ + _ + _ + 2 ≤ _; omega)).mono ?_); rintro e w19 ⟨rfl, h1, h2, h3⟩; have HI6 := Aside0.mk h1; have HB6 := Aside0.mk (HB5.out.trans h2); have HQ6 := Aside0.mk (h3 _ _ HQ5.out (by intro e; injection e; omega) (by intro c fz e; injection e with _ e2 _; exact absurd e2 (by decide))); clear h1 h2 h3)
              go_roundw
              case rel =>
                refine ⟨pos + 1, acc ++ bytesOf (lineB ([(⟨#[86, 65, 76, 85, 69]⟩ : ByteArray), cm.f1, showI x.f2, showI (x.f1.length : Int)])) ++ x.f1 ++ bytesOf (⟨#[13, 10]⟩ : ByteArray), by first | rfl | simp, by omega, HI6.out, HQ6.out, HB6.out, ⟨?_⟩, ⟨?_⟩⟩
                · rw [← hacc.out, HST.out, HCM.out]
                  show _ = acc ++ ((bytesOf (lineB ([(⟨#[86, 65, 76, 85, 69]⟩ : ByteArray), cm.f1, showI x.f2, showI (x.f1.length : Int)])) ++ (x.f1 ++ bytesOf (⟨#[13, 10]⟩ : ByteArray))) ++ _)
                  simp only [List.append_assoc]
                · have h1 := HAL.out
                  have h2 := capB_step pos
                  rw [List.length_append, List.length_append, List.length_append, bytesOf_length, bytesOf_length]
                  show _ + _ + _ + 2 ≤ _
                  omega
              case measure => simp [intOf]; omega
            · obtain ⟨ws, hws⟩ : ∃ ws : List ByteArray, [(⟨#[86, 65, 76, 85, 69]⟩ : ByteArray), cm.f1, showI x.f2, showI (x.f1.length : Int)] ++ [showI x.f3] = ws := ⟨_, rfl⟩
              have HWS : Aside0 (wordsOf true cm x = ws) := ⟨hws⟩
              have HW2 : Aside0 (okW ws = true) := ⟨by rw [← HWS.out]; exact HWL.out⟩
              replace hls : (lineB ws).size ≤ 50002 := by rw [← HWS.out]; exact hls
              have hz14 : W1.heap.size ≤ w14.heap.size := by have := (sw_b hH14).size; exact this
              have HO1 : Aside0 ((Kd.scalar Value.string (fun _ => rfl)).R 9 (w14.alloc (.cells #[.string (⟨#[86, 65, 76, 85, 69]⟩ : ByteArray), .string cm.f1, .string (showI x.f2), .string (showI (x.f1.length : Int))] 9)) W1.heap.size (fun _ => True) (.slice (some ⟨w14.heap.size, 0, none⟩) 4 4) [(⟨#[86, 65, 76, 85, 69]⟩ : ByteArray), cm.f1, showI x.f2, showI (x.f1.length : Int)]) := ⟨Kd.R_of_own (World.ownsRow_lit w14 #[.string (⟨#[86, 65, 76, 85, 69]⟩ : ByteArray), .string cm.f1, .string (showI x.f2), .string (showI (x.f1.length : Int))] 4 hz14 (by decide) rfl) (fun _ _ => trivial)⟩
              go_upto_region 10 with (first
                | (go_at_call 18; (refine (show_calls _ _ (by omega) (by omega) (Tabs.below HT.out (below_step HBH.out (by repeat (first | (with_reducible first | exact HB.out | apply below_alloc | apply pw_below_drewN | apply below_drew1) | exact HB.out))))).mono ?_); rintro e w15 ⟨rfl, hb⟩; have HO2 := Aside0.mk (Kd.R_below HO1.out hb); have HBn := Aside0.mk (below_step (by repeat (first | (with_reducible first | exact HB.out | apply below_alloc | apply pw_below_drewN | apply below_drew1) | exact HB.out)) hb); clear HB; have HB := HBn; clear HBn; clear hb; have hz15 := HB.out.size)
                | ((with_reducible refine gate_dst (N := 50) rfl ?_); refine Kd.R_append_row (α := ByteArray) Value.string ⟨#[]⟩ (w0 := W1) W1.heap.size rfl (.tmp 45) (.tmp 49) 24 9 (.string ⟨#[]⟩) 16 rfl Tryd.underlying24 infoStr rfl (by decide) (.slice (some ⟨w14.heap.size, 0, none⟩) 4 4) [(⟨#[86, 65, 76, 85, 69]⟩ : ByteArray), cm.f1, showI x.f2, showI (x.f1.length : Int)] [showI x.f3] (some ⟨w15.heap.size, 0, none⟩) 1 1 (fun _ => True) rfl rfl (fun _ _ => trivial) (Kd.R_alloc HO2.out _) (Strs_at (ha_at rfl) [showI x.f3] (by simp) rfl) (by repeat (first | (with_reducible first | exact HB.out | apply below_alloc | apply pw_below_drewN | apply below_drew1) | exact HB.out)) (by simp; omega) (by simp) ?_; intro v1 w15a ho1 hb1 _ _; rw [hws] at ho1; obtain ⟨A5, c5, rfl, hlc, hcc⟩ := Kd.R_reads ho1; have HCC : Aside0 (Kd.string.C w15a A5 ws.length ws) := ⟨hcc⟩; clear HB ho1 hcc; have HB := Aside0.mk hb1; clear hb1)
                | (go_at_call 20; (refine (textout_line.calls _ _ ws _ _ HCC.out hlc (line_f _ HW2.out)).mono ?_); rintro e w16 ⟨rfl, hb⟩; have HBn := Aside0.mk (below_step (by repeat (first | (with_reducible first | exact HB.out | apply below_alloc | apply pw_below_drewN | apply below_drew1) | exact HB.out)) hb); clear HB; have HB := HBn; clear HBn; clear hb; have HQ3 := Aside0.mk ((HB.out.block w.heap.size (Array.getElem?_eq_some_iff.1 HQ1.out).1).trans HQ1.out); have HX3 := Aside0.mk ((HB.out.block wr.heap.size (Array.getElem?_eq_some_iff.1 HX1.out).1).trans HX1.out); have hz16 := HB.out.size; have hz1 := HBH.out.size)
                | (go_at_call 19; (with_reducible refine (writes_calls w.heap.size (w.heap.size + 1) acc _ _ (isbuf_below HI1.out HB.out) (by omega) (by omega)).mono ?_); rintro e w17 ⟨rfl, h1, h2, h3⟩; have HI4 := Aside0.mk h1; have HB4 := Aside0.mk ((below_step HBH.out HB.out).trans h2); have HQ4 := Aside0.mk (h3 _ _ HQ3.out (by intro e; injection e; omega) (by intro c fz e; injection e with _ e2 _; exact absurd e2 (by decide))); have HX4 := Aside0.mk (h3 _ _ HX3.out (by intro e; injection e; omega) (by intro c fz e; injection e with _ e2 _; exact absurd e2 (by decide))); clear h1 h2 h3; have b1 := blk_cells HX4.out 1 _ rfl; have hz17 := HB4.out.size))
              go_upto_region 11 with (go_at_call 21; (refine (write_calls w.heap.size (w.heap.size + 1) _ B3 d3 x.f1 _ HI4.out (Kd.C_below HC3.out HB4.out) hz17 HAb.out (by rw [List.length_append, bytesOf_length]; omega)).mono ?_); rintro e w18 ⟨n18, rfl, h1, h2, h3⟩; have HI5 := Aside0.mk h1; have HB5 := Aside0.mk (HB4.out.trans h2); have HQ5 := Aside0.mk (h3 _ _ HQ4.out (by intro e; injection e; omega) (by intro c fz e; injection e with _ e2 _; exact absurd e2 (by decide))); clear h1 h2 h3; have hz18 := HB5.out.size)
              go_wp2_with (go_at_call 19; (refine (writes_calls w.heap.size (w.heap.size + 1) _ _ _ HI5.out hz18 (by rw [List.length_append, List.length_append, bytesOf_length]; show _ + _ + _ + 2 ≤ _; omega)).mono ?_); rintro e w19 ⟨rfl, h1, h2, h3⟩; have HI6 := Aside0.mk h1; have HB6 := Aside0.mk (HB5.out.trans h2); have HQ6 := Aside0.mk (h3 _ _ HQ5.out (by intro e; injection e; omega) (by intro c fz e; injection e with _ e2 _; exact absurd e2 (by decide))); clear h1 h2 h3)
              go_roundw
              case rel =>
                refine ⟨pos + 1, acc ++ bytesOf (lineB ws) ++ x.f1 ++ bytesOf (⟨#[13, 10]⟩ : ByteArray), by first | rfl | simp, by omega, HI6.out, HQ6.out, HB6.out, ⟨?_⟩, ⟨?_⟩⟩
                · rw [← hacc.out, HST.out, HCM.out]
                  show _ = acc ++ (pieceI true cm x ++ _)
                  unfold pieceI
                  rw [HWS.out]
                  simp only [List.append_assoc]
                · have h1 := HAL.out
                  have h2 := capB_step pos
                  rw [List.length_append, List.length_append, List.length_append, bytesOf_length, bytesOf_length]
                  show _ + _ + _ + 2 ≤ _
                  omega
              case measure => simp [intOf]; omega
          · have hs1 : (x.f0 == 0) = false := beq_eq_false_iff_ne.2 hs
            have hs2 : (x.f0 != 0) = true := by rw [bne, hs1]; rfl
            rw [if_neg hs] at hst
            have HST := Aside0.mk hst
            clear hst hs
            go_wp2
            go_roundw
            case rel => exact ⟨pos + 1, acc, by first | rfl | simp, by omega, HI.out.alloc _, ha_old HQ.out, below_alloc HB.out _, ⟨by rw [← hacc.out, HST.out]; rfl⟩, ⟨by have h1 := hal.out; have h2 := capB_step pos; omega⟩⟩
            case measure => simp [intOf]; omega
        · have hpci : ¬ (pos : Int) < l0_0.length := by omega
          have HE1 := Aside0.mk (valP_end a0_6 l0_0 l1 pos (Or.inl (by omega)))
          have HE2 := Aside0.mk (valP_end a0_6 l0_0 l1 (pos + 1) (Or.inl (by omega)))
          go_wp2
          go_roundw
          case rel => exact ⟨pos + 1, acc, by first | rfl | simp, by omega, HI.out.alloc _, ha_old HQ.out, below_alloc HB.out _, ⟨by rw [← hacc.out, HE1.out, HE2.out]⟩, ⟨by have h1 := hal.out; have h2 := capB_step pos; omega⟩⟩
          case measure => simp [intOf]; omega
      · have hpi : ¬ (pos : Int) < l1.length := by omega
        have hfin : acc = valP a0_6 l0_0 l1 := by
          have := hacc.out
          rwa [valP_end a0_6 l0_0 l1 pos (Or.inr (by omega)), List.append_nil] at this
        have hal2 : acc.length ≤ 6000000 := by have h1 := hal.out; have h2 := capB_le pos (by omega); omega
        have hle := lineB_size [(⟨#[69, 78, 68]⟩ : ByteArray)] (by decide)
        have HFIN := Aside0.mk hfin
        clear hfin hacc hal a0 a6
        go_wp2_with (first
          | (go_at_call 20; (refine (textout_line.calls _ _ [(⟨#[69, 78, 68]⟩ : ByteArray)] _ _ (Strs_at (ha_at rfl) [(⟨#[69, 78, 68]⟩ : ByteArray)] (by simp) rfl) (Nat.le_refl 1) (line_f _ (by decide))).mono ?_); rintro e w1 ⟨rfl, hb⟩; have HI1 := Aside0.mk (isbuf_below (HI.out.alloc _) hb); have HBn := Aside0.mk (below_step (by repeat (first | (with_reducible first | exact HB.out | apply below_alloc | apply pw_below_drewN | apply below_drew1) | exact HB.out)) hb); clear HB; have HB := HBn; clear HBn; clear hb)
          | (go_at_call 19; (with_reducible refine (writes_calls w.heap.size (w.heap.size + 1) acc _ _ HI1.out (by have := HB.out.size; omega) (by omega)).mono ?_); rintro e w2 ⟨rfl, h1, h2, _⟩; have HI2 := Aside0.mk h1; have HB2 := Aside0.mk (HB.out.trans h2); clear h1 h2)
          | (go_at_call 22; (with_reducible refine (bytes_calls w.heap.size (w.heap.size + 1) _ _ HI2.out).mono ?_); rintro e w3 ⟨v, rfl, hV, hb⟩; have HV := Aside0.mk hV; have HB3 := Aside0.mk (below_step HB2.out hb); clear hV hb))
        go_ret
        rw [← HFIN.out]
        exact ⟨_, rfl, HV.out, HB3.out⟩
  · cases h
end Go.Proofs.YtkolleohenjhmaaDoor.X
