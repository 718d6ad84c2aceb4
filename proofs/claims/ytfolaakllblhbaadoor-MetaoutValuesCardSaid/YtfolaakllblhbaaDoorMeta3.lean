/- Package metaout, third part: what is told of a result, as flags: for letters below 128. -/
import Derived.Test.YtfolaakllblhbaaDoorMeta2
import Derived.LoopTactic
namespace Go.Proofs.YtfolaakllblhbaaDoor.X
open Go.RowKit Go.Proofs.YtfolaakllblhbaaDoorW.PrintWords
set_option linter.unusedVariables false
set_option linter.unusedSimpArgs false

/-- What one letter brings. -/
def mPiece (q : Request) (x : Result) (c : UInt8) (i : Nat) : List UInt8 := if (mTold q x c.toNat i).2 then 32 :: c :: (mTold q x c.toNat i).1.data.toList else []
def mPieces (q : Request) (x : Result) : List UInt8 → Nat → List UInt8
  | [], _ => []
  | c :: r, i => mPiece q x c i ++ mPieces q x r (i + 1)
def mSigns (x : Result) : List UInt8 := (if x.won then [32, 87] else []) ++ ((if x.stale then [32, 88] else []) ++ (if x.lost then [32, 90] else []))
/-- The signs of the first so many places. -/
def mSignsTo (x : Result) (k : Nat) : List UInt8 := (if 1 ≤ k ∧ x.won then [32, 87] else []) ++ ((if 2 ≤ k ∧ x.stale then [32, 88] else []) ++ (if 3 ≤ k ∧ x.lost then [32, 90] else []))
theorem mSignsTo_len (x : Result) (k : Nat) : (mSignsTo x k).length ≤ 6 := by
  unfold mSignsTo
  simp only [List.length_append]
  repeat' split
  all_goals simp
theorem mSigns_yes0 (x : Result) (acc : List UInt8) (h : x.won = true) : Lib.byteCells (acc ++ mSignsTo x 1) = Lib.byteCells (acc ++ mSignsTo x 0) ++ Lib.strCells { data := #[32, 87] } := by
  simp [mSignsTo, h, Lib.byteCells, Lib.strCells]
theorem mSigns_no0 (x : Result) (acc : List UInt8) (h : x.won = false) : Lib.byteCells (acc ++ mSignsTo x 1) = Lib.byteCells (acc ++ mSignsTo x 0) := by
  simp [mSignsTo, h]
theorem mSigns_yes1 (x : Result) (acc : List UInt8) (h : x.stale = true) : Lib.byteCells (acc ++ mSignsTo x 2) = Lib.byteCells (acc ++ mSignsTo x 1) ++ Lib.strCells { data := #[32, 88] } := by
  simp [mSignsTo, h, Lib.byteCells, Lib.strCells]
theorem mSigns_no1 (x : Result) (acc : List UInt8) (h : x.stale = false) : Lib.byteCells (acc ++ mSignsTo x 2) = Lib.byteCells (acc ++ mSignsTo x 1) := by
  simp [mSignsTo, h]
theorem mSigns_yes2 (x : Result) (acc : List UInt8) (h : x.lost = true) : Lib.byteCells (acc ++ mSignsTo x 3) = Lib.byteCells (acc ++ mSignsTo x 2) ++ Lib.strCells { data := #[32, 90] } := by
  simp [mSignsTo, h, Lib.byteCells, Lib.strCells]
theorem mSigns_no2 (x : Result) (acc : List UInt8) (h : x.lost = false) : Lib.byteCells (acc ++ mSignsTo x 3) = Lib.byteCells (acc ++ mSignsTo x 2) := by
  simp [mSignsTo, h]
def mFlagsL (q : Request) (x : Result) : List UInt8 := mPieces q x q.form.flags.data.toList 0 ++ mSigns x
def mFlags (q : Request) (x : Result) : ByteArray := ⟨(mFlagsL q x).toArray⟩

theorem encode_small (n : Nat) (h : n < 128) : (Utf8.encode (n : Int)) = ⟨#[UInt8.ofNat n]⟩ := by
  have hv : Utf8.valid (n : Int) = true := by simp [Utf8.valid]; omega
  unfold Utf8.encode
  simp only [hv, if_true, Int.toNat_natCast]
  rw [if_pos (by omega)]
theorem mPieces_at (q : Request) (x : Result) (l : List UInt8) (pos : Nat) (h : pos < l.length) : mPieces q x (l.drop pos) pos = mPiece q x l[pos] pos ++ mPieces q x (l.drop (pos + 1)) (pos + 1) := by
  rw [List.drop_eq_getElem_cons h]; rfl
theorem mPiece_no (q : Request) (x : Result) (pos : Nat) (hp : pos < q.form.flags.size) (hpd : pos < q.form.flags.data.toList.length) (ht : (mTold q x ((q.form.flags[pos]'hp).toNat : Int) (pos : Int)).2 = false) :
    mPiece q x q.form.flags.data.toList[pos] pos = [] := by
  have e : q.form.flags.data.toList[pos] = q.form.flags[pos]'hp := by rw [Array.getElem_toList]; rfl
  unfold mPiece
  rw [e, ht]
  rfl
theorem mPiece_yes (q : Request) (x : Result) (pos : Nat) (hp : pos < q.form.flags.size) (ht : (mTold q x ((q.form.flags[pos]'hp).toNat : Int) (pos : Int)).2 = true) :
    mPiece q x (q.form.flags[pos]'hp) pos = (({ data := #[32] } ++ { data := #[q.form.flags[pos]'hp] } : ByteArray) ++ (mTold q x ((q.form.flags[pos]'hp).toNat : Int) (pos : Int)).1).data.toList := by
  unfold mPiece
  rw [if_pos ht]
  simp [ByteArray.data_append]
set_option maxHeartbeats 1000000 in
set_option maxRecDepth 100000 in
theorem mFlags_calls (q : Request) (x : Result) (cq cx : List Value) (w : World) (hq : kRequest.K w q cq) (hx : kResult.K w x cx) (hw : x.Wf) (hT : Tabs w)
    (hplain : ∀ c ∈ q.form.flags.data.toList, c.toNat < 128) (hlen : q.form.flags.size ≤ 1000) (htold : ∀ c i, (mTold q x c i).1.size ≤ 1000) :
    Calls Tryd.prog 12 #[.agg cq.toArray, .agg cx.toArray] w fun e w' => e = .returned (.string (mFlags q x)) ∧ Below w.heap.size w w' := by
  obtain ⟨A0, c0, A8, c8, A9, c9, rfl, hl0, hC0, hl8, hC8, hl9, hC9⟩ := kRequest_open hq
  obtain ⟨A, c1, rfl, hl, hC⟩ := kResult_open hx
  have HQ := Aside0.mk (kRequest_mk w q hl0 hC0 hl8 hC8 hl9 hC9)
  have HX := Aside0.mk (kResult_mk w x hl hC)
  have HT := Aside0.mk hT; have HW := Aside0.mk hw
  have HP := Aside0.mk hplain; have HTL := Aside0.mk htold
  clear hT hC hq hx hw hC0 hC8 hC9 hplain htold
  go_enter Tryd.func12, Tryd.ntmps12
  go_wp2
  go_loopw [] (fun wr => ∃ (pos : Nat) (acc : List UInt8), Lib.IsBuilderF 52 5 w.heap.size (w.heap.size + 1 + 1) (Lib.byteCells acc) wr ∧ wr.heap[w.heap.size + 1 + 1 + 1]? = some (.stringIter q.form.flags pos) ∧ wr.heap[w.heap.size]? = some (.cells #[.slice A0 q.cmds.length c0, .int .i64 q.form.dialect, .string q.form.verb, .int .i64 q.form.code, .int .u32 q.form.opq, .bool q.form.quiet, .bool q.form.withcas, .string q.form.flags, .slice A8 q.form.tokens.length c8, .slice A9 q.form.keys.length c9, .bool q.form.base64] 28 (0, 0)) ∧ wr.heap[w.heap.size + 1]? = some (.cells #[.int .i64 x.status, .slice A x.value.length c1, .int .u32 x.flags, .int .u64 x.cas, .int .i64 x.ttl, .int .u64 x.number, .bool x.stale, .bool x.won, .bool x.lost] 33 (0, 0)) ∧ Below w.heap.size w wr ∧ Aside0 (acc ++ mPieces q x (q.form.flags.data.toList.drop pos) pos = mPieces q x q.form.flags.data.toList 0) ∧ pos ≤ q.form.flags.size ∧ Aside0 (acc.length ≤ pos * 1002)) (fun wr => q.form.flags.size - wr.iterPos (w.heap.size + 1 + 1 + 1))
  case atStart =>
    refine ⟨0, [], Or.inl ⟨by omega, .slice none 0 0, ?_, ⟨rfl, Or.inl ⟨rfl, rfl⟩⟩, by simp [Value.ownBlock]⟩, ?_, ?_, ?_, ?_, ⟨rfl⟩, by omega, ⟨by simp⟩⟩
    · exact ha_old (ha_at (by simp))
    · exact ha_at (by simp)
    · exact ha_old (ha_old (ha_old (ha_at rfl)))
    · exact ha_old (ha_old (ha_at (by simp)))
    · exact (((((Below.refl _ w).alloc (Nat.le_refl _) _).alloc (by simp) _).alloc (by simp; omega) _).alloc (by simp; omega) _)
  case round =>
    obtain ⟨pos, acc, hI, hit, hqb, hxb, hbw, hacc, hps, hal⟩ := hrel
    have hsz : w.heap.size + 1 + 1 + 1 < wr.heap.size := (Array.getElem?_eq_some_iff.1 hit).1
    by_cases hp : pos < q.form.flags.size
    · have hpd : pos < q.form.flags.data.toList.length := by rw [Array.length_toList]; exact hp
      have hpl : (q.form.flags[pos]'hp).toNat < 128 := HP.out _ (by show (q.form.flags.data[pos]'hp) ∈ _; simp)
      have hnx : ∀ ty, (Instr.next (.pointer (some ⟨w.heap.size + 1 + 1 + 1, 0, none⟩)) true ty).run Tryd.prog wr = _ := fun ty => Lib.run_next_ascii_at wr (w.heap.size + 1 + 1 + 1) q.form.flags pos ty hit hp hpl
      have hI2 := hI.iterAt hit (pos + 1)
      have hit2 := Lib.iterAt_heap wr (w.heap.size + 1 + 1 + 1) q.form.flags pos (pos + 1) hit
      have hbw2 := Lib.below_iterAt hbw (k := w.heap.size + 1 + 1 + 1) (by omega) q.form.flags (pos + 1)
      have hqb2 := (Lib.iterAt_other wr (w.heap.size + 1 + 1 + 1) (w.heap.size) q.form.flags (pos + 1) (by omega)).trans hqb
      have hxb2 := (Lib.iterAt_other wr (w.heap.size + 1 + 1 + 1) (w.heap.size + 1) q.form.flags (pos + 1) (by omega)).trans hxb
      have hsz2 : w.heap.size + 1 + 1 + 1 < (wr.iterAt (w.heap.size + 1 + 1 + 1) q.form.flags (pos + 1)).heap.size := by rw [Lib.iterAt_size]; omega
      generalize wr.iterAt (w.heap.size + 1 + 1 + 1) q.form.flags (pos + 1) = W2 at *
      have hwsz := hbw2.size
      have q0 := fun j v => blk_cells hqb2 j v
      have x0 := fun j v => blk_cells hxb2 j v
      have a0 := q0 0 _ rfl; have a1 := q0 1 _ rfl; have a2 := q0 2 _ rfl; have a3 := q0 3 _ rfl; have a4 := q0 4 _ rfl; have a5 := q0 5 _ rfl; have a6 := q0 6 _ rfl; have a7 := q0 7 _ rfl; have a8 := q0 8 _ rfl; have a9 := q0 9 _ rfl; have a10 := q0 10 _ rfl
      have b0 := x0 0 _ rfl; have b1 := x0 1 _ rfl; have b2 := x0 2 _ rfl; have b3 := x0 3 _ rfl; have b4 := x0 4 _ rfl; have b5 := x0 5 _ rfl; have b6 := x0 6 _ rfl; have b7 := x0 7 _ rfl; have b8 := x0 8 _ rfl
      have HB := Aside0.mk hbw2; have HI := Aside0.mk hI2; have HIT := Aside0.mk hit2
      clear q0 x0 hqb hxb hI hbw hbw2 hI2 hit2 hsz
      go_wp2_with (go_at_call 24; (with_reducible refine (mTold_calls q x _ _ _ _ _ (kRequest.K_below (by repeat (first | (with_reducible first | exact HB.out | apply below_alloc | apply pw_below_drewN | apply below_drew1) | exact HB.out)) HQ.out) (kResult.K_below (by repeat (first | (with_reducible first | exact HB.out | apply below_alloc | apply pw_below_drewN | apply below_drew1) | exact HB.out)) HX.out) HW.out (by omega) (Tabs.below HT.out (by repeat (first | (with_reducible first | exact HB.out | apply below_alloc | apply pw_below_drewN | apply below_drew1) | exact HB.out)))).mono ?_))
      rintro e w1 ⟨rfl, hb⟩
      obtain ⟨hc, hf⟩ := bcell hb
      have HI1 := Aside0.mk (Lib.IsBuilderF.below HI.out hb)
      have HIT1 := Aside0.mk ((hb.block _ hsz2).trans HIT.out)
      have HQ1 := Aside0.mk ((hb.block _ (by omega)).trans hqb2)
      have HX1 := Aside0.mk ((hb.block _ (by omega)).trans hxb2)
      have hs1 := hb.size
      have HBn := Aside0.mk (below_step (by repeat (first | (with_reducible first | exact HB.out | apply below_alloc | apply pw_below_drewN | apply below_drew1) | exact HB.out)) hb); clear HB; have HB := HBn; clear HBn
      clear hb hqb2 hxb2
      cases ht : (mTold q x ((q.form.flags[pos]'hp).toNat : Int) (pos : Int)).2
      · go_wp2
        go_roundw
        case rel =>
          refine ⟨pos + 1, acc, HI1.out, HIT1.out, HQ1.out, HX1.out, HB.out, ⟨?_⟩, by omega, ⟨by have := hal.out; omega⟩⟩
          rw [← hacc.out, mPieces_at q x _ pos hpd, mPiece_no q x pos hp hpd ht, List.nil_append]
        case measure =>
          rw [iter_pos HIT1.out, iter_pos hit]
          omega
      · have hts := HTL.out ((q.form.flags[pos]'hp).toNat : Int) (pos : Int)
        have henc := encode_small _ hpl
        go_wp2_with (go_at_call 25; (with_reducible refine (writeString_k w.heap.size (w.heap.size + 1 + 1) (Lib.byteCells acc) _ _ HI1.out ?_ ?_).mono ?_))
        · have := hal.out
          rw [Lib.byteCells_length, ByteArray.size_append, ByteArray.size_append]
          show acc.length + (1 + 1 + _) ≤ _
          omega
        · omega
        rintro e w2 ⟨rfl, h1, b1, k1⟩
        have HI2 := Aside0.mk h1
        have HIT2 := Aside0.mk (k1.iter HIT1.out (by omega))
        have HQ2 := Aside0.mk (k1 _ _ HQ1.out (by simp; omega) (by simp))
        have HX2 := Aside0.mk (k1 _ _ HX1.out (by simp) (by simp))
        have HB2 := Aside0.mk (HB.out.trans b1)
        clear h1 k1 b1
        go_wp2
        go_roundw
        case rel =>
          refine ⟨pos + 1, acc ++ mPiece q x (q.form.flags[pos]'hp) pos, Or.inr ?_, HIT2.out, HQ2.out, HX2.out, HB2.out, ⟨?_⟩, by omega, ⟨?_⟩⟩
          · rw [mPiece_yes q x pos hp ht, Lib.byteCells_append]
            exact HI2.out
          · rw [← hacc.out, mPieces_at q x _ pos hpd, List.append_assoc]
            rfl
          · have := hal.out
            rw [mPiece_yes q x pos hp ht, List.length_append, Array.length_toList]
            show acc.length + (({ data := #[32] } ++ { data := #[q.form.flags[pos]'hp] } : ByteArray) ++ (mTold q x ((q.form.flags[pos]'hp).toNat : Int) (pos : Int)).1).size ≤ _
            rw [ByteArray.size_append, ByteArray.size_append]
            show acc.length + (1 + 1 + _) ≤ _
            omega
        case measure =>
          rw [iter_pos HIT2.out, iter_pos hit]
          omega
    · have hnx : ∀ ty, (Instr.next (.pointer (some ⟨w.heap.size + 1 + 1 + 1, 0, none⟩)) true ty).run Tryd.prog wr = _ := fun ty => Lib.run_next_end_at wr (w.heap.size + 1 + 1 + 1) q.form.flags pos ty hit hp
      have hall : mPieces q x q.form.flags.data.toList 0 = acc := by
        rw [← hacc.out, List.drop_of_length_le (by rw [Array.length_toList]; show q.form.flags.size ≤ _; omega)]
        simp [mPieces]
      have hal2 : acc.length ≤ 1002000 := by have := hal.out; have : pos * 1002 ≤ 1000 * 1002 := Nat.mul_le_mul_right _ (by omega); omega
      have HALL := Aside0.mk hall; have HI := Aside0.mk hI; have HB := Aside0.mk hbw; have HAL := Aside0.mk hal2
      have x0 := fun j v => blk_cells hxb j v
      have b6 := x0 6 _ rfl; have b7 := x0 7 _ rfl; have b8 := x0 8 _ rfl
      obtain ⟨s6, h6⟩ : ∃ b, x.stale = b := ⟨_, rfl⟩
      obtain ⟨s7, h7⟩ : ∃ b, x.won = b := ⟨_, rfl⟩
      obtain ⟨s8, h8⟩ : ∃ b, x.lost = b := ⟨_, rfl⟩
      rw [h6] at b6; rw [h7] at b7; rw [h8] at b8
      have H6 := Aside0.mk h6; have H7 := Aside0.mk h7; have H8 := Aside0.mk h8
      clear h6 h7 h8
      have g0 : ∀ w, (Instr.index 60 (.agg #[.bool s7, .string { data := #[32, 87] }, .bool s6, .string { data := #[32, 88] }, .bool s8, .string { data := #[32, 90] }]) (.int .i64 0)).run Tryd.prog w = .ok (.agg #[.bool s7, .string { data := #[32, 87] }]) w := fun _ => by kernel_rfl
      have g1 : ∀ w, (Instr.index 60 (.agg #[.bool s7, .string { data := #[32, 87] }, .bool s6, .string { data := #[32, 88] }, .bool s8, .string { data := #[32, 90] }]) (.int .i64 1)).run Tryd.prog w = .ok (.agg #[.bool s6, .string { data := #[32, 88] }]) w := fun _ => by kernel_rfl
      have g2 : ∀ w, (Instr.index 60 (.agg #[.bool s7, .string { data := #[32, 87] }, .bool s6, .string { data := #[32, 88] }, .bool s8, .string { data := #[32, 90] }]) (.int .i64 2)).run Tryd.prog w = .ok (.agg #[.bool s8, .string { data := #[32, 90] }]) w := fun _ => by kernel_rfl
      clear x0 hqb hxb hI hbw hacc hal hall hal2 hit
      go_wp2
      go_loopw [45] (fun v wr => ∃ k : Nat, k ≤ 3 ∧ v = .int .i64 k ∧ Lib.IsBuilderF 52 5 w.heap.size (w.heap.size + 1 + 1) (Lib.byteCells (acc ++ mSignsTo x k)) wr ∧ Below w.heap.size w wr) (fun v _ => 3 - (intOf v).toNat)
      case atStart => exact ⟨0, by omega, rfl, by simpa [mSignsTo] using HI.out, HB.out⟩
      case round =>
        obtain ⟨k, hk, rfl, hI, hbw⟩ := hrel
        have hl6 := mSignsTo_len x k
        have HI := Aside0.mk hI; have HB := Aside0.mk hbw
        have hwsz := hbw.size
        clear hI hbw
        have hk4 : k = 0 ∨ k = 1 ∨ k = 2 ∨ k = 3 := by omega
        clear hk
        rcases hk4 with rfl | rfl | rfl | rfl
        · go_wp2_with (go_at_call 25; (with_reducible refine (writeString_k w.heap.size (w.heap.size + 1 + 1) (Lib.byteCells (acc ++ mSignsTo x 0)) _ _ (HI.out.alloc _) ?_ ?_).mono ?_))
          · have := HAL.out
            rw [Lib.byteCells_length, List.length_append]
            show _ + _ + 2 ≤ _
            omega
          · simp; omega
          · rintro e w2 ⟨rfl, h1, b1, k1⟩
            have H1 := Aside0.mk h1; have B1 := Aside0.mk (HB.out.trans ((Below.refl _ wr).alloc (by omega) _ |>.trans b1))
            clear h1 k1 b1
            go_wp2
            have hs : s7 = true := by assumption
            subst hs
            refine ⟨⟨_, _, _, _, _, _, _, _, _, _, ⟨1, by omega, rfl, Or.inr ?_, B1.out⟩, rfl⟩, by simp [intOf]⟩
            rw [mSigns_yes0 x acc H7.out]
            exact H1.out
          · refine ⟨⟨1, by omega, rfl, ?_, HB.out.trans ((Below.refl _ wr).alloc (by omega) _)⟩, by simp [intOf]⟩
            rw [mSigns_no0 x acc (H7.out.trans (by assumption))]
            exact HI.out.alloc _
        · go_wp2_with (go_at_call 25; (with_reducible refine (writeString_k w.heap.size (w.heap.size + 1 + 1) (Lib.byteCells (acc ++ mSignsTo x 1)) _ _ (HI.out.alloc _) ?_ ?_).mono ?_))
          · have := HAL.out
            rw [Lib.byteCells_length, List.length_append]
            show _ + _ + 2 ≤ _
            omega
          · simp; omega
          · rintro e w2 ⟨rfl, h1, b1, k1⟩
            have H1 := Aside0.mk h1; have B1 := Aside0.mk (HB.out.trans ((Below.refl _ wr).alloc (by omega) _ |>.trans b1))
            clear h1 k1 b1
            go_wp2
            have hs : s6 = true := by assumption
            subst hs
            refine ⟨⟨_, _, _, _, _, _, _, _, _, _, ⟨2, by omega, rfl, Or.inr ?_, B1.out⟩, rfl⟩, by simp [intOf]⟩
            rw [mSigns_yes1 x acc H6.out]
            exact H1.out
          · refine ⟨⟨2, by omega, rfl, ?_, HB.out.trans ((Below.refl _ wr).alloc (by omega) _)⟩, by simp [intOf]⟩
            rw [mSigns_no1 x acc (H6.out.trans (by assumption))]
            exact HI.out.alloc _
        · go_wp2_with (go_at_call 25; (with_reducible refine (writeString_k w.heap.size (w.heap.size + 1 + 1) (Lib.byteCells (acc ++ mSignsTo x 2)) _ _ (HI.out.alloc _) ?_ ?_).mono ?_))
          · have := HAL.out
            rw [Lib.byteCells_length, List.length_append]
            show _ + _ + 2 ≤ _
            omega
          · simp; omega
          · rintro e w2 ⟨rfl, h1, b1, k1⟩
            have H1 := Aside0.mk h1; have B1 := Aside0.mk (HB.out.trans ((Below.refl _ wr).alloc (by omega) _ |>.trans b1))
            clear h1 k1 b1
            go_wp2
            have hs : s8 = true := by assumption
            subst hs
            refine ⟨⟨_, _, _, _, _, _, _, _, _, _, ⟨3, by omega, rfl, Or.inr ?_, B1.out⟩, rfl⟩, by simp [intOf]⟩
            rw [mSigns_yes2 x acc H8.out]
            exact H1.out
          · refine ⟨⟨3, by omega, rfl, ?_, HB.out.trans ((Below.refl _ wr).alloc (by omega) _)⟩, by simp [intOf]⟩
            rw [mSigns_no2 x acc (H8.out.trans (by assumption))]
            exact HI.out.alloc _
        · have hfin : mFlags q x = ⟨(acc ++ mSignsTo x 3).toArray⟩ := by
            unfold mFlags mFlagsL
            rw [HALL.out]
            simp [mSigns, mSignsTo]
          have HF := Aside0.mk hfin
          clear hfin
          go_wp2_with (go_at_call 26; (with_reducible refine (Tryd.Builder_String_any_k w.heap.size (w.heap.size + 1 + 1) (acc ++ mSignsTo x 3) _ HI.out (by omega)).mono ?_); rintro e w2 ⟨rfl, h1, b1, k1⟩)
          go_ret
          exact ⟨by rw [HF.out]; rfl, HB.out.trans b1⟩
end Go.Proofs.YtfolaakllblhbaaDoor.X
