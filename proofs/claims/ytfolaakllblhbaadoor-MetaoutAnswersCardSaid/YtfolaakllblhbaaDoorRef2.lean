/- The reference of chapter 19, second part: what is told as flags. -/
import Derived.Test.YtfolaakllblhbaaDoorRef1
import Derived.LoopTactic
namespace Go.Proofs.YtfolaakllblhbaaDoor.X
open Go.RowKit Go.Proofs.YtfolaakllblhbaaDoorW.PrintWords
set_option linter.unusedVariables false
set_option linter.unusedSimpArgs false

theorem rPiece_m (q : Request) (x : Result) (pos : Nat) (hp : pos < q.form.flags.size) : rPiece q x (bt q.form.flags pos) pos = ⟨(mPiece q x (q.form.flags[pos]'hp) pos).toArray⟩ := by
  have hb : bt q.form.flags pos = ((q.form.flags[pos]'hp).toNat : Int) := by rw [← bt_at q.form.flags pos (by simpa using hp)]; rfl
  rw [hb]
  unfold rPiece mPiece
  split
  · apply ByteArray.ext
    rw [Int.toNat_natCast]
    simp [ByteArray.data_append]
  · rfl
theorem bs_app (a b : List UInt8) : (⟨a.toArray⟩ : ByteArray) ++ ⟨b.toArray⟩ = ⟨(a ++ b).toArray⟩ := by
  apply ByteArray.ext
  simp [ByteArray.data_append]
theorem bs_size (a : List UInt8) : (⟨a.toArray⟩ : ByteArray).size = a.length := by simp [ByteArray.size]
theorem mPiece_len (q : Request) (x : Result) (htold : ∀ c i, (mTold q x c i).1.size ≤ 1000) (c : UInt8) (i : Nat) : (mPiece q x c i).length ≤ 1002 := by
  have h := htold (c.toNat : Int) (i : Int)
  unfold mPiece
  split
  · simp only [List.length_cons, Array.length_toList]
    have e : (mTold q x (c.toNat : Int) (i : Int)).1.data.size = (mTold q x (c.toNat : Int) (i : Int)).1.size := rfl
    omega
  · simp
theorem mFlags_list (q : Request) (x : Result) (acc : List UInt8) (h : mPieces q x q.form.flags.data.toList 0 = acc) : mFlags q x = (⟨acc.toArray⟩ : ByteArray) ++ ⟨(mSigns x).toArray⟩ := by
  unfold mFlags mFlagsL
  rw [h, bs_app]
set_option maxHeartbeats 1000000 in
set_option maxRecDepth 100000 in
theorem rFlags_calls (q : Request) (x : Result) (cq cx : List Value) (w : World) (hq : kRequest.K w q cq) (hx : kResult.K w x cx) (hw : x.Wf) (hval : x.value.length ≤ 1000000)
    (hlen : q.form.flags.size ≤ 1000) (htold : ∀ c i, (mTold q x c i).1.size ≤ 1000) :
    Calls Tryd.prog 13 #[.agg cq.toArray, .agg cx.toArray] w fun e w' => e = .returned (.string (mFlags q x)) ∧ Below w.heap.size w w' := by
  obtain ⟨A0, c0, A8, c8, A9, c9, rfl, hl0, hC0, hl8, hC8, hl9, hC9⟩ := kRequest_open hq
  obtain ⟨A, c1, rfl, hl, hC⟩ := kResult_open hx
  have HQ := Aside0.mk (kRequest_mk w q hl0 hC0 hl8 hC8 hl9 hC9)
  have HX := Aside0.mk (kResult_mk w x hl hC)
  have HW := Aside0.mk hw; have HTL := Aside0.mk htold
  clear hC hq hx hw hC0 hC8 hC9 htold
  go_enter Tryd.func13, Tryd.ntmps13
  go_wp2
  go_loopw [5, 6] (fun v5 v6 wr => ∃ (pos : Nat) (acc : List UInt8), v5 = .string ⟨acc.toArray⟩ ∧ v6 = .int .i64 pos ∧ wr.heap[w.heap.size]? = some (.cells #[.slice A0 q.cmds.length c0, .int .i64 q.form.dialect, .string q.form.verb, .int .i64 q.form.code, .int .u32 q.form.opq, .bool q.form.quiet, .bool q.form.withcas, .string q.form.flags, .slice A8 q.form.tokens.length c8, .slice A9 q.form.keys.length c9, .bool q.form.base64] 28 (0, 0)) ∧ wr.heap[w.heap.size + 1]? = some (.cells #[.int .i64 x.status, .slice A x.value.length c1, .int .u32 x.flags, .int .u64 x.cas, .int .i64 x.ttl, .int .u64 x.number, .bool x.stale, .bool x.won, .bool x.lost] 33 (0, 0)) ∧ Below w.heap.size w wr ∧ Aside0 (acc ++ mPieces q x (q.form.flags.data.toList.drop pos) pos = mPieces q x q.form.flags.data.toList 0) ∧ pos ≤ q.form.flags.size ∧ Aside0 (acc.length ≤ pos * 1002)) (fun v5 v6 _ => q.form.flags.size - (intOf v6).toNat)
  case atStart =>
    refine ⟨0, [], rfl, rfl, ?_, ?_, ?_, ⟨by simp⟩, by omega, ⟨by simp⟩⟩
    · exact ha_old (ha_at rfl)
    · exact ha_at (by simp)
    · exact (((Below.refl _ w).alloc (Nat.le_refl _) _).alloc (by simp) _)
  case round =>
    obtain ⟨pos, acc, rfl, rfl, hqb, hxb, hbw, hacc, hps, hal⟩ := hrel
    have hsz : w.heap.size + 1 < wr.heap.size := (Array.getElem?_eq_some_iff.1 hxb).1
    have hwsz := hbw.size
    have q0 := fun j v => blk_cells hqb j v
    have x0 := fun j v => blk_cells hxb j v
    have a0 := q0 0 _ rfl; have a1 := q0 1 _ rfl; have a2 := q0 2 _ rfl; have a3 := q0 3 _ rfl; have a4 := q0 4 _ rfl; have a5 := q0 5 _ rfl; have a6 := q0 6 _ rfl; have a7 := q0 7 _ rfl; have a8 := q0 8 _ rfl; have a9 := q0 9 _ rfl; have a10 := q0 10 _ rfl
    have b0 := x0 0 _ rfl; have b1 := x0 1 _ rfl; have b2 := x0 2 _ rfl; have b3 := x0 3 _ rfl; have b4 := x0 4 _ rfl; have b5 := x0 5 _ rfl; have b6 := x0 6 _ rfl; have b7 := x0 7 _ rfl; have b8 := x0 8 _ rfl
    have HB := Aside0.mk hbw; have HQB := Aside0.mk hqb; have HXB := Aside0.mk hxb
    clear q0 x0 hqb hxb hbw
    have hal2 : acc.length ≤ 1002000 := by have := hal.out; have : pos * 1002 ≤ 1000 * 1002 := Nat.mul_le_mul_right _ (by omega); omega
    have hasz := bs_size acc
    by_cases hp : pos < q.form.flags.size
    · have hpi : (pos : Int) < q.form.flags.size := by omega
      have hpd : pos < q.form.flags.data.toList.length := by rw [Array.length_toList]; exact hp
      have hpl := mPiece_len q x HTL.out (q.form.flags[pos]'hp) pos
      have hm := rPiece_m q x pos hp
      have hp2 := bs_size (mPiece q x (q.form.flags[pos]'hp) pos)
      go_wp2_with (go_at_call 27; (with_reducible refine (rTold_calls q x _ _ _ _ (kRequest.K_below (by repeat (first | (with_reducible first | exact HB.out | apply below_alloc | apply pw_below_drewN | apply below_drew1) | exact HB.out)) HQ.out) (kResult.K_below (by repeat (first | (with_reducible first | exact HB.out | apply below_alloc | apply pw_below_drewN | apply below_drew1) | exact HB.out)) HX.out) HW.out (by omega) hpi (by omega) hval HTL.out).mono ?_); rintro e w1 ⟨rfl, hb⟩; rw [hm]; have HQ1 := Aside0.mk ((hb.block _ (by omega)).trans HQB.out); have HX1 := Aside0.mk ((hb.block _ (by omega)).trans HXB.out); have HBn := Aside0.mk (below_step (by repeat (first | (with_reducible first | exact HB.out | apply below_alloc | apply pw_below_drewN | apply below_drew1) | exact HB.out)) hb); clear HB; have HB := HBn; clear HBn; clear hb)
      go_roundw
      case rel =>
        refine ⟨pos + 1, acc ++ mPiece q x (q.form.flags[pos]'hp) pos, ?_, by simp, HQ1.out, HX1.out, HB.out, ⟨?_⟩, by omega, ⟨?_⟩⟩
        · rw [bs_app]
        · rw [← hacc.out, mPieces_at q x _ pos hpd, List.append_assoc]
          rfl
        · have := hal.out
          rw [List.length_append]
          omega
      case measure => simp [intOf]; omega
    · have hall : mPieces q x q.form.flags.data.toList 0 = acc := by
        rw [← hacc.out, List.drop_of_length_le (by rw [Array.length_toList]; show q.form.flags.size ≤ _; omega)]
        simp [mPieces]
      have HF := Aside0.mk (mFlags_list q x acc hall)
      have hpi : ¬ (pos : Int) < q.form.flags.size := by omega
      clear hall hacc
      obtain ⟨s6, h6⟩ : ∃ b, x.stale = b := ⟨_, rfl⟩
      obtain ⟨s7, h7⟩ : ∃ b, x.won = b := ⟨_, rfl⟩
      obtain ⟨s8, h8⟩ : ∃ b, x.lost = b := ⟨_, rfl⟩
      rw [h6] at b6; rw [h7] at b7; rw [h8] at b8
      have HS : Aside0 (mSigns x = (if s7 then [32, 87] else []) ++ ((if s6 then [32, 88] else []) ++ (if s8 then [32, 90] else []))) := ⟨by unfold mSigns; rw [h6, h7, h8]⟩
      clear h6 h7 h8
      cases s6 <;> cases s7 <;> cases s8
      all_goals
        go_wp2
        go_ret
        refine ⟨?_, (by repeat (first | (with_reducible first | exact HB.out | apply below_alloc | apply pw_below_drewN | apply below_drew1) | exact HB.out))⟩
        rw [HF.out, HS.out]
        simp [bs_app, bs_add_nil]
end Go.Proofs.YtfolaakllblhbaaDoor.X
