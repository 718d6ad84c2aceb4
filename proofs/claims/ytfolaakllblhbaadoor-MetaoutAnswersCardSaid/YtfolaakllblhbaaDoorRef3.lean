/- The reference of chapter 19, third part: the answer to a request. -/
import Derived.Test.YtfolaakllblhbaaDoorRef2
import Derived.Test.YtfolaakllblhbaaDoorMeta4
namespace Go.Proofs.YtfolaakllblhbaaDoor.X
open Go.RowKit Go.Proofs.YtfolaakllblhbaaDoorW.PrintWords
set_option linter.unusedVariables false
set_option linter.unusedSimpArgs false

def hasV (l : List UInt8) : Bool := l.any fun c => c.toNat == 118
theorem hasV_index : ∀ l : List UInt8, hasV l = decide (0 ≤ Lib.indexByte l 118)
  | [] => by rfl
  | c :: r => by
    have ih := hasV_index r
    have hge := Lib.indexByte_ge r 118
    unfold hasV at ih ⊢
    rw [List.any_cons, ih, Lib.indexByte]
    by_cases h : c = 118
    · subst h; simp
    · have h1 : (c == 118) = false := beq_eq_false_iff_ne.2 h
      have h2 : (c.toNat == 118) = false := beq_eq_false_iff_ne.2 (fun e => h (UInt8.toNat_inj.1 e))
      rw [h1, h2, if_neg (by decide), Bool.false_or]
      by_cases h3 : Lib.indexByte r 118 = -1
      · rw [if_pos (beq_iff_eq.2 h3), h3]
      · rw [if_neg (by simpa using h3), Bool.eq_iff_iff, decide_eq_true_eq, decide_eq_true_eq]
        omega
theorem hasV_mHas (q : Request) : hasV q.form.flags.data.toList = mHas q := hasV_index _
theorem mTail_nil (q : Request) (x : Result) : mTail q x = (⟨#[]⟩ : ByteArray) ↔ mWord x.status = (⟨#[]⟩ : ByteArray) := by
  unfold mTail
  split
  · next h =>
    constructor
    · intro h2
      have := congrArg ByteArray.size h2
      rw [ByteArray.size_append] at this
      have h3 : (mWord x.status).size ≠ 0 := by
        rcases h with h | h | h | h | h | h | h | h <;> rw [h] <;> decide
      exact absurd this (by show ¬ (_ + _ = 0); omega)
    · intro h2
      exfalso
      rcases h with h | h | h | h | h | h | h | h <;> rw [h] at h2 <;> exact absurd (congrArg ByteArray.size h2) (by decide)
  · exact Iff.rfl
theorem silent_of {q : Request} {op : Int} {x : Result} {b : Bool} (hb : q.form.quiet = b) (ho : op ≠ 12) (h : b = true) (hg : mGood x.status = true ∨ (x.status = 1 ∧ (op = 8 ∨ op = 9))) : mOne q op x = [] := by
  unfold mOne mSilent
  rw [hb, h, if_neg ho, if_pos]
  rcases hg with hg | ⟨hs, h8⟩
  · rw [hg]; split <;> rfl
  · rw [if_pos h8, hs]; rfl
theorem told_of {op : Int} {x : Result} {b : Bool} (hA : ¬ (op = 12 ∧ x.status = 1)) (hB : ¬ (op ≠ 12 ∧ b = true ∧ (mGood x.status = true ∨ (x.status = 1 ∧ (op = 8 ∨ op = 9))))) : (b && mSilent op x.status) = false ∧ ¬ (op = 12 ∧ x.status = 1) := by
  refine ⟨?_, hA⟩
  cases b
  · rfl
  · rw [Bool.true_and]
    unfold mSilent
    split
    · next h => exact beq_eq_false_iff_ne.2 (fun h2 => hA ⟨h, h2⟩)
    · next h =>
      have hg : mGood x.status = false := Bool.eq_false_iff.2 (fun h2 => hB ⟨h, rfl, Or.inl h2⟩)
      split
      · next h8 => rw [hg, Bool.false_or]; exact beq_eq_false_iff_ne.2 (fun h2 => hB ⟨h, rfl, Or.inr ⟨h2, h8⟩⟩)
      · exact hg
set_option maxHeartbeats 1000000 in
set_option maxRecDepth 100000 in
theorem rEncode_calls (q : Request) (l : List Result) (cq : List Value) (A1 : Option Addr) (n1 : Nat) (w : World) (hq : kRequest.K w q cq) (hn1 : l.length ≤ n1) (hL : kResult.C w A1 l.length l) (hw : ∀ x ∈ l, x.Wf)
    (hlen : q.form.flags.size ≤ 1000) (htold : ∀ x ∈ l, ∀ c i, (mTold q x c i).1.size ≤ 1000) (hval : ∀ x ∈ l, x.value.length ≤ 1000000) :
    Calls Tryd.prog 11 #[.agg cq.toArray, .slice A1 l.length n1] w (RetBytes (mEncode q l) w) := by
  obtain ⟨A0, c0, A8, c8, A9, c9, rfl, hl0, hC0, hl8, hC8, hl9, hC9⟩ := kRequest_open hq
  have HQ := Aside0.mk (kRequest_mk w q hl0 hC0 hl8 hC8 hl9 hC9)
  have HW := Aside0.mk hw
  have HTL := Aside0.mk htold
  cases hc : q.cmds with
  | nil =>
    have hm : mEncode q l = [] := by unfold mEncode; rw [hc]
    rw [hm]
    clear hq hw hC0 hC8 hC9 htold hL
    have h0 : ((([] : List Cmd).length : Nat) : Int) = 0 := rfl
    go_enter Tryd.func11, Tryd.ntmps11
    go_wp2
    go_ret
    exact retNone (by repeat (first | exact Below.refl _ _ | apply below_alloc))
  | cons cm cs =>
    cases l with
    | nil =>
      have hm : mEncode q [] = [] := by unfold mEncode; rw [hc]
      rw [hm]
      clear hq hw hC0 hC8 hC9 htold hL
      go_enter Tryd.func11, Tryd.ntmps11
      go_wp2
      go_ret
      exact retNone (by repeat (first | exact Below.refl _ _ | apply below_alloc))
    | cons x xs =>
      have hm : mEncode q (x :: xs) = mOne q cm.op x := by unfold mEncode; rw [hc]
      rw [hm]
      have h0q : 0 < q.cmds.length := by rw [hc]; simp
      obtain ⟨ad, B2, d2, rfl, k0, _⟩ := at_Cmd hC0 0 (by omega) (by omega)
      obtain ⟨bd, B3, d3, rfl, r0, r1, r2, r3, r4, r5, r6, r7, r8, hB3⟩ := at_Result hL 0 (by omega) (by simp)
      rw [show rd_Cmd q.cmds 0 = cm by unfold rd_Cmd; rw [hc]; rfl] at k0
      rw [show rd_Result (x :: xs) 0 = x from rfl] at r0 r1 r2 r3 r4 r5 r6 r7 r8 hB3
      have z0 : (0 : Int).toNat = 0 := rfl
      simp only [z0, Nat.zero_mul, Addr.add_zero'] at k0 r0 r1 r2 r3 r4 r5 r6 r7 r8
      obtain ⟨ab, ao, rfl, hab⟩ := addr_plain k0
      obtain ⟨bb, bo, rfl, hbb⟩ := addr_plain r0
      dsimp only at r1 r2 r3 r4 r5 r6 r7 r8
      have hwx := hw x (by simp)
      have hsz : (mValue x).size ≤ 1000020 := by
        unfold mValue
        split
        · have := showI_size x.number hwx.number.2; omega
        · rw [strOfNums_size]; have := hval x (by simp); omega
      have hsF := mFlags_size q x (htold x (by simp)) hlen
      have hsW := mWord_size x.status
      have hsS := showI_size ((mValue x).size : Int) (by omega)
      have HX := Aside0.mk (kResult_mk w x hB3.1 hB3.2)
      have HWX := Aside0.mk hwx; have HTLX := Aside0.mk (htold x (by simp)); have hval := hval x (by simp)
      have h0l : 0 < (x :: xs).length := by simp
      have HB := Aside0.mk (Below.refl w.heap.size w)
      clear hq hw hC0 hC8 hC9 htold hL hB3 HW HTL hwx z0 hm
      rw [← hc] at *
      clear hc
      generalize q.cmds.length = mq at *
      generalize (x :: xs).length = ml at *
      have hq1 : (mq == 0) = false := beq_eq_false_iff_ne.2 (by omega)
      have hq2 : ((mq : Int) == 0) = false := beq_eq_false_iff_ne.2 (by omega)
      have hl1 : (ml == 0) = false := beq_eq_false_iff_ne.2 (by omega)
      have hl2 : ((ml : Int) == 0) = false := beq_eq_false_iff_ne.2 (by omega)
      obtain ⟨bq, hbq⟩ : ∃ b, q.form.quiet = b := ⟨_, rfl⟩
      rw [hbq] at HQ ⊢
      have HBQ := Aside0.mk hbq
      clear hbq
      by_cases hA : cm.op = 12 ∧ x.status = 1
      · obtain ⟨ho, hx⟩ := hA
        have ho1 : (cm.op == 12) = true := beq_iff_eq.2 ho
        have hx1 : (x.status == 1) = true := beq_iff_eq.2 hx
        have HM : Aside0 (mOne q cm.op x = if bq then [] else [69, 78, 13, 10]) := ⟨by unfold mOne mSilent; rw [HBQ.out, ho, hx]; cases bq <;> rfl⟩
        clear ho hx
        cases bq
        all_goals
          go_enter Tryd.func11, Tryd.ntmps11
          go_wp2_with (((with_reducible refine gate_dst (N := 39) rfl ?_); refine wp_const rfl _ _ _ rfl _ _ _ _ rfl ?_ Tryd.underlying30 Tryd.underlying5 ?_; (case _ => simp)))
          go_ret
          rw [HM.out]
        · exact ⟨some ⟨w.heap.size + 1 + 1, 0, none⟩, 4, rfl, by decide, Bytes_at (ha_at (by simp)) _ (by decide) rfl, (by repeat (first | exact Below.refl _ _ | apply below_drew1 | apply pw_below_drewN | apply below_alloc))⟩
        · exact retNone (by repeat (first | exact Below.refl _ _ | apply below_drew1 | apply pw_below_drewN | apply below_alloc))
      · by_cases hB : cm.op ≠ 12 ∧ bq = true ∧ (mGood x.status = true ∨ (x.status = 1 ∧ (cm.op = 8 ∨ cm.op = 9)))
        · obtain ⟨ho, rfl, hg⟩ := hB
          have HM := Aside0.mk (silent_of HBQ.out ho rfl hg)
          have ho1 : (cm.op == 12) = false := beq_eq_false_iff_ne.2 ho
          have ho2 : (cm.op != 12) = true := bne_iff_ne.2 ho
          clear hA ho
          by_cases hgt : mGood x.status = true
          · have HG := Aside0.mk hgt
            clear hg hgt
            go_enter Tryd.func11, Tryd.ntmps11
            go_wp2_with (go_at_call 22; (with_reducible refine (rGood_calls x.status _).mono ?_); rintro e w1 ⟨rfl, rfl⟩; rw [HG.out])
            go_ret
            rw [HM.out]
            exact retNone (by repeat (first | exact Below.refl _ _ | apply below_drew1 | apply pw_below_drewN | apply below_alloc))
          · have HG : Aside0 (mGood x.status = false) := ⟨by simpa using hgt⟩
            obtain ⟨hs, h89⟩ := hg.resolve_left hgt
            have hx1 : (x.status == 1) = true := beq_iff_eq.2 hs
            clear hg hgt hs
            rcases h89 with h8 | h9
            · have h81 : (cm.op == 8) = true := beq_iff_eq.2 h8
              clear h8
              go_enter Tryd.func11, Tryd.ntmps11
              go_wp2_with (go_at_call 22; (with_reducible refine (rGood_calls x.status _).mono ?_); rintro e w1 ⟨rfl, rfl⟩; rw [HG.out])
              go_ret
              rw [HM.out]
              exact retNone (by repeat (first | exact Below.refl _ _ | apply below_drew1 | apply pw_below_drewN | apply below_alloc))
            · have h91 : (cm.op == 9) = true := beq_iff_eq.2 h9
              have h81 : (cm.op == 8) = false := beq_eq_false_iff_ne.2 (by omega)
              clear h9
              go_enter Tryd.func11, Tryd.ntmps11
              go_wp2_with (go_at_call 22; (with_reducible refine (rGood_calls x.status _).mono ?_); rintro e w1 ⟨rfl, rfl⟩; rw [HG.out])
              go_ret
              rw [HM.out]
              exact retNone (by repeat (first | exact Below.refl _ _ | apply below_drew1 | apply pw_below_drewN | apply below_alloc))
        · have hno : Aside0 ((bq && mSilent cm.op x.status) = false ∧ ¬ (cm.op = 12 ∧ x.status = 1)) := ⟨told_of hA hB⟩
          have HA := Aside0.mk hA; have HNB := Aside0.mk hB
          clear hA hB
          go_enter Tryd.func11, Tryd.ntmps11
          go_upto_region 5 with (fail)
          go_cut [34] (fun v34 wc => v34 = .bool false ∧ wc.heap[w.heap.size]? = some (.cells #[.slice (some ⟨ab, ao, none⟩) mq c0, .int .i64 q.form.dialect, .string q.form.verb, .int .i64 q.form.code, .int .u32 q.form.opq, .bool bq, .bool q.form.withcas, .string q.form.flags, .slice A8 q.form.tokens.length c8, .slice A9 q.form.keys.length c9, .bool q.form.base64] 28 (0, 0)) ∧ wc.heap[w.heap.size + 1]? = some (.cells #[.int .i64 x.status, .slice B3 x.value.length d3, .int .u32 x.flags, .int .u64 x.cas, .int .i64 x.ttl, .int .u64 x.number, .bool x.stale, .bool x.won, .bool x.lost] 33 (0, 0)) ∧ Below w.heap.size w wc)
          case first =>
            by_cases ho : cm.op = 12
            · have ho1 : (cm.op == 12) = true := beq_iff_eq.2 ho
              have hx1 : (x.status == 1) = false := beq_eq_false_iff_ne.2 (fun h => HA.out ⟨ho, h⟩)
              clear ho
              go_wp2
              go_meet
              exact ⟨rfl, ha_old (ha_at rfl), ha_at (by simp), (by repeat (first | exact Below.refl _ _ | apply below_drew1 | apply pw_below_drewN | apply below_alloc))⟩
            · have ho1 : (cm.op == 12) = false := beq_eq_false_iff_ne.2 ho
              clear ho
              go_wp2
              go_meet
              exact ⟨rfl, ha_old (ha_at rfl), ha_at (by simp), (by repeat (first | exact Below.refl _ _ | apply below_drew1 | apply pw_below_drewN | apply below_alloc))⟩
          case rest =>
            obtain ⟨rfl, hqb, hxb, hbw⟩ := hcut
            have hwsz := hbw.size
            have hlx : w.heap.size + 1 < wc.heap.size := (Array.getElem?_eq_some_iff.1 hxb).1
            clear HB
            have HB := Aside0.mk hbw; have HQB := Aside0.mk hqb; have HXB := Aside0.mk hxb
            have x0 := fun j v => blk_cells hxb j v
            have q0 := fun j v => blk_cells hqb j v
            have b0 := x0 0 _ rfl
            have a5 := q0 5 _ rfl; have a7 := q0 7 _ rfl
            clear hbw hxb hqb
            obtain ⟨g, hg⟩ : ∃ b, mGood x.status = b := ⟨_, rfl⟩
            have HG := Aside0.mk hg
            rw [hg] at HNB
            clear hg
            go_upto_region 10 with (go_at_call 22; (with_reducible refine (rGood_calls x.status _).mono ?_); rintro e w1 ⟨rfl, rfl⟩; rw [HG.out])
            go_cut [65] (fun v65 wd => v65 = .bool false ∧ wd = wc)
            case first =>
              clear x0 q0
              cases bq
              · go_wp2
                go_meet
                exact ⟨rfl, rfl⟩
              · by_cases ho : cm.op = 12
                · have ho1 : (cm.op == 12) = true := beq_iff_eq.2 ho
                  have ho2 : (cm.op != 12) = false := by rw [ho]; rfl
                  clear ho
                  go_wp2
                  go_meet
                  exact ⟨rfl, rfl⟩
                · have ho1 : (cm.op == 12) = false := beq_eq_false_iff_ne.2 ho
                  have ho2 : (cm.op != 12) = true := bne_iff_ne.2 ho
                  have hgf : g = false := by
                    cases g
                    · rfl
                    · exact absurd ⟨ho, rfl, Or.inl rfl⟩ HNB.out
                  subst hgf
                  by_cases hx : x.status = 1
                  · have hx1 : (x.status == 1) = true := beq_iff_eq.2 hx
                    have h81 : (cm.op == 8) = false := beq_eq_false_iff_ne.2 (fun h => HNB.out ⟨ho, rfl, Or.inr ⟨hx, Or.inl h⟩⟩)
                    have h91 : (cm.op == 9) = false := beq_eq_false_iff_ne.2 (fun h => HNB.out ⟨ho, rfl, Or.inr ⟨hx, Or.inr h⟩⟩)
                    clear ho hx
                    go_wp2
                    go_meet
                    exact ⟨rfl, rfl⟩
                  · have hx1 : (x.status == 1) = false := beq_eq_false_iff_ne.2 hx
                    clear ho hx
                    go_wp2
                    go_meet
                    exact ⟨rfl, rfl⟩
            case rest =>
              obtain ⟨rfl, rfl⟩ := hcut
              go_wp2
              have hfx : (q.form.flags.data.toList.length : Nat) = q.form.flags.size := by rw [Array.length_toList]; rfl
              go_loopw [8, 9] (fun v8 v9 wr => ∃ (pos : Nat), v8 = .bool (hasV (q.form.flags.data.toList.take pos)) ∧ v9 = .int .i64 pos ∧ pos ≤ q.form.flags.size ∧ wr = wc) (fun v8 v9 _ => q.form.flags.size - (intOf v9).toNat)
              case atStart => exact ⟨0, rfl, rfl, by omega, rfl⟩
              case round =>
                obtain ⟨pos, rfl, rfl, hps, rfl⟩ := hrel
                by_cases hp : pos < q.form.flags.size
                · have hpi : (pos : Int) < q.form.flags.size := by omega
                  have hpn : (pos : Int).toNat < q.form.flags.size := by omega
                  have hpd : pos < q.form.flags.data.toList.length := by omega
                  have hV : hasV (q.form.flags.data.toList.take (pos + 1)) = (hasV (q.form.flags.data.toList.take pos) || ((q.form.flags[pos]'hp).toNat : Int) == 118) := by
                    unfold hasV
                    rw [List.take_add_one, List.getElem?_eq_getElem hpd, List.any_append]
                    congr 1
                    have e : q.form.flags.data.toList[pos] = q.form.flags[pos]'hp := by rw [Array.getElem_toList]; rfl
                    rw [e]
                    simp only [List.any_cons, List.any_nil, Bool.or_false, Option.toList]
                    rw [Bool.eq_iff_iff, beq_iff_eq, beq_iff_eq]
                    omega
                  have HV := Aside0.mk hV
                  clear hV
                  generalize hasV (q.form.flags.data.toList.take pos) = hv at *
                  cases hv
                  all_goals
                    go_wp2
                    go_roundw
                    case rel => exact ⟨pos + 1, by rw [HV.out]; first | rfl | simp, by simp, by omega, by first | rfl | trivial⟩
                    case measure => simp [intOf]; omega
                · have hpi : ¬ (pos : Int) < q.form.flags.size := by omega
                  rw [List.take_of_length_le (by omega)]
                  have hHV : hasV q.form.flags.data.toList = mHas q := hasV_mHas q
                  rw [hHV]
                  generalize hhv : mHas q = hv at *
                  have HHV := Aside0.mk hhv
                  clear hhv hHV
                  go_upto_region 17 with (fail)
                  go_cut [93] (fun v93 wd => v93 = .bool (hv && (x.status == 0 || x.status == 7)) ∧ wd = wr)
                  case first =>
                    cases hv
                    · go_wp2
                      go_meet
                      exact ⟨by simp, rfl⟩
                    · by_cases h0 : x.status = 0
                      · have h01 : (x.status == 0) = true := beq_iff_eq.2 h0
                        have H0 := Aside0.mk h0
                        clear h0
                        go_wp2
                        go_meet
                        exact ⟨by simp [h01], rfl⟩
                      · have h01 : (x.status == 0) = false := beq_eq_false_iff_ne.2 h0
                        have H0 := Aside0.mk h0
                        clear h0
                        by_cases h7 : x.status = 7
                        · have h71 : (x.status == 7) = true := beq_iff_eq.2 h7
                          have H7 := Aside0.mk h7
                          clear h7
                          go_wp2
                          go_meet
                          exact ⟨by simp [h01, h71], rfl⟩
                        · have h71 : (x.status == 7) = false := beq_eq_false_iff_ne.2 h7
                          have H7 := Aside0.mk h7
                          clear h7
                          go_wp2
                          go_meet
                          exact ⟨by simp [h01, h71], rfl⟩
                  case rest =>
                    obtain ⟨rfl, rfl⟩ := hcut
                    have hb1 : (hv && (x.status == 0 || x.status == 7)) = true → (x.status = 0 ∨ x.status = 7) ∧ mHas q = true := fun h => by
                      rw [HHV.out]
                      rw [Bool.and_eq_true, Bool.or_eq_true, beq_iff_eq, beq_iff_eq] at h
                      exact ⟨h.2, h.1⟩
                    have hb2 : (hv && (x.status == 0 || x.status == 7)) = false → ¬ ((x.status = 0 ∨ x.status = 7) ∧ mHas q = true) := fun h h2 => by
                      rw [HHV.out] at h2
                      rw [h2.2, Bool.true_and, Bool.or_eq_false_iff, beq_eq_false_iff_ne, beq_eq_false_iff_ne] at h
                      exact h2.1.elim h.1 h.2
                    generalize (hv && (x.status == 0 || x.status == 7)) = b at *
                    cases b
                    · have hnf := hb2 rfl
                      clear hb1 hb2
                      have HNF := Aside0.mk hnf
                      have hT2 := mTail_size q x HTLX.out hlen
                      clear hnf
                      go_upto_region 20 with (go_at_call 15; (with_reducible refine (rWord_calls _ _).mono ?_); rintro e w1 ⟨rfl, rfl⟩)
                      by_cases hz : mWord x.status = (⟨#[]⟩ : ByteArray)
                      · have hzb : (mWord x.status).toList.isEmpty = true := (bs_nil _).2 hz
                        have HM := Aside0.mk (mOne_none HBQ.out hno.out HNF.out ((mTail_nil q x).2 hz))
                        clear hz
                        go_wp2
                        go_ret
                        rw [HM.out]
                        exact retNone (HB.out.trans (Below.refl _ _))
                      · have hzb : (mWord x.status).toList.isEmpty = false := Bool.eq_false_iff.2 (fun h => hz ((bs_nil _).1 h))
                        have HM := Aside0.mk (mOne_line HBQ.out hno.out HNF.out (fun h => hz ((mTail_nil q x).1 h)))
                        clear hz
                        have hg := HG.out
                        have hm1 : (g || x.status == 1 || x.status == 3 || x.status == 4) = true → mTail q x = mWord x.status ++ mFlags q x := fun h => by
                          rw [← hg] at h
                          simp only [Bool.or_eq_true, beq_iff_eq, mGood, decide_eq_true_eq] at h
                          unfold mTail
                          rw [if_pos (by omega)]
                        have hm2 : (g || x.status == 1 || x.status == 3 || x.status == 4) = false → mTail q x = mWord x.status := fun h => by
                          rw [← hg] at h
                          simp only [Bool.or_eq_false_iff, beq_eq_false_iff_ne, mGood, decide_eq_false_iff_not] at h
                          unfold mTail
                          rw [if_neg (by omega)]
                        clear hg
                        have HM1 := Aside0.mk hm1; have HM2 := Aside0.mk hm2
                        clear hm1 hm2
                        go_upto_region 22 with (fail)
                        go_cut [130] (fun v130 we => v130 = .bool (g || x.status == 1 || x.status == 3 || x.status == 4) ∧ we = wc)
                        case first =>
                          clear HM1 HM2
                          cases g
                          · cases h1 : (x.status == 1) <;> cases h3 : (x.status == 3) <;> cases h4 : (x.status == 4)
                            all_goals go_wp2
                            all_goals go_meet
                            all_goals exact ⟨by simp [h1, h3, h4], rfl⟩
                          · go_wp2
                            go_meet
                            exact ⟨by simp, rfl⟩
                        case rest =>
                          obtain ⟨rfl, rfl⟩ := hcut
                          generalize hgb : (g || x.status == 1 || x.status == 3 || x.status == 4) = b at *
                          cases b
                          · rw [HM2.out rfl] at HM hT2
                            clear HM1 HM2 hgb
                            have hT3 : ¬ 9223372036854775807 < (mWord x.status).size + 2 := by omega
                            go_wp2
                            refine upon_bytes 9 30 5 _ Tryd.underlying9 Tryd.underlying30 Tryd.underlying5 ?_ ?_
                            · rw [ByteArray.size_append]
                              show _ + 2 ≤ _
                              omega
                            intro A c w3 hc3 hC3 hb
                            have HC3 := Aside0.mk (And.intro hc3 hC3)
                            clear hc3 hC3
                            go_wp2
                            go_ret
                            rw [HM.out]
                            exact ⟨A, c, rfl, HC3.out.1, HC3.out.2, below_step HB.out hb⟩
                          · rw [HM1.out rfl] at HM hT2
                            clear HM1 HM2 hgb
                            have hT3 : ¬ 9223372036854775807 < (mWord x.status).size + (mFlags q x).size + 2 := by omega
                            have hT4 : ¬ 9223372036854775807 < (mWord x.status).size + (mFlags q x).size := by omega
                            go_wp2_with (go_at_call 13; (with_reducible refine (rFlags_calls q x _ _ _ (kRequest.K_below (by repeat (first | (with_reducible first | exact HB.out | apply below_alloc | apply pw_below_drewN | apply below_drew1) | exact HB.out)) HQ.out) (kResult.K_below (by repeat (first | (with_reducible first | exact HB.out | apply below_alloc | apply pw_below_drewN | apply below_drew1) | exact HB.out)) HX.out) HWX.out hval hlen HTLX.out).mono ?_); rintro e w2 ⟨rfl, hb⟩; have HBn := Aside0.mk (below_step (by repeat (first | (with_reducible first | exact HB.out | apply below_alloc | apply pw_below_drewN | apply below_drew1) | exact HB.out)) hb); clear HB; have HB := HBn; clear HBn; clear hb)
                            refine upon_bytes 9 30 5 _ Tryd.underlying9 Tryd.underlying30 Tryd.underlying5 ?_ ?_
                            · rw [ByteArray.size_append, ByteArray.size_append]
                              show _ + _ + 2 ≤ _
                              omega
                            intro A c w3 hc3 hC3 hb
                            have HC3 := Aside0.mk (And.intro hc3 hC3)
                            clear hc3 hC3
                            go_wp2
                            go_ret
                            rw [HM.out]
                            exact ⟨A, c, rfl, HC3.out.1, HC3.out.2, below_step HB.out hb⟩
                    · have hst := hb1 rfl
                      clear hb1 hb2
                      have HST := Aside0.mk hst
                      clear hst
                      go_upto_region 18 with (fail)
                      have hwr : IntKind.u64.wrap ((mValue x).size : Int) = (mValue x).size := by rw [IntKind.wrap_u64]; omega
                      have hS := sqx_mk HB.out HQB.out HXB.out
                      have e1 : ¬ 9223372036854775807 < 3 + (showI ((mValue x).size : Int)).size := by omega
                      have e2 : ¬ 9223372036854775807 < 3 + (showI ((mValue x).size : Int)).size + (mFlags q x).size := by omega
                      have e3 : ¬ 9223372036854775807 < 3 + (showI ((mValue x).size : Int)).size + (mFlags q x).size + 2 := by omega
                      have e4 : ¬ 9223372036854775807 < 3 + (showI ((mValue x).size : Int)).size + (mFlags q x).size + 2 + (mValue x).size := by omega
                      have e5 : ¬ 9223372036854775807 < 3 + (showI ((mValue x).size : Int)).size + (mFlags q x).size + 2 + (mValue x).size + 2 := by omega
                      (refine wp_region_noPanic ?_; refine wp_region_held_drew (S := (fun w' => Aside0 (Below w.heap.size w w') ∧ Aside0 (w'.heap[w.heap.size]? = some (.cells #[.slice (some ⟨ab, ao, none⟩) mq c0, .int .i64 q.form.dialect, .string q.form.verb, .int .i64 q.form.code, .int .u32 q.form.opq, .bool bq, .bool q.form.withcas, .string q.form.flags, .slice A8 q.form.tokens.length c8, .slice A9 q.form.keys.length c9, .bool q.form.base64] 28 (0, 0))) ∧ Aside0 (w'.heap[w.heap.size + 1]? = some (.cells #[.int .i64 x.status, .slice B3 x.value.length d3, .int .u32 x.flags, .int .u64 x.cas, .int .i64 x.ttl, .int .u64 x.number, .bool x.stale, .bool x.won, .bool x.lost] 33 (0, 0))) ∧ w'.cell? ⟨w.heap.size, 0, none⟩ = some (.slice (some ⟨ab, ao, none⟩) mq c0) ∧ w'.cell? ⟨w.heap.size, 1, none⟩ = some (.int .i64 q.form.dialect) ∧ w'.cell? ⟨w.heap.size, 2, none⟩ = some (.string q.form.verb) ∧ w'.cell? ⟨w.heap.size, 3, none⟩ = some (.int .i64 q.form.code) ∧ w'.cell? ⟨w.heap.size, 4, none⟩ = some (.int .u32 q.form.opq) ∧ w'.cell? ⟨w.heap.size, 5, none⟩ = some (.bool bq) ∧ w'.cell? ⟨w.heap.size, 6, none⟩ = some (.bool q.form.withcas) ∧ w'.cell? ⟨w.heap.size, 7, none⟩ = some (.string q.form.flags) ∧ w'.cell? ⟨w.heap.size, 8, none⟩ = some (.slice A8 q.form.tokens.length c8) ∧ w'.cell? ⟨w.heap.size, 9, none⟩ = some (.slice A9 q.form.keys.length c9) ∧ w'.cell? ⟨w.heap.size, 10, none⟩ = some (.bool q.form.base64) ∧ w'.cell? ⟨w.heap.size + 1, 0, none⟩ = some (.int .i64 x.status) ∧ w'.cell? ⟨w.heap.size + 1, 1, none⟩ = some (.slice B3 x.value.length d3) ∧ w'.cell? ⟨w.heap.size + 1, 2, none⟩ = some (.int .u32 x.flags) ∧ w'.cell? ⟨w.heap.size + 1, 3, none⟩ = some (.int .u64 x.cas) ∧ w'.cell? ⟨w.heap.size + 1, 4, none⟩ = some (.int .i64 x.ttl) ∧ w'.cell? ⟨w.heap.size + 1, 5, none⟩ = some (.int .u64 x.number) ∧ w'.cell? ⟨w.heap.size + 1, 6, none⟩ = some (.bool x.stale) ∧ w'.cell? ⟨w.heap.size + 1, 7, none⟩ = some (.bool x.won) ∧ w'.cell? ⟨w.heap.size + 1, 8, none⟩ = some (.bool x.lost))) (by kernel_rfl) (by (try dsimp only); (first | assumption | exact sqx_drew hS | exact sqx_below hb (by assumption))) ?_; intro hHeld)
                      (refine wpAnyH_take (i := 0) (v := ?_) (by simp only [List.getElem?_toArray, List.getElem?_cons_succ, List.getElem?_cons_zero]; rfl) (by kernel_rfl) (by kernel_rfl) (by kernel_rfl) (fun _ _ _ h => h) (Or.inl ⟨by rfl, ?_⟩) (by assumption) ?_; rotate_left; (focus (intro w hSw; (try dsimp only at hSw); go_simp; (try with_reducible rfl); done)); (try simp only [Act.put, List.setIfInBounds_toArray, List.set_cons_zero, List.set_cons_succ]))
                      (refine wpAnyH_take (i := 6) (v := ?_) (by simp only [List.getElem?_toArray, List.getElem?_cons_succ, List.getElem?_cons_zero]; rfl) (by kernel_rfl) (by kernel_rfl) (by kernel_rfl) (fun _ _ _ h => h) (Or.inl ⟨by rfl, ?_⟩) (by assumption) ?_; rotate_left; (focus (intro w hSw; (try dsimp only at hSw); go_simp; (try with_reducible rfl); done)); (try simp only [Act.put, List.setIfInBounds_toArray, List.set_cons_zero, List.set_cons_succ]))
                      (refine wpAnyH_take (i := 7) (v := ?_) (by simp only [List.getElem?_toArray, List.getElem?_cons_succ, List.getElem?_cons_zero]; rfl) (by kernel_rfl) (by kernel_rfl) (by kernel_rfl) (fun _ _ _ h => h) (Or.inl ⟨by rfl, ?_⟩) (by assumption) ?_; rotate_left; (focus (intro w hSw; (try dsimp only at hSw); go_simp; (try with_reducible rfl); done)); (try simp only [Act.put, List.setIfInBounds_toArray, List.set_cons_zero, List.set_cons_succ]))
                      (refine wpAnyH_take (i := 11) (v := ?_) (by simp only [List.getElem?_toArray, List.getElem?_cons_succ, List.getElem?_cons_zero]; rfl) (by kernel_rfl) (by kernel_rfl) (by kernel_rfl) (fun _ _ _ h => h) (Or.inl ⟨by rfl, ?_⟩) (by assumption) ?_; rotate_left; (focus (intro w hSw; (try dsimp only at hSw); go_simp; (try with_reducible rfl); done)); (try simp only [Act.put, List.setIfInBounds_toArray, List.set_cons_zero, List.set_cons_succ]))
                      (refine wpAnyH_ready (rs := [1]) (by kernel_rfl) (by simp) ?_; refine AllReadyH.cons (by simp only [List.getElem?_toArray, List.getElem?_cons_succ, List.getElem?_cons_zero]; rfl) (fun K hK => ?_) AllReadyH.nil; go_simp; (go_at_call 23; (with_reducible refine (rValue_calls x _ _ (kResult.K_below (sqx_b (by assumption)) HX.out) HWX.out).mono ?_); rintro e w2 ⟨rfl, hb⟩); refine hK.out _ _ (by (try dsimp only); (first | assumption | exact sqx_drew hS | exact sqx_below hb (by assumption))) ?_; clear hK K hHeld; intro hHeld; (try simp only [Act.put, List.setIfInBounds_toArray, List.set_cons_zero, List.set_cons_succ]))
                      (refine wpAnyH_take (i := 2) (v := ?_) (by simp only [List.getElem?_toArray, List.getElem?_cons_succ, List.getElem?_cons_zero]; rfl) (by kernel_rfl) (by kernel_rfl) (by kernel_rfl) (fun _ _ _ h => h) (Or.inl ⟨by rfl, ?_⟩) (by assumption) ?_; rotate_left; (focus (intro w hSw; (try dsimp only at hSw); go_simp; (try with_reducible rfl); done)); (try simp only [Act.put, List.setIfInBounds_toArray, List.set_cons_zero, List.set_cons_succ]))
                      (refine wpAnyH_take (i := 3) (v := ?_) (by simp only [List.getElem?_toArray, List.getElem?_cons_succ, List.getElem?_cons_zero]; rfl) (by kernel_rfl) (by kernel_rfl) (by kernel_rfl) (fun _ _ _ h => h) (Or.inl ⟨by rfl, ?_⟩) (by assumption) ?_; rotate_left; (focus (intro w hSw; (try dsimp only at hSw); go_simp; (try with_reducible rfl); done)); (try simp only [Act.put, List.setIfInBounds_toArray, List.set_cons_zero, List.set_cons_succ]))
                      (refine wpAnyH_ready (rs := [4]) (by kernel_rfl) (by simp) ?_; refine AllReadyH.cons (by simp only [List.getElem?_toArray, List.getElem?_cons_succ, List.getElem?_cons_zero]; rfl) (fun K hK => ?_) AllReadyH.nil; go_simp; (go_at_call 16; (with_reducible refine (rShow_calls _ _ (by omega) (by omega)).mono ?_); rintro e w2 ⟨rfl, hb⟩); refine hK.out _ _ (by (try dsimp only); (first | assumption | exact sqx_drew hS | exact sqx_below hb (by assumption))) ?_; clear hK K hHeld; intro hHeld; (try simp only [Act.put, List.setIfInBounds_toArray, List.set_cons_zero, List.set_cons_succ]))
                      (refine wpAnyH_take (i := 5) (v := ?_) (by simp only [List.getElem?_toArray, List.getElem?_cons_succ, List.getElem?_cons_zero]; rfl) (by kernel_rfl) (by kernel_rfl) (by kernel_rfl) (fun _ _ _ h => h) (Or.inl ⟨by rfl, ?_⟩) (by assumption) ?_; rotate_left; (focus (intro w hSw; (try dsimp only at hSw); go_simp; (try with_reducible rfl); done)); (try simp only [Act.put, List.setIfInBounds_toArray, List.set_cons_zero, List.set_cons_succ]))
                      (refine wpAnyH_ready (rs := [8]) (by kernel_rfl) (by simp) ?_; refine AllReadyH.cons (by simp only [List.getElem?_toArray, List.getElem?_cons_succ, List.getElem?_cons_zero]; rfl) (fun K hK => ?_) AllReadyH.nil; go_simp; (go_at_call 13; (with_reducible refine (rFlags_calls q x _ _ _ (kRequest.K_below (sqx_b (by assumption)) HQ.out) (kResult.K_below (sqx_b (by assumption)) HX.out) HWX.out hval hlen HTLX.out).mono ?_); rintro e w2 ⟨rfl, hb⟩); refine hK.out _ _ (by (try dsimp only); (first | assumption | exact sqx_drew hS | exact sqx_below hb (by assumption))) ?_; clear hK K hHeld; intro hHeld; (try simp only [Act.put, List.setIfInBounds_toArray, List.set_cons_zero, List.set_cons_succ]))
                      (refine wpAnyH_take (i := 9) (v := ?_) (by simp only [List.getElem?_toArray, List.getElem?_cons_succ, List.getElem?_cons_zero]; rfl) (by kernel_rfl) (by kernel_rfl) (by kernel_rfl) (fun _ _ _ h => h) (Or.inl ⟨by rfl, ?_⟩) (by assumption) ?_; rotate_left; (focus (intro w hSw; (try dsimp only at hSw); go_simp; (try with_reducible rfl); done)); (try simp only [Act.put, List.setIfInBounds_toArray, List.set_cons_zero, List.set_cons_succ]))
                      (refine wpAnyH_take (i := 10) (v := ?_) (by simp only [List.getElem?_toArray, List.getElem?_cons_succ, List.getElem?_cons_zero]; rfl) (by kernel_rfl) (by kernel_rfl) (by kernel_rfl) (fun _ _ _ h => h) (Or.inl ⟨by rfl, ?_⟩) (by assumption) ?_; rotate_left; (focus (intro w hSw; (try dsimp only at hSw); go_simp; (try with_reducible rfl); done)); (try simp only [Act.put, List.setIfInBounds_toArray, List.set_cons_zero, List.set_cons_succ]))
                      (refine wpAnyH_ready (rs := [12]) (by kernel_rfl) (by simp) ?_; refine AllReadyH.cons (by simp only [List.getElem?_toArray, List.getElem?_cons_succ, List.getElem?_cons_zero]; rfl) (fun K hK => ?_) AllReadyH.nil; go_simp; (go_at_call 23; (with_reducible refine (rValue_calls x _ _ (kResult.K_below (sqx_b (by assumption)) HX.out) HWX.out).mono ?_); rintro e w2 ⟨rfl, hb⟩); refine hK.out _ _ (by (try dsimp only); (first | assumption | exact sqx_drew hS | exact sqx_below hb (by assumption))) ?_; clear hK K hHeld; intro hHeld; (try simp only [Act.put, List.setIfInBounds_toArray, List.set_cons_zero, List.set_cons_succ]))
                      (refine wpAnyH_take (i := 13) (v := ?_) (by simp only [List.getElem?_toArray, List.getElem?_cons_succ, List.getElem?_cons_zero]; rfl) (by kernel_rfl) (by kernel_rfl) (by kernel_rfl) (fun _ _ _ h => h) (Or.inl ⟨by rfl, ?_⟩) (by assumption) ?_; rotate_left; (focus (intro w hSw; (try dsimp only at hSw); go_simp; (try with_reducible rfl); done)); (try simp only [Act.put, List.setIfInBounds_toArray, List.set_cons_zero, List.set_cons_succ]))
                      (refine wpAnyH_take (i := 14) (v := ?_) (by simp only [List.getElem?_toArray, List.getElem?_cons_succ, List.getElem?_cons_zero]; rfl) (by kernel_rfl) (by kernel_rfl) (by kernel_rfl) (fun _ _ _ h => h) (Or.inl ⟨by rfl, ?_⟩) (by assumption) ?_; rotate_left; (focus (intro w hSw; (try dsimp only at hSw); go_simp; (try with_reducible rfl); done)); (try simp only [Act.put, List.setIfInBounds_toArray, List.set_cons_zero, List.set_cons_succ]))
                      (refine wpAnyH_ready (rs := [15]) (by kernel_rfl) (by simp) ?_; refine AllReadyH.cons (by simp only [List.getElem?_toArray, List.getElem?_cons_succ, List.getElem?_cons_zero]; rfl) (fun K hK => ?_) AllReadyH.nil; go_simp; (refine upon_bytes 9 30 5 _ Tryd.underlying9 Tryd.underlying30 Tryd.underlying5 ?_ ?_; (case _ => simp only [ByteArray.size_append]; show 3 + _ + _ + 2 + _ + 2 ≤ _; omega); intro A c w3 hc3 hC3 hb; have HC3 := Aside0.mk (And.intro hc3 hC3); clear hc3 hC3); refine hK.out _ _ (by (try dsimp only); (first | assumption | exact sqx_drew hS | exact sqx_below hb (by assumption))) ?_; clear hK K hHeld; intro hHeld; (try simp only [Act.put, List.setIfInBounds_toArray, List.set_cons_zero, List.set_cons_succ]))
                      (refine wpAnyH_take (i := 16) (v := ?_) (by simp only [List.getElem?_toArray, List.getElem?_cons_succ, List.getElem?_cons_zero]; rfl) (by kernel_rfl) (by kernel_rfl) (by kernel_rfl) (fun _ _ _ h => h) (Or.inl ⟨by rfl, ?_⟩) (by assumption) ?_; rotate_left; (focus (intro w hSw; (try dsimp only at hSw); go_simp; (try with_reducible rfl); done)); (try simp only [Act.put, List.setIfInBounds_toArray, List.set_cons_zero, List.set_cons_succ]))
                      (refine wpAnyH_done (by kernel_rfl) ?_ _; refine NoPanic.normal ?_)
                      go_wp2
                      go_ret
                      rw [mOne_full HBQ.out hno.out HST.out.1 HST.out.2]
                      exact ⟨A, c, rfl, HC3.out.1, HC3.out.2, below_step hHeld.1.out (Below.refl _ _)⟩
end Go.Proofs.YtfolaakllblhbaaDoor.X
