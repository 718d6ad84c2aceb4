/- The laws' guards: what 'Few' says where it says yes. -/
import Derived.Test.YtfolaakllblhbaaDoorB
import Derived.LoopTactic
import Derived.Deep.DeepCutAuto
import Derived.Deep.CutBlock
namespace Go.Proofs.YtfolaakllblhbaaDoor.X
open Go.RowKit Go.Proofs.YtfolaakllblhbaaDoorW.PrintWords
set_option linter.unusedVariables false
set_option linter.unusedSimpArgs false

def rdS (l : List ByteArray) (i : Nat) : ByteArray := l.getD i ⟨#[]⟩
theorem at_S {w : World} {A : Option Addr} {l : List ByteArray} (h : Kd.string.C w A l.length l) (i : Nat) (hi : i < l.length) : ∃ ad, A = some ad ∧ w.cell? (ad.add i) = some (.string (rdS l i)) := by
  obtain ⟨ad, cs, rfl, _, hK, hcell⟩ := Kd.C_get h (⟨#[]⟩ : ByteArray) i (by omega) (by omega)
  obtain rfl := hK
  have hc := hcell 0 _ rfl
  rw [show (i : Int).toNat * Kd.string.sz + 0 = i by show (i : Int).toNat * 1 + 0 = _; omega, Int.toNat_natCast] at hc
  exact ⟨ad, rfl, hc⟩
structure FewOk (q : Request) (l : List Result) : Prop where
  cmds : q.cmds.length ≤ 40
  res : l.length ≤ 40
  flags : q.form.flags.size ≤ 100
  tokens : q.form.tokens.length ≤ 100
  token : ∀ j, j < q.form.tokens.length → (rdS q.form.tokens j).size ≤ 300
  key : ∀ j, j < q.cmds.length → (rd_Cmd q.cmds (j : Nat)).key.size ≤ 300
  value : ∀ j, j < l.length → (rd_Result l (j : Nat)).value.length ≤ 2000
theorem upto_step {P : Nat → Prop} {pos : Nat} (h : ∀ j, j < pos → P j) (hp : P pos) : ∀ j, j < pos + 1 → P j := fun j hj => by
  rcases Nat.lt_or_ge j pos with h1 | h1
  · exact h j h1
  · have : j = pos := by omega
    subst this; exact hp
set_option maxHeartbeats 1000000 in
set_option maxRecDepth 100000 in
theorem few_calls (q : Request) (l : List Result) (cq : List Value) (A1 : Option Addr) (n1 : Nat) (w : World) (hq : kRequest.K w q cq) (hn1 : l.length ≤ n1) (hL : kResult.C w A1 l.length l) (hfs : q.form.flags.size ≤ 9223372036854775807) (htk : ∀ t ∈ q.form.tokens, t.size ≤ 9223372036854775807) :
    Calls Tryd.prog 17 #[.agg cq.toArray, .slice A1 l.length n1] w fun e w' => ∃ b, e = .returned (.bool b) ∧ (b = true → FewOk q l) ∧ Below w.heap.size w w' := by
  obtain ⟨A0, c0, A8, c8, A9, c9, rfl, hl0, hC0, hl8, hC8, hl9, hC9⟩ := kRequest_open hq
  have HC0 := Aside0.mk hC0; have HC8 := Aside0.mk hC8; have HCL := Aside0.mk hL
  have hm0 := hC0.2.1; have hm8 := hC8.2.1; have hmL := hL.2.1
  clear hq hC0 hC8 hC9 hL htk
  go_enter Tryd.func17, Tryd.ntmps17
  go_upto_region 1 with (fail)
  go_cut [30] (fun v30 wc => v30 = .bool (decide (40 < (q.cmds.length : Int)) || decide (40 < (l.length : Int)) || decide (100 < (q.form.flags.size : Int)) || decide (100 < (q.form.tokens.length : Int))) ∧ wc.heap[w.heap.size]? = some (.cells #[.slice A0 q.cmds.length c0, .int .i64 q.form.dialect, .string q.form.verb, .int .i64 q.form.code, .int .u32 q.form.opq, .bool q.form.quiet, .bool q.form.withcas, .string q.form.flags, .slice A8 q.form.tokens.length c8, .slice A9 q.form.keys.length c9, .bool q.form.base64] 28 (0, 0)) ∧ Below w.heap.size w wc)
  case first =>
    cases h1 : decide (40 < (q.cmds.length : Int)) <;> cases h2 : decide (40 < (l.length : Int)) <;> cases h3 : decide (100 < (q.form.flags.size : Int)) <;> cases h4 : decide (100 < (q.form.tokens.length : Int))
    all_goals
      go_wp2
      go_meet
      exact ⟨by simp_all, ha_at rfl, (by repeat (first | exact Below.refl _ _ | apply below_drew1 | apply pw_below_drewN | apply below_alloc))⟩
  case rest =>
    obtain ⟨rfl, hqb, hbw⟩ := hcut
    have hwsz := hbw.size
    have q0 := fun j v => blk_cells hqb j v
    have a0 := q0 0 _ rfl; have a7 := q0 7 _ rfl; have a8 := q0 8 _ rfl
    have HB := Aside0.mk hbw
    have HC0' := Aside0.mk (Kd.C_below HC0.out hbw); have HC8' := Aside0.mk (Kd.C_below HC8.out hbw); have HCL' := Aside0.mk (Kd.C_below HCL.out hbw)
    have hb1 : (decide (40 < (q.cmds.length : Int)) || decide (40 < (l.length : Int)) || decide (100 < (q.form.flags.size : Int)) || decide (100 < (q.form.tokens.length : Int))) = false → q.cmds.length ≤ 40 ∧ l.length ≤ 40 ∧ q.form.flags.size ≤ 100 ∧ q.form.tokens.length ≤ 100 := fun h => by
      simp only [Bool.or_eq_false_iff, decide_eq_false_iff_not] at h
      omega
    generalize (decide (40 < (q.cmds.length : Int)) || decide (40 < (l.length : Int)) || decide (100 < (q.form.flags.size : Int)) || decide (100 < (q.form.tokens.length : Int))) = b at *
    clear q0 hqb hbw HC0 HC8 HCL
    cases b
    · have HF := Aside0.mk (hb1 rfl)
      clear hb1
      go_wp2
      go_loopw [5] (fun v5 wr => ∃ (pos : Nat), v5 = .int .i64 pos ∧ pos ≤ q.form.tokens.length ∧ wr = wc ∧ Aside0 (∀ j, j < pos → (rdS q.form.tokens j).size ≤ 300)) (fun v5 _ => q.form.tokens.length - (intOf v5).toNat)
      case atStart => exact ⟨0, rfl, by omega, rfl, ⟨fun j hj => by omega⟩⟩
      case round =>
        obtain ⟨pos, rfl, hps, rfl, hall⟩ := hrel
        by_cases hp : pos < q.form.tokens.length
        · obtain ⟨ad, hA8, hc⟩ := at_S HC8'.out pos hp
          have hpi : (pos : Int) < q.form.tokens.length := by omega
          subst hA8
          by_cases hs : (300 : Int) < (rdS q.form.tokens pos).size
          · go_wp2
            go_ret
            exact ⟨false, rfl, (fun h => by cases h), HB.out.trans (Below.refl _ _)⟩
          · have HS : Aside0 ((rdS q.form.tokens pos).size ≤ 300) := ⟨by omega⟩
            go_wp2
            go_roundw
            case rel => exact ⟨pos + 1, by simp, by omega, by first | rfl | trivial, ⟨upto_step hall.out HS.out⟩⟩
            case measure => simp [intOf]; omega
        · have HT : Aside0 (∀ j, j < q.form.tokens.length → (rdS q.form.tokens j).size ≤ 300) := ⟨fun j hj => hall.out j (by omega)⟩
          have hpi : ¬ (pos : Int) < q.form.tokens.length := by omega
          clear hall
          go_wp2
          go_loopw [6] (fun v6 ws => ∃ (pos : Nat), v6 = .int .i64 pos ∧ pos ≤ q.cmds.length ∧ ws = wr ∧ Aside0 (∀ j, j < pos → (rd_Cmd q.cmds (j : Nat)).key.size ≤ 300)) (fun v6 _ => q.cmds.length - (intOf v6).toNat)
          case atStart => exact ⟨0, rfl, by omega, rfl, ⟨fun j hj => by omega⟩⟩
          case round =>
            obtain ⟨pos, rfl, hps, rfl, hall⟩ := hrel
            by_cases hp : pos < q.cmds.length
            · have hpi : (pos : Int) < q.cmds.length := by omega
              obtain ⟨ad, B2, d2, hA0, _, kc, _⟩ := at_Cmd HC0'.out (pos : Int) (by omega) hpi
              rw [Int.toNat_natCast] at kc
              subst hA0
              by_cases hs : (300 : Int) < (rd_Cmd q.cmds (pos : Nat)).key.size
              · go_wp2
                go_ret
                exact ⟨false, rfl, (fun h => by cases h), HB.out.trans (Below.refl _ _)⟩
              · have HS : Aside0 ((rd_Cmd q.cmds (pos : Nat)).key.size ≤ 300) := ⟨by omega⟩
                go_wp2
                go_roundw
                case rel => exact ⟨pos + 1, by simp, by omega, by first | rfl | trivial, ⟨upto_step hall.out HS.out⟩⟩
                case measure => simp [intOf]; omega
            · have HK : Aside0 (∀ j, j < q.cmds.length → (rd_Cmd q.cmds (j : Nat)).key.size ≤ 300) := ⟨fun j hj => hall.out j (by omega)⟩
              have hpi : ¬ (pos : Int) < q.cmds.length := by omega
              clear hall
              go_wp2
              go_loopw [7] (fun v7 ws => ∃ (pos : Nat), v7 = .int .i64 pos ∧ pos ≤ l.length ∧ ws = wr ∧ Aside0 (∀ j, j < pos → (rd_Result l (j : Nat)).value.length ≤ 2000)) (fun v7 _ => l.length - (intOf v7).toNat)
              case atStart => exact ⟨0, rfl, by omega, rfl, ⟨fun j hj => by omega⟩⟩
              case round =>
                obtain ⟨pos, rfl, hps, rfl, hall⟩ := hrel
                by_cases hp : pos < l.length
                · have hpi : (pos : Int) < l.length := by omega
                  obtain ⟨ad, B2, d2, hA0, _, kc, _⟩ := at_Result HCL'.out (pos : Int) (by omega) hpi
                  rw [Int.toNat_natCast] at kc
                  subst hA0
                  by_cases hs : (2000 : Int) < (rd_Result l (pos : Nat)).value.length
                  · go_wp2
                    go_ret
                    exact ⟨false, rfl, (fun h => by cases h), HB.out.trans (Below.refl _ _)⟩
                  · have HS : Aside0 ((rd_Result l (pos : Nat)).value.length ≤ 2000) := ⟨by omega⟩
                    go_wp2
                    go_roundw
                    case rel => exact ⟨pos + 1, by simp, by omega, by first | rfl | trivial, ⟨upto_step hall.out HS.out⟩⟩
                    case measure => simp [intOf]; omega
                · have HV : Aside0 (∀ j, j < l.length → (rd_Result l (j : Nat)).value.length ≤ 2000) := ⟨fun j hj => hall.out j (by omega)⟩
                  have hpi : ¬ (pos : Int) < l.length := by omega
                  clear hall
                  go_wp2
                  go_ret
                  exact Or.inr ⟨rfl, ⟨HF.out.1, HF.out.2.1, HF.out.2.2.1, HF.out.2.2.2, HT.out, HK.out, HV.out⟩, HB.out.trans (Below.refl _ _)⟩
    · clear hb1
      go_wp2
      go_ret
      exact ⟨false, rfl, (fun h => by cases h), HB.out.trans (Below.refl _ _)⟩
end Go.Proofs.YtfolaakllblhbaaDoor.X
