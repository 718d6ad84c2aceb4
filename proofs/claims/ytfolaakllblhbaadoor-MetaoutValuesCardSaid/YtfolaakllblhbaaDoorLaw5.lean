/- Chapter 19's third law, MetaoutFlags: the walk. -/
import Derived.Test.YtfolaakllblhbaaDoorLaw4
namespace Go.Proofs.YtfolaakllblhbaaDoor.X
open Go.RowKit Go.Proofs.YtfolaakllblhbaaDoorW.PrintWords
set_option linter.unusedVariables false
set_option linter.unusedSimpArgs false

theorem told_nokeys (q : Request) (y : Result) (hk : q.form.keys = []) (ht : q.form.tokens = []) (hw : y.Wf) (hv : y.value.length ≤ 2000) (c i : Int) : (mTold q y c i).1.size ≤ 1000 := by
  have hsz : (mValue y).size ≤ 2020 := by
    unfold mValue
    split
    · have := showI_size y.number hw.number.2; omega
    · rw [strOfNums_size]; omega
  have s1 := showI_size y.cas hw.cas.2
  have s2 := showI_size y.flags (by have := hw.flags; omega)
  have s3 := showI_size ((mValue y).size : Int) (by omega)
  have s4 := showI_size y.ttl (by have := hw.ttl; omega)
  have k0 : ∀ j : Int, (atS [] j).size = 0 := fun j => rfl
  have k1 : (atS q.form.keys 0).size ≤ 400 := by rw [hk, k0]; omega
  have k2 : (atS q.form.tokens i).size ≤ 300 := by rw [ht, k0]; omega
  unfold mTold
  repeat' split
  all_goals first | exact Nat.le_trans s1 (by omega) | exact Nat.le_trans s2 (by omega) | exact Nat.le_trans s3 (by omega) | exact Nat.le_trans s4 (by omega) | exact Nat.le_trans k1 (by omega) | exact Nat.le_trans k2 (by omega) | exact (show (0 : Nat) ≤ 1000 by omega) | decide
def flagsQ (letters : ByteArray) : Request := { zRequest with form := { zForm with flags := letters } }
theorem list_app (a b : ByteArray) : (a ++ b).data.toList = a.data.toList ++ b.data.toList := by
  rw [ByteArray.data_append, Array.toList_append]
theorem gotL_short (l : List UInt8) (h : l.length ≤ 1) : gotL l = [] := by
  match l, h with
  | [], _ => rfl
  | [_], _ => rfl
theorem gotL_le : ∀ l : List UInt8, (gotL l).length ≤ l.length
  | [] => by simp [gotL]
  | [_] => by simp [gotL]
  | a :: b :: r => by
    have := gotL_le (b :: r)
    simp only [gotL, List.length_append, List.length_cons] at this ⊢
    split <;> simp <;> omega
theorem ok_letter (c : UInt8) : okLetter c = true ↔ ¬ (((((¬ c.toNat = 98 ∧ ¬ c.toNat = 99) ∧ ¬ c.toNat = 102) ∧ ¬ c.toNat = 107) ∧ ¬ c.toNat = 115) ∧ ¬ c.toNat = 116) := by
  have e : ∀ d : UInt8, (c == d) = true ↔ c.toNat = d.toNat := fun d => by rw [beq_iff_eq]; exact UInt8.toNat_inj.symm
  unfold okLetter
  simp only [Bool.or_eq_true, e]
  show (((((c.toNat = 98 ∨ c.toNat = 99) ∨ c.toNat = 102) ∨ c.toNat = 107) ∨ c.toNat = 115) ∨ c.toNat = 116) ↔ _
  omega
theorem list_at (s : ByteArray) (i : Nat) (h : i < s.size) : s.data.toList[i]'(by rw [Array.length_toList]; exact h) = s[i]'h := by rw [Array.getElem_toList]; rfl
theorem extract_one (s : ByteArray) (i : Nat) (h : i < s.size) : (s.extract i (i + 1)).data.toList = [s[i]'h] := by
  have hl : i < s.data.toList.length := by rw [Array.length_toList]; exact h
  rw [ByteArray.data_extract, Array.toList_extract]
  unfold List.extract
  rw [show i + 1 - i = 1 by omega, List.drop_eq_getElem_cons hl, list_at s i h]
  rfl
theorem step_ok (s acc : ByteArray) (pos : Nat) (hp : pos < s.size) (h : acc.data.toList = s.data.toList.take pos ∧ ∀ c ∈ s.data.toList.take pos, okLetter c = true) (ho : okLetter (s[pos]'hp) = true) :
    (acc ++ s.extract pos (pos + 1)).data.toList = s.data.toList.take (pos + 1) ∧ ∀ c ∈ s.data.toList.take (pos + 1), okLetter c = true := by
  have hl : pos < s.data.toList.length := by rw [Array.length_toList]; exact hp
  have e : s.data.toList.take (pos + 1) = s.data.toList.take pos ++ [s[pos]'hp] := by
    rw [List.take_add_one, List.getElem?_eq_getElem hl, list_at s pos hp]
    rfl
  rw [list_app, extract_one s pos hp, h.1, e]
  refine ⟨rfl, fun c hc => ?_⟩
  rcases List.mem_append.1 hc with hc | hc
  · exact h.2 c hc
  · obtain rfl := List.mem_singleton.1 hc
    exact ho
theorem size_list (s : ByteArray) : s.size = s.data.toList.length := by rw [Array.length_toList]; rfl
theorem got_step (F : ByteArray) (pos : Nat) (h : pos + 1 < F.size) : gotL (F.data.toList.drop pos) = (if F[pos]'(by omega) = 32 then [F[pos + 1]'h] else []) ++ gotL (F.data.toList.drop (pos + 1)) := by
  have h1 : pos < F.data.toList.length := by rw [Array.length_toList]; show pos < F.size; omega
  have h2 : pos + 1 < F.data.toList.length := by rw [Array.length_toList]; exact h
  rw [List.drop_eq_getElem_cons h1, List.drop_eq_getElem_cons h2, list_at F pos (by omega), list_at F (pos + 1) h]
  rfl
theorem C_none {α : Type} (d : Kd α) (w : World) : d.C w none 0 [] := ⟨rfl, by decide, fun h => absurd h (by decide)⟩
theorem flagsQ_K (W : World) (s : ByteArray) : kRequest.K W (flagsQ s) [.slice none 0 0, .int .i64 0, .string ⟨#[]⟩, .int .i64 0, .int .u32 0, .bool false, .bool false, .string s, .slice none 0 0, .slice none 0 0, .bool false] :=
  kRequest_mk W (flagsQ s) (A0 := none) (c0 := 0) (Nat.le_refl 0) (C_none kCmd W) (A8 := none) (c8 := 0) (Nat.le_refl 0) (C_none Kd.string W) (A9 := none) (c9 := 0) (Nat.le_refl 0) (C_none Kd.string W)
set_option maxHeartbeats 4000000 in
set_option maxRecDepth 100000 in
theorem flags_calls (s : ByteArray) (x : Result) (cx : List Value) (w : World) (hs : s.size ≤ 9223372036854775807) (hx : kResult.K w x cx) (hxw : x.Wf) (hT : Tabs w) :
    Calls Tryd.prog 5 #[.string s, .agg cx.toArray] w fun e w' => e = .returned (.bool true) ∧ Below w.heap.size w w' := by
  obtain ⟨B3, d3, rfl, hl3, hC3⟩ := kResult_open hx
  have HX := Aside0.mk (kResult_mk w x hl3 hC3)
  have HT := Aside0.mk hT; have HXW := Aside0.mk hxw
  have hm3 := hxw.value.1
  have HB := Aside0.mk (Below.refl w.heap.size w)
  clear hx hC3 hT hxw
  by_cases hbig : (20 : Int) < s.size ∨ (2000 : Int) < x.value.length
  · go_enter Tryd.func5, Tryd.ntmps5
    go_upto_region 2 with (go_at_call 7; (with_reducible refine (awake_calls _ (Tabs.below HT.out (by repeat (first | (with_reducible first | exact HB.out | apply below_alloc | apply pw_below_drewN | apply below_drew1) | exact HB.out)))).mono ?_); rintro e w1 ⟨rfl, hb⟩; have HX1 := Aside0.mk ((hb.block w.heap.size (by simp)).trans (ha_at rfl)); have HBn := Aside0.mk (below_step (by repeat (first | (with_reducible first | exact HB.out | apply below_alloc | apply pw_below_drewN | apply below_drew1) | exact HB.out)) hb); clear HB; have HB := HBn; clear HBn; clear hb; have x0 := fun j v => blk_cells HX1.out j v; have b1 := x0 1 _ rfl; clear x0)
    by_cases h20 : (20 : Int) < s.size
    · go_wp2
      go_ret
      exact ⟨rfl, HB.out.trans (Below.refl _ _)⟩
    · have h2 : (2000 : Int) < x.value.length := by omega
      go_wp2
      go_ret
      exact ⟨rfl, HB.out.trans (Below.refl _ _)⟩
  · have h20 : ¬ (20 : Int) < s.size := by omega
    have h2 : ¬ (2000 : Int) < x.value.length := by omega
    have hsl : s.data.toList.length = s.size := by rw [Array.length_toList]; rfl
    go_enter Tryd.func5, Tryd.ntmps5
    go_wp2_with (go_at_call 7; (with_reducible refine (awake_calls _ (Tabs.below HT.out (by repeat (first | (with_reducible first | exact HB.out | apply below_alloc | apply pw_below_drewN | apply below_drew1) | exact HB.out)))).mono ?_); rintro e w1 ⟨rfl, hb⟩; have HX1 := Aside0.mk ((hb.block w.heap.size (by simp)).trans (ha_at rfl)); have HBn := Aside0.mk (below_step (by repeat (first | (with_reducible first | exact HB.out | apply below_alloc | apply pw_below_drewN | apply below_drew1) | exact HB.out)) hb); clear HB; have HB := HBn; clear HBn; clear hb; have x0 := fun j v => blk_cells HX1.out j v; have b0 := x0 0 _ rfl; have b1 := x0 1 _ rfl; have b2 := x0 2 _ rfl; have b3 := x0 3 _ rfl; have b4 := x0 4 _ rfl; have b5 := x0 5 _ rfl; have b6 := x0 6 _ rfl; have b7 := x0 7 _ rfl; have b8 := x0 8 _ rfl; clear x0)
    go_loopw [6, 7] (fun v6 v7 wr => ∃ (pos : Nat) (acc : ByteArray), v6 = .string acc ∧ v7 = .int .i64 pos ∧ pos ≤ s.size ∧ wr = w1 ∧ acc.size = pos ∧ Aside0 (acc.data.toList = s.data.toList.take pos ∧ ∀ c ∈ s.data.toList.take pos, okLetter c = true)) (fun v6 v7 _ => s.size - (intOf v7).toNat)
    case atStart => exact ⟨0, ⟨#[]⟩, rfl, rfl, by omega, rfl, rfl, ⟨rfl, fun c hc => by simp at hc⟩⟩
    case round =>
      obtain ⟨pos, acc, rfl, rfl, hps, rfl, hasz, hac⟩ := hrel
      by_cases hp : pos < s.size
      · have hpi : (pos : Int) < s.size := by omega
        have hpn : (pos : Int).toNat < s.size := by omega
        by_cases e0 : (s[pos]'hp).toNat = 98
        · have f0 : (((s[pos]'hp).toNat : Int) == 98) = true := beq_iff_eq.2 (by omega)
          have g0 : (((s[pos]'hp).toNat : Int) != 98) = false := by rw [bne, f0]; rfl
          have HO : Aside0 (okLetter (s[pos]'hp) = true) := ⟨(ok_letter _).2 (by omega)⟩
          clear e0
          go_wp2
          go_roundw
          case rel => exact ⟨pos + 1, acc ++ s.extract pos (pos + 1), by first | rfl | simp, by simp, by omega, by first | rfl | trivial, by have := (step_ok s acc pos hp hac.out HO.out).1; rw [size_list, this, List.length_take]; omega, ⟨step_ok s acc pos hp hac.out HO.out⟩⟩
          case measure => simp [intOf]; omega
        · have f0 : (((s[pos]'hp).toNat : Int) == 98) = false := beq_eq_false_iff_ne.2 (by omega)
          have g0 : (((s[pos]'hp).toNat : Int) != 98) = true := by rw [bne, f0]; rfl
          by_cases e1 : (s[pos]'hp).toNat = 99
          · have f1 : (((s[pos]'hp).toNat : Int) == 99) = true := beq_iff_eq.2 (by omega)
            have g1 : (((s[pos]'hp).toNat : Int) != 99) = false := by rw [bne, f1]; rfl
            have HO : Aside0 (okLetter (s[pos]'hp) = true) := ⟨(ok_letter _).2 (by omega)⟩
            clear e0 e1
            go_wp2
            go_roundw
            case rel => exact ⟨pos + 1, acc ++ s.extract pos (pos + 1), by first | rfl | simp, by simp, by omega, by first | rfl | trivial, by have := (step_ok s acc pos hp hac.out HO.out).1; rw [size_list, this, List.length_take]; omega, ⟨step_ok s acc pos hp hac.out HO.out⟩⟩
            case measure => simp [intOf]; omega
          · have f1 : (((s[pos]'hp).toNat : Int) == 99) = false := beq_eq_false_iff_ne.2 (by omega)
            have g1 : (((s[pos]'hp).toNat : Int) != 99) = true := by rw [bne, f1]; rfl
            by_cases e2 : (s[pos]'hp).toNat = 102
            · have f2 : (((s[pos]'hp).toNat : Int) == 102) = true := beq_iff_eq.2 (by omega)
              have g2 : (((s[pos]'hp).toNat : Int) != 102) = false := by rw [bne, f2]; rfl
              have HO : Aside0 (okLetter (s[pos]'hp) = true) := ⟨(ok_letter _).2 (by omega)⟩
              clear e0 e1 e2
              go_wp2
              go_roundw
              case rel => exact ⟨pos + 1, acc ++ s.extract pos (pos + 1), by first | rfl | simp, by simp, by omega, by first | rfl | trivial, by have := (step_ok s acc pos hp hac.out HO.out).1; rw [size_list, this, List.length_take]; omega, ⟨step_ok s acc pos hp hac.out HO.out⟩⟩
              case measure => simp [intOf]; omega
            · have f2 : (((s[pos]'hp).toNat : Int) == 102) = false := beq_eq_false_iff_ne.2 (by omega)
              have g2 : (((s[pos]'hp).toNat : Int) != 102) = true := by rw [bne, f2]; rfl
              by_cases e3 : (s[pos]'hp).toNat = 107
              · have f3 : (((s[pos]'hp).toNat : Int) == 107) = true := beq_iff_eq.2 (by omega)
                have g3 : (((s[pos]'hp).toNat : Int) != 107) = false := by rw [bne, f3]; rfl
                have HO : Aside0 (okLetter (s[pos]'hp) = true) := ⟨(ok_letter _).2 (by omega)⟩
                clear e0 e1 e2 e3
                go_wp2
                go_roundw
                case rel => exact ⟨pos + 1, acc ++ s.extract pos (pos + 1), by first | rfl | simp, by simp, by omega, by first | rfl | trivial, by have := (step_ok s acc pos hp hac.out HO.out).1; rw [size_list, this, List.length_take]; omega, ⟨step_ok s acc pos hp hac.out HO.out⟩⟩
                case measure => simp [intOf]; omega
              · have f3 : (((s[pos]'hp).toNat : Int) == 107) = false := beq_eq_false_iff_ne.2 (by omega)
                have g3 : (((s[pos]'hp).toNat : Int) != 107) = true := by rw [bne, f3]; rfl
                by_cases e4 : (s[pos]'hp).toNat = 115
                · have f4 : (((s[pos]'hp).toNat : Int) == 115) = true := beq_iff_eq.2 (by omega)
                  have g4 : (((s[pos]'hp).toNat : Int) != 115) = false := by rw [bne, f4]; rfl
                  have HO : Aside0 (okLetter (s[pos]'hp) = true) := ⟨(ok_letter _).2 (by omega)⟩
                  clear e0 e1 e2 e3 e4
                  go_wp2
                  go_roundw
                  case rel => exact ⟨pos + 1, acc ++ s.extract pos (pos + 1), by first | rfl | simp, by simp, by omega, by first | rfl | trivial, by have := (step_ok s acc pos hp hac.out HO.out).1; rw [size_list, this, List.length_take]; omega, ⟨step_ok s acc pos hp hac.out HO.out⟩⟩
                  case measure => simp [intOf]; omega
                · have f4 : (((s[pos]'hp).toNat : Int) == 115) = false := beq_eq_false_iff_ne.2 (by omega)
                  have g4 : (((s[pos]'hp).toNat : Int) != 115) = true := by rw [bne, f4]; rfl
                  by_cases e5 : (s[pos]'hp).toNat = 116
                  · have f5 : (((s[pos]'hp).toNat : Int) == 116) = true := beq_iff_eq.2 (by omega)
                    have g5 : (((s[pos]'hp).toNat : Int) != 116) = false := by rw [bne, f5]; rfl
                    have HO : Aside0 (okLetter (s[pos]'hp) = true) := ⟨(ok_letter _).2 (by omega)⟩
                    clear e0 e1 e2 e3 e4 e5
                    go_wp2
                    go_roundw
                    case rel => exact ⟨pos + 1, acc ++ s.extract pos (pos + 1), by first | rfl | simp, by simp, by omega, by first | rfl | trivial, by have := (step_ok s acc pos hp hac.out HO.out).1; rw [size_list, this, List.length_take]; omega, ⟨step_ok s acc pos hp hac.out HO.out⟩⟩
                    case measure => simp [intOf]; omega
                  · have f5 : (((s[pos]'hp).toNat : Int) == 116) = false := beq_eq_false_iff_ne.2 (by omega)
                    have g5 : (((s[pos]'hp).toNat : Int) != 116) = true := by rw [bne, f5]; rfl
                    clear e0 e1 e2 e3 e4 e5
                    go_wp2
                    go_ret
                    exact ⟨rfl, HB.out.trans (Below.refl _ _)⟩
      · have hpi : ¬ (pos : Int) < s.size := by omega
        have hall : ∀ c ∈ s.data.toList, okLetter c = true := by
          have := hac.out.2
          rwa [List.take_of_length_le (by omega)] at this
        have hacs : acc = s := by
          apply ByteArray.ext
          apply Array.toList_inj.1
          have := hac.out.1
          rwa [List.take_of_length_le (by omega)] at this
        subst hacs
        have HALL := Aside0.mk hall
        clear hall hac
        have HPL : Aside0 (∀ c ∈ (flagsQ acc).form.flags.data.toList, c.toNat < 128) := ⟨fun c hc => by
          have := (ok_letter c).1 (HALL.out c hc)
          omega⟩
        have hlen : (flagsQ acc).form.flags.size ≤ 1000 := by show acc.size ≤ 1000; omega
        have HTX : Aside0 (∀ c i, (mTold (flagsQ acc) x c i).1.size ≤ 1000) := ⟨told_nokeys (flagsQ acc) x rfl rfl HXW.out (by omega)⟩
        have hFs := mFlags_size (flagsQ acc) x HTX.out hlen
        have HG := Aside0.mk (gotL_flags (flagsQ acc) x rfl HALL.out)
        obtain ⟨F, hF⟩ : ∃ F, mFlags (flagsQ acc) x = F := ⟨_, rfl⟩
        rw [hF] at HG hFs
        have n1 : ¬ 9223372036854775807 < acc.size + 1 := by omega
        have n2 : ¬ 9223372036854775807 < acc.size + 1 + 1 := by omega
        have n3 : ¬ 9223372036854775807 < acc.size + 1 + 1 + 1 := by omega
        obtain ⟨s6, h6⟩ : ∃ b, x.stale = b := ⟨_, rfl⟩
        obtain ⟨s7, h7⟩ : ∃ b, x.won = b := ⟨_, rfl⟩
        obtain ⟨s8, h8⟩ : ∃ b, x.lost = b := ⟨_, rfl⟩
        have HX1' := HX1
        rw [h6] at b6; rw [h7] at b7; rw [h8] at b8
        rw [h6, h7, h8] at HX1
        have HS : Aside0 (gotL F.data.toList = acc.data.toList ++ ((if s7 then [87] else []) ++ ((if s6 then [88] else []) ++ (if s8 then [90] else [])))) := ⟨by
          rw [HG.out]
          show acc.data.toList ++ signsL x = _
          unfold signsL
          rw [h6, h7, h8]⟩
        have HH := Aside0.mk (And.intro h6 (And.intro h7 h8))
        have HF := Aside0.mk hF
        clear h6 h7 h8 HG hF
        cases s6 <;> cases s7 <;> cases s8
        all_goals
          go_wp2_with (go_at_call 12; (with_reducible refine (mFlags_calls (flagsQ acc) x _ _ _ (flagsQ_K _ acc) (by have hk := kResult.K_below HB.out HX.out; rw [HH.out.1, HH.out.2.1, HH.out.2.2] at hk; exact hk) HXW.out (Tabs.below HT.out (by repeat (first | (with_reducible first | exact HB.out | apply below_alloc | apply pw_below_drewN | apply below_drew1) | exact HB.out))) HPL.out hlen HTX.out).mono ?_); rintro e w2 ⟨rfl, hb⟩; rw [HF.out]; have HBn := Aside0.mk (below_step (by repeat (first | (with_reducible first | exact HB.out | apply below_alloc | apply pw_below_drewN | apply below_drew1) | exact HB.out)) hb); clear HB; have HB := HBn; clear HBn; clear hb)
          go_loopw [10, 11] (fun v10 v11 wr2 => ∃ (pos : Nat) (got : ByteArray), v10 = .string got ∧ v11 = .int .i64 pos ∧ pos ≤ F.size ∧ wr2 = w2 ∧ got.size ≤ pos ∧ Aside0 (got.data.toList ++ gotL (F.data.toList.drop pos) = gotL F.data.toList)) (fun v10 v11 _ => F.size - (intOf v11).toNat)
          case atStart => exact ⟨0, ⟨#[]⟩, rfl, rfl, by omega, rfl, Nat.le_refl 0, ⟨rfl⟩⟩
          case round =>
            obtain ⟨pos, got, rfl, rfl, hps2, rfl, hgs, hgot⟩ := hrel
            by_cases hp : pos + 1 < F.size
            · have hpi : (pos : Int) + 1 < F.size := by omega
              have hpn : (pos : Int).toNat < F.size := by omega
              have hst := got_step F pos hp
              by_cases e : F[pos]'(by omega) = 32
              · have f0 : (((F[pos]'(by omega)).toNat : Int) == 32) = true := by rw [e]; rfl
                have HE : Aside0 ((got ++ F.extract (pos + 1) (pos + 2)).data.toList ++ gotL (F.data.toList.drop (pos + 1)) = gotL F.data.toList) := ⟨by
                  rw [← hgot.out, hst, if_pos e, list_app, extract_one F (pos + 1) hp, List.append_assoc]⟩
                have HZ : Aside0 ((got ++ F.extract (pos + 1) (pos + 2)).size ≤ pos + 1) := ⟨by
                  rw [size_list, list_app, extract_one F (pos + 1) hp, List.length_append, ← size_list]
                  simp
                  exact hgs⟩
                clear e hst hgot
                go_wp2
                go_roundw
                case rel => exact ⟨pos + 1, got ++ F.extract (pos + 1) (pos + 2), by first | rfl | simp, by simp, by omega, by first | rfl | trivial, HZ.out, HE⟩
                case measure => simp [intOf]; omega
              · have f0 : (((F[pos]'(by omega)).toNat : Int) == 32) = false := beq_eq_false_iff_ne.2 (fun h => e (UInt8.toNat_inj.1 (by have : (32 : UInt8).toNat = 32 := rfl; omega)))
                have HE : Aside0 (got.data.toList ++ gotL (F.data.toList.drop (pos + 1)) = gotL F.data.toList) := ⟨by
                  rw [← hgot.out, hst, if_neg e]
                  rfl⟩
                clear e hst hgot
                go_wp2
                go_roundw
                case rel => exact ⟨pos + 1, got, by first | rfl | simp, by simp, by omega, by first | rfl | trivial, by omega, HE⟩
                case measure => simp [intOf]; omega
            · have hpi : ¬ (pos : Int) + 1 < F.size := by omega
              have hd : gotL (F.data.toList.drop pos) = [] := gotL_short _ (by rw [List.length_drop, ← size_list]; omega)
              have hgl := hgot.out
              rw [hd, List.append_nil, HS.out] at hgl
              have HGL := Aside0.mk hgl
              clear hd hgot hgl
              go_wp2
              go_ret
              refine ⟨congrArg (fun b => Ending.returned (Value.bool b)) (?_ : (got.toList == _) = true), HB.out.trans (Below.refl _ _)⟩
              rw [beq_iff_eq, ByteArray.toList_eq, ByteArray.toList_eq, HGL.out]
              simp [list_app]
end Go.Proofs.YtfolaakllblhbaaDoor.X
