/- Texts of this work, merged in build order: Flag, Mkey, Mreq, Mread, Msto, Mpar, Wi, Mpar2, Mpar3, Rep. -/
import Derived.Test.YtdgeiadlijlkmaaGreatDoorZ2
import Derived.Deep.RegionHeld3
import Derived.Deep.DeepCutAuto
import Derived.Deep.CutBlock
import Derived.Deep.MidRow
import Derived.Laws.CopyOwn
import Derived.RangeFuncNested
import Derived.RangeFuncBound
import Derived.RangeFuncCalls
import Derived.RangeFuncLeaves
import Derived.RangeFuncBox
import Derived.Shelf.Abstract
import Derived.Shelf.RegionOpen
import Derived.WalkKit
import Derived.OwnWalkIn
import Derived.TacticsInMore
import Derived.LoopNIn
import Derived.LoopIn
import Derived.Maps.AppendAt
import Derived.Outline
namespace Go.Proofs.YtdgeiadlijlkmaaGreatDoor.X
open Go.RowKit Go.Proofs.YtdgeiadlijlkmaaGreatDoorW.PrintWords Go.Proofs.YtdgeiadlijlkmaaGreatDoorW.PrintMore
set_option linter.unusedVariables false
set_option linter.unusedSimpArgs false
theorem flags_w (v : ByteArray) (w : World) : Calls Tryz.prog 19 #[.string v] w fun e w' => e = .returned (.tuple #[.string (bareL v.toList), .string (loadL v.toList), .bool (isVerb v.toList)]) ∧ Below w.heap.size w w' := by
  refine (metain_flags.calls v (bareL v.toList) (loadL v.toList) (isVerb v.toList) w ?_).mono fun e w' h => ⟨h.1, h.2.below⟩
  unfold metain_flags.f bareL loadL isVerb
  by_cases h1 : v.toList = [109, 103]
  · rw [if_pos h1, if_pos h1, if_pos h1, h1]; rfl
  by_cases h2 : v.toList = [109, 115]
  · rw [if_neg h1, if_neg h1, if_neg h1, if_pos h2, if_pos h2, if_pos h2, h2]; rfl
  by_cases h3 : v.toList = [109, 100]
  · rw [if_neg h1, if_neg h1, if_neg h1, if_neg h2, if_neg h2, if_neg h2, if_pos h3, if_pos h3, if_pos h3, h3]; rfl
  by_cases h4 : v.toList = [109, 97]
  · rw [if_neg h1, if_neg h1, if_neg h1, if_neg h2, if_neg h2, if_neg h2, if_neg h3, if_neg h3, if_neg h3, if_pos h4, if_pos h4, if_pos h4, h4]; rfl
  · rw [if_neg h1, if_neg h1, if_neg h1, if_neg h2, if_neg h2, if_neg h2, if_neg h3, if_neg h3, if_neg h3, if_neg h4, if_neg h4, if_neg h4, decide_eq_false h1, decide_eq_false h2, decide_eq_false h3, decide_eq_false h4]; rfl
theorem idx_has (s : List UInt8) (z : Int) (h0 : 0 ≤ z) (h1 : z < 256) : (0 ≤ Lib.indexByte s z.toNat.toUInt8 ↔ s.any (fun b => decide ((b.toNat : Int) = z)) = true) ∧ -1 ≤ Lib.indexByte s z.toNat.toUInt8 := by
  induction s with
  | nil => simp [Lib.indexByte]
  | cons b s ih =>
    unfold Lib.indexByte
    have hbz : (b == z.toNat.toUInt8) = decide ((b.toNat : Int) = z) := by
      by_cases hb : (b.toNat : Int) = z
      · rw [decide_eq_true hb, beq_iff_eq]
        apply UInt8.toNat_inj.1
        rw [← hb]
        simp
      · rw [decide_eq_false hb, beq_eq_false_iff_ne]
        intro e
        apply hb
        rw [e]
        simp only [UInt8.toNat_ofNat', Nat.toUInt8]
        have h3 : z.toNat % 256 = z.toNat := Nat.mod_eq_of_lt (by omega)
        show ((z.toNat % 256 : Nat) : Int) = z
        rw [h3]
        omega
    rw [hbz]
    by_cases hb : (b.toNat : Int) = z
    · rw [decide_eq_true hb]
      simp [hb]
    · rw [decide_eq_false hb]
      simp only [List.any_cons, decide_eq_false hb, Bool.false_or]
      by_cases h2 : Lib.indexByte s z.toNat.toUInt8 = -1
      · rw [h2] at ih ⊢
        simpa using ih
      · have h3 : (Lib.indexByte s z.toNat.toUInt8 == -1) = false := beq_eq_false_iff_ne.2 h2
        simp only [h3]
        have h4 := ih.2
        rw [if_neg (by simp), if_neg (by simp), ← ih.1]
        exact ⟨by omega, by omega⟩
theorem has_w (s : ByteArray) (z : Int) (h0 : 0 ≤ z) (h1 : z < 256) (w : World) : ∃ i : Int, (∀ w, Calls Tryz.prog 57 #[.string s, .int .u8 z] w fun e w' => e = .returned (.int .i64 i) ∧ w' = w) ∧ decide (0 ≤ i) = hasZ s z :=
  ⟨_, fun w => Tryz.strings_IndexByte s z w, by
    have := (idx_has s.data.toList z h0 h1).1
    unfold hasZ
    cases h : s.data.toList.any fun b => decide ((b.toNat : Int) = z)
    · rw [decide_eq_false_iff_not]
      intro h2
      rw [this.1 h2] at h
      cases h
    · rw [decide_eq_true_iff]
      exact this.2 h⟩
theorem letter_eq (t : ByteArray) (h : 0 < t.size) : ((t[0]'h).toNat : Int) = letter t := by
  unfold letter
  rcases t with ⟨⟨l⟩⟩
  cases l with
  | nil => cases h
  | cons a b => rfl
theorem letter_in (t : ByteArray) : 0 ≤ letter t ∧ letter t < 256 := by
  unfold letter
  have := (t.data.toList.getD 0 0).toNat_lt
  omega
/-- A line with a flag, as metain takes it. -/
def flagP (x : Ln) (t : ByteArray) : Except ByteArray Ln :=
  if ((!hasZ (bareL x.f.verb.toList) (letter t) && !hasZ (loadL x.f.verb.toList) (letter t)) || (hasZ (bareL x.f.verb.toList) (letter t) && !(tokenW t).toList.isEmpty)) = true then .error invalidT
  else if hasZ x.seen (letter t) = true then .error duplicateT
  else if (hasZ (loadL x.f.verb.toList) (letter t) && !(loadP x.f.verb (letter t) (tokenW t) x.c).1) = true then .error tokenT
  else .ok (goS x (if hasZ (loadL x.f.verb.toList) (letter t) = true then (loadP x.f.verb (letter t) (tokenW t) x.c).2 else x.c) (letter t) t)
/-- The line's block and its tokens' row. -/
def LnR (g : Nat) (x : Ln) (w : World) : Prop := ∃ vT, w.heap[g]? = some (.cells (lnC x.c x.f x.seen (.slice none 0 0) vT (.slice none 0 0)) 53 (0, 0)) ∧ w.ownsRow (g + 1) 9 1 vT x.f.tokens.length (encs Value.string x.f.tokens)
def FlagP (g : Nat) (r : Except ByteArray Ln) (w : World) (e : Ending) (w' : World) : Prop :=
  Below g w w' ∧ match r with
    | .error s => e = .returned (.string s)
    | .ok y => e = .returned (.string ⟨#[]⟩) ∧ LnR g y w'
set_option maxRecDepth 100000 in
set_option maxHeartbeats 4000000 in
theorem flag_calls (x : Ln) (t : ByteArray) (g : Nat) (w0 w : World) (hx : LnR g x w) (hT : Tabs w0) (hB : Below w0.heap.size w0 w) (hg0 : w0.heap.size ≤ g) (hv : x.f.verb.size ≤ 1000000) (ht : t.size ≤ 1000000) (ht0 : 0 < t.size) (hse : x.seen.size ≤ 1000000) (hfl : x.f.flags.size ≤ 1000000) (hto : x.f.tokens.length ≤ 1000000) :
    Calls Tryz.prog 39 #[.pointer (some ⟨g, 0, none⟩), .string t] w (FlagP g (flagP x t) w) := by
  obtain ⟨c, f, seen⟩ := x
  obtain ⟨vT, hg, hown⟩ := hx
  dsimp only at hg hown hv hse hfl hto
  have BX := Aside0.mk hg
  have HBT := Aside0.mk (But.refl g w)
  have HOW := Aside0.mk hown
  have HFL := Aside0.mk (fun w => flags_w f.verb w)
  have t11 : w.cell? ⟨g, 11, none⟩ = some (.string f.verb) := (blk_cell BX.out 11).trans rfl
  have hn1 : (1 : Int) ≤ ↑t.size := by omega
  have hn0 : (0 : Int) < ↑t.size := by omega
  obtain ⟨R, hR⟩ : ∃ R, flagP ⟨c, f, seen⟩ t = R := ⟨_, rfl⟩
  rw [hR]
  have hz := letter_in t
  unfold flagP at hR
  dsimp only at hR
  have hlet := letter_eq t ht0
  have hts : (t.extract 1 t.size).size ≤ 1000000 := by rw [ByteArray.size_extract]; omega
  have hfs : (t.extract 0 1).size ≤ 1 := by rw [ByteArray.size_extract]; omega
  obtain ⟨z, hz2⟩ : ∃ z, letter t = z := ⟨_, rfl⟩
  rw [hz2] at hR hz hlet
  obtain ⟨sB, hsB⟩ : ∃ s, bareL f.verb.toList = s := ⟨_, rfl⟩
  obtain ⟨sL, hsL⟩ : ∃ s, loadL f.verb.toList = s := ⟨_, rfl⟩
  obtain ⟨i1, HI1, hi1⟩ := has_w sB z hz.1 hz.2 w
  obtain ⟨i2, HI2, hi2⟩ := has_w sL z hz.1 hz.2 w
  obtain ⟨i3, HI3, hi3⟩ := has_w seen z hz.1 hz.2 w
  obtain ⟨i4, HI4, hi4⟩ := has_w toldT z hz.1 hz.2 w
  unfold toldT at HI4
  have HI1 := Aside0.mk HI1
  have HI2 := Aside0.mk HI2
  have HI3 := Aside0.mk HI3
  have HI4 := Aside0.mk HI4
  obtain ⟨iv, hiv⟩ : ∃ b, ((!hasZ sB z && !hasZ sL z) || (hasZ sB z && !(tokenW t).toList.isEmpty)) = b := ⟨_, rfl⟩
  rw [hsB, hsL] at hR
  rw [hiv] at hR
  rw [hsB, hsL] at HFL
  obtain ⟨p1, hp1⟩ : ∃ b, hasZ sB z = b := ⟨_, rfl⟩
  obtain ⟨p2, hp2⟩ : ∃ b, hasZ sL z = b := ⟨_, rfl⟩
  obtain ⟨p3, hp3⟩ : ∃ b, hasZ seen z = b := ⟨_, rfl⟩
  obtain ⟨p4, hp4⟩ : ∃ b, hasZ toldT z = b := ⟨_, rfl⟩
  rw [hp1] at hiv hi1
  rw [hp2] at hiv hi2 hR
  rw [hp3] at hi3 hR
  unfold goS at hR
  rw [hp4] at hi4 hR
  have HIV := Aside0.mk hiv
  obtain ⟨s, hs⟩ : ∃ s, tokenW t = s := ⟨_, rfl⟩
  obtain ⟨fw, hfw⟩ : ∃ s, firstW t = s := ⟨_, rfl⟩
  rw [hs, hfw] at hR
  rw [hs] at HIV
  have hsx : t.extract 1 t.size = s := hs
  have hfx : t.extract 0 1 = fw := hfw
  rw [hsx] at hts
  rw [hfx] at hfs
  have hcat1 : ¬ 9223372036854775807 < seen.size + fw.size := by omega
  have hcat2 : ¬ 9223372036854775807 < f.flags.size + fw.size := by omega
  have HLD : Aside0 (∀ w', w'.heap[g]? = some (.cells (lnC c f seen (.slice none 0 0) vT (.slice none 0 0)) 53 (0, 0)) → But g w w' → Calls Tryz.prog 58 #[.pointer (some ⟨g, 0, none⟩), .int .u8 z, .string s] w' fun e w'' => e = .returned (.bool (loadP f.verb z s c).1) ∧ LnTo g (lnC (loadP f.verb z s c).2 f seen (.slice none 0 0) vT (.slice none 0 0)) w' w'') :=
    ⟨fun w' h1 h2 => load_calls c f seen _ vT _ g z s w0 w' h1 hT (hB.trans (h2.low _ hg0)) hg0 hv hts⟩
  obtain ⟨⟨lb, lc⟩, hlp⟩ : ∃ r, loadP f.verb z s c = r := ⟨_, rfl⟩
  rw [hlp] at hR HLD
  dsimp only at hR HLD
  have HR := Aside0.mk hR
  clear hg hown hT hB hg0 hR hz hz2 hiv hsB hsL hs hfw hlp hp1 hp2 hp3 hp4
  go_enter Tryz.func39, Tryz.ntmps39
  go_wp2_with (first | (go_at_call 19; (with_reducible refine (HFL.out _).mono ?_); rintro e w1 ⟨rfl, hb⟩; have BXn := Aside0.mk (blk_below BX.out hb); have HBTn := Aside0.mk (HBT.out.trans (But.ofBelow hb (blk_lt BX.out))); clear BX HBT hb; have BX := BXn; have HBT := HBTn; clear BXn HBTn))
  (refine wp_region_noPanic ?_; refine wp_region_held_drew (S := fun _ => True) (by kernel_rfl) (by (try dsimp only); (try trivial)) ?_; intro hHeld)
  (refine wpAnyH_take (i := 0) (v := ?_) (by simp only [List.getElem?_toArray, List.getElem?_cons_succ, List.getElem?_cons_zero]; rfl) (by kernel_rfl) (by kernel_rfl) (by kernel_rfl) (fun _ _ _ h => h) (Or.inl ⟨by rfl, ?_⟩) (by assumption) ?_; rotate_left; (focus (intro w hSw; (try dsimp only at hSw); go_simp; (try with_reducible rfl); done)); (try simp only [Act.put, List.setIfInBounds_toArray, List.set_cons_zero, List.set_cons_succ]))
  (refine wpAnyH_take (i := 1) (v := ?_) (by simp only [List.getElem?_toArray, List.getElem?_cons_succ, List.getElem?_cons_zero]; rfl) (by kernel_rfl) (by kernel_rfl) (by kernel_rfl) (fun _ _ _ h => h) (Or.inl ⟨by rfl, ?_⟩) (by assumption) ?_; rotate_left; (focus (intro w hSw; (try dsimp only at hSw); go_simp; (try with_reducible rfl); done)); (try simp only [Act.put, List.setIfInBounds_toArray, List.set_cons_zero, List.set_cons_succ]))
  (refine wpAnyH_take (i := 2) (v := ?_) (by simp only [List.getElem?_toArray, List.getElem?_cons_succ, List.getElem?_cons_zero]; rfl) (by kernel_rfl) (by kernel_rfl) (by kernel_rfl) (fun _ _ _ h => h) (Or.inl ⟨by rfl, ?_⟩) (by assumption) ?_; rotate_left; (focus (intro w hSw; (try dsimp only at hSw); go_simp; (try with_reducible rfl); done)); (try simp only [Act.put, List.setIfInBounds_toArray, List.set_cons_zero, List.set_cons_succ]))
  (refine wpAnyH_take (i := 3) (v := ?_) (by simp only [List.getElem?_toArray, List.getElem?_cons_succ, List.getElem?_cons_zero]; rfl) (by kernel_rfl) (by kernel_rfl) (by kernel_rfl) (fun _ _ _ h => h) (Or.inl ⟨by rfl, ?_⟩) (by assumption) ?_; rotate_left; (focus (intro w hSw; (try dsimp only at hSw); go_simp; (try with_reducible rfl); done)); (try simp only [Act.put, List.setIfInBounds_toArray, List.set_cons_zero, List.set_cons_succ]))
  (refine wpAnyH_take (i := 4) (v := ?_) (by simp only [List.getElem?_toArray, List.getElem?_cons_succ, List.getElem?_cons_zero]; rfl) (by kernel_rfl) (by kernel_rfl) (by kernel_rfl) (fun _ _ _ h => h) (Or.inl ⟨by rfl, ?_⟩) (by assumption) ?_; rotate_left; (focus (intro w hSw; (try dsimp only at hSw); go_simp; (try with_reducible rfl); done)); (try simp only [Act.put, List.setIfInBounds_toArray, List.set_cons_zero, List.set_cons_succ]))
  (refine wpAnyH_take (i := 5) (v := ?_) (by simp only [List.getElem?_toArray, List.getElem?_cons_succ, List.getElem?_cons_zero]; rfl) (by kernel_rfl) (by kernel_rfl) (by kernel_rfl) (fun _ _ _ h => h) (Or.inl ⟨by rfl, ?_⟩) (by assumption) ?_; rotate_left; (focus (intro w hSw; (try dsimp only at hSw); go_simp; (try with_reducible rfl); done)); (try simp only [Act.put, List.setIfInBounds_toArray, List.set_cons_zero, List.set_cons_succ]))
  (refine wpAnyH_done (by kernel_rfl) ?_ _; refine NoPanic.normal ?_)
  clear hHeld
  have BXn := Aside0.mk (blk_drew BX.out)
  have HBTn := Aside0.mk (HBT.out.trans (But.ofBelow (below_drew1 (Below.refl _ _)) (blk_lt BX.out)))
  clear BX HBT t11 hlet hsx
  obtain ⟨w2, hw2⟩ : ∃ w2, w1.drew = w2 := ⟨_, rfl⟩
  rw [hw2] at BXn HBTn ⊢
  have BX := BXn
  have HBT := HBTn
  clear BXn HBTn hw2
  go_upto_region 4 with (first | (go_at_call 57; (with_reducible refine (HI1.out _).mono ?_); rintro e w2 ⟨rfl, rfl⟩) | (go_at_call 57; (with_reducible refine (HI2.out _).mono ?_); rintro e w2 ⟨rfl, rfl⟩))
  go_cut [34] (fun s34 wx => s34 = .bool iv ∧ Aside0 (wx.heap[g]? = some (.cells (lnC (c) (f) (seen) (.slice none 0 0) vT (.slice none 0 0)) 53 (0, 0)) ∧ But g w wx))
  case first =>
    have hiv := HIV.out
    clear hi1 hi2 hi3 hi4
    obtain ⟨em, hem⟩ : ∃ b, s.toList.isEmpty = b := ⟨_, rfl⟩
    rw [hem] at hiv
    cases p1 <;> cases p2 <;> cases em
    all_goals
      go_wp2
      go_meet
      case rel => exact ⟨by rw [← hiv]; rfl, ⟨BX.out, HBT.out⟩⟩
  case rest =>
  obtain ⟨rfl, HW⟩ := hcut; have BXn := Aside0.mk HW.out.1; have HBTn := Aside0.mk HW.out.2; clear BX HBT HW; have BX := BXn; have HBT := HBTn; clear BXn HBTn
  have hR := HR.out
  cases iv
  case true =>
    rw [if_pos rfl] at hR
    subst hR
    clear HR
    go_wp2
    go_ret; exact ⟨HBT.out.low _ (Nat.le_refl _), rfl⟩
  rw [if_neg (by decide)] at hR
  have t20 : wc.cell? ⟨g, 20, none⟩ = some (.string seen) := (blk_cell BX.out 20).trans rfl
  cases p3
  case true =>
    rw [if_pos rfl] at hR
    subst hR
    clear HR
    go_wp2_with (first | (go_at_call 57; (with_reducible refine (HI3.out _).mono ?_); rintro e w2 ⟨rfl, rfl⟩))
    go_ret; exact ⟨HBT.out.low _ (Nat.le_refl _), rfl⟩
  rw [if_neg (by decide)] at hR
  obtain ⟨c1, hc1⟩ : ∃ y, (if p2 = true then lc else c) = y := ⟨_, rfl⟩
  obtain ⟨bd, hbd⟩ : ∃ b, (p2 && !lb) = b := ⟨_, rfl⟩
  rw [hc1, hbd] at hR
  have HR2 := Aside0.mk hR
  have HC1 := Aside0.mk hc1
  have HBD := Aside0.mk hbd
  clear hR HR hc1 hbd
  go_upto_region 8 with (first | (go_at_call 57; (with_reducible refine (HI3.out _).mono ?_); rintro e w2 ⟨rfl, rfl⟩))
  go_cut [56] (fun s56 wx => s56 = .bool bd ∧ Aside0 (wx.heap[g]? = some (.cells (lnC (c1) (f) (seen) (.slice none 0 0) vT (.slice none 0 0)) 53 (0, 0)) ∧ But g w wx))
  case first =>
    have hc1 := HC1.out
    have hbd := HBD.out
    cases p2
    · rw [if_neg (by decide)] at hc1
      subst hc1
      rw [Bool.false_and] at hbd
      subst hbd
      go_wp2
      go_meet
      case rel => exact ⟨rfl, ⟨BX.out, HBT.out⟩⟩
    · rw [if_pos rfl] at hc1
      subst hc1
      rw [Bool.true_and] at hbd
      subst hbd
      go_wp2_with (first | (go_at_call 58; (with_reducible refine (HLD.out _ BX.out HBT.out).mono ?_); rintro e w3 ⟨rfl, hx⟩; have BXn := Aside0.mk hx.1; have HBTn := Aside0.mk (HBT.out.trans hx.2); clear BX HBT hx; have BX := BXn; have HBT := HBTn; clear BXn HBTn))
      go_meet
      case rel => exact ⟨rfl, ⟨BX.out, HBT.out⟩⟩
  case rest =>
  clear t20
  obtain ⟨rfl, HW⟩ := hcut; have BXn := Aside0.mk HW.out.1; have HBTn := Aside0.mk HW.out.2; clear BX HBT HW; have BX := BXn; have HBT := HBTn; clear BXn HBTn
  have hR := HR2.out
  cases bd
  case true =>
    rw [if_pos rfl] at hR
    subst hR
    clear HR2
    go_wp2
    go_ret; exact ⟨HBT.out.low _ (Nat.le_refl _), rfl⟩
  rw [if_neg (by decide)] at hR
  obtain ⟨c2, hc2⟩ : ∃ y, (if z = 73 then { c1 with op := 9 } else c1) = y := ⟨_, rfl⟩
  obtain ⟨qq, hqq⟩ : ∃ b, (f.quiet || decide (z = 113)) = b := ⟨_, rfl⟩
  obtain ⟨qb, hqb⟩ : ∃ b, (f.base64 || decide (z = 98)) = b := ⟨_, rfl⟩
  rw [hc2, hqq, hqb] at hR
  have HR := Aside0.mk hR
  have HC2 := Aside0.mk hc2
  have HQQ := Aside0.mk hqq
  have HQB := Aside0.mk hqb
  clear hR HR2 hc2 hqq hqb HC1 HBD
  go_upto_block 1 with fail
  go_cut [8] (fun s8 wx => s8 = .int .u8 z ∧ Aside0 (wx.heap[g]? = some (.cells (lnC (c2) ({ f with quiet := qq, base64 := qb }) (seen) (.slice none 0 0) vT (.slice none 0 0)) 53 (0, 0)) ∧ But g w wx))
  case first =>
    have hc2 := HC2.out
    have hqq := HQQ.out
    have hqb := HQB.out
    by_cases h1 : z = 113
    · subst h1
      rw [if_neg (by decide)] at hc2
      rw [decide_eq_true rfl, Bool.or_true] at hqq
      rw [decide_eq_false (by decide), Bool.or_false] at hqb
      subst hc2 hqq hqb
      go_wp2_with (first | (refine wpList_store_1 rfl 4 _ _ rfl g 14 (.bool true) rfl rfl rfl 53 _ (lnC c1 { f with quiet := true } seen (.slice none 0 0) vT (.slice none 0 0)) BX.out (by simp [lnC]) (by kernel_rfl) rfl ?_; intro w2 hbk hst; have BXn := Aside0.mk hbk; have HBTn := Aside0.mk (HBT.out.trans (But.ofStore hst)); clear BX HBT hbk hst; have BX := BXn; have HBT := HBTn; clear BXn HBTn; (try clear t11); (first | (have t11 : w2.cell? ⟨g, 11, none⟩ = some (.string f.verb) := (blk_cell BX.out 11).trans rfl) | skip)))
      go_meet
      case rel => exact ⟨rfl, ⟨BX.out, HBT.out⟩⟩
    have b1 : (z == 113) = false := beq_eq_false_iff_ne.2 h1
    rw [decide_eq_false h1, Bool.or_false] at hqq
    subst hqq
    by_cases h2 : z = 73
    · subst h2
      rw [if_pos rfl] at hc2
      rw [decide_eq_false (by decide), Bool.or_false] at hqb
      subst hc2 hqb
      go_wp2_with (first | (refine wpList_store_1 rfl 3 _ _ rfl g 0 (.int .i64 9) rfl rfl rfl 53 _ (lnC { c1 with op := 9 } f seen (.slice none 0 0) vT (.slice none 0 0)) BX.out (by simp [lnC]) (by kernel_rfl) rfl ?_; intro w2 hbk hst; have BXn := Aside0.mk hbk; have HBTn := Aside0.mk (HBT.out.trans (But.ofStore hst)); clear BX HBT hbk hst; have BX := BXn; have HBT := HBTn; clear BXn HBTn; (try clear t11); (first | (have t11 : w2.cell? ⟨g, 11, none⟩ = some (.string f.verb) := (blk_cell BX.out 11).trans rfl) | skip)))
      go_meet
      case rel => exact ⟨rfl, ⟨BX.out, HBT.out⟩⟩
    have b2 : (z == 73) = false := beq_eq_false_iff_ne.2 h2
    rw [if_neg h2] at hc2
    subst hc2
    by_cases h3 : z = 98
    · subst h3
      rw [decide_eq_true rfl, Bool.or_true] at hqb
      subst hqb
      go_wp2_with (first | (refine wpList_store_1 rfl 4 _ _ rfl g 19 (.bool true) rfl rfl rfl 53 _ (lnC c1 { f with base64 := true } seen (.slice none 0 0) vT (.slice none 0 0)) BX.out (by simp [lnC]) (by kernel_rfl) rfl ?_; intro w2 hbk hst; have BXn := Aside0.mk hbk; have HBTn := Aside0.mk (HBT.out.trans (But.ofStore hst)); clear BX HBT hbk hst; have BX := BXn; have HBT := HBTn; clear BXn HBTn; (try clear t11); (first | (have t11 : w2.cell? ⟨g, 11, none⟩ = some (.string f.verb) := (blk_cell BX.out 11).trans rfl) | skip)))
      go_meet
      case rel => exact ⟨rfl, ⟨BX.out, HBT.out⟩⟩
    have b3 : (z == 98) = false := beq_eq_false_iff_ne.2 h3
    rw [decide_eq_false h3, Bool.or_false] at hqb
    subst hqb
    go_wp2
    go_meet
    case rel => exact ⟨rfl, ⟨BX.out, HBT.out⟩⟩
  case rest =>
  obtain ⟨rfl, HW⟩ := hcut; have BXn := Aside0.mk HW.out.1; have HBTn := Aside0.mk HW.out.2; clear BX HBT HW; have BX := BXn; have HBT := HBTn; clear BXn HBTn
  clear HC2 HQQ HQB
  go_upto_region 17 with fail
  have BXd := Aside0.mk (show _ = some (Obj.cells (lnC c2 { f with quiet := qq, base64 := qb } seen (.slice none 0 0) vT (.slice none 0 0)) 53 (0, 0)) from blk_drew BX.out)
  refine wp_region_noPanic ?_
  refine wp_region_L (S := fun w' => w'.cell? ⟨g, 20, none⟩ = some (.string seen)) 9 (by kernel_rfl) ((blk_cell BXd.out 20).trans rfl) ?_
  intro hHeld
  (refine wpAnyL_take (i := 0) (v := ?_) (by simp only [List.getElem?_toArray, List.getElem?_cons_succ, List.getElem?_cons_zero]; rfl) (by kernel_rfl) (by kernel_rfl) (by kernel_rfl) (by kernel_rfl) (fun _ _ _ h => h) (Or.inl ⟨by rfl, ?_⟩) (by exact hHeld) ?_; rotate_left; (focus (intro w' hSw; (try dsimp only at hSw); go_simp; (try with_reducible rfl); done)); (try simp only [Act.put, List.setIfInBounds_toArray, List.set_cons_zero, List.set_cons_succ]))
  (refine wpAnyL_take (i := 1) (v := ?_) (by simp only [List.getElem?_toArray, List.getElem?_cons_succ, List.getElem?_cons_zero]; rfl) (by kernel_rfl) (by kernel_rfl) (by kernel_rfl) (by kernel_rfl) (fun _ _ _ h => h) (Or.inl ⟨by rfl, ?_⟩) (by exact hHeld) ?_; rotate_left; (focus (intro w' hSw; (try dsimp only at hSw); go_simp; (try with_reducible rfl); done)); (try simp only [Act.put, List.setIfInBounds_toArray, List.set_cons_zero, List.set_cons_succ]))
  (refine wpAnyL_take (i := 2) (v := ?_) (by simp only [List.getElem?_toArray, List.getElem?_cons_succ, List.getElem?_cons_zero]; rfl) (by kernel_rfl) (by kernel_rfl) (by kernel_rfl) (by kernel_rfl) (fun _ _ _ h => h) (Or.inl ⟨by rfl, ?_⟩) (by exact hHeld) ?_; rotate_left; (focus (intro w' hSw; (try dsimp only at hSw); go_simp; (try with_reducible rfl); done)); (try simp only [Act.put, List.setIfInBounds_toArray, List.set_cons_zero, List.set_cons_succ]))
  (refine wpAnyL_take (i := 3) (v := ?_) (by simp only [List.getElem?_toArray, List.getElem?_cons_succ, List.getElem?_cons_zero]; rfl) (by kernel_rfl) (by kernel_rfl) (by kernel_rfl) (by kernel_rfl) (fun _ _ _ h => h) (Or.inl ⟨by rfl, ?_⟩) (by exact hHeld) ?_; rotate_left; (focus (intro w' hSw; (try dsimp only at hSw); go_simp; (try with_reducible rfl); done)); (try simp only [Act.put, List.setIfInBounds_toArray, List.set_cons_zero, List.set_cons_succ]))
  (refine wpAnyL_take (i := 4) (v := ?_) (by simp only [List.getElem?_toArray, List.getElem?_cons_succ, List.getElem?_cons_zero]; rfl) (by kernel_rfl) (by kernel_rfl) (by kernel_rfl) (by kernel_rfl) (fun _ _ _ h => h) (Or.inl ⟨by rfl, ?_⟩) (by exact hHeld) ?_; rotate_left; (focus (intro w' hSw; (try dsimp only at hSw); go_simp; (try with_reducible rfl); done)); (try simp only [Act.put, List.setIfInBounds_toArray, List.set_cons_zero, List.set_cons_succ]))
  (refine wpAnyL_take (i := 5) (v := ?_) (by simp only [List.getElem?_toArray, List.getElem?_cons_succ, List.getElem?_cons_zero]; rfl) (by kernel_rfl) (by kernel_rfl) (by kernel_rfl) (by kernel_rfl) (fun _ _ _ h => h) (Or.inl ⟨by rfl, ?_⟩) (by exact hHeld) ?_; rotate_left; (focus (intro w' hSw; (try dsimp only at hSw); go_simp; (try with_reducible rfl); done)); (try simp only [Act.put, List.setIfInBounds_toArray, List.set_cons_zero, List.set_cons_succ]))
  (refine wpAnyL_take (i := 6) (v := ?_) (by simp only [List.getElem?_toArray, List.getElem?_cons_succ, List.getElem?_cons_zero]; rfl) (by kernel_rfl) (by kernel_rfl) (by kernel_rfl) (by kernel_rfl) (fun _ _ _ h => h) (Or.inl ⟨by rfl, ?_⟩) (by exact hHeld) ?_; rotate_left; (focus (intro w' hSw; (try dsimp only at hSw); go_simp; (try with_reducible rfl); done)); (try simp only [Act.put, List.setIfInBounds_toArray, List.set_cons_zero, List.set_cons_succ]))
  refine wpAnyL_one (i := 7) (by kernel_rfl) (by simp only [List.getElem?_toArray, List.getElem?_cons_succ, List.getElem?_cons_zero]; rfl) (fun K hK => ?_); go_simp; refine hK.out _ _ (fun _ => hHeld) ?_; clear hK K; intro _; (try simp only [Act.put, List.setIfInBounds_toArray, List.set_cons_zero, List.set_cons_succ])
  refine wpAnyL_one (i := 8) (by kernel_rfl) (by simp only [List.getElem?_toArray, List.getElem?_cons_succ, List.getElem?_cons_zero]; rfl) (fun K hK => ?_); go_simp; refine hK.out _ _ (fun _ => hHeld) ?_; clear hK K; intro _; (try simp only [Act.put, List.setIfInBounds_toArray, List.set_cons_zero, List.set_cons_succ])
  refine wpAnyL_one (i := 9) (by kernel_rfl) (by simp only [List.getElem?_toArray, List.getElem?_cons_succ, List.getElem?_cons_zero]; rfl) (fun K hK => ?_)
  refine step_store_F rfl 9 _ _ rfl g 20 [.string (seen ++ fw)] rfl rfl (by intro u hu; simp only [List.mem_singleton] at hu; subst hu; rfl) 53 _ (lnC c2 { f with quiet := qq, base64 := qb } (seen ++ fw) (.slice none 0 0) vT (.slice none 0 0)) BXd.out (by simp [lnC]) (by kernel_rfl) rfl ?_
  intro w3 hbk hst
  have BXn := Aside0.mk hbk
  have HBTn := Aside0.mk ((HBT.out.trans (But.ofBelow (below_drew1 (Below.refl _ _)) (blk_lt BX.out))).trans (But.ofStore hst))
  refine hK.out _ _ (fun h => absurd rfl h) ?_
  clear hK K hHeld hbk hst BX HBT BXd
  intro _
  have BX := BXn
  have HBT := HBTn
  clear BXn HBTn
  (try simp only [Act.put, List.setIfInBounds_toArray, List.set_cons_zero, List.set_cons_succ])
  refine wpAnyL_done (by kernel_rfl) ?_ _
  refine NoPanic.normal ?_
  cases p4
  case false =>
    have hR := HR.out
    rw [if_neg (by decide), if_neg (by decide)] at hR
    subst hR
    go_wp2_with (first | (go_at_call 57; (with_reducible refine (HI4.out _).mono ?_); rintro e w2 ⟨rfl, rfl⟩))
    go_ret
    exact ⟨HBT.out.low _ (Nat.le_refl _), rfl, vT, BX.out, HBT.out.own HOW.out (own_apart HOW.out (Nat.lt_succ_self g))⟩
  have hR := HR.out
  rw [if_pos rfl, if_pos rfl] at hR
  subst hR
  go_upto_region 19 with (first | (go_at_call 57; (with_reducible refine (HI4.out _).mono ?_); rintro e w2 ⟨rfl, rfl⟩))
  have BXd := Aside0.mk (show _ = some (Obj.cells (lnC c2 { f with quiet := qq, base64 := qb } (seen ++ fw) (.slice none 0 0) vT (.slice none 0 0)) 53 (0, 0)) from blk_drew BX.out)
  refine wp_region_noPanic ?_
  refine wp_region_L (S := fun w' => w'.cell? ⟨g, 16, none⟩ = some (.string f.flags)) 11 (by kernel_rfl) ((blk_cell BXd.out 16).trans rfl) ?_
  intro hHeld
  (refine wpAnyL_take (i := 0) (v := ?_) (by simp only [List.getElem?_toArray, List.getElem?_cons_succ, List.getElem?_cons_zero]; rfl) (by kernel_rfl) (by kernel_rfl) (by kernel_rfl) (by kernel_rfl) (fun _ _ _ h => h) (Or.inl ⟨by rfl, ?_⟩) (by exact hHeld) ?_; rotate_left; (focus (intro w' hSw; (try dsimp only at hSw); go_simp; (try with_reducible rfl); done)); (try simp only [Act.put, List.setIfInBounds_toArray, List.set_cons_zero, List.set_cons_succ]))
  (refine wpAnyL_take (i := 1) (v := ?_) (by simp only [List.getElem?_toArray, List.getElem?_cons_succ, List.getElem?_cons_zero]; rfl) (by kernel_rfl) (by kernel_rfl) (by kernel_rfl) (by kernel_rfl) (fun _ _ _ h => h) (Or.inl ⟨by rfl, ?_⟩) (by exact hHeld) ?_; rotate_left; (focus (intro w' hSw; (try dsimp only at hSw); go_simp; (try with_reducible rfl); done)); (try simp only [Act.put, List.setIfInBounds_toArray, List.set_cons_zero, List.set_cons_succ]))
  (refine wpAnyL_take (i := 2) (v := ?_) (by simp only [List.getElem?_toArray, List.getElem?_cons_succ, List.getElem?_cons_zero]; rfl) (by kernel_rfl) (by kernel_rfl) (by kernel_rfl) (by kernel_rfl) (fun _ _ _ h => h) (Or.inl ⟨by rfl, ?_⟩) (by exact hHeld) ?_; rotate_left; (focus (intro w' hSw; (try dsimp only at hSw); go_simp; (try with_reducible rfl); done)); (try simp only [Act.put, List.setIfInBounds_toArray, List.set_cons_zero, List.set_cons_succ]))
  (refine wpAnyL_take (i := 3) (v := ?_) (by simp only [List.getElem?_toArray, List.getElem?_cons_succ, List.getElem?_cons_zero]; rfl) (by kernel_rfl) (by kernel_rfl) (by kernel_rfl) (by kernel_rfl) (fun _ _ _ h => h) (Or.inl ⟨by rfl, ?_⟩) (by exact hHeld) ?_; rotate_left; (focus (intro w' hSw; (try dsimp only at hSw); go_simp; (try with_reducible rfl); done)); (try simp only [Act.put, List.setIfInBounds_toArray, List.set_cons_zero, List.set_cons_succ]))
  (refine wpAnyL_take (i := 4) (v := ?_) (by simp only [List.getElem?_toArray, List.getElem?_cons_succ, List.getElem?_cons_zero]; rfl) (by kernel_rfl) (by kernel_rfl) (by kernel_rfl) (by kernel_rfl) (fun _ _ _ h => h) (Or.inl ⟨by rfl, ?_⟩) (by exact hHeld) ?_; rotate_left; (focus (intro w' hSw; (try dsimp only at hSw); go_simp; (try with_reducible rfl); done)); (try simp only [Act.put, List.setIfInBounds_toArray, List.set_cons_zero, List.set_cons_succ]))
  (refine wpAnyL_take (i := 5) (v := ?_) (by simp only [List.getElem?_toArray, List.getElem?_cons_succ, List.getElem?_cons_zero]; rfl) (by kernel_rfl) (by kernel_rfl) (by kernel_rfl) (by kernel_rfl) (fun _ _ _ h => h) (Or.inl ⟨by rfl, ?_⟩) (by exact hHeld) ?_; rotate_left; (focus (intro w' hSw; (try dsimp only at hSw); go_simp; (try with_reducible rfl); done)); (try simp only [Act.put, List.setIfInBounds_toArray, List.set_cons_zero, List.set_cons_succ]))
  (refine wpAnyL_take (i := 6) (v := ?_) (by simp only [List.getElem?_toArray, List.getElem?_cons_succ, List.getElem?_cons_zero]; rfl) (by kernel_rfl) (by kernel_rfl) (by kernel_rfl) (by kernel_rfl) (fun _ _ _ h => h) (Or.inl ⟨by rfl, ?_⟩) (by exact hHeld) ?_; rotate_left; (focus (intro w' hSw; (try dsimp only at hSw); go_simp; (try with_reducible rfl); done)); (try simp only [Act.put, List.setIfInBounds_toArray, List.set_cons_zero, List.set_cons_succ]))
  (refine wpAnyL_take (i := 7) (v := ?_) (by simp only [List.getElem?_toArray, List.getElem?_cons_succ, List.getElem?_cons_zero]; rfl) (by kernel_rfl) (by kernel_rfl) (by kernel_rfl) (by kernel_rfl) (fun _ _ _ h => h) (Or.inl ⟨by rfl, ?_⟩) (by exact hHeld) ?_; rotate_left; (focus (intro w' hSw; (try dsimp only at hSw); go_simp; (try with_reducible rfl); done)); (try simp only [Act.put, List.setIfInBounds_toArray, List.set_cons_zero, List.set_cons_succ]))
  refine wpAnyL_one (i := 8) (by kernel_rfl) (by simp only [List.getElem?_toArray, List.getElem?_cons_succ, List.getElem?_cons_zero]; rfl) (fun K hK => ?_); go_simp; refine hK.out _ _ (fun _ => hHeld) ?_; clear hK K; intro _; (try simp only [Act.put, List.setIfInBounds_toArray, List.set_cons_zero, List.set_cons_succ])
  refine wpAnyL_one (i := 9) (by kernel_rfl) (by simp only [List.getElem?_toArray, List.getElem?_cons_succ, List.getElem?_cons_zero]; rfl) (fun K hK => ?_); go_simp; refine hK.out _ _ (fun _ => hHeld) ?_; clear hK K; intro _; (try simp only [Act.put, List.setIfInBounds_toArray, List.set_cons_zero, List.set_cons_succ])
  refine wpAnyL_one (i := 10) (by kernel_rfl) (by simp only [List.getElem?_toArray, List.getElem?_cons_succ, List.getElem?_cons_zero]; rfl) (fun K hK => ?_); go_simp; refine hK.out _ _ (fun _ => hHeld) ?_; clear hK K; intro _; (try simp only [Act.put, List.setIfInBounds_toArray, List.set_cons_zero, List.set_cons_succ])
  refine wpAnyL_one (i := 11) (by kernel_rfl) (by simp only [List.getElem?_toArray, List.getElem?_cons_succ, List.getElem?_cons_zero]; rfl) (fun K hK => ?_)
  refine step_store_F rfl 9 _ _ rfl g 16 [.string (f.flags ++ fw)] rfl rfl (by intro u hu; simp only [List.mem_singleton] at hu; subst hu; rfl) 53 _ (lnC c2 { f with quiet := qq, base64 := qb, flags := f.flags ++ fw } (seen ++ fw) (.slice none 0 0) vT (.slice none 0 0)) BXd.out (by simp [lnC]) (by kernel_rfl) rfl ?_
  intro w4 hbk hst
  have BXn := Aside0.mk hbk
  have HBTn := Aside0.mk ((HBT.out.trans (But.ofBelow (below_drew1 (Below.refl _ _)) (blk_lt BX.out))).trans (But.ofStore hst))
  refine hK.out _ _ (fun h => absurd rfl h) ?_
  clear hK K hHeld hbk hst BX HBT BXd
  intro _
  have BX := BXn
  have HBT := HBTn
  clear BXn HBTn
  (try simp only [Act.put, List.setIfInBounds_toArray, List.set_cons_zero, List.set_cons_succ])
  refine wpAnyL_done (by kernel_rfl) ?_ _
  refine NoPanic.normal ?_
  have HOW2 := Aside0.mk (HBT.out.own HOW.out (own_apart HOW.out (Nat.lt_succ_self g)))
  have t17 : w4.cell? ⟨g, 17, none⟩ = some vT := (blk_cell BX.out 17).trans rfl
  go_wp2_with (first | ((with_reducible refine gate_builtin (b := .append) (xs := #[.tmp 112, .tmp 114]) rfl ?_); at_builtin; refine print_append_of (w0 := w4) (W := w4) Value.string (g + 1) rfl (.tmp 112) (.tmp 114) 27 9 (.string ⟨#[]⟩) 16 rfl Tryz.underlying27 info9 rfl (by decide) vT f.tokens s rfl rfl rfl HOW2.out (Below.refl _ _) (by have := blk_lt BX.out; omega) (by omega) ?_; intro v1 w5 ho5 hb5 hg5 hat5; have BX5 := Aside0.mk (blk_grown BX.out hg5 (own_apart HOW2.out (Nat.lt_succ_self g))); have HO5 := Aside0.mk ho5; have HL5 := Aside0.mk ((HBT.out.low g (Nat.le_refl _)).trans (hb5.mono (Nat.le_succ g))); clear ho5 hb5 hg5 hat5) | (refine wpList_store_1 rfl 27 _ _ rfl g 17 v1 rfl rfl (own_one HO5.out) 53 _ (lnC c2 { f with quiet := qq, base64 := qb, flags := f.flags ++ fw } (seen ++ fw) (.slice none 0 0) v1 (.slice none 0 0)) BX5.out (by simp [lnC]) (by kernel_rfl) rfl ?_; intro w6 hbk hst; have BX6 := Aside0.mk hbk; have HO6 := Aside0.mk (hst.own HO5.out (Nat.lt_succ_self g)); have HL6 := Aside0.mk (HL5.out.trans (hst.below g (Nat.le_refl _))); clear hbk hst))
  go_ret
  exact ⟨HL6.out, rfl, v1, BX6.out, HO6.out⟩
end Go.Proofs.YtdgeiadlijlkmaaGreatDoor.X
namespace Go.Proofs.YtdgeiadlijlkmaaGreatDoor.X
open Go.RowKit Go.Proofs.YtdgeiadlijlkmaaGreatDoorW.PrintWords Go.Proofs.YtdgeiadlijlkmaaGreatDoorW.PrintMore
set_option linter.unusedVariables false
set_option linter.unusedSimpArgs false
/-- What base.Decode answers; r: the bytes of a text, if there are any. -/
def DecP (r : Option (List Int)) (w : World) (e : Ending) (w' : World) : Prop := match r with
  | none => e = .returned (.tuple #[.slice none 0 0, .int .i64 2]) ∧ Below w.heap.size w w'
  | some l => ∃ v, e = .returned (.tuple #[v, .int .i64 0]) ∧ RowB l w v w'
/-- The line's block, its tokens' row and its key's block. -/
def LnK (g : Nat) (k : ByteArray) (x : Ln) (w : World) : Prop := ∃ vT kb, w.heap[g]? = some (.cells (lnC x.c x.f x.seen (.slice none 0 0) vT (.slice (some ⟨kb, 0, none⟩) 1 1)) 53 (0, 0)) ∧ w.ownsRow (g + 1) 9 1 vT x.f.tokens.length (encs Value.string x.f.tokens) ∧ w.heap[kb]? = some (.cells #[.string k] 9 (0, 0)) ∧ g < kb ∧ x.f.keys = [k]
def KeyP (g : Nat) (k : ByteArray) (r : Except ByteArray Ln) (w : World) (e : Ending) (w' : World) : Prop :=
  Below g w w' ∧ match r with
    | .error s => e = .returned (.string s)
    | .ok y => e = .returned (.string ⟨#[]⟩) ∧ LnK g k y w'
set_option maxRecDepth 100000 in
set_option maxHeartbeats 4000000 in
theorem key_calls (b64 : ByteArray → Option (List Int)) (x : Ln) (k : ByteArray) (g : Nat) (w : World) (hx : LnR g x w) (hk : k.size ≤ 1000000) (h64 : ∀ w, Calls Tryz.prog 60 #[.string k] w (DecP (b64 k) w)) :
    Calls Tryz.prog 40 #[.pointer (some ⟨g, 0, none⟩), .string k] w (KeyP g k (keyM b64 x k) w) := by
  obtain ⟨c, f, seen⟩ := x
  obtain ⟨vT, hg, hown⟩ := hx
  dsimp only at hg hown
  have BX := Aside0.mk hg
  have HOW := Aside0.mk hown
  have hkg : Aside0 (w.heap.size ≠ g) := ⟨by have := blk_lt hg; omega⟩
  have hgk : Aside0 (g < w.heap.size) := ⟨blk_lt hg⟩
  have HFK := Aside0.mk (fun w => fkey_calls k w hk)
  have HDE := Aside0.mk h64
  obtain ⟨R, hR⟩ : ∃ R, keyM b64 ⟨c, f, seen⟩ k = R := ⟨_, rfl⟩
  rw [hR]
  unfold keyM at hR
  dsimp only at hR
  clear hg hown h64 hk
  by_cases hq : f.base64 = false
  · rw [if_pos hq] at hR
    have HQ := Aside0.mk hq
    clear hq
    obtain ⟨b, hb⟩ : ∃ b, keyS k = b := ⟨_, rfl⟩
    rw [hb] at hR HFK
    clear hb
    have HR := Aside0.mk hR
    clear hR
    go_enter Tryz.func40, Tryz.ntmps40
    (go_upto_region 2 with (first | (refine wpList_store_1 rfl 27 _ _ rfl g 18 (.slice (some ⟨w.heap.size, 0, none⟩) 1 1) rfl rfl rfl 53 _ (lnC c f seen (.slice none 0 0) vT (.slice (some ⟨w.heap.size, 0, none⟩) 1 1)) (blk_alloc BX.out _) (by simp [lnC]) (by kernel_rfl) rfl ?_; intro w2 hbk hst; have KB := Aside0.mk (hst.blk (blk_at_new w (.cells #[.string k] 9 (0, 0)) _ rfl) hkg.out); have OWn := Aside0.mk (hst.own (HOW.out.alloc _) (Nat.lt_succ_self g)); have HLW := Aside0.mk (hst.up ((Below.refl g w).alloc (Nat.le_of_lt hgk.out) _) (Nat.le_refl _)); clear HOW BX; have HOW := OWn; have BX := Aside0.mk hbk; clear OWn hbk hst) | (refine wpList_store_1 rfl 9 _ _ rfl g 1 (.string k) rfl rfl rfl 53 _ (lnC { c with key := k } f seen (.slice none 0 0) vT (.slice (some ⟨w.heap.size, 0, none⟩) 1 1)) BX.out (by simp [lnC]) (by kernel_rfl) rfl ?_; intro w2 hbk hst; have OWn := Aside0.mk (hst.own HOW.out (Nat.lt_succ_self g)); have KBn := Aside0.mk (hst.blk KB.out hkg.out); have LWn := Aside0.mk (HLW.out.trans (hst.below g (Nat.le_refl _))); clear HOW KB HLW; have HOW := OWn; have KB := KBn; have HLW := LWn; clear OWn KBn LWn; have BXn := Aside0.mk hbk; clear BX hbk hst; have BX := BXn; clear BXn)))
    have t19 : w2.cell? ⟨g, 19, none⟩ = some (.bool false) := (blk_cell BX.out 19).trans (congrArg (fun b => some (Value.bool b)) HQ.out)
    have hR := HR.out
    cases b
    · rw [if_neg (by decide)] at hR
      subst hR
      go_wp2_with (first | (go_at_call 59; (with_reducible refine (HFK.out _).mono ?_); rintro e w3 ⟨rfl, hb⟩; have BXn := Aside0.mk (blk_below BX.out hb); have OWn := Aside0.mk (own_up HOW.out hb); have KBn := Aside0.mk (blk_below KB.out hb); have LWn := Aside0.mk (HLW.out.trans (hb.mono (Nat.le_of_lt (blk_lt BX.out)))); clear BX HOW KB HLW hb; have BX := BXn; have HOW := OWn; have KB := KBn; have HLW := LWn; clear BXn OWn KBn LWn))
      go_ret
      exact ⟨HLW.out, rfl⟩
    · rw [if_pos rfl] at hR
      subst hR
      go_wp2_with (first | (go_at_call 59; (with_reducible refine (HFK.out _).mono ?_); rintro e w3 ⟨rfl, hb⟩; have BXn := Aside0.mk (blk_below BX.out hb); have OWn := Aside0.mk (own_up HOW.out hb); have KBn := Aside0.mk (blk_below KB.out hb); have LWn := Aside0.mk (HLW.out.trans (hb.mono (Nat.le_of_lt (blk_lt BX.out)))); clear BX HOW KB HLW hb; have BX := BXn; have HOW := OWn; have KB := KBn; have HLW := LWn; clear BXn OWn KBn LWn))
      go_ret
      exact ⟨HLW.out, rfl, vT, w.heap.size, BX.out, HOW.out, KB.out, hgk.out, rfl⟩
  · rw [if_neg hq] at hR
    have HQ := Aside0.mk (eq_true_of_ne_false hq)
    clear hq
    cases hd : b64 k with
    | none =>
      rw [hd] at hR HDE
      dsimp only at hR
      subst hR
      clear hd
      go_enter Tryz.func40, Tryz.ntmps40
      (go_upto_region 2 with (first | (refine wpList_store_1 rfl 27 _ _ rfl g 18 (.slice (some ⟨w.heap.size, 0, none⟩) 1 1) rfl rfl rfl 53 _ (lnC c f seen (.slice none 0 0) vT (.slice (some ⟨w.heap.size, 0, none⟩) 1 1)) (blk_alloc BX.out _) (by simp [lnC]) (by kernel_rfl) rfl ?_; intro w2 hbk hst; have KB := Aside0.mk (hst.blk (blk_at_new w (.cells #[.string k] 9 (0, 0)) _ rfl) hkg.out); have OWn := Aside0.mk (hst.own (HOW.out.alloc _) (Nat.lt_succ_self g)); have HLW := Aside0.mk (hst.up ((Below.refl g w).alloc (Nat.le_of_lt hgk.out) _) (Nat.le_refl _)); clear HOW BX; have HOW := OWn; have BX := Aside0.mk hbk; clear OWn hbk hst) | (refine wpList_store_1 rfl 9 _ _ rfl g 1 (.string k) rfl rfl rfl 53 _ (lnC { c with key := k } f seen (.slice none 0 0) vT (.slice (some ⟨w.heap.size, 0, none⟩) 1 1)) BX.out (by simp [lnC]) (by kernel_rfl) rfl ?_; intro w2 hbk hst; have OWn := Aside0.mk (hst.own HOW.out (Nat.lt_succ_self g)); have KBn := Aside0.mk (hst.blk KB.out hkg.out); have LWn := Aside0.mk (HLW.out.trans (hst.below g (Nat.le_refl _))); clear HOW KB HLW; have HOW := OWn; have KB := KBn; have HLW := LWn; clear OWn KBn LWn; have BXn := Aside0.mk hbk; clear BX hbk hst; have BX := BXn; clear BXn)))
      have t19 : w2.cell? ⟨g, 19, none⟩ = some (.bool true) := (blk_cell BX.out 19).trans (congrArg (fun b => some (Value.bool b)) HQ.out)
      go_wp2_with (first | ((go_at_call 60; (with_reducible refine (HDE.out _).mono ?_); rintro e w3 hd); obtain ⟨rfl, hb⟩ := hd; have BXn := Aside0.mk (blk_below BX.out hb); have OWn := Aside0.mk (own_up HOW.out hb); have KBn := Aside0.mk (blk_below KB.out hb); have LWn := Aside0.mk (HLW.out.trans (hb.mono (Nat.le_of_lt (blk_lt BX.out)))); clear BX HOW KB HLW hb; have BX := BXn; have HOW := OWn; have KB := KBn; have HLW := LWn; clear BXn OWn KBn LWn) | ((with_reducible refine gate_dst (N := 34) rfl ?_); refine wp_strof rfl _ _ _ _ rfl _ _ _ _ rfl Tryz.underlying22 Tryz.underlying5 Tryz.underlying9 (C_nil (Kd.int .u8) _) ?_) | (refine wpList_store_1 rfl 9 _ _ rfl g 1 (.string (strOfNums [])) rfl rfl rfl 53 _ (lnC { c with key := strOfNums [] } f seen (.slice none 0 0) vT (.slice (some ⟨w.heap.size, 0, none⟩) 1 1)) BX.out (by simp [lnC]) (by kernel_rfl) rfl ?_; intro w2 hbk hst; have OWn := Aside0.mk (hst.own HOW.out (Nat.lt_succ_self g)); have KBn := Aside0.mk (hst.blk KB.out hkg.out); have LWn := Aside0.mk (HLW.out.trans (hst.below g (Nat.le_refl _))); clear HOW KB HLW; have HOW := OWn; have KB := KBn; have HLW := LWn; clear OWn KBn LWn; have BXn := Aside0.mk hbk; clear BX hbk hst; have BX := BXn; clear BXn))
      go_ret
      exact ⟨HLW.out, rfl⟩
    | some l =>
      rw [hd] at hR HDE
      dsimp only at hR
      clear hd
      have HFD := Aside0.mk (fun w => keyed_calls (strOfNums l) w)
      obtain ⟨b, hb⟩ : ∃ b, keyedS (strOfNums l) = b := ⟨_, rfl⟩
      rw [hb] at hR HFD
      clear hb
      have HR := Aside0.mk hR
      clear hR
      go_enter Tryz.func40, Tryz.ntmps40
      (go_upto_region 2 with (first | (refine wpList_store_1 rfl 27 _ _ rfl g 18 (.slice (some ⟨w.heap.size, 0, none⟩) 1 1) rfl rfl rfl 53 _ (lnC c f seen (.slice none 0 0) vT (.slice (some ⟨w.heap.size, 0, none⟩) 1 1)) (blk_alloc BX.out _) (by simp [lnC]) (by kernel_rfl) rfl ?_; intro w2 hbk hst; have KB := Aside0.mk (hst.blk (blk_at_new w (.cells #[.string k] 9 (0, 0)) _ rfl) hkg.out); have OWn := Aside0.mk (hst.own (HOW.out.alloc _) (Nat.lt_succ_self g)); have HLW := Aside0.mk (hst.up ((Below.refl g w).alloc (Nat.le_of_lt hgk.out) _) (Nat.le_refl _)); clear HOW BX; have HOW := OWn; have BX := Aside0.mk hbk; clear OWn hbk hst) | (refine wpList_store_1 rfl 9 _ _ rfl g 1 (.string k) rfl rfl rfl 53 _ (lnC { c with key := k } f seen (.slice none 0 0) vT (.slice (some ⟨w.heap.size, 0, none⟩) 1 1)) BX.out (by simp [lnC]) (by kernel_rfl) rfl ?_; intro w2 hbk hst; have OWn := Aside0.mk (hst.own HOW.out (Nat.lt_succ_self g)); have KBn := Aside0.mk (hst.blk KB.out hkg.out); have LWn := Aside0.mk (HLW.out.trans (hst.below g (Nat.le_refl _))); clear HOW KB HLW; have HOW := OWn; have KB := KBn; have HLW := LWn; clear OWn KBn LWn; have BXn := Aside0.mk hbk; clear BX hbk hst; have BX := BXn; clear BXn)))
      have t19 : w2.cell? ⟨g, 19, none⟩ = some (.bool true) := (blk_cell BX.out 19).trans (congrArg (fun b => some (Value.bool b)) HQ.out)
      go_upto_region 7 with (first | ((go_at_call 60; (with_reducible refine (HDE.out _).mono ?_); rintro e w3 hd); obtain ⟨v, rfl, hd⟩ := hd; have HRW := Aside0.mk hd; obtain ⟨A5, c5, rfl, -, -⟩ := hd.C; have hb := hd.2; clear hd; have BXn := Aside0.mk (blk_below BX.out hb); have OWn := Aside0.mk (own_up HOW.out hb); have KBn := Aside0.mk (blk_below KB.out hb); have LWn := Aside0.mk (HLW.out.trans (hb.mono (Nat.le_of_lt (blk_lt BX.out)))); clear BX HOW KB HLW hb; have BX := BXn; have HOW := OWn; have KB := KBn; have HLW := LWn; clear BXn OWn KBn LWn))
      go_upto_region 8 with (first | ((with_reducible refine gate_dst (N := 34) rfl ?_); refine wp_strof rfl _ _ _ _ rfl _ _ _ _ rfl Tryz.underlying22 Tryz.underlying5 Tryz.underlying9 (own_Cu8 HRW.out.1) ?_) | (refine wpList_store_1 rfl 9 _ _ rfl g 1 (.string (strOfNums l)) rfl rfl rfl 53 _ (lnC { c with key := strOfNums l } f seen (.slice none 0 0) vT (.slice (some ⟨w.heap.size, 0, none⟩) 1 1)) BX.out (by simp [lnC]) (by kernel_rfl) rfl ?_; intro w2 hbk hst; have OWn := Aside0.mk (hst.own HOW.out (Nat.lt_succ_self g)); have KBn := Aside0.mk (hst.blk KB.out hkg.out); have LWn := Aside0.mk (HLW.out.trans (hst.below g (Nat.le_refl _))); clear HOW KB HLW; have HOW := OWn; have KB := KBn; have HLW := LWn; clear OWn KBn LWn; have BXn := Aside0.mk hbk; clear BX hbk hst; have BX := BXn; clear BXn))
      have t1 : w2.cell? ⟨g, 1, none⟩ = some (.string (strOfNums l)) := (blk_cell BX.out 1).trans rfl
      have hR := HR.out
      cases b
      · rw [if_neg (by decide)] at hR
        subst hR
        go_wp2_with (first | (go_at_call 61; (with_reducible refine (HFD.out _).mono ?_); rintro e w3 ⟨rfl, hb⟩; have BXn := Aside0.mk (blk_below BX.out hb); have OWn := Aside0.mk (own_up HOW.out hb); have KBn := Aside0.mk (blk_below KB.out hb); have LWn := Aside0.mk (HLW.out.trans (hb.mono (Nat.le_of_lt (blk_lt BX.out)))); clear BX HOW KB HLW hb; have BX := BXn; have HOW := OWn; have KB := KBn; have HLW := LWn; clear BXn OWn KBn LWn))
        go_ret
        exact ⟨HLW.out, rfl⟩
      · rw [if_pos rfl] at hR
        subst hR
        go_wp2_with (first | (go_at_call 61; (with_reducible refine (HFD.out _).mono ?_); rintro e w3 ⟨rfl, hb⟩; have BXn := Aside0.mk (blk_below BX.out hb); have OWn := Aside0.mk (own_up HOW.out hb); have KBn := Aside0.mk (blk_below KB.out hb); have LWn := Aside0.mk (HLW.out.trans (hb.mono (Nat.le_of_lt (blk_lt BX.out)))); clear BX HOW KB HLW hb; have BX := BXn; have HOW := OWn; have KB := KBn; have HLW := LWn; clear BXn OWn KBn LWn))
        go_ret
        exact ⟨HLW.out, rfl, vT, w.heap.size, BX.out, HOW.out, KB.out, hgk.out, rfl⟩
end Go.Proofs.YtdgeiadlijlkmaaGreatDoor.X
namespace Go.Proofs.YtdgeiadlijlkmaaGreatDoor.X
open Go.RowKit Go.Proofs.YtdgeiadlijlkmaaGreatDoorW.PrintWords Go.Proofs.YtdgeiadlijlkmaaGreatDoorW.PrintMore
set_option linter.unusedVariables false
set_option linter.unusedSimpArgs false
def zStepC : Array Value := #[.slice none 0 0, .int .i64 0, .string ⟨#[]⟩, .int .i64 0, .int .u32 0, .bool false, .bool false, .string ⟨#[]⟩, .slice none 0 0, .slice none 0 0, .bool false, .string ⟨#[]⟩, .int .i64 0, .int .i64 0, .bool false, .int .i64 0]
def stepFC (used : Int) (reply : ByteArray) (skip : Int) (line : Bool) : List Value := [.slice none 0 0, .int .i64 0, .string ⟨#[]⟩, .int .i64 0, .int .u32 0, .bool false, .bool false, .string ⟨#[]⟩, .slice none 0 0, .slice none 0 0, .bool false, .string (reply ++ (⟨#[13, 10]⟩ : ByteArray)), .int .i64 used, .int .i64 skip, .bool line, .int .i64 2]
theorem stepFS_K (w : World) (used : Int) (reply : ByteArray) (skip : Int) (line : Bool) : kStep.K w (stepFS used reply skip line) (stepFC used reply skip line) :=
  kStep_mk w (stepFS used reply skip line) (Nat.le_refl _) (C_nil _ _) (Nat.le_refl _) (C_nil _ _) (Nat.le_refl _) (C_nil _ _)
def stepMC : List Value := [.slice none 0 0, .int .i64 0, .string ⟨#[]⟩, .int .i64 0, .int .u32 0, .bool false, .bool false, .string ⟨#[]⟩, .slice none 0 0, .slice none 0 0, .bool false, .string ⟨#[]⟩, .int .i64 0, .int .i64 0, .bool false, .int .i64 3]
theorem stepM_K (w : World) : kStep.K w stepM stepMC := kStep_mk w stepM (Nat.le_refl _) (C_nil _ _) (Nat.le_refl _) (C_nil _ _) (Nat.le_refl _) (C_nil _ _)
set_option maxRecDepth 100000 in
set_option maxHeartbeats 1000000 in
theorem fault_ex (used : Int) (reply : ByteArray) (w : World) (hr : reply.size ≤ 1000) : Calls Tryz.prog 16 #[.int .i64 used, .string reply] w fun e w' => e = .returned (.agg (stepFC used reply 0 false).toArray) ∧ Below w.heap.size w w' := by
  have HB := Aside0.mk (Below.refl w.heap.size w)
  go_enter Tryz.func16, Tryz.ntmps16
  go_wp2
  ((try simp only [Exit.inBlock, Exit.then]); refine bodyPost_ret (results_cell_row rfl _ _ (w.heap.size) 34 _ (0, 0) _ rfl (by repeat (first | exact blk_at_new _ _ _ (by simp; done) | exact blk_at_new _ _ _ rfl | refine blk_alloc ?_ _ | refine blk_drew ?_ | refine blk_drewN ?_ _)) Tryz.underlying34 rfl (by kernel_rfl)) rfl ?_)
  exact ⟨rfl, (by repeat (first | (with_reducible first | exact HB.out | apply below_alloc | apply pw_below_drewN | apply below_drew1) | exact HB.out))⟩
set_option maxRecDepth 100000 in
set_option maxHeartbeats 1000000 in
theorem rfault_ex (used : Int) (reply : ByteArray) (w : World) (hr : reply.size ≤ 1000) : Calls Tryz.prog 23 #[.int .i64 used, .string reply] w fun e w' => e = .returned (.agg (stepFC used reply 0 false).toArray) ∧ Below w.heap.size w w' := by
  have HB := Aside0.mk (Below.refl w.heap.size w)
  go_enter Tryz.func23, Tryz.ntmps23
  go_wp2
  ((try simp only [Exit.inBlock, Exit.then]); refine bodyPost_ret (results_cell_row rfl _ _ (w.heap.size) 34 _ (0, 0) _ rfl (by repeat (first | exact blk_at_new _ _ _ (by simp; done) | exact blk_at_new _ _ _ rfl | refine blk_alloc ?_ _ | refine blk_drew ?_ | refine blk_drewN ?_ _)) Tryz.underlying34 rfl (by kernel_rfl)) rfl ?_)
  exact ⟨rfl, (by repeat (first | (with_reducible first | exact HB.out | apply below_alloc | apply pw_below_drewN | apply below_drew1) | exact HB.out))⟩
theorem range_blk {W : World} {g t o : Nat} {cs : Array Value} (h : W.heap[g]? = some (.cells cs t (0, 0))) (xs : List Value) (hx : ∀ j v, xs[j]? = some v → cs[o + j]? = some v) : W.rangeAt g o xs := fun j v hj => (blk_cell h (o + j)).trans (hx j v hj)
theorem range_below {w w1 : World} {b o : Nat} {cs : List Value} (h : w.rangeAt b o cs) {B : Nat} (hB : Below B w w1) (hbB : b < B) : w1.rangeAt b o cs := fun j v hj =>
  (hB.cell (p := ⟨b, o + j, none⟩) hbB).trans (h j v hj)
def cmdL (c : Cmd) (vV : Value) : List Value := [.int .i64 c.op, .string c.key, vV, .int .u32 c.flags, .int .i64 c.exp, .int .u64 c.cas, .int .u64 c.delta, .int .u64 c.initial, .bool c.makes, .bool c.sets]
def formL (f : Form) (vT vK : Value) : List Value := [.int .i64 f.dialect, .string f.verb, .int .i64 f.code, .int .u32 f.opq, .bool f.quiet, .bool f.withcas, .string f.flags, vT, vK, .bool f.base64]
theorem range_cmd {W : World} {g : Nat} {c : Cmd} {f : Form} {seen : ByteArray} {vV vT vK : Value} (h : W.heap[g]? = some (.cells (lnC c f seen vV vT vK) 53 (0, 0))) : W.rangeAt g 0 (cmdL c vV) :=
  range_blk h _ (fun j v hj => by
    have hlt : j < 10 := (List.getElem?_eq_some_iff.1 hj).1
    rw [← hj]
    match j, hlt with
    | 0, _ => rfl | 1, _ => rfl | 2, _ => rfl | 3, _ => rfl | 4, _ => rfl | 5, _ => rfl | 6, _ => rfl | 7, _ => rfl | 8, _ => rfl | 9, _ => rfl)
theorem range_form {W : World} {g : Nat} {c : Cmd} {f : Form} {seen : ByteArray} {vV vT vK : Value} (h : W.heap[g]? = some (.cells (lnC c f seen vV vT vK) 53 (0, 0))) : W.rangeAt g 10 (formL f vT vK) :=
  range_blk h _ (fun j v hj => by
    have hlt : j < 10 := (List.getElem?_eq_some_iff.1 hj).1
    rw [← hj]
    match j, hlt with
    | 0, _ => rfl | 1, _ => rfl | 2, _ => rfl | 3, _ => rfl | 4, _ => rfl | 5, _ => rfl | 6, _ => rfl | 7, _ => rfl | 8, _ => rfl | 9, _ => rfl)
set_option maxRecDepth 100000 in
set_option maxHeartbeats 2000000 in
theorem request_calls (c : Cmd) (f : Form) (seen : ByteArray) (A2 A7 A8 : Option Addr) (c2 c7 c8 : Nat) (used : Int) (g : Nat) (F : Nat → Prop) (w : World) (hg : w.heap[g]? = some (.cells (lnC c f seen (.slice A2 c.value.length c2) (.slice A7 f.tokens.length c7) (.slice A8 f.keys.length c8)) 53 (0, 0)))
    (h2 : HolF F w (fun w2 => (Kd.int .u8).C w2 A2 c.value.length c.value)) (h7 : HolF F w (fun w2 => Kd.string.C w2 A7 f.tokens.length f.tokens)) (h8 : HolF F w (fun w2 => Kd.string.C w2 A8 f.keys.length f.keys)) (l2 : c.value.length ≤ c2) (l7 : f.tokens.length ≤ c7) (l8 : f.keys.length ≤ c8) :
    Calls Tryz.prog 18 #[.pointer (some ⟨g, 0, none⟩), .int .i64 used] w (StepR F w (stepO used f c)) := by
  have HB := Aside0.mk (Below.refl w.heap.size w)
  have HRC := Aside0.mk (range_cmd hg)
  have HRF := Aside0.mk (range_form hg)
  have hgw := Aside0.mk (blk_lt hg)
  have H2 := Aside0.mk h2
  have H7 := Aside0.mk h7
  have H8 := Aside0.mk h8
  have L2 := Aside0.mk l2
  have L7 := Aside0.mk l7
  have L8 := Aside0.mk l8
  clear hg h2 h7 h8 l2 l7 l8
  unfold cmdL at HRC
  unfold formL at HRF
  go_enter Tryz.func18, Tryz.ntmps18
  go_upto_region 1 with fail
  (refine wp_region_noPanic ?_; refine wp_region_held_drew (S := fun w' => Below w.heap.size w w') (by kernel_rfl) (by (try dsimp only); exact (by repeat (first | (with_reducible first | exact HB.out | apply below_alloc | apply pw_below_drewN | apply below_drew1) | exact HB.out))) ?_; intro hHeld)
  (refine wpAnyH_take (i := 0) (v := ?_) (by simp only [List.getElem?_toArray, List.getElem?_cons_succ, List.getElem?_cons_zero]; rfl) (by kernel_rfl) (by kernel_rfl) (by kernel_rfl) (fun _ _ _ h => h) (Or.inl ⟨by rfl, ?_⟩) (by assumption) ?_; rotate_left; (focus (intro w hSw; (try dsimp only at hSw); go_simp; (try with_reducible rfl); done)); (try simp only [Act.put, List.setIfInBounds_toArray, List.set_cons_zero, List.set_cons_succ]))
  (refine wpAnyH_take (i := 1) (v := ?_) (by simp only [List.getElem?_toArray, List.getElem?_cons_succ, List.getElem?_cons_zero]; rfl) (by kernel_rfl) (by kernel_rfl) (by kernel_rfl) (fun _ _ _ h => h) (Or.inl ⟨by rfl, ?_⟩) (by assumption) ?_; rotate_left; (focus (intro w hSw; (try dsimp only at hSw); go_simp; (try with_reducible rfl); done)); (try simp only [Act.put, List.setIfInBounds_toArray, List.set_cons_zero, List.set_cons_succ]))
  (refine wpAnyH_take (i := 2) (v := ?_) (by simp only [List.getElem?_toArray, List.getElem?_cons_succ, List.getElem?_cons_zero]; rfl) (by kernel_rfl) (by kernel_rfl) (by kernel_rfl) (fun _ _ _ h => h) (Or.inl ⟨by rfl, ?_⟩) (by assumption) ?_; rotate_left; (focus (intro w hSw; (try dsimp only at hSw); go_simp; (try with_reducible rfl); done)); (try simp only [Act.put, List.setIfInBounds_toArray, List.set_cons_zero, List.set_cons_succ]))
  (refine wpAnyH_take (i := 3) (v := .agg #[.int .i64 c.op, .string c.key, .slice A2 c.value.length c2, .int .u32 c.flags, .int .i64 c.exp, .int .u64 c.cas, .int .u64 c.delta, .int .u64 c.initial, .bool c.makes, .bool c.sets]) (by simp only [List.getElem?_toArray, List.getElem?_cons_succ, List.getElem?_cons_zero]; rfl) (by kernel_rfl) (by kernel_rfl) (by kernel_rfl) (fun _ _ _ h => h) (yieldsIf_load_mid (by rfl) 40 _ rfl g (0) rfl _ _ (fun w' hS => range_below HRC.out hS hgw.out) Tryz.underlying40 rfl (by kernel_rfl)) (by exact hHeld) ?_; (try simp only [Act.put, List.setIfInBounds_toArray, List.set_cons_zero, List.set_cons_succ]))
  (refine wpAnyH_take (i := 5) (v := ?_) (by simp only [List.getElem?_toArray, List.getElem?_cons_succ, List.getElem?_cons_zero]; rfl) (by kernel_rfl) (by kernel_rfl) (by kernel_rfl) (fun _ _ _ h => h) (Or.inl ⟨by rfl, ?_⟩) (by assumption) ?_; rotate_left; (focus (intro w hSw; (try dsimp only at hSw); go_simp; (try with_reducible rfl); done)); (try simp only [Act.put, List.setIfInBounds_toArray, List.set_cons_zero, List.set_cons_succ]))
  (refine wpAnyH_take (i := 6) (v := ?_) (by simp only [List.getElem?_toArray, List.getElem?_cons_succ, List.getElem?_cons_zero]; rfl) (by kernel_rfl) (by kernel_rfl) (by kernel_rfl) (fun _ _ _ h => h) (Or.inl ⟨by rfl, ?_⟩) (by assumption) ?_; rotate_left; (focus (intro w hSw; (try dsimp only at hSw); go_simp; (try with_reducible rfl); done)); (try simp only [Act.put, List.setIfInBounds_toArray, List.set_cons_zero, List.set_cons_succ]))
  (refine wpAnyH_take (i := 7) (v := ?_) (by simp only [List.getElem?_toArray, List.getElem?_cons_succ, List.getElem?_cons_zero]; rfl) (by kernel_rfl) (by kernel_rfl) (by kernel_rfl) (fun _ _ _ h => h) (Or.inl ⟨by rfl, ?_⟩) (by assumption) ?_; rotate_left; (focus (intro w hSw; (try dsimp only at hSw); go_simp; (try with_reducible rfl); done)); (try simp only [Act.put, List.setIfInBounds_toArray, List.set_cons_zero, List.set_cons_succ]))
  (refine wpAnyH_take (i := 8) (v := .agg #[.int .i64 f.dialect, .string f.verb, .int .i64 f.code, .int .u32 f.opq, .bool f.quiet, .bool f.withcas, .string f.flags, .slice A7 f.tokens.length c7, .slice A8 f.keys.length c8, .bool f.base64]) (by simp only [List.getElem?_toArray, List.getElem?_cons_succ, List.getElem?_cons_zero]; rfl) (by kernel_rfl) (by kernel_rfl) (by kernel_rfl) (fun _ _ _ h => h) (yieldsIf_load_mid (by rfl) 29 _ rfl g (10) rfl _ _ (fun w' hS => range_below HRF.out hS hgw.out) Tryz.underlying29 rfl (by kernel_rfl)) (by exact hHeld) ?_; (try simp only [Act.put, List.setIfInBounds_toArray, List.set_cons_zero, List.set_cons_succ]))
  (refine wpAnyH_take (i := 10) (v := ?_) (by simp only [List.getElem?_toArray, List.getElem?_cons_succ, List.getElem?_cons_zero]; rfl) (by kernel_rfl) (by kernel_rfl) (by kernel_rfl) (fun _ _ _ h => h) (Or.inl ⟨by rfl, ?_⟩) (by assumption) ?_; rotate_left; (focus (intro w hSw; (try dsimp only at hSw); go_simp; (try with_reducible rfl); done)); (try simp only [Act.put, List.setIfInBounds_toArray, List.set_cons_zero, List.set_cons_succ]))
  refine wpAnyH_ready (rs := [4]) (by kernel_rfl) (by simp) ?_
  refine AllReadyH.cons (by simp only [List.getElem?_toArray, List.getElem?_cons_succ, List.getElem?_cons_zero]; rfl) (fun K hK => ?_) AllReadyH.nil
  go_simp
  refine hK.out _ _ (below_alloc hHeld _) ?_
  clear hK K hHeld
  intro hHeld
  (try simp only [Act.put, List.setIfInBounds_toArray, List.set_cons_zero, List.set_cons_succ])
  (refine wpAnyH_take (i := 9) (v := ?_) (by simp only [List.getElem?_toArray, List.getElem?_cons_succ, List.getElem?_cons_zero]; rfl) (by kernel_rfl) (by kernel_rfl) (by kernel_rfl) (fun _ _ _ h => h) (Or.inl ⟨by rfl, ?_⟩) (by assumption) ?_; rotate_left; (focus (intro w hSw; (try dsimp only at hSw); go_simp; (try with_reducible rfl); done)); (try simp only [Act.put, List.setIfInBounds_toArray, List.set_cons_zero, List.set_cons_succ]))
  (refine wpAnyH_take (i := 11) (v := ?_) (by simp only [List.getElem?_toArray, List.getElem?_cons_succ, List.getElem?_cons_zero]; rfl) (by kernel_rfl) (by kernel_rfl) (by kernel_rfl) (fun _ _ _ h => h) (Or.inl ⟨by rfl, ?_⟩) (by assumption) ?_; rotate_left; (focus (intro w hSw; (try dsimp only at hSw); go_simp; (try with_reducible rfl); done)); (try simp only [Act.put, List.setIfInBounds_toArray, List.set_cons_zero, List.set_cons_succ]))
  refine wpAnyH_ready (rs := [12]) (by kernel_rfl) (by simp) ?_
  refine AllReadyH.cons (by simp only [List.getElem?_toArray, List.getElem?_cons_succ, List.getElem?_cons_zero]; rfl) (fun K hK => ?_) AllReadyH.nil
  refine step_store_F rfl 34 _ _ rfl w.heap.size 0 [.slice (some ⟨w.heap.size + 1, 0, none⟩) 1 1, .int .i64 f.dialect, .string f.verb, .int .i64 f.code, .int .u32 f.opq, .bool f.quiet, .bool f.withcas, .string f.flags, .slice A7 f.tokens.length c7, .slice A8 f.keys.length c8, .bool f.base64, .string ⟨#[]⟩, .int .i64 used, .int .i64 0, .bool false, .int .i64 0] rfl rfl (by simp [Value.oneCell']) 34 zStepC [.slice (some ⟨w.heap.size + 1, 0, none⟩) 1 1, .int .i64 f.dialect, .string f.verb, .int .i64 f.code, .int .u32 f.opq, .bool f.quiet, .bool f.withcas, .string f.flags, .slice A7 f.tokens.length c7, .slice A8 f.keys.length c8, .bool f.base64, .string ⟨#[]⟩, .int .i64 used, .int .i64 0, .bool false, .int .i64 0].toArray (by repeat (first | exact blk_at_new _ _ _ (by simp; done) | exact blk_at_new _ _ _ rfl | refine blk_alloc ?_ _ | refine blk_drew ?_ | refine blk_drewN ?_ _)) (by simp [zStepC]) (by kernel_rfl) rfl ?_
  intro w6 hbk hst
  have BR6 := Aside0.mk hbk
  have BC6 : Aside0 (w6.heap[w.heap.size + 1]? = some (.cells #[.int .i64 c.op, .string c.key, .slice A2 c.value.length c2, .int .u32 c.flags, .int .i64 c.exp, .int .u64 c.cas, .int .u64 c.delta, .int .u64 c.initial, .bool c.makes, .bool c.sets] 40 (0, 0))) := ⟨hst.blk (blk_at_new _ _ _ (by simp)) (by omega)⟩
  have HB6 := Aside0.mk (hst.up (by repeat (first | (with_reducible first | exact HB.out | apply below_alloc | apply pw_below_drewN | apply below_drew1) | exact HB.out)) (Nat.le_refl _))
  have hsz6 := Aside0.mk (blk_lt BC6.out)
  refine hK.out _ _ HB6.out ?_
  clear hK K hHeld hbk hst
  intro hHeld
  (try simp only [Act.put, List.setIfInBounds_toArray, List.set_cons_zero, List.set_cons_succ])
  (refine wpAnyH_done (by kernel_rfl) ?_ _; refine NoPanic.normal ?_)
  go_wp2
  (try simp only [Exit.inBlock, Exit.then]); refine bodyPost_ret (results_cell_row rfl _ _ w.heap.size 34 _ (0, 0) _ rfl BR6.out Tryz.underlying34 rfl (by kernel_rfl)) rfl ?_
  exact ⟨⟨_, rfl, fun w2 hb2 hk2 => kStep_mk w2 (stepO used f c) (Nat.le_refl _) (C_blk1 (t := 40) (kCmd_mk w2 c L2.out (H2.out.back HB6.out hb2 hk2)) ((hk2 _ hsz6.out (fun h => by omega)).trans BC6.out)) L7.out (H7.out.back HB6.out hb2 hk2) L8.out (H8.out.back HB6.out hb2 hk2)⟩, HB6.out⟩
end Go.Proofs.YtdgeiadlijlkmaaGreatDoor.X
namespace Go.Proofs.YtdgeiadlijlkmaaGreatDoor.X
open Go.RowKit Go.Proofs.YtdgeiadlijlkmaaGreatDoorW.PrintWords Go.Proofs.YtdgeiadlijlkmaaGreatDoorW.PrintMore
set_option linter.unusedVariables false
set_option linter.unusedSimpArgs false
set_option maxRecDepth 100000 in
set_option maxHeartbeats 1000000 in
theorem begun_w (v : ByteArray) (w : World) : Calls Tryz.prog 38 #[.string v] w fun e w' => e = .returned (.agg (cmdL (begunC v.toList) (.slice none 0 0)).toArray) ∧ Below w.heap.size w w' := by
  have HB := Aside0.mk (Below.refl w.heap.size w)
  obtain ⟨R, hR⟩ : ∃ R, (cmdL (begunC v.toList) (.slice none 0 0)).toArray = R := ⟨_, rfl⟩
  rw [hR]
  unfold begunC at hR
  obtain ⟨l, hl⟩ : ∃ l, v.toList = l := ⟨_, rfl⟩
  rw [hl] at hR
  by_cases h1 : l = [109, 103]
  · have b1 : (v.toList == [109, 103]) = true := beq_iff_eq.2 (hl.trans h1)
    rw [if_pos h1] at hR
    subst hR
    clear h1 hl
    go_enter Tryz.func38, Tryz.ntmps38
    go_wp2
    ((try simp only [Exit.inBlock, Exit.then]); refine bodyPost_ret (results_cell_row rfl _ _ (w.heap.size) 40 _ (0, 0) _ rfl (by repeat (first | exact blk_at_new _ _ _ (by simp; done) | exact blk_at_new _ _ _ rfl | refine blk_alloc ?_ _ | refine blk_drew ?_ | refine blk_drewN ?_ _)) Tryz.underlying40 rfl (by kernel_rfl)) rfl ?_)
    exact ⟨rfl, (by repeat (first | (with_reducible first | exact HB.out | apply below_alloc | apply pw_below_drewN | apply below_drew1) | exact HB.out))⟩
  have b1 : (v.toList == [109, 103]) = false := beq_eq_false_iff_ne.2 (fun h => h1 (hl.symm.trans h))
  rw [if_neg h1] at hR
  by_cases h2 : l = [109, 115]
  · have b2 : (v.toList == [109, 115]) = true := beq_iff_eq.2 (hl.trans h2)
    rw [if_pos h2] at hR
    subst hR
    clear h1 h2 hl
    go_enter Tryz.func38, Tryz.ntmps38
    go_wp2
    ((try simp only [Exit.inBlock, Exit.then]); refine bodyPost_ret (results_cell_row rfl _ _ (w.heap.size) 40 _ (0, 0) _ rfl (by repeat (first | exact blk_at_new _ _ _ (by simp; done) | exact blk_at_new _ _ _ rfl | refine blk_alloc ?_ _ | refine blk_drew ?_ | refine blk_drewN ?_ _)) Tryz.underlying40 rfl (by kernel_rfl)) rfl ?_)
    exact ⟨rfl, (by repeat (first | (with_reducible first | exact HB.out | apply below_alloc | apply pw_below_drewN | apply below_drew1) | exact HB.out))⟩
  have b2 : (v.toList == [109, 115]) = false := beq_eq_false_iff_ne.2 (fun h => h2 (hl.symm.trans h))
  rw [if_neg h2] at hR
  by_cases h3 : l = [109, 100]
  · have b3 : (v.toList == [109, 100]) = true := beq_iff_eq.2 (hl.trans h3)
    rw [if_pos h3] at hR
    subst hR
    clear h1 h2 h3 hl
    go_enter Tryz.func38, Tryz.ntmps38
    go_wp2
    ((try simp only [Exit.inBlock, Exit.then]); refine bodyPost_ret (results_cell_row rfl _ _ (w.heap.size) 40 _ (0, 0) _ rfl (by repeat (first | exact blk_at_new _ _ _ (by simp; done) | exact blk_at_new _ _ _ rfl | refine blk_alloc ?_ _ | refine blk_drew ?_ | refine blk_drewN ?_ _)) Tryz.underlying40 rfl (by kernel_rfl)) rfl ?_)
    exact ⟨rfl, (by repeat (first | (with_reducible first | exact HB.out | apply below_alloc | apply pw_below_drewN | apply below_drew1) | exact HB.out))⟩
  have b3 : (v.toList == [109, 100]) = false := beq_eq_false_iff_ne.2 (fun h => h3 (hl.symm.trans h))
  rw [if_neg h3] at hR
  subst hR
  clear h1 h2 h3 hl
  go_enter Tryz.func38, Tryz.ntmps38
  go_wp2
  ((try simp only [Exit.inBlock, Exit.then]); refine bodyPost_ret (results_cell_row rfl _ _ (w.heap.size) 40 _ (0, 0) _ rfl (by repeat (first | exact blk_at_new _ _ _ (by simp; done) | exact blk_at_new _ _ _ rfl | refine blk_alloc ?_ _ | refine blk_drew ?_ | refine blk_drewN ?_ _)) Tryz.underlying40 rfl (by kernel_rfl)) rfl ?_)
  exact ⟨rfl, (by repeat (first | (with_reducible first | exact HB.out | apply below_alloc | apply pw_below_drewN | apply below_drew1) | exact HB.out))⟩
def flagsP : Ln → List ByteArray → Except ByteArray Ln
  | x, [] => .ok x
  | x, t :: ws => match flagP x t with
    | .error e => .error e
    | .ok y => flagsP y ws
theorem flagsP_snoc : ∀ (l : List ByteArray) (x y : Ln) (t : ByteArray), flagsP x l = .ok y → flagsP x (l ++ [t]) = flagP y t
  | [], x, y, t, h => by
    obtain rfl : x = y := by simpa [flagsP] using h
    show (match flagP x t with | .error e => (.error e : Except ByteArray Ln) | .ok y => flagsP y []) = _
    cases flagP x t <;> rfl
  | a :: l, x, y, t, h => by
    show (match flagP x a with | .error e => (.error e : Except ByteArray Ln) | .ok y => flagsP y (l ++ [t])) = _
    rw [flagsP] at h
    cases hx : flagP x a with
    | error e => rw [hx] at h; cases h
    | ok z =>
      rw [hx] at h
      exact flagsP_snoc l z y t h
theorem flagsP_err : ∀ (l : List ByteArray) (x y : Ln) (t e : ByteArray) (m : List ByteArray), flagsP x l = .ok y → flagP y t = .error e → flagsP x (l ++ t :: m) = .error e
  | [], x, y, t, e, m, h, he => by
    obtain rfl : x = y := by simpa [flagsP] using h
    show (match flagP x t with | .error e => (.error e : Except ByteArray Ln) | .ok y => flagsP y m) = _
    rw [he]
  | a :: l, x, y, t, e, m, h, he => by
    show (match flagP x a with | .error e => (.error e : Except ByteArray Ln) | .ok y => flagsP y (l ++ t :: m)) = _
    rw [flagsP] at h
    cases hx : flagP x a with
    | error e => rw [hx] at h; cases h
    | ok z =>
      rw [hx] at h
      exact flagsP_err l z y t e m h he
theorem flagP_err {x : Ln} {t s : ByteArray} (h : flagP x t = .error s) : s.toList.isEmpty = false ∧ s.size ≤ 1000 := by
  unfold flagP at h
  split at h
  · cases h; exact ⟨by rw [ByteArray.toList_eq]; rfl, by decide⟩
  split at h
  · cases h; exact ⟨by rw [ByteArray.toList_eq]; rfl, by decide⟩
  split at h
  · cases h; exact ⟨by rw [ByteArray.toList_eq]; rfl, by decide⟩
  · cases h
/-- What a flag adds. -/
structure Grew (x y : Ln) : Prop where
  verb : y.f.verb = x.f.verb
  seen : y.seen.size ≤ x.seen.size + 1
  flags : y.f.flags.size ≤ x.f.flags.size + 1
  tokens : y.f.tokens.length ≤ x.f.tokens.length + 1
  value : y.c.value = x.c.value
  keys : y.f.keys = x.f.keys
theorem loadP_value (v : ByteArray) (z : Int) (s : ByteArray) (c : Cmd) : (loadP v z s c).2.value = c.value := by
  unfold loadP timeC modeC
  split
  · rfl
  split
  · rfl
  split
  · rfl
  split
  · rfl
  · dsimp only
    split
    · rfl
    split
    · rfl
    split <;> rfl
theorem flagP_grew {x y : Ln} {t : ByteArray} (h : flagP x t = .ok y) : Grew x y := by
  unfold flagP at h
  split at h
  · cases h
  split at h
  · cases h
  split at h
  · cases h
  · cases h
    have h1 : (firstW t).size ≤ 1 := by unfold firstW; rw [ByteArray.size_extract]; omega
    refine ⟨rfl, ?_, ?_, ?_, ?_, rfl⟩
    · show (x.seen ++ firstW t).size ≤ _
      rw [ByteArray.size_append]
      omega
    · show (if hasZ toldT (letter t) = true then x.f.flags ++ firstW t else x.f.flags).size ≤ _
      split
      · rw [ByteArray.size_append]; omega
      · omega
    · show (if hasZ toldT (letter t) = true then x.f.tokens ++ [tokenW t] else x.f.tokens).length ≤ _
      split
      · rw [List.length_append]; simp
      · omega
    · show (if letter t = 73 then { (if hasZ (loadL x.f.verb.toList) (letter t) = true then (loadP x.f.verb (letter t) (tokenW t) x.c).2 else x.c) with op := 9 } else (if hasZ (loadL x.f.verb.toList) (letter t) = true then (loadP x.f.verb (letter t) (tokenW t) x.c).2 else x.c)).value = _
      split <;> ((try dsimp only); split <;> first | rfl | exact loadP_value ..)
def readP (b64 : ByteArray → Option (List Int)) (v k : ByteArray) (ws : List ByteArray) : Except ByteArray Ln :=
  if 16 < ws.length then .error manyT else match flagsP (begunL v) ws with
    | .error e => .error e
    | .ok x => keyM b64 x k
theorem keyM_keeps {b64 : ByteArray → Option (List Int)} {x y : Ln} {k : ByteArray} (h : keyM b64 x k = .ok y) : y.c.value = x.c.value ∧ y.f.verb = x.f.verb := by
  unfold keyM at h
  split at h
  · split at h
    · cases h; exact ⟨rfl, rfl⟩
    · cases h
  · split at h
    · cases h
    · split at h
      · cases h; exact ⟨rfl, rfl⟩
      · cases h
theorem take_snoc {ws : List ByteArray} {i : Nat} (h : i < ws.length) : ws.take (i + 1) = ws.take i ++ [ws.getD i ⟨#[]⟩] := by
  rw [List.take_succ_eq_append_getElem h, List.getD_eq_getElem?_getD, List.getElem?_eq_getElem h]; rfl
theorem split_at {ws : List ByteArray} {i : Nat} (h : i < ws.length) : ws = ws.take i ++ ws.getD i ⟨#[]⟩ :: ws.drop (i + 1) := by
  have e : ws.getD i ⟨#[]⟩ :: ws.drop (i + 1) = ws.drop i := by
    rw [List.getD_eq_getElem?_getD, List.getElem?_eq_getElem h, List.drop_eq_getElem_cons h]
    rfl
  rw [e, List.take_append_drop]
def ReadP (v k : ByteArray) (r : Except ByteArray Ln) (w : World) (e : Ending) (w' : World) : Prop :=
  Below w.heap.size w w' ∧ match r with
    | .error s => ∃ p, e = .returned (.tuple #[p, .string s])
    | .ok y => ∃ g, e = .returned (.tuple #[.pointer (some ⟨g, 0, none⟩), .string ⟨#[]⟩]) ∧ w.heap.size ≤ g ∧ LnK g k y w' ∧ y.c.value = [] ∧ y.f.verb = v
set_option maxRecDepth 100000 in
set_option maxHeartbeats 4000000 in
theorem read_calls (b64 : ByteArray → Option (List Int)) (v k : ByteArray) (ws : List ByteArray) (A : Option Addr) (cap : Nat) (w : World) (hC : Kd.string.C w A ws.length ws) (hcap : ws.length ≤ cap) (hs : ∀ t ∈ ws, 0 < t.size ∧ t.size ≤ 1000000) (hl : ws.length ≤ 1000000) (hv : v.size ≤ 1000000) (hk : k.size ≤ 1000000) (hT : Tabs w) (h64 : ∀ w, Calls Tryz.prog 60 #[.string k] w (DecP (b64 k) w)) :
    Calls Tryz.prog 21 #[.string v, .string k, .slice A ws.length cap] w (ReadP v k (readP b64 v k ws) w) := by
  have HB := Aside0.mk (Below.refl w.heap.size w)
  have HC := Aside0.mk hC
  have HS := Aside0.mk hs
  have HT := Aside0.mk hT
  have H64 := Aside0.mk h64
  have HV := Aside0.mk hv
  have HK := Aside0.mk hk
  obtain ⟨R, hR⟩ : ∃ R, readP b64 v k ws = R := ⟨_, rfl⟩
  rw [hR]
  unfold readP at hR
  clear hC hs hT h64 hv hk
  go_enter Tryz.func21, Tryz.ntmps21
  by_cases h16 : 16 < ws.length
  · rw [if_pos h16] at hR
    subst hR
    go_wp2_with (first | (go_at_call 38; (with_reducible refine (begun_w v _).mono ?_); rintro e w1 ⟨rfl, hb⟩; have HBn := Aside0.mk (below_step (by repeat (first | (with_reducible first | exact HB.out | apply below_alloc | apply pw_below_drewN | apply below_drew1) | exact HB.out)) hb); clear HB; have HB := HBn; clear HBn; clear hb; unfold cmdL))
    go_ret2
    exact ⟨(by repeat (first | (with_reducible first | exact HB.out | apply below_alloc | apply pw_below_drewN | apply below_drew1) | exact HB.out)), _, rfl⟩
  rw [if_neg h16] at hR
  have HR := Aside0.mk hR
  clear hR
  go_upto_region 4 with (first | (go_at_call 38; (with_reducible refine (begun_w v _).mono ?_); rintro e w1 ⟨rfl, hb⟩; have HBn := Aside0.mk (below_step (by repeat (first | (with_reducible first | exact HB.out | apply below_alloc | apply pw_below_drewN | apply below_drew1) | exact HB.out)) hb); clear HB; have HB := HBn; clear HBn; clear hb; unfold cmdL))
  obtain ⟨W, hW⟩ : ∃ W, w1.alloc (.cells (lnC (begunC v.toList) (begunL v).f ⟨#[]⟩ (.slice none 0 0) (.slice none 0 0) (.slice none 0 0)) 53 (0, 0)) = W := ⟨_, rfl⟩
  have hW2 := hW
  unfold lnC begunL zForm at hW2
  dsimp only at hW2
  rw [hW2]
  have HX0 : Aside0 (LnR w1.heap.size (begunL v) W) := ⟨⟨_, hW ▸ blk_at_new _ _ _ rfl, World.ownsRow_nil _ _ _ _⟩⟩
  have HB0 : Aside0 (Below w.heap.size w W) := ⟨hW ▸ (by repeat (first | (with_reducible first | exact HB.out | apply below_alloc | apply pw_below_drewN | apply below_drew1) | exact HB.out))⟩
  have hgw : Aside0 (w.heap.size ≤ w1.heap.size) := ⟨HB.out.size⟩
  obtain ⟨g, hg⟩ : ∃ g, w1.heap.size = g := ⟨_, rfl⟩
  rw [hg] at HX0 hgw
  rw [hg]
  clear HB hW hW2 hg
  go_wp2
  go_loopw [24] (fun v24 wr => ∃ i : Nat, v24 = .int .i64 i ∧ i ≤ ws.length ∧ Aside0 (∃ x, flagsP (begunL v) (ws.take i) = .ok x ∧ LnR g x wr ∧ Below w.heap.size w wr ∧ x.f.verb = v ∧ x.seen.size ≤ i ∧ x.f.flags.size ≤ i ∧ x.f.tokens.length ≤ i ∧ x.c.value = [])) (fun v24 _ => ws.length - (intOf v24).toNat)
  case atStart => exact ⟨0, rfl, by omega, ⟨⟨_, rfl, HX0.out, HB0.out, rfl, Nat.le_refl _, Nat.le_refl _, Nat.le_refl _, by unfold begunL begunC; dsimp only; split <;> first | rfl | (split <;> first | rfl | (split <;> rfl))⟩⟩⟩
  case round =>
    obtain ⟨i, rfl, hi, HI⟩ := hrel
    obtain ⟨x, hfx, hln, hB, hxv, hxs, hxf, hxt, hxc⟩ := HI.out
    have HB := Aside0.mk hB
    have HFX := Aside0.mk hfx
    have HXV := Aside0.mk hxv
    have HXC := Aside0.mk hxc
    have HXB := Aside0.mk (⟨hxs, hxf, hxt⟩ : x.seen.size ≤ i ∧ x.f.flags.size ≤ i ∧ x.f.tokens.length ≤ i)
    by_cases hlt : i < ws.length
    · obtain ⟨b, o, rfl, hb0, hcell⟩ := S_cell (Kd.C_below HC.out HB.out) i hlt
      have hmem : ws.getD i ⟨#[]⟩ ∈ ws := by rw [List.getD_eq_getElem?_getD, List.getElem?_eq_getElem hlt]; exact List.getElem_mem hlt
      have HTS := Aside0.mk (take_snoc hlt)
      have HSP := Aside0.mk (split_at hlt)
      obtain ⟨t, ht⟩ : ∃ t, ws.getD i ⟨#[]⟩ = t := ⟨_, rfl⟩
      rw [ht] at hcell hmem HTS HSP
      have hts := HS.out t hmem
      have HFG0 := flag_calls x t g w wr hln HT.out HB.out hgw.out (by rw [hxv]; exact HV.out) hts.2 hts.1 (by omega) (by omega) (by omega)
      clear hfx hln hB hxv hxs hxf hxt hxc ht hmem hts HI
      cases hf : flagP x t with
      | error s =>
        rw [hf] at HFG0
        have HFG := Aside0.mk HFG0
        have hne := (flagP_err hf).1
        obtain rfl : .error s = R := by
          rw [← HR.out]
          have := flagsP_err (ws.take i) (begunL v) x t s (ws.drop (i + 1)) HFX.out hf
          rw [← HSP.out] at this
          rw [this]
        clear HFG0 hf
        go_wp2_with (first | ((go_at_call 39; (with_reducible refine (HFG.out).mono ?_); rintro e w2 hfp); obtain ⟨hlow, rfl⟩ := hfp))
        go_ret2
        exact ⟨HB.out.trans (hlow.mono hgw.out), _, rfl⟩
      | ok y =>
        rw [hf] at HFG0
        have HFG := Aside0.mk HFG0
        have HGR := Aside0.mk (flagP_grew hf)
        have HFY : Aside0 (flagsP (begunL v) (ws.take (i + 1)) = .ok y) := ⟨by rw [HTS.out, flagsP_snoc _ _ _ _ HFX.out, hf]⟩
        clear HFG0 hf
        go_wp2_with (first | ((go_at_call 39; (with_reducible refine (HFG.out).mono ?_); rintro e w2 hfp); obtain ⟨hlow, rfl, hln⟩ := hfp; have HLN := Aside0.mk hln; have HLO := Aside0.mk hlow; clear hlow hln))
        go_round
        case rel => exact ⟨i + 1, by first | rfl | simp, by omega, ⟨⟨y, HFY.out, HLN.out, HB.out.trans (HLO.out.mono hgw.out), HGR.out.verb.trans HXV.out, Nat.le_trans HGR.out.seen (by have := HXB.out.1; omega), Nat.le_trans HGR.out.flags (by have := HXB.out.2.1; omega), Nat.le_trans HGR.out.tokens (by have := HXB.out.2.2; omega), HGR.out.value.trans HXC.out⟩⟩⟩
        case measure => simp [intOf]; omega
    · have hil : i = ws.length := by omega
      subst hil
      have HKE0 := key_calls b64 x k g wr hln HK.out H64.out
      rw [List.take_of_length_le (Nat.le_refl _)] at hfx
      have hR := HR.out
      rw [hfx] at hR
      dsimp only at hR
      rw [hR] at HKE0
      have HKK := Aside0.mk (fun y (h : R = .ok y) => keyM_keeps (hR.trans h))
      have HKE := Aside0.mk HKE0
      clear hfx hln hB hxv hxs hxf hxt hxc HI HKE0 hR HR
      cases R with
      | error s =>
        go_wp2_with (first | ((go_at_call 40; (with_reducible refine (HKE.out).mono ?_); rintro e w2 hkp); obtain ⟨hlow, rfl⟩ := hkp))
        go_ret2
        exact ⟨HB.out.trans (hlow.mono hgw.out), _, rfl⟩
      | ok y =>
        go_wp2_with (first | ((go_at_call 40; (with_reducible refine (HKE.out).mono ?_); rintro e w2 hkp); obtain ⟨hlow, rfl, hlk⟩ := hkp))
        go_ret2
        exact ⟨HB.out.trans (hlow.mono hgw.out), g, rfl, hgw.out, hlk, (HKK.out y rfl).1.trans HXC.out, (HKK.out y rfl).2.trans HXV.out⟩
end Go.Proofs.YtdgeiadlijlkmaaGreatDoor.X
namespace Go.Proofs.YtdgeiadlijlkmaaGreatDoor.X
open Go.RowKit Go.Proofs.YtdgeiadlijlkmaaGreatDoorW.PrintWords Go.Proofs.YtdgeiadlijlkmaaGreatDoorW.PrintMore
set_option linter.unusedVariables false
set_option linter.unusedSimpArgs false
def storesP (b64 : ByteArray → Option (List Int)) (used : Int) (rest : List Int) (k n : ByteArray) (ws : List ByteArray) : Step :=
  match readP b64 (⟨#[109, 115]⟩ : ByteArray) k ws with
  | .error e => stepFS used e (skipN (decS n)) false
  | .ok x =>
    if (decS n).2 = false then stepFS used badT (skipN (decS n)) false
    else if ((decS n).1 : Int) > 1000 then stepFS used largeT (skipN (decS n)) false
    else if (bodyS rest (decS n).1).2.2 = 3 then stepM
    else if (bodyS rest (decS n).1).2.2 = 2 then stepFS (used + (bodyS rest (decS n).1).2.1) chunkT 0 true
    else stepO (used + (bodyS rest (decS n).1).2.1) x.f { x.c with value := (bodyS rest (decS n).1).1 }
theorem C_drop3 {w : World} {b o cap : Nat} {v0 v1 v2 : ByteArray} {l : List ByteArray} (h : Kd.string.C w (some ⟨b, o, none⟩) (l.length + 3) (v0 :: v1 :: v2 :: l)) (hc : l.length + 3 ≤ cap) : Kd.string.C w (if cap = 3 then some ⟨b, o, none⟩ else some ⟨b, o + 3, none⟩) l.length l := by
  by_cases h3 : cap = 3
  · rw [if_pos h3]
    obtain rfl : l = [] := List.eq_nil_of_length_eq_zero (by omega)
    exact C_zero _ _ _
  · rw [if_neg h3]
    exact C_tail (C_tail (C_tail h rfl) rfl) rfl
theorem readP_err {b64 : ByteArray → Option (List Int)} {v k : ByteArray} {ws : List ByteArray} {s : ByteArray} (h : readP b64 v k ws = .error s) : s.toList.isEmpty = false ∧ s.size ≤ 1000 := by
  unfold readP at h
  split at h
  · cases h; exact ⟨by rw [ByteArray.toList_eq]; rfl, by decide⟩
  split at h
  · next e he =>
    cases h
    have key : ∀ (l : List ByteArray) (x : Ln) (e : ByteArray), flagsP x l = .error e → e.toList.isEmpty = false ∧ e.size ≤ 1000 := by
      intro l
      induction l with
      | nil => intro x e h; cases h
      | cons a l ih =>
        intro x e h
        rw [flagsP] at h
        cases hx : flagP x a with
        | error s => rw [hx] at h; cases h; exact flagP_err hx
        | ok y => rw [hx] at h; exact ih y e h
    exact key ws _ _ he
  · unfold keyM at h
    split at h
    · split at h
      · cases h
      · cases h; exact ⟨by rw [ByteArray.toList_eq]; rfl, by decide⟩
    · split at h
      · cases h; exact ⟨by rw [ByteArray.toList_eq]; rfl, by decide⟩
      · split at h
        · cases h
        · cases h; exact ⟨by rw [ByteArray.toList_eq]; rfl, by decide⟩
theorem own_tok {W : World} {base : Nat} {v : Value} {l : List ByteArray} (h : W.ownsRow base 9 1 v l.length (encs Value.string l)) : ∃ A c, v = .slice A l.length c ∧ l.length ≤ c ∧ Kd.string.C W A l.length l :=
  Kd.R_reads (d := Kd.string) (Kd.R_of_own (h1 := fun _ => rfl) (ok := fun _ => True) h (fun _ _ => trivial))
theorem own_Ct {W : World} {base c : Nat} {A : Option Addr} {l : List ByteArray} (h : W.ownsRow base 9 1 (.slice A l.length c) l.length (encs Value.string l)) : Kd.string.C W A l.length l := by
  obtain ⟨A', c', h1, _, h3⟩ := own_tok h
  cases h1
  exact h3
theorem req_at (y : Ln) (vl : List Int) (A' : Option Addr) (c' g kb : Nat) (used : Int) (vT : Value) (B base : Nat) (w5 w6 : World) (hle : vl.length ≤ c') (hrow : w5.ownsRow base 5 1 (.slice A' vl.length c') vl.length (encs (Value.int .u8) vl))
    (hot : w5.ownsRow (g + 1) 9 1 vT y.f.tokens.length (encs Value.string y.f.tokens)) {k : ByteArray} (hkb : w5.heap[kb]? = some (.cells #[.string k] 9 (0, 0))) (hgk : g < kb) (hkeys : y.f.keys = [k]) (hBg : B < g) (hgb : g < base)
    (hbk : w6.heap[g]? = some (.cells (lnC { y.c with value := vl } y.f y.seen (.slice A' vl.length c') vT (.slice (some ⟨kb, 0, none⟩) 1 1)) 53 (0, 0))) (hst : StoreTo g w5 w6) :
    Calls Tryz.prog 18 #[.pointer (some ⟨g, 0, none⟩), .int .i64 used] w6 (StepR (fun k => B < k) w6 (stepO used y.f { y.c with value := vl })) := by
  have hrow6 := hst.own hrow hgb
  have hot6 := hst.own hot (Nat.lt_succ_self g)
  have hkb6 := hst.blk hkb (by omega)
  obtain ⟨A7, c7, rfl, hl7, -⟩ := own_tok hot6
  have hkl : y.f.keys.length = 1 := by rw [hkeys]; rfl
  refine request_calls { y.c with value := vl } y.f y.seen A' A7 (some ⟨kb, 0, none⟩) c' c7 1 used g (fun k => B < k) w6 (by rw [hkl]; exact hbk) ?_ ?_ ?_ hle hl7 (by omega)
  · exact fun w2 hb hk2 => own_Cu8 (own_move hrow6 (fun j hj => hk2 j (own_lt hrow6 j hj) (by have := own_base hrow6 j hj; show B < j; omega)))
  · exact fun w2 hb hk2 => own_Ct (own_move hot6 (fun j hj => hk2 j (own_lt hot6 j hj) (by have := own_base hot6 j hj; show B < j; omega)))
  · intro w2 hb hk2
    rw [hkeys]
    exact C_str1 (t := 9) ((hk2 kb (blk_lt hkb6) (by show B < kb; omega)).trans hkb6)
theorem LnK.below {g : Nat} {k : ByteArray} {x : Ln} {w w' : World} (h : LnK g k x w) (hb : Below w.heap.size w w') : LnK g k x w' := by
  obtain ⟨vT, kb, h1, h2, h3, h4, h5⟩ := h
  exact ⟨vT, kb, blk_below h1 hb, own_up h2 hb, blk_below h3 hb, h4, h5⟩
set_option maxRecDepth 100000 in
set_option maxHeartbeats 8000000 in
theorem stores_calls (b64 : ByteArray → Option (List Int)) (k n : ByteArray) (ws : List ByteArray) (b o cap : Nat) (used : Int) (rest : List Int) (A5 : Option Addr) (c5 : Nat) (w : World)
    (hC : Kd.string.C w (some ⟨b, o, none⟩) (ws.length + 3) ((⟨#[109, 115]⟩ : ByteArray) :: k :: n :: ws)) (hb0 : b < w.heap.size) (hcap : ws.length + 3 ≤ cap) (hs : ∀ t ∈ ws, 0 < t.size ∧ t.size ≤ 1000000) (hl : ws.length ≤ 1000000) (hk : k.size ≤ 1000000) (hT : Tabs w) (h64 : ∀ w, Calls Tryz.prog 60 #[.string k] w (DecP (b64 k) w))
    (hR : (Kd.int .u8).C w A5 rest.length rest) (hc5 : rest.length ≤ c5) (hrl : rest.length ≤ 1000000) (h8 : B8 rest) (hu0 : 0 ≤ used) (hu1 : used ≤ 1000000) :
    Calls Tryz.prog 20 #[.slice (some ⟨b, o, none⟩) (ws.length + 3) cap, .int .i64 used, .slice A5 rest.length c5] w (StepR (fun _ => False) w (storesP b64 used rest k n ws)) := by
  have HB := Aside0.mk (Below.refl w.heap.size w)
  have HC0 : Aside0 (w.cell? ⟨b, o, none⟩ = some (.string (⟨#[109, 115]⟩ : ByteArray))) := by
    obtain ⟨b', o', e', -, h⟩ := S_cell (l := (⟨#[109, 115]⟩ : ByteArray) :: k :: n :: ws) hC 0 (by simp)
    obtain ⟨rfl, rfl⟩ : b = b' ∧ o = o' := by simpa using e'
    exact ⟨h⟩
  have HC1 : Aside0 (w.cell? ⟨b, o + 1, none⟩ = some (.string k)) := by
    obtain ⟨b', o', e', -, h⟩ := S_cell (l := (⟨#[109, 115]⟩ : ByteArray) :: k :: n :: ws) hC 1 (by simp)
    obtain ⟨rfl, rfl⟩ : b = b' ∧ o = o' := by simpa using e'
    exact ⟨h⟩
  have HC2 : Aside0 (w.cell? ⟨b, o + 2, none⟩ = some (.string n)) := by
    obtain ⟨b', o', e', -, h⟩ := S_cell (l := (⟨#[109, 115]⟩ : ByteArray) :: k :: n :: ws) hC 2 (by simp)
    obtain ⟨rfl, rfl⟩ : b = b' ∧ o = o' := by simpa using e'
    exact ⟨h⟩
  have HCD := Aside0.mk (C_drop3 hC hcap)
  obtain ⟨m, hm⟩ : ∃ m, ws.length = m := ⟨_, rfl⟩
  have hq0 : (0 : Int) < (m : Int) + 3 := by omega
  have hq1 : (1 : Int) < (m : Int) + 3 := by omega
  have hq2 : (2 : Int) < (m : Int) + 3 := by omega
  have hq3 : (3 : Int) ≤ (m : Int) + 3 := by omega
  have hq4 : (m : Int) + 3 ≤ ↑cap := by omega
  obtain ⟨A3, hA3⟩ : ∃ A, (if cap = 3 then some ⟨b, o, none⟩ else some ⟨b, o + 3, none⟩ : Option Addr) = A := ⟨_, rfl⟩
  rw [hA3, hm] at HCD
  have hcap3 : m ≤ cap - 3 := by omega
  have HRD : Aside0 (∀ w', Below w.heap.size w w' → Calls Tryz.prog 21 #[.string (⟨#[109, 115]⟩ : ByteArray), .string k, .slice A3 m (cap - 3)] w' (ReadP (⟨#[109, 115]⟩ : ByteArray) k (readP b64 (⟨#[109, 115]⟩ : ByteArray) k ws) w')) := ⟨fun w' hb => by
    have := read_calls b64 (⟨#[109, 115]⟩ : ByteArray) k ws A3 (cap - 3) w' (by rw [hm]; exact Kd.C_below HCD.out hb) (by omega) hs hl (by decide) hk (Tabs.below hT hb) h64
    rw [hm] at this
    exact this⟩
  have HDC : Aside0 (∀ w', Below w.heap.size w w' → Calls Tryz.prog 36 #[.string n] w' fun e w'' => e = .returned (.tuple #[.int .u64 ((decS n).1 : Int), .bool (decS n).2]) ∧ Below w'.heap.size w' w'') := ⟨fun w' hb => dec_w n w' (Tabs.below hT hb)⟩
  have HBY : Aside0 (∀ (z : Int) w', Below w.heap.size w w' → Calls Tryz.prog 37 #[.slice A5 rest.length c5, .int .i64 z] w' (BL w' (bodyS rest z))) := ⟨fun z w' hb => fbody_calls rest A5 c5 z w' (Kd.C_below hR hb) hc5 hrl h8⟩
  obtain ⟨R, hRR⟩ : ∃ R, storesP b64 used rest k n ws = R := ⟨_, rfl⟩
  rw [hRR]
  unfold storesP at hRR
  obtain ⟨R1, hR1⟩ : ∃ R, readP b64 (⟨#[109, 115]⟩ : ByteArray) k ws = R := ⟨_, rfl⟩
  obtain ⟨⟨z, q⟩, hz⟩ : ∃ r, decS n = r := ⟨_, rfl⟩
  rw [hR1] at HRD hRR
  rw [hz] at HDC hRR
  dsimp only at HDC hRR
  have HR := Aside0.mk hRR
  have HR1 := Aside0.mk hR1
  have HM := Aside0.mk hm
  have hz0 : (0 : Int) ≤ ↑z := Int.natCast_nonneg z
  clear hC hRR hR1 hz hs hl hk hT h64 hR hc5 hrl h8
  rw [hm]
  go_enter Tryz.func20, Tryz.ntmps20
  go_upto_region 1 with fail
  (refine wp_region_noPanic ?_; refine wp_region_held_drew (S := fun w' => Below w.heap.size w w') (by kernel_rfl) (by (try dsimp only); exact (by repeat (first | (with_reducible first | exact HB.out | apply below_alloc | apply pw_below_drewN | apply below_drew1) | exact HB.out))) ?_; intro hHeld)
  (refine wpAnyH_take (i := 0) (v := ?_) (by simp only [List.getElem?_toArray, List.getElem?_cons_succ, List.getElem?_cons_zero]; rfl) (by kernel_rfl) (by kernel_rfl) (by kernel_rfl) (fun _ _ _ h => h) (Or.inl ⟨by rfl, ?_⟩) (by exact hHeld) ?_; rotate_left; (focus (intro w' hSw; have c0 : w'.cell? ⟨b, o, none⟩ = some (.string (⟨#[109, 115]⟩ : ByteArray)) := (Below.cell hSw (p := ⟨b, o, none⟩) hb0).trans HC0.out; have c1 : w'.cell? ⟨b, o + 1, none⟩ = some (.string k) := (Below.cell hSw (p := ⟨b, o + 1, none⟩) hb0).trans HC1.out; clear hSw; go_simp; (try with_reducible rfl); done)); (try simp only [Act.put, List.setIfInBounds_toArray, List.set_cons_zero, List.set_cons_succ]))
  (refine wpAnyH_take (i := 1) (v := ?_) (by simp only [List.getElem?_toArray, List.getElem?_cons_succ, List.getElem?_cons_zero]; rfl) (by kernel_rfl) (by kernel_rfl) (by kernel_rfl) (fun _ _ _ h => h) (Or.inl ⟨by rfl, ?_⟩) (by exact hHeld) ?_; rotate_left; (focus (intro w' hSw; have c0 : w'.cell? ⟨b, o, none⟩ = some (.string (⟨#[109, 115]⟩ : ByteArray)) := (Below.cell hSw (p := ⟨b, o, none⟩) hb0).trans HC0.out; have c1 : w'.cell? ⟨b, o + 1, none⟩ = some (.string k) := (Below.cell hSw (p := ⟨b, o + 1, none⟩) hb0).trans HC1.out; clear hSw; go_simp; (try with_reducible rfl); done)); (try simp only [Act.put, List.setIfInBounds_toArray, List.set_cons_zero, List.set_cons_succ]))
  (refine wpAnyH_take (i := 2) (v := ?_) (by simp only [List.getElem?_toArray, List.getElem?_cons_succ, List.getElem?_cons_zero]; rfl) (by kernel_rfl) (by kernel_rfl) (by kernel_rfl) (fun _ _ _ h => h) (Or.inl ⟨by rfl, ?_⟩) (by exact hHeld) ?_; rotate_left; (focus (intro w' hSw; have c0 : w'.cell? ⟨b, o, none⟩ = some (.string (⟨#[109, 115]⟩ : ByteArray)) := (Below.cell hSw (p := ⟨b, o, none⟩) hb0).trans HC0.out; have c1 : w'.cell? ⟨b, o + 1, none⟩ = some (.string k) := (Below.cell hSw (p := ⟨b, o + 1, none⟩) hb0).trans HC1.out; clear hSw; go_simp; (try with_reducible rfl); done)); (try simp only [Act.put, List.setIfInBounds_toArray, List.set_cons_zero, List.set_cons_succ]))
  (refine wpAnyH_take (i := 3) (v := ?_) (by simp only [List.getElem?_toArray, List.getElem?_cons_succ, List.getElem?_cons_zero]; rfl) (by kernel_rfl) (by kernel_rfl) (by kernel_rfl) (fun _ _ _ h => h) (Or.inl ⟨by rfl, ?_⟩) (by exact hHeld) ?_; rotate_left; (focus (intro w' hSw; have c0 : w'.cell? ⟨b, o, none⟩ = some (.string (⟨#[109, 115]⟩ : ByteArray)) := (Below.cell hSw (p := ⟨b, o, none⟩) hb0).trans HC0.out; have c1 : w'.cell? ⟨b, o + 1, none⟩ = some (.string k) := (Below.cell hSw (p := ⟨b, o + 1, none⟩) hb0).trans HC1.out; clear hSw; go_simp; (try with_reducible rfl); done)); (try simp only [Act.put, List.setIfInBounds_toArray, List.set_cons_zero, List.set_cons_succ]))
  (refine wpAnyH_take (i := 4) (v := ?_) (by simp only [List.getElem?_toArray, List.getElem?_cons_succ, List.getElem?_cons_zero]; rfl) (by kernel_rfl) (by kernel_rfl) (by kernel_rfl) (fun _ _ _ h => h) (Or.inl ⟨by rfl, ?_⟩) (by exact hHeld) ?_; rotate_left; (focus (intro w' hSw; have c0 : w'.cell? ⟨b, o, none⟩ = some (.string (⟨#[109, 115]⟩ : ByteArray)) := (Below.cell hSw (p := ⟨b, o, none⟩) hb0).trans HC0.out; have c1 : w'.cell? ⟨b, o + 1, none⟩ = some (.string k) := (Below.cell hSw (p := ⟨b, o + 1, none⟩) hb0).trans HC1.out; clear hSw; go_simp; (try with_reducible rfl); done)); (try simp only [Act.put, List.setIfInBounds_toArray, List.set_cons_zero, List.set_cons_succ]))
  (refine wpAnyH_take (i := 5) (v := ?_) (by simp only [List.getElem?_toArray, List.getElem?_cons_succ, List.getElem?_cons_zero]; rfl) (by kernel_rfl) (by kernel_rfl) (by kernel_rfl) (fun _ _ _ h => h) (Or.inl ⟨by rfl, ?_⟩) (by exact hHeld) ?_; rotate_left; (focus (intro w' hSw; have c0 : w'.cell? ⟨b, o, none⟩ = some (.string (⟨#[109, 115]⟩ : ByteArray)) := (Below.cell hSw (p := ⟨b, o, none⟩) hb0).trans HC0.out; have c1 : w'.cell? ⟨b, o + 1, none⟩ = some (.string k) := (Below.cell hSw (p := ⟨b, o + 1, none⟩) hb0).trans HC1.out; clear hSw; go_simp; (try with_reducible rfl); done)); (try simp only [Act.put, List.setIfInBounds_toArray, List.set_cons_zero, List.set_cons_succ]))
  (refine wpAnyH_take (i := 6) (v := ?_) (by simp only [List.getElem?_toArray, List.getElem?_cons_succ, List.getElem?_cons_zero]; rfl) (by kernel_rfl) (by kernel_rfl) (by kernel_rfl) (fun _ _ _ h => h) (Or.inl ⟨by rfl, ?_⟩) (by exact hHeld) ?_; rotate_left; (focus (intro w' hSw; have c0 : w'.cell? ⟨b, o, none⟩ = some (.string (⟨#[109, 115]⟩ : ByteArray)) := (Below.cell hSw (p := ⟨b, o, none⟩) hb0).trans HC0.out; have c1 : w'.cell? ⟨b, o + 1, none⟩ = some (.string k) := (Below.cell hSw (p := ⟨b, o + 1, none⟩) hb0).trans HC1.out; clear hSw; go_simp; (try with_reducible rfl); done)); (try simp only [Act.put, List.setIfInBounds_toArray, List.set_cons_zero, List.set_cons_succ]))
  (refine wpAnyH_take (i := 7) (v := ?_) (by simp only [List.getElem?_toArray, List.getElem?_cons_succ, List.getElem?_cons_zero]; rfl) (by kernel_rfl) (by kernel_rfl) (by kernel_rfl) (fun _ _ _ h => h) (Or.inl ⟨by rfl, ?_⟩) (by exact hHeld) ?_; rotate_left; (focus (intro w' hSw; have c0 : w'.cell? ⟨b, o, none⟩ = some (.string (⟨#[109, 115]⟩ : ByteArray)) := (Below.cell hSw (p := ⟨b, o, none⟩) hb0).trans HC0.out; have c1 : w'.cell? ⟨b, o + 1, none⟩ = some (.string k) := (Below.cell hSw (p := ⟨b, o + 1, none⟩) hb0).trans HC1.out; clear hSw; go_simp; (try with_reducible rfl); done)); (try simp only [Act.put, List.setIfInBounds_toArray, List.set_cons_zero, List.set_cons_succ]))
  refine wpAnyH_ready (rs := [8]) (by kernel_rfl) (by simp) ?_
  refine AllReadyH.cons (by simp only [List.getElem?_toArray, List.getElem?_cons_succ, List.getElem?_cons_zero]; rfl) (fun K hK => ?_) AllReadyH.nil
  go_simp
  (go_at_call 21; (with_reducible refine (HRD.out _ hHeld).mono ?_); rintro e w3 hrp)
  have BR3 := Aside0.mk (blk_below (g := w.heap.size) (o := .cells zStepC 34 (0, 0)) (by repeat (first | exact blk_at_new _ _ _ (by simp; done) | exact blk_at_new _ _ _ rfl | refine blk_alloc ?_ _ | refine blk_drew ?_ | refine blk_drewN ?_ _)) hrp.1)
  have HB3 := Aside0.mk (below_step hHeld hrp.1)
  have HPW : Aside0 (∃ p s g, e = .returned (.tuple #[p, .string s]) ∧ s.size ≤ 1000 ∧ (∀ s', R1 = .error s' → s = s' ∧ s.toList.isEmpty = false) ∧ (∀ y, R1 = .ok y → s = ⟨#[]⟩ ∧ p = .pointer (some ⟨g, 0, none⟩) ∧ w.heap.size < g ∧ LnK g k y w3 ∧ y.c.value = [])) := ⟨by
    have h2 := hrp.2
    cases R1 with
    | error s => exact ⟨h2.choose, s, 0, h2.choose_spec, (readP_err HR1.out).2, (fun s' h => by cases h; exact ⟨rfl, (readP_err HR1.out).1⟩), (fun y h => by cases h)⟩
    | ok y =>
      obtain ⟨g, h3, h4, h5, h6, -⟩ := h2
      refine ⟨_, _, g, h3, by decide, (fun s' h => by cases h), fun y' h => ?_⟩
      cases h
      exact ⟨rfl, rfl, by simp at h4; omega, h5, h6⟩⟩
  obtain ⟨p, s, g, rfl, hs1, hse, hsy⟩ := HPW.out
  have HS1 := Aside0.mk hs1
  have HSE := Aside0.mk hse
  have HSY := Aside0.mk hsy
  clear HPW hrp hs1 hse hsy
  refine hK.out _ _ HB3.out ?_
  clear hK K hHeld HB
  intro hHeld
  (try simp only [Act.put, List.setIfInBounds_toArray, List.set_cons_zero, List.set_cons_succ])
  (refine wpAnyH_take (i := 9) (v := ?_) (by simp only [List.getElem?_toArray, List.getElem?_cons_succ, List.getElem?_cons_zero]; rfl) (by kernel_rfl) (by kernel_rfl) (by kernel_rfl) (fun _ _ _ h => h) (Or.inl ⟨by rfl, ?_⟩) (by assumption) ?_; rotate_left; (focus (intro w hSw; (try dsimp only at hSw); go_simp; (try with_reducible rfl); done)); (try simp only [Act.put, List.setIfInBounds_toArray, List.set_cons_zero, List.set_cons_succ]))
  (refine wpAnyH_take (i := 10) (v := ?_) (by simp only [List.getElem?_toArray, List.getElem?_cons_succ, List.getElem?_cons_zero]; rfl) (by kernel_rfl) (by kernel_rfl) (by kernel_rfl) (fun _ _ _ h => h) (Or.inl ⟨by rfl, ?_⟩) (by assumption) ?_; rotate_left; (focus (intro w hSw; (try dsimp only at hSw); go_simp; (try with_reducible rfl); done)); (try simp only [Act.put, List.setIfInBounds_toArray, List.set_cons_zero, List.set_cons_succ]))
  (refine wpAnyH_take (i := 11) (v := ?_) (by simp only [List.getElem?_toArray, List.getElem?_cons_succ, List.getElem?_cons_zero]; rfl) (by kernel_rfl) (by kernel_rfl) (by kernel_rfl) (fun _ _ _ h => h) (Or.inl ⟨by rfl, ?_⟩) (by assumption) ?_; rotate_left; (focus (intro w hSw; (try dsimp only at hSw); go_simp; (try with_reducible rfl); done)); (try simp only [Act.put, List.setIfInBounds_toArray, List.set_cons_zero, List.set_cons_succ]))
  (refine wpAnyH_take (i := 12) (v := ?_) (by simp only [List.getElem?_toArray, List.getElem?_cons_succ, List.getElem?_cons_zero]; rfl) (by kernel_rfl) (by kernel_rfl) (by kernel_rfl) (fun _ _ _ h => h) (Or.inl ⟨by rfl, ?_⟩) (by assumption) ?_; rotate_left; (focus (intro w hSw; (try dsimp only at hSw); go_simp; (try with_reducible rfl); done)); (try simp only [Act.put, List.setIfInBounds_toArray, List.set_cons_zero, List.set_cons_succ]))
  (refine wpAnyH_take (i := 13) (v := ?_) (by simp only [List.getElem?_toArray, List.getElem?_cons_succ, List.getElem?_cons_zero]; rfl) (by kernel_rfl) (by kernel_rfl) (by kernel_rfl) (fun _ _ _ h => h) (Or.inl ⟨by rfl, ?_⟩) (by assumption) ?_; rotate_left; (focus (intro w hSw; (try dsimp only at hSw); go_simp; (try with_reducible rfl); done)); (try simp only [Act.put, List.setIfInBounds_toArray, List.set_cons_zero, List.set_cons_succ]))
  (refine wpAnyH_done (by kernel_rfl) ?_ _; refine NoPanic.normal ?_)
  clear hHeld
  have HB := HB3
  have BR := BR3
  have HLK : Aside0 (∀ y, R1 = .ok y → LnK g k y w3) := ⟨fun y h => (HSY.out y h).2.2.2.1⟩
  clear HB3 BR3
  have hk2 : w3.cell? ⟨b, o + 2, none⟩ = some (.string n) := (Below.cell HB.out (p := ⟨b, o + 2, none⟩) hb0).trans HC2.out
  obtain ⟨em, hem⟩ : ∃ b, s.toList.isEmpty = b := ⟨_, rfl⟩
  obtain ⟨wr, hwr⟩ : ∃ t, (if em = true then (if q = false then badT else if (z : Int) > 1000 then largeT else ⟨#[]⟩) else s) = t := ⟨_, rfl⟩
  have HWR := Aside0.mk hwr
  have HEM := Aside0.mk hem
  clear hwr hem
  go_upto_block 0 with (first | (go_at_call 36; (with_reducible refine (HDC.out _ HB.out).mono ?_); rintro e w4 ⟨rfl, hb⟩; have BRn := Aside0.mk (blk_below BR.out hb); have HLn : Aside0 (∀ y, R1 = .ok y → LnK g k y w4) := ⟨fun y h => LnK.below (HLK.out y h) hb⟩; have HBn := Aside0.mk (below_step (by repeat (first | (with_reducible first | exact HB.out | apply below_alloc | apply pw_below_drewN | apply below_drew1) | exact HB.out)) hb); clear HB; have HB := HBn; clear HBn; clear BR HLK hb; have BR := BRn; have HLK := HLn; clear BRn HLn))
  clear hk2
  go_cut [8] (fun s8 wx => s8 = .string wr ∧ Aside0 (wx = w4))
  case first =>
    have hwr := HWR.out
    have hem := HEM.out
    cases em
    · rw [if_neg (by decide)] at hwr
      subst hwr
      go_wp2
      go_meet
      case rel => exact ⟨rfl, ⟨rfl⟩⟩
    rw [if_pos rfl] at hwr
    cases q
    · rw [if_pos rfl] at hwr
      subst hwr
      go_wp2
      go_meet
      case rel => exact ⟨rfl, ⟨rfl⟩⟩
    rw [if_neg (by decide)] at hwr
    by_cases hz1 : (z : Int) > 1000
    · rw [if_pos hz1] at hwr
      subst hwr
      go_wp2
      go_meet
      case rel => exact ⟨rfl, ⟨rfl⟩⟩
    · rw [if_neg hz1] at hwr
      subst hwr
      have hs0 : s = ⟨#[]⟩ := (bs_nil _).1 hem
      subst hs0
      go_wp2
      go_meet
      case rel => exact ⟨rfl, ⟨rfl⟩⟩
  case rest =>
  obtain ⟨rfl, HW⟩ := hcut
  have hww := HW.out.symm
  subst hww
  clear HW
  obtain ⟨ew, hew⟩ : ∃ b, wr.toList.isEmpty = b := ⟨_, rfl⟩
  have HEW := Aside0.mk hew
  cases ew
  case false =>
    have HWE : Aside0 (R = stepFS used wr (skipN (z, q)) false ∧ wr.size ≤ 1000) := ⟨by
      have hwr := HWR.out
      have hR := HR.out
      cases R1 with
      | error s' =>
        obtain ⟨rfl, h2⟩ := HSE.out s' rfl
        rw [h2] at HEM
        rw [← HEM.out, if_neg (by decide)] at hwr
        subst hwr
        exact ⟨hR.symm, HS1.out⟩
      | ok y =>
        obtain ⟨rfl, -⟩ := HSY.out y rfl
        have he : em = true := HEM.out.symm.trans (by rw [ByteArray.toList_eq]; rfl)
        rw [he, if_pos rfl] at hwr
        dsimp only at hR
        by_cases hq : q = false
        · rw [if_pos hq] at hwr hR
          exact ⟨by rw [← hR, ← hwr], by rw [← hwr]; decide⟩
        rw [if_neg hq] at hwr hR
        by_cases hz1 : (z : Int) > 1000
        · rw [if_pos hz1] at hwr hR
          exact ⟨by rw [← hR, ← hwr], by rw [← hwr]; decide⟩
        rw [if_neg hz1] at hwr
        rw [← hwr, ByteArray.toList_eq] at hew
        cases hew⟩
    have HFQ : Aside0 (∀ w', Calls Tryz.prog 16 #[.int .i64 used, .string wr] w' fun e w'' => e = .returned (.agg (stepFC used wr 0 false).toArray) ∧ Below w'.heap.size w' w'') := ⟨fun w' => fault_ex used wr w' HWE.out.2⟩
    obtain ⟨hRe, -⟩ := HWE.out
    unfold skipN at hRe
    dsimp only at hRe
    clear HR HWE
    by_cases hsk : q = true ∧ (z : Int) ≤ 1073741824
    · rw [if_pos hsk] at hRe
      obtain ⟨rfl, hsz⟩ := hsk
      subst hRe
      go_wp2_with (first | (go_at_call 16; (with_reducible refine (HFQ.out _).mono ?_); rintro e w5 ⟨rfl, hb⟩; unfold stepFC; have BR5 := Aside0.mk (blk_below BR.out hb); have HBn := Aside0.mk (below_step (by repeat (first | (with_reducible first | exact HB.out | apply below_alloc | apply pw_below_drewN | apply below_drew1) | exact HB.out)) hb); clear HB; have HB := HBn; clear HBn; clear hb; have hr5 : w.heap.size < w5.heap.size := blk_lt BR5.out) | (refine wpList_store_1 rfl 3 _ _ rfl w5.heap.size 13 (.int .i64 (↑z + 2)) rfl rfl rfl 34 _ (stepFC used wr (↑z + 2) false).toArray (blk_at_new _ _ _ rfl) (by simp) (by kernel_rfl) rfl ?_; intro w6 hbk hst; have BO6 := Aside0.mk hbk; have BR6 := Aside0.mk (hst.blk (blk_alloc BR5.out _) (by omega)); have HB6 := Aside0.mk (hst.up (by repeat (first | (with_reducible first | exact HB.out | apply below_alloc | apply pw_below_drewN | apply below_drew1) | exact HB.out)) (by omega)); clear hbk hst) | (refine wpList_load_row rfl 34 _ rfl (w5.heap.size) rfl 34 _ (0, 0) _ BO6.out Tryz.underlying34 rfl (by kernel_rfl) ?_) | (refine wpList_store_F rfl 34 _ _ rfl w.heap.size 0 (stepFC used wr (↑z + 2) false) rfl rfl (by simp [stepFC, stepMC, Value.oneCell']) 34 _ (stepFC used wr (↑z + 2) false).toArray BR6.out (by simp [zStepC, stepFC, stepMC]) (by kernel_rfl) rfl ?_; intro w8 hbk hst; have BR8 := Aside0.mk hbk; have HB8 := Aside0.mk (hst.up HB6.out (Nat.le_refl _)); clear hbk hst))
      ((try simp only [Exit.inBlock, Exit.then]); refine bodyPost_ret (results_cell_row rfl _ _ w.heap.size 34 _ (0, 0) _ rfl BR8.out Tryz.underlying34 rfl (by kernel_rfl)) rfl ?_)
      exact ⟨⟨_, rfl, fun w2 _ _ => stepFS_K w2 used wr (↑z + 2) false⟩, HB8.out⟩
    · rw [if_neg hsk] at hRe
      subst hRe
      cases q
      · clear hsk
        go_wp2_with (first | (go_at_call 16; (with_reducible refine (HFQ.out _).mono ?_); rintro e w5 ⟨rfl, hb⟩; unfold stepFC; have BR5 := Aside0.mk (blk_below BR.out hb); have HBn := Aside0.mk (below_step (by repeat (first | (with_reducible first | exact HB.out | apply below_alloc | apply pw_below_drewN | apply below_drew1) | exact HB.out)) hb); clear HB; have HB := HBn; clear HBn; clear hb; have hr5 : w.heap.size < w5.heap.size := blk_lt BR5.out) | (refine wpList_load_row rfl 34 _ rfl (w5.heap.size) rfl 34 _ (0, 0) _ (blk_at_new _ _ _ rfl) Tryz.underlying34 rfl (by kernel_rfl) ?_) | (refine wpList_store_F rfl 34 _ _ rfl w.heap.size 0 (stepFC used wr 0 false) rfl rfl (by simp [stepFC, stepMC, Value.oneCell']) 34 _ (stepFC used wr 0 false).toArray (blk_alloc BR5.out _) (by simp [zStepC, stepFC, stepMC]) (by kernel_rfl) rfl ?_; intro w8 hbk hst; have BR8 := Aside0.mk hbk; have HB8 := Aside0.mk (hst.up (by repeat (first | (with_reducible first | exact HB.out | apply below_alloc | apply pw_below_drewN | apply below_drew1) | exact HB.out)) (Nat.le_refl _)); clear hbk hst))
        ((try simp only [Exit.inBlock, Exit.then]); refine bodyPost_ret (results_cell_row rfl _ _ w.heap.size 34 _ (0, 0) _ rfl BR8.out Tryz.underlying34 rfl (by kernel_rfl)) rfl ?_)
        exact ⟨⟨_, rfl, fun w2 _ _ => stepFS_K w2 used wr 0 false⟩, HB8.out⟩
      · have hsz : ¬ (z : Int) ≤ 1073741824 := fun h => hsk ⟨rfl, h⟩
        clear hsk
        go_wp2_with (first | (go_at_call 16; (with_reducible refine (HFQ.out _).mono ?_); rintro e w5 ⟨rfl, hb⟩; unfold stepFC; have BR5 := Aside0.mk (blk_below BR.out hb); have HBn := Aside0.mk (below_step (by repeat (first | (with_reducible first | exact HB.out | apply below_alloc | apply pw_below_drewN | apply below_drew1) | exact HB.out)) hb); clear HB; have HB := HBn; clear HBn; clear hb; have hr5 : w.heap.size < w5.heap.size := blk_lt BR5.out) | (refine wpList_load_row rfl 34 _ rfl (w5.heap.size) rfl 34 _ (0, 0) _ (blk_at_new _ _ _ rfl) Tryz.underlying34 rfl (by kernel_rfl) ?_) | (refine wpList_store_F rfl 34 _ _ rfl w.heap.size 0 (stepFC used wr 0 false) rfl rfl (by simp [stepFC, stepMC, Value.oneCell']) 34 _ (stepFC used wr 0 false).toArray (blk_alloc BR5.out _) (by simp [zStepC, stepFC, stepMC]) (by kernel_rfl) rfl ?_; intro w8 hbk hst; have BR8 := Aside0.mk hbk; have HB8 := Aside0.mk (hst.up (by repeat (first | (with_reducible first | exact HB.out | apply below_alloc | apply pw_below_drewN | apply below_drew1) | exact HB.out)) (Nat.le_refl _)); clear hbk hst))
        ((try simp only [Exit.inBlock, Exit.then]); refine bodyPost_ret (results_cell_row rfl _ _ w.heap.size 34 _ (0, 0) _ rfl BR8.out Tryz.underlying34 rfl (by kernel_rfl)) rfl ?_)
        exact ⟨⟨_, rfl, fun w2 _ _ => stepFS_K w2 used wr 0 false⟩, HB8.out⟩
  case true =>
  obtain ⟨y, hy, hq, hz1⟩ : ∃ y, R1 = .ok y ∧ q = true ∧ (z : Int) ≤ 1000 := by
    have hwr := HWR.out
    cases R1 with
    | error s' =>
      obtain ⟨rfl, h2⟩ := HSE.out s' rfl
      rw [h2] at HEM
      rw [← HEM.out, if_neg (by decide)] at hwr
      subst hwr
      rw [h2] at hew
      cases hew
    | ok y =>
      obtain ⟨rfl, -⟩ := HSY.out y rfl
      have he : em = true := HEM.out.symm.trans (by rw [ByteArray.toList_eq]; rfl)
      rw [he, if_pos rfl] at hwr
      by_cases hq : q = false
      · rw [if_pos hq] at hwr
        rw [← hwr, ByteArray.toList_eq] at hew
        cases hew
      rw [if_neg hq] at hwr
      by_cases hz1 : (z : Int) > 1000
      · rw [if_pos hz1] at hwr
        rw [← hwr, ByteArray.toList_eq] at hew
        cases hew
      exact ⟨y, rfl, eq_true_of_ne_false hq, Int.not_lt.1 hz1⟩
  subst hy hq
  obtain ⟨rfl, rfl, hgw, -, hval⟩ := HSY.out y rfl
  obtain rfl : wr = ⟨#[]⟩ := (bs_nil _).1 hew
  have hR := HR.out
  dsimp only at hR
  rw [if_neg (by decide), if_neg (Int.not_lt.2 hz1)] at hR
  have hE := bodyS_e rest ↑z hz0 hz1
  obtain ⟨⟨vl, u, e⟩, hB⟩ : ∃ r, bodyS rest ↑z = r := ⟨_, rfl⟩
  rw [hB] at hR hE
  have HBZ : Aside0 (∀ w', Below w.heap.size w w' → Calls Tryz.prog 37 #[.slice A5 rest.length c5, .int .i64 ↑z] w' (BL w' (vl, u, e))) := ⟨fun w' hb => hB ▸ HBY.out ↑z w' hb⟩
  dsimp only at hR hE
  have HE := Aside0.mk hE
  have HRn := Aside0.mk hR
  have HGW := Aside0.mk hgw
  have HVAL := Aside0.mk hval
  clear hR hE hB HR HBY HWR HEM HEW hew HSE HSY HDC hgw hval
  go_upto_region 14 with (first | (go_at_call 37; (with_reducible refine (HBZ.out _ HB.out).mono ?_); rintro e' w5 ⟨V, rfl, hrow⟩; have HRW := Aside0.mk hrow; have BR5 := Aside0.mk (blk_below BR.out hrow.2); have HLK5 := Aside0.mk (LnK.below (HLK.out y rfl) hrow.2); have hb := hrow.2; have HBn := Aside0.mk (below_step (by repeat (first | (with_reducible first | exact HB.out | apply below_alloc | apply pw_below_drewN | apply below_drew1) | exact HB.out)) hb); clear HB; have HB := HBn; clear HBn; clear hrow hb; have hr5 : w.heap.size < w5.heap.size := blk_lt BR5.out))
  obtain ⟨A', c', rfl, hle, -⟩ := HRW.out.C
  have hR := HRn.out
  rcases HE.out with ⟨rfl, rfl⟩ | ⟨rfl, hu⟩ | ⟨rfl, hu⟩
  · rw [if_pos rfl] at hR
    subst hR
    clear HRn
    go_wp2_with (first | (refine wpList_store_F rfl 34 _ _ rfl w.heap.size 0 (stepMC) rfl rfl (by simp [stepFC, stepMC, Value.oneCell']) 34 _ (stepMC).toArray BR5.out (by simp [zStepC, stepFC, stepMC]) (by kernel_rfl) rfl ?_; intro w8 hbk hst; have BR8 := Aside0.mk hbk; have HB8 := Aside0.mk (hst.up HB.out (Nat.le_refl _)); clear hbk hst))
    ((try simp only [Exit.inBlock, Exit.then]); refine bodyPost_ret (results_cell_row rfl _ _ w.heap.size 34 _ (0, 0) _ rfl BR8.out Tryz.underlying34 rfl (by kernel_rfl)) rfl ?_)
    exact ⟨⟨_, rfl, fun w2 _ _ => stepM_K w2⟩, HB8.out⟩
  · rw [if_neg (by decide), if_pos rfl] at hR
    subst hR
    clear HRn
    have HOC : Aside0 (∀ w', Calls Tryz.prog 16 #[.int .i64 (used + u), .string (⟨#[67, 76, 73, 69, 78, 84, 95, 69, 82, 82, 79, 82, 32, 98, 97, 100, 32, 100, 97, 116, 97, 32, 99, 104, 117, 110, 107]⟩ : ByteArray)] w' fun e w'' => e = .returned (.agg (stepFC (used + u) chunkT 0 false).toArray) ∧ Below w'.heap.size w' w'') := ⟨fun w' => fault_ex _ _ w' (by decide)⟩
    have hs0 : (0 : Int) ≤ used + u := by omega
    have hs1 : used + u ≤ 9223372036854775807 := by omega
    clear hu
    go_wp2_with (first | (go_at_call 16; (with_reducible refine (HOC.out _).mono ?_); rintro e w6 ⟨rfl, hb⟩; unfold stepFC; have BR6 := Aside0.mk (blk_below BR5.out hb); have HBn := Aside0.mk (below_step (by repeat (first | (with_reducible first | exact HB.out | apply below_alloc | apply pw_below_drewN | apply below_drew1) | exact HB.out)) hb); clear HB; have HB := HBn; clear HBn; clear hb; have hr6 : w.heap.size < w6.heap.size := blk_lt BR6.out) | (refine wpList_store_1 rfl 4 _ _ rfl w6.heap.size 14 (.bool true) rfl rfl rfl 34 _ (stepFC (used + u) chunkT 0 true).toArray (blk_at_new _ _ _ rfl) (by simp) (by kernel_rfl) rfl ?_; intro w7 hbk hst; have BS7 := Aside0.mk hbk; have BR7 := Aside0.mk (hst.blk (blk_alloc BR6.out _) (by omega)); have HB7 := Aside0.mk (hst.up (by repeat (first | (with_reducible first | exact HB.out | apply below_alloc | apply pw_below_drewN | apply below_drew1) | exact HB.out)) (by omega)); clear hbk hst) | (refine wpList_load_row rfl 34 _ rfl (w6.heap.size) rfl 34 _ (0, 0) _ BS7.out Tryz.underlying34 rfl (by kernel_rfl) ?_) | (refine wpList_store_F rfl 34 _ _ rfl w.heap.size 0 (stepFC (used + u) chunkT 0 true) rfl rfl (by simp [stepFC, stepMC, Value.oneCell']) 34 _ (stepFC (used + u) chunkT 0 true).toArray BR7.out (by simp [zStepC, stepFC, stepMC]) (by kernel_rfl) rfl ?_; intro w8 hbk hst; have BR8 := Aside0.mk hbk; have HB8 := Aside0.mk (hst.up HB7.out (Nat.le_refl _)); clear hbk hst))
    ((try simp only [Exit.inBlock, Exit.then]); refine bodyPost_ret (results_cell_row rfl _ _ w.heap.size 34 _ (0, 0) _ rfl BR8.out Tryz.underlying34 rfl (by kernel_rfl)) rfl ?_)
    exact ⟨⟨_, rfl, fun w2 _ _ => stepFS_K w2 (used + u) chunkT 0 true⟩, HB8.out⟩
  · rw [if_neg (by decide), if_neg (by decide)] at hR
    subst hR
    clear HRn
    have hs0 : (0 : Int) ≤ used + u := by omega
    have hs1 : used + u ≤ 9223372036854775807 := by omega
    clear hu
    obtain ⟨vT, kb, hgl, hot, hkb, hgk, hkeys⟩ := HLK5.out
    have BG5 := Aside0.mk hgl
    have HRQ : Aside0 (∀ w6, w6.heap[g]? = some (.cells (lnC { y.c with value := vl } y.f y.seen (.slice A' vl.length c') vT (.slice (some ⟨kb, 0, none⟩) 1 1)) 53 (0, 0)) → StoreTo g w5 w6 → Calls Tryz.prog 18 #[.pointer (some ⟨g, 0, none⟩), .int .i64 (used + u)] w6 (StepR (fun k => w.heap.size < k) w6 (stepO (used + u) y.f { y.c with value := vl }))) := ⟨fun w6 hbk hst => req_at y vl A' c' g kb (used + u) vT w.heap.size _ w5 w6 hle HRW.out.1 hot hkb hgk hkeys HGW.out (by have := hst.size; have h1 := HRW.out.2.size; have h2 := blk_lt (HLK.out y rfl).choose_spec.choose_spec.1; omega) hbk hst⟩
    clear hgl hot hkb hgk hkeys hle
    have hgne : Aside0 (w.heap.size ≠ g) := ⟨by have := HGW.out; omega⟩
    go_wp2_with (first | (refine wpList_store_1 rfl 22 _ _ rfl g 2 (.slice A' vl.length c') rfl rfl rfl 53 _ (lnC { y.c with value := vl } y.f y.seen (.slice A' vl.length c') vT (.slice (some ⟨kb, 0, none⟩) 1 1)) BG5.out (by simp [lnC]) (by kernel_rfl) rfl ?_; intro w6 hbk hst; have BR6 := Aside0.mk (hst.blk BR5.out hgne.out); have HRQ6 := Aside0.mk (HRQ.out w6 hbk hst); have HBn := Aside0.mk (hst.up HB.out (Nat.le_of_lt HGW.out)); have hr6 := Aside0.mk (blk_lt BR6.out); clear hbk hst HB; have HB := HBn; clear HBn) | (go_at_call 18; (with_reducible refine (HRQ6.out).mono ?_); rintro e w7 ⟨⟨cs, rfl, hk⟩, hb⟩; have BK := Aside0.mk (blk_below BR6.out hb); have HBn := Aside0.mk (below_step (by repeat (first | (with_reducible first | exact HB.out | apply below_alloc | apply pw_below_drewN | apply below_drew1) | exact HB.out)) hb); clear HB; have HB := HBn; clear HBn; have HK := Aside0.mk hk; clear hb hk) | (refine wpList_store_K HK.out.now rfl 34 _ _ rfl w.heap.size rfl rfl 34 _ BK.out (by kernel_rfl) rfl ?_; intro w8 hbk hlow hfar; have HK2 := Aside0.mk (hfar _ _ (fun h => absurd (h hr6.out) (Nat.lt_irrefl _)) HK.out); clear BK; have BK := Aside0.mk hbk; have HL := Aside0.mk hlow; clear hbk hlow hfar))
    ((try simp only [Exit.inBlock, Exit.then]); refine bodyPost_ret (results_cell_row rfl _ _ w.heap.size 34 _ (0, 0) _ rfl BK.out Tryz.underlying34 rfl (by rw [List.size_toArray, kStep.K_len HK.out.now]; kernel_rfl)) rfl ?_)
    exact ⟨⟨_, rfl, HK2.out.mono (fun k hk h3 => absurd (hk (by have := hr6.out; omega)) (by omega))⟩, HB.out.trans (HL.out _ (Nat.le_refl _))⟩
end Go.Proofs.YtdgeiadlijlkmaaGreatDoor.X
namespace Go.Proofs.YtdgeiadlijlkmaaGreatDoor.X
open Go.RowKit Go.Proofs.YtdgeiadlijlkmaaGreatDoorW.PrintWords Go.Proofs.YtdgeiadlijlkmaaGreatDoorW.PrintMore
set_option linter.unusedVariables false
set_option linter.unusedSimpArgs false
set_option maxRecDepth 100000 in
set_option maxHeartbeats 1000000 in
theorem parse_more (l : List Int) (A : Option Addr) (c : Nat) (F : Nat → Prop) (w : World) (hC : (Kd.int .u8).C w A l.length l) (hc : l.length ≤ c) (hl : l.length ≤ 1000000) (h8 : B8 l) (he : lineS l = (⟨#[]⟩, 0, 3)) :
    Calls Tryz.prog 11 #[.slice A l.length c] w (StepR F w stepM) := by
  have HB := Aside0.mk (Below.refl w.heap.size w)
  have HC := Aside0.mk hC
  have HLN : Aside0 (∀ w', Below w.heap.size w w' → Calls Tryz.prog 15 #[.slice A l.length c] w' fun e w'' => e = .returned (.tuple #[.string ⟨#[]⟩, .int .i64 0, .int .i64 3]) ∧ Below w'.heap.size w' w'') := ⟨fun w' hb => by
    have := fline_calls l A c w' (Kd.C_below HC.out hb) hc hl h8
    rw [he] at this
    exact this⟩
  clear hC h8 he
  go_enter Tryz.func11, Tryz.ntmps11
  go_wp2_with (first | (go_at_call 15; (with_reducible refine (HLN.out _ (by repeat (first | (with_reducible first | exact HB.out | apply below_alloc | apply pw_below_drewN | apply below_drew1) | exact HB.out))).mono ?_); rintro e w1 ⟨rfl, hb⟩; have BR := Aside0.mk (blk_below (g := w.heap.size) (o := .cells zStepC 34 (0, 0)) (by repeat (first | exact blk_at_new _ _ _ (by simp; done) | exact blk_at_new _ _ _ rfl | refine blk_alloc ?_ _ | refine blk_drew ?_ | refine blk_drewN ?_ _)) hb); have HBn := Aside0.mk (below_step (by repeat (first | (with_reducible first | exact HB.out | apply below_alloc | apply pw_below_drewN | apply below_drew1) | exact HB.out)) hb); clear HB; have HB := HBn; clear HBn; clear hb; have hr1 : w.heap.size < w1.heap.size := blk_lt BR.out) | (refine wpList_store_F rfl 34 _ _ rfl w.heap.size 0 stepMC rfl rfl (by simp [stepMC, Value.oneCell']) 34 _ _ BR.out (by simp [zStepC, stepMC]) (by kernel_rfl) rfl ?_; intro w8 hbk hst; have BR8 := Aside0.mk hbk; have HB8 := Aside0.mk (hst.up (by repeat (first | (with_reducible first | exact HB.out | apply below_alloc | apply pw_below_drewN | apply below_drew1) | exact HB.out)) (Nat.le_refl _)); clear hbk hst))
  ((try simp only [Exit.inBlock, Exit.then]); refine bodyPost_ret (results_cell_row rfl _ _ w.heap.size 34 _ (0, 0) _ rfl BR8.out Tryz.underlying34 rfl (by kernel_rfl)) rfl ?_)
  exact ⟨⟨_, rfl, fun w2 _ _ => stepM_K w2⟩, HB8.out⟩
set_option maxRecDepth 100000 in
set_option maxHeartbeats 1000000 in
theorem parse_long (l : List Int) (A : Option Addr) (c m : Nat) (F : Nat → Prop) (w : World) (hC : (Kd.int .u8).C w A l.length l) (hc : l.length ≤ c) (hl : l.length ≤ 1000000) (h8 : B8 l) (he : lineS l = (⟨#[]⟩, (m : Int) + 1, 4)) (hm : m < l.length) :
    Calls Tryz.prog 11 #[.slice A l.length c] w (StepR F w (stepFS ((m : Int) + 1) longT 0 (l.getD m 0 != 10))) := by
  have HB := Aside0.mk (Below.refl w.heap.size w)
  have HC := Aside0.mk hC
  have HLN : Aside0 (∀ w', Below w.heap.size w w' → Calls Tryz.prog 15 #[.slice A l.length c] w' fun e w'' => e = .returned (.tuple #[.string ⟨#[]⟩, .int .i64 ((m : Int) + 1), .int .i64 4]) ∧ Below w'.heap.size w' w'') := ⟨fun w' hb => by
    have := fline_calls l A c w' (Kd.C_below HC.out hb) hc hl h8
    rw [he] at this
    exact this⟩
  obtain ⟨b, o, rfl, hb0, hcell⟩ := C_cell hC m hm
  obtain ⟨z, hz⟩ : ∃ z, l.getD m 0 = z := ⟨_, rfl⟩
  rw [hz] at hcell ⊢
  have HCL := Aside0.mk hcell
  obtain ⟨q, hq⟩ : ∃ q, (z != 10) = q := ⟨_, rfl⟩
  rw [hq]
  have HOL : Aside0 (∀ w', Calls Tryz.prog 16 #[.int .i64 ((m : Int) + 1), .string (⟨#[67, 76, 73, 69, 78, 84, 95, 69, 82, 82, 79, 82, 32, 108, 105, 110, 101, 32, 116, 111, 111, 32, 108, 111, 110, 103]⟩ : ByteArray)] w' fun e w'' => e = .returned (.agg (stepFC ((m : Int) + 1) longT 0 false).toArray) ∧ Below w'.heap.size w' w'') := ⟨fun w' => fault_ex ((m : Int) + 1) longT w' (by decide)⟩
  clear hC h8 he hz hcell
  have hi0 : (0 : Int) ≤ ↑m + 1 := by omega
  have hi1 : (m : Int) + 1 ≤ ↑l.length := by omega
  have hi2 : (m : Int) < ↑l.length := by omega
  have hi3 : (l.length : Int) ≤ ↑c := by omega
  have hi4 : (0 : Int) ≤ ↑m := by omega
  go_enter Tryz.func11, Tryz.ntmps11
  go_wp2_with (first | (go_at_call 15; (with_reducible refine (HLN.out _ (by repeat (first | (with_reducible first | exact HB.out | apply below_alloc | apply pw_below_drewN | apply below_drew1) | exact HB.out))).mono ?_); rintro e w1 ⟨rfl, hb⟩; have BR := Aside0.mk (blk_below (g := w.heap.size) (o := .cells zStepC 34 (0, 0)) (by repeat (first | exact blk_at_new _ _ _ (by simp; done) | exact blk_at_new _ _ _ rfl | refine blk_alloc ?_ _ | refine blk_drew ?_ | refine blk_drewN ?_ _)) hb); have HBn := Aside0.mk (below_step (by repeat (first | (with_reducible first | exact HB.out | apply below_alloc | apply pw_below_drewN | apply below_drew1) | exact HB.out)) hb); clear HB; have HB := HBn; clear HBn; clear hb; have hr1 : w.heap.size < w1.heap.size := blk_lt BR.out) | (go_at_call 16; (with_reducible refine (HOL.out _).mono ?_); rintro e w3 ⟨rfl, hb⟩; unfold stepFC; have BR3 := Aside0.mk (blk_below BR.out hb); have HBn := Aside0.mk (below_step (by repeat (first | (with_reducible first | exact HB.out | apply below_alloc | apply pw_below_drewN | apply below_drew1) | exact HB.out)) hb); clear HB; have HB := HBn; clear HBn; clear hb; have hr3 : w.heap.size < w3.heap.size := blk_lt BR3.out; have hb3 : b < w3.heap.size := Nat.lt_of_lt_of_le hb0 HB.out.size; have t5 : w3.cell? ⟨b, o + m, none⟩ = some (.int .u8 z) := (Below.cell HB.out (p := ⟨b, o + m, none⟩) hb0).trans HCL.out) | (refine wpList_store_1 rfl 4 _ _ rfl w3.heap.size 14 (.bool q) rfl rfl rfl 34 _ (stepFC ((m : Int) + 1) longT 0 q).toArray (blk_at_new _ _ _ rfl) (by simp) (by kernel_rfl) rfl ?_; intro w4 hbk hst; have BS4 := Aside0.mk hbk; have BR4 := Aside0.mk (hst.blk (blk_alloc BR3.out _) (by omega)); have HB4 := Aside0.mk (hst.up (by repeat (first | (with_reducible first | exact HB.out | apply below_alloc | apply pw_below_drewN | apply below_drew1) | exact HB.out)) (by omega)); clear hbk hst HB; have HB := HB4; clear HB4; have e0 : w4.cell? ⟨w3.heap.size, 0, none⟩ = some (.slice none 0 0) := (blk_cell BS4.out 0).trans rfl; have e1 : w4.cell? ⟨w3.heap.size, 1, none⟩ = some (.int .i64 0) := (blk_cell BS4.out 1).trans rfl; have e2 : w4.cell? ⟨w3.heap.size, 2, none⟩ = some (.string ⟨#[]⟩) := (blk_cell BS4.out 2).trans rfl; have e3 : w4.cell? ⟨w3.heap.size, 3, none⟩ = some (.int .i64 0) := (blk_cell BS4.out 3).trans rfl; have e4 : w4.cell? ⟨w3.heap.size, 4, none⟩ = some (.int .u32 0) := (blk_cell BS4.out 4).trans rfl; have e5 : w4.cell? ⟨w3.heap.size, 5, none⟩ = some (.bool false) := (blk_cell BS4.out 5).trans rfl; have e6 : w4.cell? ⟨w3.heap.size, 6, none⟩ = some (.bool false) := (blk_cell BS4.out 6).trans rfl; have e7 : w4.cell? ⟨w3.heap.size, 7, none⟩ = some (.string ⟨#[]⟩) := (blk_cell BS4.out 7).trans rfl; have e8 : w4.cell? ⟨w3.heap.size, 8, none⟩ = some (.slice none 0 0) := (blk_cell BS4.out 8).trans rfl; have e9 : w4.cell? ⟨w3.heap.size, 9, none⟩ = some (.slice none 0 0) := (blk_cell BS4.out 9).trans rfl; have e10 : w4.cell? ⟨w3.heap.size, 10, none⟩ = some (.bool false) := (blk_cell BS4.out 10).trans rfl; have e11 : w4.cell? ⟨w3.heap.size, 11, none⟩ = some (.string (longT ++ (⟨#[13, 10]⟩ : ByteArray))) := (blk_cell BS4.out 11).trans rfl; have e12 : w4.cell? ⟨w3.heap.size, 12, none⟩ = some (.int .i64 ((m : Int) + 1)) := (blk_cell BS4.out 12).trans rfl; have e13 : w4.cell? ⟨w3.heap.size, 13, none⟩ = some (.int .i64 0) := (blk_cell BS4.out 13).trans rfl; have e14 : w4.cell? ⟨w3.heap.size, 14, none⟩ = some (.bool q) := (blk_cell BS4.out 14).trans rfl; have e15 : w4.cell? ⟨w3.heap.size, 15, none⟩ = some (.int .i64 2) := (blk_cell BS4.out 15).trans rfl) | (refine wpList_store_F rfl 34 _ _ rfl w.heap.size 0 _ rfl rfl (by simp [Value.oneCell']) 34 _ _ BR4.out (by simp [zStepC]) (by kernel_rfl) rfl ?_; intro w8 hbk hst; have BR8 := Aside0.mk hbk; have HB8 := Aside0.mk (hst.up HB.out (Nat.le_refl _)); clear hbk hst))
  all_goals
    ((try simp only [Exit.inBlock, Exit.then]); refine bodyPost_ret (results_cell_row rfl _ _ w.heap.size 34 _ (0, 0) _ rfl BR8.out Tryz.underlying34 rfl (by kernel_rfl)) rfl ?_)
    exact ⟨⟨_, rfl, fun w2 _ _ => stepFS_K w2 ((m : Int) + 1) longT 0 q⟩, HB8.out⟩
end Go.Proofs.YtdgeiadlijlkmaaGreatDoor.X
namespace Go.Proofs.YtdgeiadlijlkmaaGreatDoor.X
open Go.RowKit Go.Shelf Go.Proofs.YtdgeiadlijlkmaaGreatDoorW.PrintWords
set_option linter.unusedVariables false
set_option linter.unusedSimpArgs false
attribute [local go_sem] Oper.semAt_some

def strSz : Value → Nat
  | .string t => t.size
  | _ => 0
theorem grown_drewN (w : World) (n : Nat) : w.grownBy (w.drewN n) none := ⟨rfl, rfl, rfl, Nat.le_refl _, fun _ _ _ => rfl⟩
theorem wordsB_nil {t T : ByteArray} (hT : baOf (trimL t.data.toList) = T) (h : T.toList.isEmpty = true) : wordsB t = [] := by
  have h1 : trimL t.data.toList = [] := by
    rw [← hT, ByteArray.toList_eq] at h
    simpa [baOf] using h
  unfold wordsB
  rw [wordsL_nil _ h1]
  rfl
theorem wordsB_cons {t T : ByteArray} (hT : baOf (trimL t.data.toList) = T) (h : T.toList.isEmpty = false) : wordsB t = baOf (headW T.data.toList) :: wordsB (baOf (tailW T.data.toList)) ∧ (baOf (tailW T.data.toList)).size < t.size ∧ T.size ≤ t.size := by
  have h1 : trimL t.data.toList ≠ [] := fun e => by
    rw [← hT, e] at h
    rw [ByteArray.toList_eq] at h
    simp [baOf] at h
  have e : T.data.toList = trimL t.data.toList := by rw [← hT]; rfl
  rw [e]
  refine ⟨?_, tailW_lt _ h1, ?_⟩
  · unfold wordsB
    rw [wordsL_cons _ h1]
    rfl
  · have h2 := trimL_len t.data.toList
    rw [← e] at h2
    exact h2
set_option maxRecDepth 100000 in
set_option maxHeartbeats 2000000 in
theorem words1_in (n : Nat) (hn : 1 ≤ n) (l Bn n₀ : Nat) (s : ByteArray) (hs : s.size ≤ 9223372036854775807) (J Jx : List ByteArray → World → Prop)
    (hY : ∀ pre x W, J pre W → pre.length < (wordsB s).length → YieldAt Fence.wide (n - 1) Tryz.prog l #[.string x] W fun e W' =>
      (e = .returned (.bool true) ∧ J (pre ++ [x]) W' ∧ Below n₀ W W') ∨ (e = .returned (.bool false) ∧ Jx (pre ++ [x]) W'))
    (W : World) (hJ : AbidesFrom W.heap.size J) (hBn : W.cell? ⟨Bn, 0, none⟩ = some (.string s)) (h0 : J [] W) :
    CallsIn Fence.wide n Tryz.prog 33 #[.func (.yield l) #[] #[], .pointer (some ⟨Bn, 0, none⟩)] W fun e W' => (∃ v, e = .returned v) ∧
      ((∃ ys, ys = wordsB s ∧ J ys W') ∨ (∃ pre, pre <+: wordsB s ∧ Jx pre W')) := by
  refine callsIn_of_wp Tryz.func33 rfl trivial ?_ rfl
  simp only [Tryz.ntmps33, List.size_toArray, List.length_cons, List.length_nil, Nat.reduceAdd, Nat.reduceSub, Array.replicate_succ, Array.replicate_zero, List.push_toArray, List.append_toArray, List.nil_append, List.cons_append]
  gi_wp2
  gi_loopw [3] (fun v wr => ∃ (pre : List ByteArray) (t : ByteArray), v = .string t ∧ Aside0 (wordsB s = pre ++ wordsB t) ∧ t.size ≤ 9223372036854775807 ∧ J pre wr)
    (fun v wr => strSz v)
  case atStart => exact ⟨[], s, rfl, ⟨rfl⟩, hs, h0⟩
  case round =>
    obtain ⟨pre, t, rfl, hx, ht, hJs⟩ := hrel
    obtain ⟨T, hT⟩ : ∃ T, baOf (trimL t.data.toList) = T := ⟨_, rfl⟩
    have HT := Aside0.mk hT
    by_cases he : T.toList.isEmpty = true
    · have hfin := wordsB_nil hT he
      have HF := Aside0.mk hfin
      clear hfin hT
      gi_wp2_with (refine ⟨trivial, ?_⟩; gi_at_call 34; refine (callsIn_wide.2 (Tryz.strings_TrimLeft_one t 32 (by decide) _)).mono ?_; rintro e w' ⟨rfl, hw'⟩; obtain rfl := hw'.symm; rw [show (⟨(Lib.trimLeftB t.data.toList 32).toArray⟩ : ByteArray) = T from HT.out])
      refine bodyPost_ret (results_none rfl _ _ _) rfl ?_
      exact ⟨⟨_, rfl⟩, .inl ⟨pre, by rw [hx.out, HF.out, List.append_nil], hJs⟩⟩
    · have he2 : T.toList.isEmpty = false := Bool.eq_false_iff.2 he
      obtain ⟨h1, h2, h3⟩ := wordsB_cons hT he2
      have HC := Aside0.mk h1
      have hTs : T.size ≤ 9223372036854775807 := by omega
      have hlt : pre.length < (wordsB s).length := by rw [hx.out, h1]; simp
      obtain ⟨X, hX⟩ : ∃ X, baOf (headW T.data.toList) = X := ⟨_, rfl⟩
      obtain ⟨R, hR⟩ : ∃ R, baOf (tailW T.data.toList) = R := ⟨_, rfl⟩
      have HX := Aside0.mk hX; have HR := Aside0.mk hR
      rw [hR] at h2
      clear h1 hT he hX hR
      gi_wp2_with (first
        | (refine ⟨trivial, ?_⟩; gi_at_call 34; refine (callsIn_wide.2 (Tryz.strings_TrimLeft_one t 32 (by decide) _)).mono ?_; rintro e w' ⟨rfl, hw'⟩; obtain rfl := hw'.symm; rw [show (⟨(Lib.trimLeftB t.data.toList 32).toArray⟩ : ByteArray) = T from HT.out])
        | (refine ⟨trivial, ?_⟩; gi_at_call 35; refine (callsIn_wide.2 (cut_calls T _ hTs)).mono ?_; rintro e w' ⟨⟨b, rfl⟩, ⟨nd, rfl⟩⟩; rw [HX.out, HR.out]))
      have hJ2 : J pre (wr.drewN nd) := hJ pre wr _ none hJs (grown_drewN wr nd) (fun r e => by cases e)
      obtain ⟨fn, tmps, assign, body, hy, hRR⟩ := hY pre X (wr.drewN nd) hJ2 hlt
      rw [hy]
      go_simp
      refine hRR.mono ?_
      rintro e W3 (⟨rfl, hJ3, hk3⟩ | ⟨rfl, hJx3⟩)
      · gi_wp2
        go_roundw
        case rel => exact ⟨pre ++ [X], R, rfl, ⟨by rw [hx.out, HC.out, HX.out, HR.out, List.append_assoc]; rfl⟩, by omega, hJ3⟩
        case measure => simp [strSz]; exact h2
      · gi_wp2
        refine bodyPost_ret (results_none rfl _ _ _) rfl ?_
        exact ⟨⟨_, rfl⟩, .inr ⟨pre ++ [X], ⟨wordsB R, by rw [hx.out, HC.out, HX.out, HR.out]; simp⟩, hJx3⟩⟩
end Go.Proofs.YtdgeiadlijlkmaaGreatDoor.X
namespace Go.Proofs.YtdgeiadlijlkmaaGreatDoor.X
open Go.RowKit Go.Shelf Go.Proofs.YtdgeiadlijlkmaaGreatDoorW.PrintWords Go.Proofs.YtdgeiadlijlkmaaGreatDoorW.PrintMore
set_option linter.unusedVariables false
set_option linter.unusedSimpArgs false
attribute [local go_sem] Oper.semAt_some
set_option maxHeartbeats 1000000 in
theorem mkWords_in (n : Nat) (s : ByteArray) (w : World) :
    CallsIn Fence.wide n Tryz.prog 17 #[.string s] w fun e w' => e = .returned (.func (.func 33) #[] #[.pointer (some ⟨w.heap.size, 0, none⟩)]) ∧ w' = w.alloc (.cells #[.string s] 9) := by
  refine callsIn_of_wp Tryz.func17 rfl trivial ?_ rfl
  simp only [Tryz.ntmps17, List.size_toArray, List.length_cons, List.length_nil, Nat.reduceAdd, Nat.reduceSub, Array.replicate_succ, Array.replicate_zero, List.push_toArray, List.append_toArray, List.nil_append, List.cons_append]
  gi_wp2
  go_ret
  exact ⟨rfl, rfl⟩
theorem mkWords_calls (s : ByteArray) (w : World) : Calls Tryz.prog 17 #[.string s] w fun e w' => e = .returned (.func (.func 33) #[] #[.pointer (some ⟨w.heap.size, 0, none⟩)]) ∧ w' = w.alloc (.cells #[.string s] 9) := callsIn_wide.1 (mkWords_in 1 s w)
theorem words_stops (n : Nat) (hn : 1 ≤ n) (Bn n₀ : Nat) (s : ByteArray) (hs : s.size ≤ 9223372036854775807) (w : World) (hBn : Bn < w.heap.size) (hc : w.cell? ⟨Bn, 0, none⟩ = some (.string s)) :
    SeqStopsK Fence.wide n Tryz.prog 33 #[.pointer (some ⟨Bn, 0, none⟩)] (fun x : ByteArray => #[Value.string x]) (Below n₀) (fun ys => ys = wordsB s) (fun pre => pre <+: wordsB s) (wordsB s).length w := fun l J Jx W hW hJ _ hY h0 =>
  words1_in n hn l Bn n₀ s hs J Jx hY W hJ ((hW.cell (p := ⟨Bn, 0, none⟩) hBn).trans hc) h0
theorem words_lenL (l : List UInt8) : (wordsL l).length ≤ l.length := by
  induction h : l.length using Nat.strongRecOn generalizing l with
  | _ n ih =>
    by_cases h0 : trimL l = []
    · rw [wordsL_nil _ h0]; simp
    · rw [wordsL_cons _ h0, List.length_cons]
      have h1 := tailW_lt l h0
      have h2 := ih _ (by omega) (tailW (trimL l)) rfl
      omega
theorem words_len (s : ByteArray) : (wordsB s).length ≤ s.size := by
  unfold wordsB
  rw [List.length_map]
  exact words_lenL _
/-- A block of cells, and the row that it holds, abide what is no cells. -/
theorem own_blkRow {β : Type} (g : Nat) (t : TypeId) (f : Value → Array Value) (n₀ : Nat) (e : TypeId) (k : β → Nat) (xs : β → List Value) : Own (fun s W => ∃ V, W.heap[g]? = some (.cells (f V) t (0, 0)) ∧ W.ownsRow n₀ e 1 V (k s) (xs s)) := by
  rintro s X Y row ⟨V, hv, hr⟩ hg hrow
  have hne : ∀ (j : Nat) (cs : Array Value) (t' : TypeId), X.heap[j]? = some (.cells cs t' (0, 0)) → some j ≠ row := fun j cs t' hj e' => by
    obtain ⟨o, ho, hc⟩ := hrow j e'.symm
    rw [hj] at ho; cases ho; cases hc
  refine ⟨V, (hg.block g (Array.getElem?_eq_some_iff.1 hv).1 (hne g _ _ hv)).trans hv, own_move hr (fun j hj => ?_)⟩
  obtain ⟨cs, hcs⟩ := own_typed hr j hj
  exact hg.block j (Array.getElem?_eq_some_iff.1 hcs).1 (hne j _ _ hcs)
theorem own_blk {β : Type} (g : Nat) (t : TypeId) (cs : Array Value) : Own (fun (_ : β) W => W.heap[g]? = some (.cells cs t (0, 0))) := by
  rintro s X Y row hv hg hrow
  refine (hg.block g (Array.getElem?_eq_some_iff.1 hv).1 (fun e' => ?_)).trans hv
  obtain ⟨o, ho, hc⟩ := hrow g e'.symm
  rw [hv] at ho; cases ho; cases hc
theorem wordsL_pos (l : List UInt8) : ∀ x ∈ wordsL l, x ≠ [] := by
  induction h : l.length using Nat.strongRecOn generalizing l with
  | _ n ih =>
    intro x hx
    by_cases h0 : trimL l = []
    · rw [wordsL_nil _ h0] at hx; cases hx
    · rw [wordsL_cons _ h0] at hx
      rcases List.mem_cons.1 hx with rfl | hx
      · intro hn
        unfold headW at hn
        cases ht : trimL l with
        | nil => exact h0 ht
        | cons a r =>
          have ha : a ≠ 32 := by
            have h2 : (trimL l).head? = some a := by rw [ht]; rfl
            unfold trimL Lib.trimLeftB at h2
            have := List.head?_dropWhile_not (· == 32) l
            rw [h2] at this
            simpa using this
          rw [ht, List.takeWhile_cons_of_pos (by simpa using ha)] at hn
          cases hn
      · have h2 := tailW_lt l h0
        exact ih _ (by omega) (tailW (trimL l)) rfl x hx
theorem wordsB_pos (s : ByteArray) : ∀ x ∈ wordsB s, 0 < x.size := by
  intro x hx
  unfold wordsB at hx
  obtain ⟨y, hy, rfl⟩ := List.mem_map.1 hx
  have := wordsL_pos _ y hy
  show 0 < y.toArray.size
  rw [List.size_toArray]
  exact List.length_pos_iff.2 this
end Go.Proofs.YtdgeiadlijlkmaaGreatDoor.X
namespace Go.Proofs.YtdgeiadlijlkmaaGreatDoor.X
open Go.RowKit Go.Shelf Go.Proofs.YtdgeiadlijlkmaaGreatDoorW.PrintWords Go.Proofs.YtdgeiadlijlkmaaGreatDoorW.PrintMore
set_option linter.unusedVariables false
set_option linter.unusedSimpArgs false
attribute [local go_sem] Oper.semAt_some
def parseMWP (b64 : ByteArray → Option (List Int)) (used : Int) (rest : List Int) (ws : List ByteArray) : Step :=
  match ws with
  | [] => stepFS used (⟨#[69, 82, 82, 79, 82]⟩ : ByteArray) 0 false
  | [v] => if v.toList = [109, 110] then stepO used { zForm with dialect := 3, verb := v } { zCmd with op := 14 } else stepFS used (⟨#[69, 82, 82, 79, 82]⟩ : ByteArray) 0 false
  | v :: k :: ws =>
    if isVerb v.toList = false then stepFS used (⟨#[69, 82, 82, 79, 82]⟩ : ByteArray) 0 false
    else if v.toList = [109, 115] then (match ws with
      | [] => stepFS used (⟨#[69, 82, 82, 79, 82]⟩ : ByteArray) 0 false
      | n :: ws => storesP b64 used rest k n ws)
    else match readP b64 v k ws with
      | .error e => stepFS used e 0 false
      | .ok x => stepO used x.f x.c
theorem toList_lit {v : ByteArray} {l : List UInt8} (h : v.toList = l) : v = ⟨l.toArray⟩ := by
  rw [ByteArray.toList_eq] at h
  rcases v with ⟨⟨a⟩⟩
  have : a = l := h
  subst this
  rfl
theorem req_at0 (y : Ln) (g B : Nat) (used : Int) (k : ByteArray) (w : World) (hlk : LnK g k y w) (hv : y.c.value = []) (hB : B ≤ g) :
    Calls Tryz.prog 18 #[.pointer (some ⟨g, 0, none⟩), .int .i64 used] w (StepR (fun j => B ≤ j) w (stepO used y.f y.c)) := by
  obtain ⟨vT, kb, h1, h2, h3, h4, h5⟩ := hlk
  obtain ⟨A7, c7, rfl, hl7, -⟩ := own_tok h2
  have hkl : y.f.keys.length = 1 := by rw [h5]; rfl
  refine request_calls y.c y.f y.seen none A7 (some ⟨kb, 0, none⟩) 0 c7 1 used g (fun j => B ≤ j) w (by rw [hkl, hv]; exact h1) ?_ ?_ ?_ (by rw [hv]; exact Nat.le_refl _) hl7 (by omega)
  · intro w2 _ _
    rw [hv]
    exact C_nil _ _
  · exact fun w2 hb hk2 => own_Ct (own_move h2 (fun j hj => hk2 j (own_lt h2 j hj) (by have := own_base h2 j hj; show B ≤ j; omega)))
  · intro w2 hb hk2
    rw [h5]
    exact C_str1 (t := 9) ((hk2 kb (blk_lt h3) (by show B ≤ kb; omega)).trans h3)
theorem C_drop2I {w : World} {b o cap : Nat} {v0 v1 : ByteArray} {l : List ByteArray} (h : Kd.string.C w (some ⟨b, o, none⟩) (l.length + 2) (v0 :: v1 :: l)) (hc : l.length + 2 ≤ cap) : Kd.string.C w (if cap = 2 then some ⟨b, o, none⟩ else some ⟨b, o + 2, none⟩) l.length l := by
  by_cases h3 : cap = 2
  · rw [if_pos h3]
    obtain rfl : l = [] := List.eq_nil_of_length_eq_zero (by omega)
    exact C_zero _ _ _
  · rw [if_neg h3]
    exact C_tail (C_tail h rfl) rfl
set_option maxRecDepth 100000 in
set_option maxHeartbeats 8000000 in
theorem parse_go (b64 : ByteArray → Option (List Int)) (l : List Int) (A : Option Addr) (c m : Nat) (t : ByteArray) (w : World) (hC : (Kd.int .u8).C w A l.length l) (hc : l.length ≤ c) (hl : l.length ≤ 900000) (h8 : B8 l) (he : lineS l = (t, (m : Int) + 1, 0)) (hm : m < l.length) (ht : t.size ≤ 900000) (hT : Tabs w) (h64 : ∀ k, k.size ≤ 1000000 → ∀ w, Calls Tryz.prog 60 #[.string k] w (DecP (b64 k) w)) :
    Calls Tryz.prog 11 #[.slice A l.length c] w (StepR (fun _ => False) w (parseMWP b64 ((m : Int) + 1) (l.drop (m + 1)) (wordsB t))) := by
  have HB := Aside0.mk (Below.refl w.heap.size w)
  have HC := Aside0.mk hC
  have HT := Aside0.mk hT
  have H64 := Aside0.mk h64
  have HLN : Aside0 (∀ w', Below w.heap.size w w' → Calls Tryz.prog 15 #[.slice A l.length c] w' fun e w'' => e = .returned (.tuple #[.string t, .int .i64 ((m : Int) + 1), .int .i64 0]) ∧ Below w'.heap.size w' w'') := ⟨fun w' hb => by
    have := fline_calls l A c w' (Kd.C_below HC.out hb) hc (by omega) h8
    rw [he] at this
    exact this⟩
  obtain ⟨b, o, rfl, hb0, -⟩ := C_cell hC m hm
  have hlen := words_len t
  obtain ⟨lr, hlr⟩ : ∃ lr, l.drop (m + 1) = lr := ⟨_, rfl⟩
  have hlrn : l.length - (m + 1) = lr.length := by rw [← hlr, List.length_drop]
  have HLR := Aside0.mk hlr
  have HLRN := Aside0.mk hlrn
  rw [hlr]
  have HSZ : Aside0 (∀ x ∈ wordsB t, 0 < x.size ∧ x.size ≤ 1000000) := ⟨fun x hx => ⟨wordsB_pos t x hx, Nat.le_trans (wordsB_size t x hx) (by omega)⟩⟩
  have h8r : B8 lr := fun z hz => h8 z (by rw [← hlr] at hz; exact List.mem_of_mem_drop hz)
  have HR8 := Aside0.mk h8r
  have HLRL : Aside0 (lr.length ≤ 900000) := ⟨by omega⟩
  obtain ⟨A5, hA5⟩ : ∃ X, (if c = m + 1 then some ⟨b, o, none⟩ else some ⟨b, o + (m + 1), none⟩ : Option Addr) = X := ⟨_, rfl⟩
  have HC5 : Aside0 ((Kd.int .u8).C w A5 lr.length lr ∧ lr.length ≤ c - (m + 1)) := ⟨by
    refine ⟨?_, by omega⟩
    rw [← hA5]
    by_cases hcm : c = m + 1
    · rw [if_pos hcm]
      obtain rfl : lr = [] := List.eq_nil_of_length_eq_zero (by omega)
      exact C_zero _ _ _
    · rw [if_neg hcm]
      have := C_dropk hC (m + 1)
      rw [hlr] at this
      exact this⟩
  have HA5 := Aside0.mk hA5
  obtain ⟨R, hR⟩ : ∃ R, parseMWP b64 ((m : Int) + 1) lr (wordsB t) = R := ⟨_, rfl⟩
  rw [hR]
  have HRR := Aside0.mk hR
  clear hR h8r hA5 hlrn
  clear hC h8 he hT hlr h64
  have hi0 : (0 : Int) ≤ (m : Int) + 1 := by omega
  have hi1 : (m : Int) + 1 ≤ ↑l.length := by omega
  have hi2 : (m : Int) < ↑l.length := by omega
  have hi3 : (l.length : Int) ≤ ↑c := by omega
  have hi4 : (0 : Int) ≤ ↑m := by omega
  refine (callsIn_wide (n := 6)).1 ?_
  refine callsIn_of_wp_marks Tryz.func11 rfl trivial ?_ rfl
  simp only [Tryz.ntmps11, List.size_toArray, List.length_cons, List.length_nil, Nat.reduceAdd, Nat.reduceSub, Array.replicate_succ, Array.replicate_zero, List.push_toArray, List.append_toArray, List.nil_append, List.cons_append]
  refine wpIn_wide.2 ?_
  go_wp2_with (first | (go_at_call 15; (with_reducible refine (HLN.out _ (by repeat (first | (with_reducible first | exact HB.out | apply below_alloc | apply pw_below_drewN | apply below_drew1) | exact HB.out))).mono ?_); rintro e w1 ⟨rfl, hb⟩; have BR := Aside0.mk (blk_below (g := w.heap.size) (o := .cells zStepC 34 (0, 0)) (by repeat (first | exact blk_at_new _ _ _ (by simp; done) | exact blk_at_new _ _ _ rfl | refine blk_alloc ?_ _ | refine blk_drew ?_ | refine blk_drewN ?_ _)) hb); have HBn := Aside0.mk (below_step (by repeat (first | (with_reducible first | exact HB.out | apply below_alloc | apply pw_below_drewN | apply below_drew1) | exact HB.out)) hb); clear HB; have HB := HBn; clear HBn; clear hb; have hr1 : w.heap.size < w1.heap.size := blk_lt BR.out) | (go_at_call 17; (with_reducible refine (mkWords_calls t _).mono ?_); rintro e w' ⟨rfl, rfl⟩))
  obtain ⟨gl, hgl⟩ : ∃ g, w1.heap.size = g := ⟨_, rfl⟩
  obtain ⟨W0, hW0⟩ : ∃ W0, (w1.alloc (.cells #[.slice none 0 0] 27)).alloc (.cells #[.string t] 9) = W0 := ⟨_, rfl⟩
  have BX0 := Aside0.mk (show W0.heap[gl]? = _ from hW0 ▸ blk_alloc (blk_at_new _ _ _ hgl.symm) _)
  have BR0 := Aside0.mk (show W0.heap[w.heap.size]? = _ from hW0 ▸ blk_alloc (blk_alloc BR.out _) _)
  have hbel : Below w.heap.size w W0 := hW0 ▸ (by repeat (first | (with_reducible first | exact HB.out | apply below_alloc | apply pw_below_drewN | apply below_drew1) | exact HB.out))
  have bS : Boxed W0 (w1.alloc (.cells #[.slice none 0 0] 27)).heap.size 9 (.string t) := hW0 ▸ Boxed.new _ 9 (.string t)
  have hsz0 : W0.heap.size = w1.heap.size + 1 + 1 := by rw [← hW0]; simp
  rw [World.size_alloc] at bS
  rw [hgl] at bS hsz0 hr1
  rw [hW0]
  obtain ⟨qs, hqs⟩ : ∃ q, gl + 1 = q := ⟨_, rfl⟩
  rw [hgl]
  rw [hqs] at bS hsz0
  rw [hqs]
  have hql : gl < qs := by omega
  have hql2 : qs ≤ gl + 1 := by omega
  clear hW0 hqs hgl BR HB HLN
  obtain ⟨i0, hi, hz0, hz1, hz2⟩ := info_parts info9
  refine (wpIn_wide (n := 6)).1 ?_
  refine wpIn_rangeFunc_ownG rfl (by omega) (gf := 33) (lb := #[.pointer (some ⟨qs, 0, none⟩)]) rfl trivial (enters_of Tryz.func33 (by kernel_rfl) rfl)
    (words_stops 5 (by omega) qs w.heap.size t (by omega) W0 bS.lt bS.cell) belowK_t (belowK_b hbel.size) (Below.refl _ _) (fun _ => rfl)
    (fun pre W => ((∃ V, W.heap[gl]? = some (.cells #[V] 27 (0, 0)) ∧ W.ownsRow (qs + 1) 9 1 V pre.length (pre.map Value.string)) ∧ W.heap[w.heap.size]? = some (.cells zStepC 34 (0, 0))) ∧ Below w.heap.size w W)
    (fun _ _ _ => False)
    (OwnFrom.and (OwnFrom.and (Own.from (own_blkRow gl 27 (fun V => #[V]) (qs + 1) 9 (fun (pre : List ByteArray) => pre.length) (fun pre => pre.map Value.string)) _) (Own.from (own_blk _ _ _) _)) (ownFrom_below (Nat.le_refl _) hbel.size))
    (fun _ _ _ _ _ hs _ _ => hs) ⟨⟨⟨_, BX0.out, World.ownsRow_nil _ _ _ _⟩, BR0.out⟩, hbel⟩ ?a1 ?assign ?body ?done ?stop
  case assign =>
    intro l x W K hK
    gi_wp2
    exact hK
  case stop =>
    rintro D c pre W _ _ h _
    exact h.elim
  case body =>
    rintro l pre x W ⟨⟨⟨V, hv, hrow⟩, hr0⟩, hB⟩ hlt2
    have hgW : gl < W.heap.size := blk_lt hv
    have e1 : W.cell? ⟨gl, 0, none⟩ = some V := (blk_cell hv 0).trans rfl
    have hne : some gl ≠ V.ownBlock := own_apart hrow (by omega)
    have hner : some w.heap.size ≠ V.ownBlock := own_apart hrow (by omega)
    have hrg : w.heap.size < gl := hr1
    gi_wp2_with (gi_at_builtin; (refine wpListIn_append_own _ rfl _ _ 27 rfl (qs + 1) 9 i0 (.string ⟨#[]⟩) 1 16 Tryz.underlying27 hi hz0 hz1 hz2 rfl (by decide) _ _ _ rfl (hrow.alloc _) ⟨W.heap.size, 0, none⟩ 1 1 [.string x] rfl rfl (cell_one_new _ _ _) (by simp [Value.oneCell']) (by unfold maxLen; omega) (by omega) (by rw [World.size_alloc]; omega) ?_); intro v' w2 hown' hgrow _; obtain ⟨g', cap', rfl⟩ := ownsRow_succ hown'; have hv2 := blk_grown (blk_alloc hv _) hgrow hne; have hr2 := blk_grown (blk_alloc hr0 _) hgrow hner; have e2 : w2.cell? ⟨gl, 0, none⟩ = some V := (blk_cell hv2 0).trans rfl; have f2 : w2.frozen? ⟨gl, 0, none⟩ = false := blk_frozen hv2 0)
    have hK2 : KeepsOthers W w2 := (KeepsOthers.alloc W _).trans (KeepsOthers.of_grownBy hgrow (fun j o' hj ho' => by
      obtain ⟨cs, hcs⟩ := own_typed (hrow.alloc _) j hj
      rw [hcs] at ho'
      cases ho'
      rfl))
    have hb2 : Below w.heap.size W w2 := ((Below.refl w.heap.size W).alloc (by omega) _).grown hgrow (by rw [World.size_alloc]; omega) (fun k hk => by have := own_base hrow k hk; omega)
    refine ⟨(hK2.trans (KeepsOthers.setCell _ _ _)).from _, hb2.setCell (p := ⟨gl, 0, none⟩) (by show w.heap.size ≤ gl; omega) _, ⟨⟨⟨_, blk_set hv2 0 _, ?_⟩, blk_far hr2 (by show w.heap.size ≠ gl; omega) _⟩, (hB.trans hb2).setCell (p := ⟨gl, 0, none⟩) (by show w.heap.size ≤ gl; omega) _⟩⟩
    rw [List.map_append, List.length_append]
    exact own_setCell hown' (own_apart hown' (show gl < qs + 1 by omega)) _
  case done =>
    rintro D ys W hD rfl ⟨⟨⟨V, hv, hrow⟩, hr0⟩, hB⟩ hK
    obtain ⟨A1, c1, rfl, hc1, hCw⟩ := own_Cs hrow (by omega)
    have hgW : gl < W.heap.size := blk_lt hv
    have BX1 := Aside0.mk hv
    have BR1 := Aside0.mk hr0
    have HB := Aside0.mk hB
    have HCW := Aside0.mk hCw
    have HKD := Aside0.mk hK
    have hDr : Aside0 (D ≠ w.heap.size) := ⟨by have := hbel.size; omega⟩
    have HDW := Aside0.mk hD
    clear hv hr0 hB hCw hrow hK BX0 BR0
    obtain ⟨ws, hws⟩ : ∃ ws, wordsB t = ws := ⟨_, rfl⟩
    rw [hws] at BX1 HCW hlen hc1 HSZ HRR
    clear hws
    have HOE : Aside0 (∀ w', Calls Tryz.prog 16 #[.int .i64 ((m : Int) + 1), .string (⟨#[69, 82, 82, 79, 82]⟩ : ByteArray)] w' fun e w'' => e = .returned (.agg (stepFC ((m : Int) + 1) (⟨#[69, 82, 82, 79, 82]⟩ : ByteArray) 0 false).toArray) ∧ Below w'.heap.size w' w'') := ⟨fun w' => fault_ex ((m : Int) + 1) _ w' (by decide)⟩
    have hRr := HRR.out
    cases ws with
    | nil =>
      have t0 : W.cell? ⟨gl, 0, none⟩ = some (.slice A1 0 c1) := (blk_cell BX1.out 0).trans rfl
      unfold parseMWP at hRr
      subst hRr
      go_wp2_with (first | (go_at_call 16; (with_reducible refine (HOE.out _).mono ?_); rintro e w6 ⟨rfl, hb⟩; unfold stepFC; have BR6 := Aside0.mk (blk_below BR1.out hb); have HK6 := Aside0.mk (blk_below HKD.out hb); have HBn := Aside0.mk (below_step (by repeat (first | (with_reducible first | exact HB.out | apply below_alloc | apply pw_below_drewN | apply below_drew1) | exact HB.out)) hb); clear HB; have HB := HBn; clear HBn; clear hb) | (refine wpList_store_F rfl 34 _ _ rfl w.heap.size 0 _ rfl rfl (by simp [Value.oneCell']) 34 _ _ BR6.out (by simp [zStepC]) (by kernel_rfl) rfl ?_; intro w8 hbk hst; have BR8 := Aside0.mk hbk; have HK8 := Aside0.mk (hst.blk HK6.out hDr.out); have HB8 := Aside0.mk (hst.up HB.out (Nat.le_refl _)); clear hbk hst))
      (refine ⟨by simp, .inl ⟨_, _, rfl, run_takeDeferred HK8.out, ?_⟩⟩; refine ⟨_, results_cell_row rfl _ _ w.heap.size 34 _ (0, 0) _ rfl ((World.putObj_heap_other (by have := hbel.size; omega)).trans BR8.out) Tryz.underlying34 rfl (by kernel_rfl), ?_⟩; exact ⟨⟨_, rfl, fun w2 _ _ => stepFS_K w2 ((m : Int) + 1) (⟨#[69, 82, 82, 79, 82]⟩ : ByteArray) 0 false⟩, HB8.out.trans (belowK_b (w := w) (Nat.le_refl _) w8 D _ _ (by have := hbel.size; omega) HK8.out rfl rfl)⟩)
    | cons v vs =>
      obtain ⟨b1, o1, rfl, hb1, hcv⟩ := S_cell HCW.out 0 (by simp)
      have hcv : W.cell? ⟨b1, o1, none⟩ = some (.string v) := hcv
      cases vs with
      | nil =>
        have t0 : W.cell? ⟨gl, 0, none⟩ = some (.slice (some ⟨b1, o1, none⟩) 1 c1) := (blk_cell BX1.out 0).trans rfl
        unfold parseMWP at hRr
        dsimp only at hRr
        by_cases hmn : v.toList = [109, 110]
        · rw [if_pos hmn] at hRr
          subst hRr
          have hmb : (v.toList == [109, 110]) = true := beq_iff_eq.2 hmn
          have HRQ : Aside0 (∀ w', w'.heap[W.heap.size]? = some (.cells #[.int .i64 14, .string ⟨#[]⟩, .slice none 0 0, .int .u32 0, .int .i64 0, .int .u64 0, .int .u64 0, .int .u64 0, .bool false, .bool false, .int .i64 3, .string v, .int .i64 0, .int .u32 0, .bool false, .bool false, .string ⟨#[]⟩, .slice none 0 0, .slice none 0 0, .bool false, .string ⟨#[]⟩] 53 (0, 0)) → Calls Tryz.prog 18 #[.pointer (some ⟨W.heap.size, 0, none⟩), .int .i64 ((m : Int) + 1)] w' (StepR (fun _ => False) w' (stepO ((m : Int) + 1) { zForm with dialect := 3, verb := v } { zCmd with op := 14 }))) := ⟨fun w' h => request_calls { zCmd with op := 14 } { zForm with dialect := 3, verb := v } ⟨#[]⟩ none none none 0 0 0 ((m : Int) + 1) W.heap.size _ w' h (fun w2 _ _ => C_nil _ _) (fun w2 _ _ => C_nil _ _) (fun w2 _ _ => C_nil _ _) (Nat.le_refl _) (Nat.le_refl _) (Nat.le_refl _)⟩
          clear hmn
          go_wp2_with (first | (refine wpList_store_F rfl 53 _ _ rfl W.heap.size 0 [.int .i64 14, .string ⟨#[]⟩, .slice none 0 0, .int .u32 0, .int .i64 0, .int .u64 0, .int .u64 0, .int .u64 0, .bool false, .bool false, .int .i64 3, .string v, .int .i64 0, .int .u32 0, .bool false, .bool false, .string ⟨#[]⟩, .slice none 0 0, .slice none 0 0, .bool false, .string ⟨#[]⟩] rfl rfl (by simp [Value.oneCell']) 53 #[.int .i64 0, .string ⟨#[]⟩, .slice none 0 0, .int .u32 0, .int .i64 0, .int .u64 0, .int .u64 0, .int .u64 0, .bool false, .bool false, .int .i64 0, .string ⟨#[]⟩, .int .i64 0, .int .u32 0, .bool false, .bool false, .string ⟨#[]⟩, .slice none 0 0, .slice none 0 0, .bool false, .string ⟨#[]⟩] ([.int .i64 14, .string ⟨#[]⟩, .slice none 0 0, .int .u32 0, .int .i64 0, .int .u64 0, .int .u64 0, .int .u64 0, .bool false, .bool false, .int .i64 3, .string v, .int .i64 0, .int .u32 0, .bool false, .bool false, .string ⟨#[]⟩, .slice none 0 0, .slice none 0 0, .bool false, .string ⟨#[]⟩]).toArray (blk_at_new _ _ _ rfl) (by simp) (by kernel_rfl) rfl ?_; intro w4 hbk hst; have BL4 := Aside0.mk hbk; have BR4 := Aside0.mk (hst.blk (blk_alloc BR1.out _) (by have := blk_lt BR1.out; omega)); have KD4 := Aside0.mk (hst.blk (blk_alloc HKD.out _) (by have := (Array.getElem?_eq_some_iff.1 HKD.out).1; omega)); have HB4 := Aside0.mk (hst.up (by repeat (first | (with_reducible first | exact HB.out | apply below_alloc | apply pw_below_drewN | apply below_drew1) | exact HB.out)) (Nat.le_of_lt (blk_lt BR1.out))); clear hbk hst HB; have HB := HB4; clear HB4) | (go_at_call 18; (with_reducible refine (HRQ.out _ BL4.out).mono ?_); rintro e w5 ⟨⟨cs, rfl, hk⟩, hb⟩; have BK := Aside0.mk (blk_below BR4.out hb); have HK9 := Aside0.mk (blk_below KD4.out hb); have HBn := Aside0.mk (below_step (by repeat (first | (with_reducible first | exact HB.out | apply below_alloc | apply pw_below_drewN | apply below_drew1) | exact HB.out)) hb); clear HB; have HB := HBn; clear HBn; have HKO := Aside0.mk hk; have hDl : Aside0 (D < w4.heap.size) := ⟨(Array.getElem?_eq_some_iff.1 (KD4.out)).1⟩; have hRl : Aside0 (w.heap.size < w4.heap.size) := ⟨blk_lt BR4.out⟩; clear hb hk) | (refine wpList_store_K HKO.out.now rfl 34 _ _ rfl w.heap.size rfl rfl 34 _ BK.out (by kernel_rfl) rfl ?_; intro w8 hbk hlow hfar; have BR8 := Aside0.mk hbk; have HB8 := Aside0.mk (HB.out.trans (hlow w.heap.size (Nat.le_refl _))); have HK8 := Aside0.mk ((hfar (fun k => k = D) (fun w2 => w2.heap[D]? = some (.deferred (some []))) (fun e => hDr.out e.symm) (fun w2 _ hk => (hk D (Array.getElem?_eq_some_iff.1 HK9.out).1 rfl).trans HK9.out)).now); have HKS8 := Aside0.mk (hfar _ _ (fun h => h hRl.out) HKO.out); clear hbk hlow hfar))
          (refine ⟨by simp, .inl ⟨_, _, rfl, run_takeDeferred HK8.out, ?_⟩⟩; refine ⟨_, results_cell_row rfl _ _ w.heap.size 34 _ (0, 0) _ rfl ((World.putObj_heap_other (by have := hbel.size; omega)).trans BR8.out) Tryz.underlying34 rfl (by rw [List.size_toArray, kStep.K_len HKO.out.now]; kernel_rfl), ?_⟩; exact ⟨⟨_, rfl, (HKS8.out.kept (belowK_b (w := w) (n₀ := 0) (Nat.zero_le _) w8 D _ _ (by have := hbel.size; omega) HK8.out rfl rfl) (fun k hk hF => World.putObj_heap_other (fun e => hF (by rw [e]; exact hDl.out)))).mono (fun k h h3 => h (Nat.lt_trans h3 hRl.out))⟩, HB8.out.trans (belowK_b (w := w) (Nat.le_refl _) w8 D _ _ (by have := hbel.size; omega) HK8.out rfl rfl)⟩)
        · rw [if_neg hmn] at hRr
          subst hRr
          have hmb : (v.toList == [109, 110]) = false := beq_eq_false_iff_ne.2 hmn
          clear hmn
          go_wp2_with (first | (go_at_call 16; (with_reducible refine (HOE.out _).mono ?_); rintro e w6 ⟨rfl, hb⟩; unfold stepFC; have BR6 := Aside0.mk (blk_below BR1.out hb); have HK6 := Aside0.mk (blk_below HKD.out hb); have HBn := Aside0.mk (below_step (by repeat (first | (with_reducible first | exact HB.out | apply below_alloc | apply pw_below_drewN | apply below_drew1) | exact HB.out)) hb); clear HB; have HB := HBn; clear HBn; clear hb) | (refine wpList_store_F rfl 34 _ _ rfl w.heap.size 0 _ rfl rfl (by simp [Value.oneCell']) 34 _ _ BR6.out (by simp [zStepC]) (by kernel_rfl) rfl ?_; intro w8 hbk hst; have BR8 := Aside0.mk hbk; have HK8 := Aside0.mk (hst.blk HK6.out hDr.out); have HB8 := Aside0.mk (hst.up HB.out (Nat.le_refl _)); clear hbk hst))
          (refine ⟨by simp, .inl ⟨_, _, rfl, run_takeDeferred HK8.out, ?_⟩⟩; refine ⟨_, results_cell_row rfl _ _ w.heap.size 34 _ (0, 0) _ rfl ((World.putObj_heap_other (by have := hbel.size; omega)).trans BR8.out) Tryz.underlying34 rfl (by kernel_rfl), ?_⟩; exact ⟨⟨_, rfl, fun w2 _ _ => stepFS_K w2 ((m : Int) + 1) (⟨#[69, 82, 82, 79, 82]⟩ : ByteArray) 0 false⟩, HB8.out.trans (belowK_b (w := w) (Nat.le_refl _) w8 D _ _ (by have := hbel.size; omega) HK8.out rfl rfl)⟩)
      | cons k ws =>
        have hck : W.cell? ⟨b1, o1 + 1, none⟩ = some (.string k) := by
          obtain ⟨b', o', e', -, h⟩ := S_cell (l := v :: k :: ws) HCW.out 1 (by simp)
          obtain ⟨rfl, rfl⟩ : b1 = b' ∧ o1 = o' := by simpa using e'
          exact h
        obtain ⟨n2, hn2⟩ : ∃ n, ws.length = n := ⟨_, rfl⟩
        have hn2l : (v :: k :: ws).length = n2 + 2 := by rw [← hn2]; rfl
        rw [hn2l] at hlen hc1
        have BX2 : Aside0 (W.heap[gl]? = some (.cells #[.slice (some ⟨b1, o1, none⟩) (n2 + 2) c1] 27 (0, 0))) := ⟨hn2l ▸ BX1.out⟩
        have HC2 : Aside0 (Kd.string.C W (some ⟨b1, o1, none⟩) (n2 + 2) (v :: k :: ws)) := ⟨hn2l ▸ HCW.out⟩
        have HN2 := Aside0.mk hn2
        have t0 : W.cell? ⟨gl, 0, none⟩ = some (.slice (some ⟨b1, o1, none⟩) (n2 + 2) c1) := (blk_cell BX2.out 0).trans rfl
        obtain ⟨iv, hiv⟩ : ∃ b, isVerb v.toList = b := ⟨_, rfl⟩
        have HFLG := Aside0.mk (fun w => flags_w v w)
        have hq0 : ((n2 : Int) + 2 == 1) = false := by rw [beq_eq_false_iff_ne]; omega
        have hq1 : (2 : Int) ≤ (n2 : Int) + 2 := by omega
        have hq2 : (0 : Int) < (n2 : Int) + 2 := by omega
        have hq3 : (1 : Int) < (n2 : Int) + 2 := by omega
        have hq4 : (n2 : Int) + 2 ≤ ↑c1 := by omega
        have hvs : v.size ≤ 1000000 := (HSZ.out v (by simp)).2
        have hks : k.size ≤ 1000000 := (HSZ.out k (by simp)).2
        have hwss : ∀ x ∈ ws, 0 < x.size ∧ x.size ≤ 1000000 := fun x hx => HSZ.out x (by simp [hx])
        have HVS := Aside0.mk hvs
        have HKS := Aside0.mk hks
        have HWS := Aside0.mk hwss
        unfold parseMWP at hRr
        dsimp only at hRr
        rw [hiv] at hRr HFLG
        clear hn2 hn2l BX1 HCW hiv hvs hks hwss HRR
        cases iv
        · rw [if_pos rfl] at hRr
          subst hRr
          go_upto_region 20 with (first | (go_at_call 19; (with_reducible refine (HFLG.out _).mono ?_); rintro e w3 ⟨rfl, hb⟩; have BRn := Aside0.mk (blk_below BR1.out hb); have KDn := Aside0.mk (blk_below HKD.out hb); have C2n := Aside0.mk (Kd.C_below HC2.out hb); have s0 := (Below.cell hb (p := ⟨gl, 0, none⟩) hgW).trans t0; have s1 := (Below.cell hb (p := ⟨b1, o1, none⟩) hb1).trans hcv; have s2 := (Below.cell hb (p := ⟨b1, o1 + 1, none⟩) hb1).trans hck; have hg3 : gl < w3.heap.size := Nat.lt_of_lt_of_le hgW hb.size; have hb3 : b1 < w3.heap.size := Nat.lt_of_lt_of_le hb1 hb.size; have HBn := Aside0.mk (below_step (by repeat (first | (with_reducible first | exact HB.out | apply below_alloc | apply pw_below_drewN | apply below_drew1) | exact HB.out)) hb); clear HB; have HB := HBn; clear HBn; clear BR1 HKD HC2 t0 hcv hck hb; have BR1 := BRn; have HKD := KDn; have HC2 := C2n; clear BRn KDn C2n))
          go_wp2_with (first | (go_at_call 16; (with_reducible refine (HOE.out _).mono ?_); rintro e w6 ⟨rfl, hb⟩; unfold stepFC; have BR6 := Aside0.mk (blk_below BR1.out hb); have HK6 := Aside0.mk (blk_below HKD.out hb); have HBn := Aside0.mk (below_step (by repeat (first | (with_reducible first | exact HB.out | apply below_alloc | apply pw_below_drewN | apply below_drew1) | exact HB.out)) hb); clear HB; have HB := HBn; clear HBn; clear hb) | (refine wpList_store_F rfl 34 _ _ rfl w.heap.size 0 (stepFC ((m : Int) + 1) (⟨#[69, 82, 82, 79, 82]⟩ : ByteArray) 0 false) rfl rfl (by simp [stepFC, Value.oneCell']) 34 zStepC (stepFC ((m : Int) + 1) (⟨#[69, 82, 82, 79, 82]⟩ : ByteArray) 0 false).toArray BR6.out (by simp [zStepC, stepFC]) (by kernel_rfl) rfl ?_; intro w8 hbk hst; have BR8 := Aside0.mk hbk; have HK8 := Aside0.mk (hst.blk HK6.out hDr.out); have HB8 := Aside0.mk (hst.up HB.out (Nat.le_refl _)); clear hbk hst))
          (refine ⟨by simp, .inl ⟨_, _, rfl, run_takeDeferred HK8.out, ?_⟩⟩; refine ⟨_, results_cell_row rfl _ _ w.heap.size 34 _ (0, 0) _ rfl ((World.putObj_heap_other (by have := hbel.size; omega)).trans BR8.out) Tryz.underlying34 rfl (by kernel_rfl), ?_⟩; exact ⟨⟨_, rfl, fun w2 _ _ => stepFS_K w2 ((m : Int) + 1) (⟨#[69, 82, 82, 79, 82]⟩ : ByteArray) 0 false⟩, HB8.out.trans (belowK_b (w := w) (Nat.le_refl _) w8 D _ _ (by have := hbel.size; omega) HK8.out rfl rfl)⟩)
        rw [if_neg (by decide)] at hRr
        by_cases hms : v.toList = [109, 115]
        · rw [if_pos hms] at hRr
          obtain rfl := toList_lit hms
          clear hms
          cases ws with
          | nil =>
            dsimp only at hRr
            subst hRr
            have hq5 : (n2 : Int) + 2 < 3 := by have := HN2.out; simp at this; omega
            go_upto_region 20 with (first | (go_at_call 19; (with_reducible refine (HFLG.out _).mono ?_); rintro e w3 ⟨rfl, hb⟩; have BRn := Aside0.mk (blk_below BR1.out hb); have KDn := Aside0.mk (blk_below HKD.out hb); have C2n := Aside0.mk (Kd.C_below HC2.out hb); have s0 := (Below.cell hb (p := ⟨gl, 0, none⟩) hgW).trans t0; have s1 := (Below.cell hb (p := ⟨b1, o1, none⟩) hb1).trans hcv; have s2 := (Below.cell hb (p := ⟨b1, o1 + 1, none⟩) hb1).trans hck; have hg3 : gl < w3.heap.size := Nat.lt_of_lt_of_le hgW hb.size; have hb3 : b1 < w3.heap.size := Nat.lt_of_lt_of_le hb1 hb.size; have HBn := Aside0.mk (below_step (by repeat (first | (with_reducible first | exact HB.out | apply below_alloc | apply pw_below_drewN | apply below_drew1) | exact HB.out)) hb); clear HB; have HB := HBn; clear HBn; clear BR1 HKD HC2 t0 hcv hck hb; have BR1 := BRn; have HKD := KDn; have HC2 := C2n; clear BRn KDn C2n))
            go_wp2_with (first | (go_at_call 16; (with_reducible refine (HOE.out _).mono ?_); rintro e w6 ⟨rfl, hb⟩; unfold stepFC; have BR6 := Aside0.mk (blk_below BR1.out hb); have HK6 := Aside0.mk (blk_below HKD.out hb); have HBn := Aside0.mk (below_step (by repeat (first | (with_reducible first | exact HB.out | apply below_alloc | apply pw_below_drewN | apply below_drew1) | exact HB.out)) hb); clear HB; have HB := HBn; clear HBn; clear hb) | (refine wpList_store_F rfl 34 _ _ rfl w.heap.size 0 (stepFC ((m : Int) + 1) (⟨#[69, 82, 82, 79, 82]⟩ : ByteArray) 0 false) rfl rfl (by simp [stepFC, Value.oneCell']) 34 zStepC (stepFC ((m : Int) + 1) (⟨#[69, 82, 82, 79, 82]⟩ : ByteArray) 0 false).toArray BR6.out (by simp [zStepC, stepFC]) (by kernel_rfl) rfl ?_; intro w8 hbk hst; have BR8 := Aside0.mk hbk; have HK8 := Aside0.mk (hst.blk HK6.out hDr.out); have HB8 := Aside0.mk (hst.up HB.out (Nat.le_refl _)); clear hbk hst))
            (refine ⟨by simp, .inl ⟨_, _, rfl, run_takeDeferred HK8.out, ?_⟩⟩; refine ⟨_, results_cell_row rfl _ _ w.heap.size 34 _ (0, 0) _ rfl ((World.putObj_heap_other (by have := hbel.size; omega)).trans BR8.out) Tryz.underlying34 rfl (by kernel_rfl), ?_⟩; exact ⟨⟨_, rfl, fun w2 _ _ => stepFS_K w2 ((m : Int) + 1) (⟨#[69, 82, 82, 79, 82]⟩ : ByteArray) 0 false⟩, HB8.out.trans (belowK_b (w := w) (Nat.le_refl _) w8 D _ _ (by have := hbel.size; omega) HK8.out rfl rfl)⟩)
          | cons n ws =>
            dsimp only at hRr
            have hq5 : ¬ ((n2 : Int) + 2 < 3) := by have := HN2.out; simp at this; omega
            have hq6 : (3 : Int) ≤ (n2 : Int) + 2 := by omega
            have hns : n2 = ws.length + 1 := by have := HN2.out; simp at this; omega
            have HSTO : Aside0 (∀ w3, Below w.heap.size w w3 → b1 < w3.heap.size → Kd.string.C w3 (some ⟨b1, o1, none⟩) (n2 + 2) ((⟨#[109, 115]⟩ : ByteArray) :: k :: n :: ws) → Calls Tryz.prog 20 #[.slice (some ⟨b1, o1, none⟩) (n2 + 2) c1, .int .i64 ((m : Int) + 1), .slice A5 lr.length (c - (m + 1))] w3 (StepR (fun _ => False) w3 R)) := ⟨fun w3 hb hbb hCC => by
              have hcl : c1 ≥ ws.length + 3 := by omega
              have := stores_calls b64 k n ws b1 o1 c1 ((m : Int) + 1) lr A5 (c - (m + 1)) w3 (by rw [show ws.length + 3 = n2 + 2 by omega]; exact hCC) hbb (by omega) (fun x hx => HWS.out x (by simp [hx])) (by have := HN2.out; simp at this; omega) HKS.out (Tabs.below HT.out hb) (H64.out k HKS.out) (Kd.C_below HC5.out.1 hb) HC5.out.2 (by have := HLRL.out; omega) HR8.out (by omega) (by omega)
              rw [show ws.length + 3 = n2 + 2 by omega, hRr] at this
              exact this⟩
            clear hRr hns
            go_upto_region 22 with (first | (go_at_call 19; (with_reducible refine (HFLG.out _).mono ?_); rintro e w3 ⟨rfl, hb⟩; have BRn := Aside0.mk (blk_below BR1.out hb); have KDn := Aside0.mk (blk_below HKD.out hb); have C2n := Aside0.mk (Kd.C_below HC2.out hb); have s0 := (Below.cell hb (p := ⟨gl, 0, none⟩) hgW).trans t0; have s1 := (Below.cell hb (p := ⟨b1, o1, none⟩) hb1).trans hcv; have s2 := (Below.cell hb (p := ⟨b1, o1 + 1, none⟩) hb1).trans hck; have hg3 : gl < w3.heap.size := Nat.lt_of_lt_of_le hgW hb.size; have hb3 : b1 < w3.heap.size := Nat.lt_of_lt_of_le hb1 hb.size; have HBn := Aside0.mk (below_step (by repeat (first | (with_reducible first | exact HB.out | apply below_alloc | apply pw_below_drewN | apply below_drew1) | exact HB.out)) hb); clear HB; have HB := HBn; clear HBn; clear BR1 HKD HC2 t0 hcv hck hb; have BR1 := BRn; have HKD := KDn; have HC2 := C2n; clear BRn KDn C2n))
            refine wp_region_noPanic ?_
            refine wp_region_L (S := fun w' => Below w3.heap.size w3 w') 6 (by kernel_rfl) (below_drew1 (Below.refl _ _)) ?_
            intro hHeld
            have BR4 := Aside0.mk (show w3.drew.heap[w.heap.size]? = _ from blk_drew BR1.out)
            have KD4 := Aside0.mk (show w3.drew.heap[D]? = _ from blk_drew HKD.out)
            have HB4 : Aside0 (Below w.heap.size w w3.drew) := ⟨(by repeat (first | (with_reducible first | exact HB.out | apply below_alloc | apply pw_below_drewN | apply below_drew1) | exact HB.out))⟩
            obtain ⟨w4, hw4⟩ : ∃ w4, w3.drew = w4 := ⟨_, rfl⟩
            rw [hw4] at hHeld BR4 KD4 HB4 ⊢
            clear hw4
            have hA5 := HA5.out
            have hlrn := HLRN.out
            (refine wpAnyL_take (i := 0) (v := ?_) (by simp only [List.getElem?_toArray, List.getElem?_cons_succ, List.getElem?_cons_zero]; rfl) (by kernel_rfl) (by kernel_rfl) (by kernel_rfl) (by kernel_rfl) (fun _ _ _ h => h) (Or.inl ⟨by rfl, ?_⟩) (by exact hHeld) ?_; rotate_left; (focus (intro w' hSw; have s0' := (Below.cell hSw (p := ⟨gl, 0, none⟩) hg3).trans s0; have s1' := (Below.cell hSw (p := ⟨b1, o1, none⟩) hb3).trans s1; have s2' := (Below.cell hSw (p := ⟨b1, o1 + 1, none⟩) hb3).trans s2; clear hSw; go_simp; (try with_reducible rfl); done)); (try simp only [Act.put, List.setIfInBounds_toArray, List.set_cons_zero, List.set_cons_succ]))
            (refine wpAnyL_take (i := 1) (v := ?_) (by simp only [List.getElem?_toArray, List.getElem?_cons_succ, List.getElem?_cons_zero]; rfl) (by kernel_rfl) (by kernel_rfl) (by kernel_rfl) (by kernel_rfl) (fun _ _ _ h => h) (Or.inl ⟨by rfl, ?_⟩) (by exact hHeld) ?_; rotate_left; (focus (intro w' hSw; have s0' := (Below.cell hSw (p := ⟨gl, 0, none⟩) hg3).trans s0; have s1' := (Below.cell hSw (p := ⟨b1, o1, none⟩) hb3).trans s1; have s2' := (Below.cell hSw (p := ⟨b1, o1 + 1, none⟩) hb3).trans s2; clear hSw; go_simp; (try with_reducible rfl); done)); (try simp only [Act.put, List.setIfInBounds_toArray, List.set_cons_zero, List.set_cons_succ]))
            (refine wpAnyL_take (i := 2) (v := ?_) (by simp only [List.getElem?_toArray, List.getElem?_cons_succ, List.getElem?_cons_zero]; rfl) (by kernel_rfl) (by kernel_rfl) (by kernel_rfl) (by kernel_rfl) (fun _ _ _ h => h) (Or.inl ⟨by rfl, ?_⟩) (by exact hHeld) ?_; rotate_left; (focus (intro w' hSw; have s0' := (Below.cell hSw (p := ⟨gl, 0, none⟩) hg3).trans s0; have s1' := (Below.cell hSw (p := ⟨b1, o1, none⟩) hb3).trans s1; have s2' := (Below.cell hSw (p := ⟨b1, o1 + 1, none⟩) hb3).trans s2; clear hSw; go_simp; (try with_reducible rfl); done)); (try simp only [Act.put, List.setIfInBounds_toArray, List.set_cons_zero, List.set_cons_succ]))
            (refine wpAnyL_take (i := 3) (v := ?_) (by simp only [List.getElem?_toArray, List.getElem?_cons_succ, List.getElem?_cons_zero]; rfl) (by kernel_rfl) (by kernel_rfl) (by kernel_rfl) (by kernel_rfl) (fun _ _ _ h => h) (Or.inl ⟨by rfl, ?_⟩) (by exact hHeld) ?_; rotate_left; (focus (intro w' hSw; have s0' := (Below.cell hSw (p := ⟨gl, 0, none⟩) hg3).trans s0; have s1' := (Below.cell hSw (p := ⟨b1, o1, none⟩) hb3).trans s1; have s2' := (Below.cell hSw (p := ⟨b1, o1 + 1, none⟩) hb3).trans s2; clear hSw; go_simp; (try with_reducible rfl); done)); (try simp only [Act.put, List.setIfInBounds_toArray, List.set_cons_zero, List.set_cons_succ]))
            (refine wpAnyL_take (i := 4) (v := ?_) (by simp only [List.getElem?_toArray, List.getElem?_cons_succ, List.getElem?_cons_zero]; rfl) (by kernel_rfl) (by kernel_rfl) (by kernel_rfl) (by kernel_rfl) (fun _ _ _ h => h) (Or.inl ⟨by rfl, ?_⟩) (by exact hHeld) ?_; rotate_left; (focus (intro w' hSw; have s0' := (Below.cell hSw (p := ⟨gl, 0, none⟩) hg3).trans s0; have s1' := (Below.cell hSw (p := ⟨b1, o1, none⟩) hb3).trans s1; have s2' := (Below.cell hSw (p := ⟨b1, o1 + 1, none⟩) hb3).trans s2; clear hSw; go_simp; (try with_reducible rfl); done)); (try simp only [Act.put, List.setIfInBounds_toArray, List.set_cons_zero, List.set_cons_succ]))
            clear hA5 hlrn
            refine wpAnyL_one (i := 5) (by kernel_rfl) (by simp only [List.getElem?_toArray, List.getElem?_cons_succ, List.getElem?_cons_zero]; rfl) (fun K hK => ?_)
            go_simp
            (go_at_call 20; (with_reducible refine (HSTO.out _ HB4.out (Nat.lt_of_lt_of_le hb3 hHeld.size) (Kd.C_below HC2.out hHeld)).mono ?_); rintro e w5 ⟨⟨cs, rfl, hk⟩, hb⟩)
            have hS5 := below_step hHeld hb
            clear HB
            have HB := HB4
            have BK := Aside0.mk (blk_below BR4.out hb); have HK9 := Aside0.mk (blk_below KD4.out hb); have HBn := Aside0.mk (below_step (by repeat (first | (with_reducible first | exact HB.out | apply below_alloc | apply pw_below_drewN | apply below_drew1) | exact HB.out)) hb); clear HB; have HB := HBn; clear HBn; have HKO := Aside0.mk hk; have hDl : Aside0 (D < w4.heap.size) := ⟨(Array.getElem?_eq_some_iff.1 (KD4.out)).1⟩; have hRl : Aside0 (w.heap.size < w4.heap.size) := ⟨blk_lt BR4.out⟩; clear hb hk
            refine hK.out _ _ (fun _ => hS5) ?_
            clear hK K hHeld hS5
            intro _
            (try simp only [Act.put, List.setIfInBounds_toArray, List.set_cons_zero, List.set_cons_succ])
            refine wpAnyL_one (i := 6) (by kernel_rfl) (by simp only [List.getElem?_toArray, List.getElem?_cons_succ, List.getElem?_cons_zero]; rfl) (fun K hK => ?_)
            refine step_store_F rfl 34 _ _ rfl w.heap.size 0 cs rfl rfl (fun u hu => kStep.K_one HKO.out.now u hu) 34 _ cs.toArray BK.out (by rw [kStep.K_len HKO.out.now]; first | done | decide) (by rw [kStep.K_len HKO.out.now]; kernel_rfl) (congrArg List.toArray (by rw [kStep.K_len HKO.out.now]; exact List.append_nil cs)) ?_
            intro w8 hbk hst
            have BR8 := Aside0.mk hbk
            have HK8 := Aside0.mk (hst.blk HK9.out hDr.out)
            have HB8 := Aside0.mk (hst.up HB.out (Nat.le_refl _))
            have HKS8 := Aside0.mk (hst.hol HKO.out (fun h => h hRl.out))
            refine hK.out _ _ (fun h => absurd rfl h) ?_
            clear hK K hbk hst
            intro _
            (try simp only [Act.put, List.setIfInBounds_toArray, List.set_cons_zero, List.set_cons_succ])
            refine wpAnyL_done (by kernel_rfl) ?_ _
            refine NoPanic.normal ?_
            go_wp2
            (refine ⟨by simp, .inl ⟨_, _, rfl, run_takeDeferred HK8.out, ?_⟩⟩; refine ⟨_, results_cell_row rfl _ _ w.heap.size 34 _ (0, 0) _ rfl ((World.putObj_heap_other (by have := hbel.size; omega)).trans BR8.out) Tryz.underlying34 rfl (by rw [List.size_toArray, kStep.K_len HKO.out.now]; kernel_rfl), ?_⟩; exact ⟨⟨_, rfl, (HKS8.out.kept (belowK_b (w := w) (n₀ := 0) (Nat.zero_le _) w8 D _ _ (by have := hbel.size; omega) HK8.out rfl rfl) (fun k hk hF => World.putObj_heap_other (fun e => hF (by rw [e]; exact hDl.out)))).mono (fun k h h3 => h (Nat.lt_trans h3 hRl.out))⟩, HB8.out.trans (belowK_b (w := w) (Nat.le_refl _) w8 D _ _ (by have := hbel.size; omega) HK8.out rfl rfl)⟩)
        · rw [if_neg hms] at hRr
          have hmb : (v.toList == [109, 115]) = false := beq_eq_false_iff_ne.2 hms
          clear hms
          obtain ⟨A2, hA2⟩ : ∃ X, (if c1 = 2 then some ⟨b1, o1, none⟩ else some ⟨b1, o1 + 2, none⟩ : Option Addr) = X := ⟨_, rfl⟩
          have HA2 := Aside0.mk hA2
          have HRD : Aside0 (∀ w', Below w.heap.size w w' → Kd.string.C w' (some ⟨b1, o1, none⟩) (n2 + 2) (v :: k :: ws) → Calls Tryz.prog 21 #[.string v, .string k, .slice A2 n2 (c1 - 2)] w' (ReadP v k (readP b64 v k ws) w')) := ⟨fun w' hb hCC => by
            have hC3 := C_drop2I (l := ws) (by rw [HN2.out]; exact hCC) (show ws.length + 2 ≤ c1 by rw [HN2.out]; omega)
            rw [hA2] at hC3
            have := read_calls b64 v k ws A2 (c1 - 2) w' hC3 (by have := HN2.out; omega) HWS.out (by have := HN2.out; omega) HVS.out HKS.out (Tabs.below HT.out hb) (H64.out k HKS.out)
            rw [HN2.out] at this
            exact this⟩
          obtain ⟨R1, hR1⟩ : ∃ r, readP b64 v k ws = r := ⟨_, rfl⟩
          rw [hR1] at HRD hRr
          have HR1 := Aside0.mk hR1
          clear hR1 hA2
          cases R1 with
          | error er =>
            dsimp only at hRr
            subst hRr
            have hne := (readP_err HR1.out).1
            have HFQ : Aside0 (∀ w', Calls Tryz.prog 16 #[.int .i64 ((m : Int) + 1), .string er] w' fun e w'' => e = .returned (.agg (stepFC ((m : Int) + 1) er 0 false).toArray) ∧ Below w'.heap.size w' w'') := ⟨fun w' => fault_ex _ er w' (readP_err HR1.out).2⟩
            go_upto_region 23 with (first | (go_at_call 19; (with_reducible refine (HFLG.out _).mono ?_); rintro e w3 ⟨rfl, hb⟩; have BRn := Aside0.mk (blk_below BR1.out hb); have KDn := Aside0.mk (blk_below HKD.out hb); have C2n := Aside0.mk (Kd.C_below HC2.out hb); have s0 := (Below.cell hb (p := ⟨gl, 0, none⟩) hgW).trans t0; have s1 := (Below.cell hb (p := ⟨b1, o1, none⟩) hb1).trans hcv; have s2 := (Below.cell hb (p := ⟨b1, o1 + 1, none⟩) hb1).trans hck; have hg3 : gl < w3.heap.size := Nat.lt_of_lt_of_le hgW hb.size; have hb3 : b1 < w3.heap.size := Nat.lt_of_lt_of_le hb1 hb.size; have HBn := Aside0.mk (below_step (by repeat (first | (with_reducible first | exact HB.out | apply below_alloc | apply pw_below_drewN | apply below_drew1) | exact HB.out)) hb); clear HB; have HB := HBn; clear HBn; clear BR1 HKD HC2 t0 hcv hck hb; have BR1 := BRn; have HKD := KDn; have HC2 := C2n; clear BRn KDn C2n))
            refine wp_region_noPanic ?_
            refine wp_region_L (S := fun w' => Below w3.heap.size w3 w') 13 (by kernel_rfl) (below_drew1 (Below.refl _ _)) ?_
            intro hHeld
            have BR4 := Aside0.mk (show w3.drew.heap[w.heap.size]? = _ from blk_drew BR1.out)
            have KD4 := Aside0.mk (show w3.drew.heap[D]? = _ from blk_drew HKD.out)
            have HB4 : Aside0 (Below w.heap.size w w3.drew) := ⟨(by repeat (first | (with_reducible first | exact HB.out | apply below_alloc | apply pw_below_drewN | apply below_drew1) | exact HB.out))⟩
            obtain ⟨w4, hw4⟩ : ∃ w4, w3.drew = w4 := ⟨_, rfl⟩
            rw [hw4] at hHeld BR4 KD4 HB4 ⊢
            clear hw4
            have hA2 := HA2.out
            (refine wpAnyL_take (i := 0) (v := ?_) (by simp only [List.getElem?_toArray, List.getElem?_cons_succ, List.getElem?_cons_zero]; rfl) (by kernel_rfl) (by kernel_rfl) (by kernel_rfl) (by kernel_rfl) (fun _ _ _ h => h) (Or.inl ⟨by rfl, ?_⟩) (by exact hHeld) ?_; rotate_left; (focus (intro w' hSw; have s0' := (Below.cell hSw (p := ⟨gl, 0, none⟩) hg3).trans s0; have s1' := (Below.cell hSw (p := ⟨b1, o1, none⟩) hb3).trans s1; have s2' := (Below.cell hSw (p := ⟨b1, o1 + 1, none⟩) hb3).trans s2; clear hSw; go_simp; (try with_reducible rfl); done)); (try simp only [Act.put, List.setIfInBounds_toArray, List.set_cons_zero, List.set_cons_succ]))
            (refine wpAnyL_take (i := 1) (v := ?_) (by simp only [List.getElem?_toArray, List.getElem?_cons_succ, List.getElem?_cons_zero]; rfl) (by kernel_rfl) (by kernel_rfl) (by kernel_rfl) (by kernel_rfl) (fun _ _ _ h => h) (Or.inl ⟨by rfl, ?_⟩) (by exact hHeld) ?_; rotate_left; (focus (intro w' hSw; have s0' := (Below.cell hSw (p := ⟨gl, 0, none⟩) hg3).trans s0; have s1' := (Below.cell hSw (p := ⟨b1, o1, none⟩) hb3).trans s1; have s2' := (Below.cell hSw (p := ⟨b1, o1 + 1, none⟩) hb3).trans s2; clear hSw; go_simp; (try with_reducible rfl); done)); (try simp only [Act.put, List.setIfInBounds_toArray, List.set_cons_zero, List.set_cons_succ]))
            (refine wpAnyL_take (i := 2) (v := ?_) (by simp only [List.getElem?_toArray, List.getElem?_cons_succ, List.getElem?_cons_zero]; rfl) (by kernel_rfl) (by kernel_rfl) (by kernel_rfl) (by kernel_rfl) (fun _ _ _ h => h) (Or.inl ⟨by rfl, ?_⟩) (by exact hHeld) ?_; rotate_left; (focus (intro w' hSw; have s0' := (Below.cell hSw (p := ⟨gl, 0, none⟩) hg3).trans s0; have s1' := (Below.cell hSw (p := ⟨b1, o1, none⟩) hb3).trans s1; have s2' := (Below.cell hSw (p := ⟨b1, o1 + 1, none⟩) hb3).trans s2; clear hSw; go_simp; (try with_reducible rfl); done)); (try simp only [Act.put, List.setIfInBounds_toArray, List.set_cons_zero, List.set_cons_succ]))
            (refine wpAnyL_take (i := 3) (v := ?_) (by simp only [List.getElem?_toArray, List.getElem?_cons_succ, List.getElem?_cons_zero]; rfl) (by kernel_rfl) (by kernel_rfl) (by kernel_rfl) (by kernel_rfl) (fun _ _ _ h => h) (Or.inl ⟨by rfl, ?_⟩) (by exact hHeld) ?_; rotate_left; (focus (intro w' hSw; have s0' := (Below.cell hSw (p := ⟨gl, 0, none⟩) hg3).trans s0; have s1' := (Below.cell hSw (p := ⟨b1, o1, none⟩) hb3).trans s1; have s2' := (Below.cell hSw (p := ⟨b1, o1 + 1, none⟩) hb3).trans s2; clear hSw; go_simp; (try with_reducible rfl); done)); (try simp only [Act.put, List.setIfInBounds_toArray, List.set_cons_zero, List.set_cons_succ]))
            (refine wpAnyL_take (i := 4) (v := ?_) (by simp only [List.getElem?_toArray, List.getElem?_cons_succ, List.getElem?_cons_zero]; rfl) (by kernel_rfl) (by kernel_rfl) (by kernel_rfl) (by kernel_rfl) (fun _ _ _ h => h) (Or.inl ⟨by rfl, ?_⟩) (by exact hHeld) ?_; rotate_left; (focus (intro w' hSw; have s0' := (Below.cell hSw (p := ⟨gl, 0, none⟩) hg3).trans s0; have s1' := (Below.cell hSw (p := ⟨b1, o1, none⟩) hb3).trans s1; have s2' := (Below.cell hSw (p := ⟨b1, o1 + 1, none⟩) hb3).trans s2; clear hSw; go_simp; (try with_reducible rfl); done)); (try simp only [Act.put, List.setIfInBounds_toArray, List.set_cons_zero, List.set_cons_succ]))
            (refine wpAnyL_take (i := 5) (v := ?_) (by simp only [List.getElem?_toArray, List.getElem?_cons_succ, List.getElem?_cons_zero]; rfl) (by kernel_rfl) (by kernel_rfl) (by kernel_rfl) (by kernel_rfl) (fun _ _ _ h => h) (Or.inl ⟨by rfl, ?_⟩) (by exact hHeld) ?_; rotate_left; (focus (intro w' hSw; have s0' := (Below.cell hSw (p := ⟨gl, 0, none⟩) hg3).trans s0; have s1' := (Below.cell hSw (p := ⟨b1, o1, none⟩) hb3).trans s1; have s2' := (Below.cell hSw (p := ⟨b1, o1 + 1, none⟩) hb3).trans s2; clear hSw; go_simp; (try with_reducible rfl); done)); (try simp only [Act.put, List.setIfInBounds_toArray, List.set_cons_zero, List.set_cons_succ]))
            (refine wpAnyL_take (i := 6) (v := ?_) (by simp only [List.getElem?_toArray, List.getElem?_cons_succ, List.getElem?_cons_zero]; rfl) (by kernel_rfl) (by kernel_rfl) (by kernel_rfl) (by kernel_rfl) (fun _ _ _ h => h) (Or.inl ⟨by rfl, ?_⟩) (by exact hHeld) ?_; rotate_left; (focus (intro w' hSw; have s0' := (Below.cell hSw (p := ⟨gl, 0, none⟩) hg3).trans s0; have s1' := (Below.cell hSw (p := ⟨b1, o1, none⟩) hb3).trans s1; have s2' := (Below.cell hSw (p := ⟨b1, o1 + 1, none⟩) hb3).trans s2; clear hSw; go_simp; (try with_reducible rfl); done)); (try simp only [Act.put, List.setIfInBounds_toArray, List.set_cons_zero, List.set_cons_succ]))
            (refine wpAnyL_take (i := 7) (v := ?_) (by simp only [List.getElem?_toArray, List.getElem?_cons_succ, List.getElem?_cons_zero]; rfl) (by kernel_rfl) (by kernel_rfl) (by kernel_rfl) (by kernel_rfl) (fun _ _ _ h => h) (Or.inl ⟨by rfl, ?_⟩) (by exact hHeld) ?_; rotate_left; (focus (intro w' hSw; have s0' := (Below.cell hSw (p := ⟨gl, 0, none⟩) hg3).trans s0; have s1' := (Below.cell hSw (p := ⟨b1, o1, none⟩) hb3).trans s1; have s2' := (Below.cell hSw (p := ⟨b1, o1 + 1, none⟩) hb3).trans s2; clear hSw; go_simp; (try with_reducible rfl); done)); (try simp only [Act.put, List.setIfInBounds_toArray, List.set_cons_zero, List.set_cons_succ]))
            clear hA2
            refine wpAnyL_one (i := 8) (by kernel_rfl) (by simp only [List.getElem?_toArray, List.getElem?_cons_succ, List.getElem?_cons_zero]; rfl) (fun K hK => ?_)
            go_simp
            (go_at_call 21; (with_reducible refine (HRD.out _ HB4.out (Kd.C_below HC2.out hHeld)).mono ?_); rintro e w5 hrp)
            have hS5 := below_step hHeld hrp.1
            have BR5 := Aside0.mk (blk_below BR4.out hrp.1)
            have KD5 := Aside0.mk (blk_below KD4.out hrp.1)
            have HB5 := Aside0.mk (below_step HB4.out hrp.1)
            obtain ⟨p, rfl⟩ := hrp.2
            refine hK.out _ _ (fun _ => hS5) ?_
            clear hK K hHeld hS5 hrp HB
            intro hHeld
            have hHeld := hHeld (by decide)
            have HB := HB5
            (try simp only [Act.put, List.setIfInBounds_toArray, List.set_cons_zero, List.set_cons_succ])
            (refine wpAnyL_take (i := 9) (v := ?_) (by simp only [List.getElem?_toArray, List.getElem?_cons_succ, List.getElem?_cons_zero]; rfl) (by kernel_rfl) (by kernel_rfl) (by kernel_rfl) (by kernel_rfl) (fun _ _ _ h => h) (Or.inl ⟨by rfl, ?_⟩) (by exact hHeld) ?_; rotate_left; (focus (intro w' hSw; have s0' := (Below.cell hSw (p := ⟨gl, 0, none⟩) hg3).trans s0; have s1' := (Below.cell hSw (p := ⟨b1, o1, none⟩) hb3).trans s1; have s2' := (Below.cell hSw (p := ⟨b1, o1 + 1, none⟩) hb3).trans s2; clear hSw; go_simp; (try with_reducible rfl); done)); (try simp only [Act.put, List.setIfInBounds_toArray, List.set_cons_zero, List.set_cons_succ]))
            (refine wpAnyL_take (i := 10) (v := ?_) (by simp only [List.getElem?_toArray, List.getElem?_cons_succ, List.getElem?_cons_zero]; rfl) (by kernel_rfl) (by kernel_rfl) (by kernel_rfl) (by kernel_rfl) (fun _ _ _ h => h) (Or.inl ⟨by rfl, ?_⟩) (by exact hHeld) ?_; rotate_left; (focus (intro w' hSw; have s0' := (Below.cell hSw (p := ⟨gl, 0, none⟩) hg3).trans s0; have s1' := (Below.cell hSw (p := ⟨b1, o1, none⟩) hb3).trans s1; have s2' := (Below.cell hSw (p := ⟨b1, o1 + 1, none⟩) hb3).trans s2; clear hSw; go_simp; (try with_reducible rfl); done)); (try simp only [Act.put, List.setIfInBounds_toArray, List.set_cons_zero, List.set_cons_succ]))
            (refine wpAnyL_take (i := 11) (v := ?_) (by simp only [List.getElem?_toArray, List.getElem?_cons_succ, List.getElem?_cons_zero]; rfl) (by kernel_rfl) (by kernel_rfl) (by kernel_rfl) (by kernel_rfl) (fun _ _ _ h => h) (Or.inl ⟨by rfl, ?_⟩) (by exact hHeld) ?_; rotate_left; (focus (intro w' hSw; have s0' := (Below.cell hSw (p := ⟨gl, 0, none⟩) hg3).trans s0; have s1' := (Below.cell hSw (p := ⟨b1, o1, none⟩) hb3).trans s1; have s2' := (Below.cell hSw (p := ⟨b1, o1 + 1, none⟩) hb3).trans s2; clear hSw; go_simp; (try with_reducible rfl); done)); (try simp only [Act.put, List.setIfInBounds_toArray, List.set_cons_zero, List.set_cons_succ]))
            (refine wpAnyL_take (i := 12) (v := ?_) (by simp only [List.getElem?_toArray, List.getElem?_cons_succ, List.getElem?_cons_zero]; rfl) (by kernel_rfl) (by kernel_rfl) (by kernel_rfl) (by kernel_rfl) (fun _ _ _ h => h) (Or.inl ⟨by rfl, ?_⟩) (by exact hHeld) ?_; rotate_left; (focus (intro w' hSw; have s0' := (Below.cell hSw (p := ⟨gl, 0, none⟩) hg3).trans s0; have s1' := (Below.cell hSw (p := ⟨b1, o1, none⟩) hb3).trans s1; have s2' := (Below.cell hSw (p := ⟨b1, o1 + 1, none⟩) hb3).trans s2; clear hSw; go_simp; (try with_reducible rfl); done)); (try simp only [Act.put, List.setIfInBounds_toArray, List.set_cons_zero, List.set_cons_succ]))
            refine wpAnyL_one (i := 13) (by kernel_rfl) (by simp only [List.getElem?_toArray, List.getElem?_cons_succ, List.getElem?_cons_zero]; rfl) (fun K hK => ?_)
            go_simp
            refine hK.out _ _ (fun h => absurd rfl h) ?_
            clear hK K hHeld HB5
            intro _
            (try simp only [Act.put, List.setIfInBounds_toArray, List.set_cons_zero, List.set_cons_succ])
            refine wpAnyL_done (by kernel_rfl) ?_ _
            refine NoPanic.normal ?_
            go_upto_region 25 with fail
            go_wp2_with (first | (go_at_call 16; (with_reducible refine (HFQ.out _).mono ?_); rintro e w6 ⟨rfl, hb⟩; unfold stepFC; have BR6 := Aside0.mk (blk_below BR5.out hb); have HK6 := Aside0.mk (blk_below KD5.out hb); have HBn := Aside0.mk (below_step (by repeat (first | (with_reducible first | exact HB.out | apply below_alloc | apply pw_below_drewN | apply below_drew1) | exact HB.out)) hb); clear HB; have HB := HBn; clear HBn; clear hb) | (refine wpList_store_F rfl 34 _ _ rfl w.heap.size 0 (stepFC ((m : Int) + 1) er 0 false) rfl rfl (by simp [stepFC, Value.oneCell']) 34 zStepC (stepFC ((m : Int) + 1) er 0 false).toArray BR6.out (by simp [zStepC, stepFC]) (by kernel_rfl) rfl ?_; intro w8 hbk hst; have BR8 := Aside0.mk hbk; have HK8 := Aside0.mk (hst.blk HK6.out hDr.out); have HB8 := Aside0.mk (hst.up HB.out (Nat.le_refl _)); clear hbk hst))
            (refine ⟨by simp, .inl ⟨_, _, rfl, run_takeDeferred HK8.out, ?_⟩⟩; refine ⟨_, results_cell_row rfl _ _ w.heap.size 34 _ (0, 0) _ rfl ((World.putObj_heap_other (by have := hbel.size; omega)).trans BR8.out) Tryz.underlying34 rfl (by kernel_rfl), ?_⟩; exact ⟨⟨_, rfl, fun w2 _ _ => stepFS_K w2 ((m : Int) + 1) er 0 false⟩, HB8.out.trans (belowK_b (w := w) (Nat.le_refl _) w8 D _ _ (by have := hbel.size; omega) HK8.out rfl rfl)⟩)
          | ok y =>
            dsimp only at hRr
            subst hRr
            go_upto_region 23 with (first | (go_at_call 19; (with_reducible refine (HFLG.out _).mono ?_); rintro e w3 ⟨rfl, hb⟩; have BRn := Aside0.mk (blk_below BR1.out hb); have KDn := Aside0.mk (blk_below HKD.out hb); have C2n := Aside0.mk (Kd.C_below HC2.out hb); have s0 := (Below.cell hb (p := ⟨gl, 0, none⟩) hgW).trans t0; have s1 := (Below.cell hb (p := ⟨b1, o1, none⟩) hb1).trans hcv; have s2 := (Below.cell hb (p := ⟨b1, o1 + 1, none⟩) hb1).trans hck; have hg3 : gl < w3.heap.size := Nat.lt_of_lt_of_le hgW hb.size; have hb3 : b1 < w3.heap.size := Nat.lt_of_lt_of_le hb1 hb.size; have HBn := Aside0.mk (below_step (by repeat (first | (with_reducible first | exact HB.out | apply below_alloc | apply pw_below_drewN | apply below_drew1) | exact HB.out)) hb); clear HB; have HB := HBn; clear HBn; clear BR1 HKD HC2 t0 hcv hck hb; have BR1 := BRn; have HKD := KDn; have HC2 := C2n; clear BRn KDn C2n))
            refine wp_region_noPanic ?_
            refine wp_region_L (S := fun w' => Below w3.heap.size w3 w') 13 (by kernel_rfl) (below_drew1 (Below.refl _ _)) ?_
            intro hHeld
            have BR4 := Aside0.mk (show w3.drew.heap[w.heap.size]? = _ from blk_drew BR1.out)
            have KD4 := Aside0.mk (show w3.drew.heap[D]? = _ from blk_drew HKD.out)
            have HB4 : Aside0 (Below w.heap.size w w3.drew) := ⟨(by repeat (first | (with_reducible first | exact HB.out | apply below_alloc | apply pw_below_drewN | apply below_drew1) | exact HB.out))⟩
            obtain ⟨w4, hw4⟩ : ∃ w4, w3.drew = w4 := ⟨_, rfl⟩
            rw [hw4] at hHeld BR4 KD4 HB4 ⊢
            clear hw4
            have hA2 := HA2.out
            (refine wpAnyL_take (i := 0) (v := ?_) (by simp only [List.getElem?_toArray, List.getElem?_cons_succ, List.getElem?_cons_zero]; rfl) (by kernel_rfl) (by kernel_rfl) (by kernel_rfl) (by kernel_rfl) (fun _ _ _ h => h) (Or.inl ⟨by rfl, ?_⟩) (by exact hHeld) ?_; rotate_left; (focus (intro w' hSw; have s0' := (Below.cell hSw (p := ⟨gl, 0, none⟩) hg3).trans s0; have s1' := (Below.cell hSw (p := ⟨b1, o1, none⟩) hb3).trans s1; have s2' := (Below.cell hSw (p := ⟨b1, o1 + 1, none⟩) hb3).trans s2; clear hSw; go_simp; (try with_reducible rfl); done)); (try simp only [Act.put, List.setIfInBounds_toArray, List.set_cons_zero, List.set_cons_succ]))
            (refine wpAnyL_take (i := 1) (v := ?_) (by simp only [List.getElem?_toArray, List.getElem?_cons_succ, List.getElem?_cons_zero]; rfl) (by kernel_rfl) (by kernel_rfl) (by kernel_rfl) (by kernel_rfl) (fun _ _ _ h => h) (Or.inl ⟨by rfl, ?_⟩) (by exact hHeld) ?_; rotate_left; (focus (intro w' hSw; have s0' := (Below.cell hSw (p := ⟨gl, 0, none⟩) hg3).trans s0; have s1' := (Below.cell hSw (p := ⟨b1, o1, none⟩) hb3).trans s1; have s2' := (Below.cell hSw (p := ⟨b1, o1 + 1, none⟩) hb3).trans s2; clear hSw; go_simp; (try with_reducible rfl); done)); (try simp only [Act.put, List.setIfInBounds_toArray, List.set_cons_zero, List.set_cons_succ]))
            (refine wpAnyL_take (i := 2) (v := ?_) (by simp only [List.getElem?_toArray, List.getElem?_cons_succ, List.getElem?_cons_zero]; rfl) (by kernel_rfl) (by kernel_rfl) (by kernel_rfl) (by kernel_rfl) (fun _ _ _ h => h) (Or.inl ⟨by rfl, ?_⟩) (by exact hHeld) ?_; rotate_left; (focus (intro w' hSw; have s0' := (Below.cell hSw (p := ⟨gl, 0, none⟩) hg3).trans s0; have s1' := (Below.cell hSw (p := ⟨b1, o1, none⟩) hb3).trans s1; have s2' := (Below.cell hSw (p := ⟨b1, o1 + 1, none⟩) hb3).trans s2; clear hSw; go_simp; (try with_reducible rfl); done)); (try simp only [Act.put, List.setIfInBounds_toArray, List.set_cons_zero, List.set_cons_succ]))
            (refine wpAnyL_take (i := 3) (v := ?_) (by simp only [List.getElem?_toArray, List.getElem?_cons_succ, List.getElem?_cons_zero]; rfl) (by kernel_rfl) (by kernel_rfl) (by kernel_rfl) (by kernel_rfl) (fun _ _ _ h => h) (Or.inl ⟨by rfl, ?_⟩) (by exact hHeld) ?_; rotate_left; (focus (intro w' hSw; have s0' := (Below.cell hSw (p := ⟨gl, 0, none⟩) hg3).trans s0; have s1' := (Below.cell hSw (p := ⟨b1, o1, none⟩) hb3).trans s1; have s2' := (Below.cell hSw (p := ⟨b1, o1 + 1, none⟩) hb3).trans s2; clear hSw; go_simp; (try with_reducible rfl); done)); (try simp only [Act.put, List.setIfInBounds_toArray, List.set_cons_zero, List.set_cons_succ]))
            (refine wpAnyL_take (i := 4) (v := ?_) (by simp only [List.getElem?_toArray, List.getElem?_cons_succ, List.getElem?_cons_zero]; rfl) (by kernel_rfl) (by kernel_rfl) (by kernel_rfl) (by kernel_rfl) (fun _ _ _ h => h) (Or.inl ⟨by rfl, ?_⟩) (by exact hHeld) ?_; rotate_left; (focus (intro w' hSw; have s0' := (Below.cell hSw (p := ⟨gl, 0, none⟩) hg3).trans s0; have s1' := (Below.cell hSw (p := ⟨b1, o1, none⟩) hb3).trans s1; have s2' := (Below.cell hSw (p := ⟨b1, o1 + 1, none⟩) hb3).trans s2; clear hSw; go_simp; (try with_reducible rfl); done)); (try simp only [Act.put, List.setIfInBounds_toArray, List.set_cons_zero, List.set_cons_succ]))
            (refine wpAnyL_take (i := 5) (v := ?_) (by simp only [List.getElem?_toArray, List.getElem?_cons_succ, List.getElem?_cons_zero]; rfl) (by kernel_rfl) (by kernel_rfl) (by kernel_rfl) (by kernel_rfl) (fun _ _ _ h => h) (Or.inl ⟨by rfl, ?_⟩) (by exact hHeld) ?_; rotate_left; (focus (intro w' hSw; have s0' := (Below.cell hSw (p := ⟨gl, 0, none⟩) hg3).trans s0; have s1' := (Below.cell hSw (p := ⟨b1, o1, none⟩) hb3).trans s1; have s2' := (Below.cell hSw (p := ⟨b1, o1 + 1, none⟩) hb3).trans s2; clear hSw; go_simp; (try with_reducible rfl); done)); (try simp only [Act.put, List.setIfInBounds_toArray, List.set_cons_zero, List.set_cons_succ]))
            (refine wpAnyL_take (i := 6) (v := ?_) (by simp only [List.getElem?_toArray, List.getElem?_cons_succ, List.getElem?_cons_zero]; rfl) (by kernel_rfl) (by kernel_rfl) (by kernel_rfl) (by kernel_rfl) (fun _ _ _ h => h) (Or.inl ⟨by rfl, ?_⟩) (by exact hHeld) ?_; rotate_left; (focus (intro w' hSw; have s0' := (Below.cell hSw (p := ⟨gl, 0, none⟩) hg3).trans s0; have s1' := (Below.cell hSw (p := ⟨b1, o1, none⟩) hb3).trans s1; have s2' := (Below.cell hSw (p := ⟨b1, o1 + 1, none⟩) hb3).trans s2; clear hSw; go_simp; (try with_reducible rfl); done)); (try simp only [Act.put, List.setIfInBounds_toArray, List.set_cons_zero, List.set_cons_succ]))
            (refine wpAnyL_take (i := 7) (v := ?_) (by simp only [List.getElem?_toArray, List.getElem?_cons_succ, List.getElem?_cons_zero]; rfl) (by kernel_rfl) (by kernel_rfl) (by kernel_rfl) (by kernel_rfl) (fun _ _ _ h => h) (Or.inl ⟨by rfl, ?_⟩) (by exact hHeld) ?_; rotate_left; (focus (intro w' hSw; have s0' := (Below.cell hSw (p := ⟨gl, 0, none⟩) hg3).trans s0; have s1' := (Below.cell hSw (p := ⟨b1, o1, none⟩) hb3).trans s1; have s2' := (Below.cell hSw (p := ⟨b1, o1 + 1, none⟩) hb3).trans s2; clear hSw; go_simp; (try with_reducible rfl); done)); (try simp only [Act.put, List.setIfInBounds_toArray, List.set_cons_zero, List.set_cons_succ]))
            clear hA2
            refine wpAnyL_one (i := 8) (by kernel_rfl) (by simp only [List.getElem?_toArray, List.getElem?_cons_succ, List.getElem?_cons_zero]; rfl) (fun K hK => ?_)
            go_simp
            (go_at_call 21; (with_reducible refine (HRD.out _ HB4.out (Kd.C_below HC2.out hHeld)).mono ?_); rintro e w5 hrp)
            have hS5 := below_step hHeld hrp.1
            have BR5 := Aside0.mk (blk_below BR4.out hrp.1)
            have KD5 := Aside0.mk (blk_below KD4.out hrp.1)
            have HB5 := Aside0.mk (below_step HB4.out hrp.1)
            obtain ⟨g, rfl, hgw, hlk, hval, -⟩ := hrp.2
            have HRQ := Aside0.mk (req_at0 y g w4.heap.size ((m : Int) + 1) k w5 hlk hval hgw)
            clear hgw hlk hval
            refine hK.out _ _ (fun _ => hS5) ?_
            clear hK K hHeld hS5 hrp HB
            intro hHeld
            have hHeld := hHeld (by decide)
            have HB := HB5
            (try simp only [Act.put, List.setIfInBounds_toArray, List.set_cons_zero, List.set_cons_succ])
            (refine wpAnyL_take (i := 9) (v := ?_) (by simp only [List.getElem?_toArray, List.getElem?_cons_succ, List.getElem?_cons_zero]; rfl) (by kernel_rfl) (by kernel_rfl) (by kernel_rfl) (by kernel_rfl) (fun _ _ _ h => h) (Or.inl ⟨by rfl, ?_⟩) (by exact hHeld) ?_; rotate_left; (focus (intro w' hSw; have s0' := (Below.cell hSw (p := ⟨gl, 0, none⟩) hg3).trans s0; have s1' := (Below.cell hSw (p := ⟨b1, o1, none⟩) hb3).trans s1; have s2' := (Below.cell hSw (p := ⟨b1, o1 + 1, none⟩) hb3).trans s2; clear hSw; go_simp; (try with_reducible rfl); done)); (try simp only [Act.put, List.setIfInBounds_toArray, List.set_cons_zero, List.set_cons_succ]))
            (refine wpAnyL_take (i := 10) (v := ?_) (by simp only [List.getElem?_toArray, List.getElem?_cons_succ, List.getElem?_cons_zero]; rfl) (by kernel_rfl) (by kernel_rfl) (by kernel_rfl) (by kernel_rfl) (fun _ _ _ h => h) (Or.inl ⟨by rfl, ?_⟩) (by exact hHeld) ?_; rotate_left; (focus (intro w' hSw; have s0' := (Below.cell hSw (p := ⟨gl, 0, none⟩) hg3).trans s0; have s1' := (Below.cell hSw (p := ⟨b1, o1, none⟩) hb3).trans s1; have s2' := (Below.cell hSw (p := ⟨b1, o1 + 1, none⟩) hb3).trans s2; clear hSw; go_simp; (try with_reducible rfl); done)); (try simp only [Act.put, List.setIfInBounds_toArray, List.set_cons_zero, List.set_cons_succ]))
            (refine wpAnyL_take (i := 11) (v := ?_) (by simp only [List.getElem?_toArray, List.getElem?_cons_succ, List.getElem?_cons_zero]; rfl) (by kernel_rfl) (by kernel_rfl) (by kernel_rfl) (by kernel_rfl) (fun _ _ _ h => h) (Or.inl ⟨by rfl, ?_⟩) (by exact hHeld) ?_; rotate_left; (focus (intro w' hSw; have s0' := (Below.cell hSw (p := ⟨gl, 0, none⟩) hg3).trans s0; have s1' := (Below.cell hSw (p := ⟨b1, o1, none⟩) hb3).trans s1; have s2' := (Below.cell hSw (p := ⟨b1, o1 + 1, none⟩) hb3).trans s2; clear hSw; go_simp; (try with_reducible rfl); done)); (try simp only [Act.put, List.setIfInBounds_toArray, List.set_cons_zero, List.set_cons_succ]))
            (refine wpAnyL_take (i := 12) (v := ?_) (by simp only [List.getElem?_toArray, List.getElem?_cons_succ, List.getElem?_cons_zero]; rfl) (by kernel_rfl) (by kernel_rfl) (by kernel_rfl) (by kernel_rfl) (fun _ _ _ h => h) (Or.inl ⟨by rfl, ?_⟩) (by exact hHeld) ?_; rotate_left; (focus (intro w' hSw; have s0' := (Below.cell hSw (p := ⟨gl, 0, none⟩) hg3).trans s0; have s1' := (Below.cell hSw (p := ⟨b1, o1, none⟩) hb3).trans s1; have s2' := (Below.cell hSw (p := ⟨b1, o1 + 1, none⟩) hb3).trans s2; clear hSw; go_simp; (try with_reducible rfl); done)); (try simp only [Act.put, List.setIfInBounds_toArray, List.set_cons_zero, List.set_cons_succ]))
            refine wpAnyL_one (i := 13) (by kernel_rfl) (by simp only [List.getElem?_toArray, List.getElem?_cons_succ, List.getElem?_cons_zero]; rfl) (fun K hK => ?_)
            go_simp
            refine hK.out _ _ (fun h => absurd rfl h) ?_
            clear hK K hHeld HB5
            intro _
            (try simp only [Act.put, List.setIfInBounds_toArray, List.set_cons_zero, List.set_cons_succ])
            refine wpAnyL_done (by kernel_rfl) ?_ _
            refine NoPanic.normal ?_
            go_upto_region 26 with fail
            go_wp2_with (first | (go_at_call 18; (with_reducible refine (HRQ.out).mono ?_); rintro e w7 ⟨⟨cs, rfl, hk⟩, hb⟩; have BK := Aside0.mk (blk_below BR5.out hb); have HK9 := Aside0.mk (blk_below KD5.out hb); have HBn := Aside0.mk (below_step (by repeat (first | (with_reducible first | exact HB.out | apply below_alloc | apply pw_below_drewN | apply below_drew1) | exact HB.out)) hb); clear HB; have HB := HBn; clear HBn; have HKO := Aside0.mk hk; have hDl : Aside0 (D < w4.heap.size) := ⟨(Array.getElem?_eq_some_iff.1 KD4.out).1⟩; have hRl : Aside0 (w.heap.size < w4.heap.size) := ⟨blk_lt BR4.out⟩; have hD5 : Aside0 (D < w5.heap.size) := ⟨(Array.getElem?_eq_some_iff.1 KD5.out).1⟩; have hR5 : Aside0 (w.heap.size < w5.heap.size) := ⟨blk_lt BR5.out⟩; clear hb hk) | (refine wpList_store_K HKO.out.now rfl 34 _ _ rfl w.heap.size rfl rfl 34 _ BK.out (by kernel_rfl) rfl ?_; intro w8 hbk hlow hfar; have BR8 := Aside0.mk hbk; have HB8 := Aside0.mk (HB.out.trans (hlow w.heap.size (Nat.le_refl _))); have HK8 := Aside0.mk ((hfar (fun k => k = D) (fun w2 => w2.heap[D]? = some (.deferred (some []))) (fun e => hDr.out e.symm) (fun w2 _ hk => (hk D (Array.getElem?_eq_some_iff.1 HK9.out).1 rfl).trans HK9.out)).now); have HKS8 := Aside0.mk (hfar _ _ (fun h => absurd (h hR5.out) (Nat.not_le.2 hRl.out)) HKO.out); clear hbk hlow hfar))
            (refine ⟨by simp, .inl ⟨_, _, rfl, run_takeDeferred HK8.out, ?_⟩⟩; refine ⟨_, results_cell_row rfl _ _ w.heap.size 34 _ (0, 0) _ rfl ((World.putObj_heap_other (by have := hbel.size; omega)).trans BR8.out) Tryz.underlying34 rfl (by rw [List.size_toArray, kStep.K_len HKO.out.now]; kernel_rfl), ?_⟩; exact ⟨⟨_, rfl, (HKS8.out.kept (belowK_b (w := w) (n₀ := 0) (Nat.zero_le _) w8 D _ _ (by have := hbel.size; omega) HK8.out rfl rfl) (fun k hk hF => World.putObj_heap_other (fun e => absurd (hF (by rw [e]; exact hD5.out)) (by rw [e]; exact Nat.not_le.2 hDl.out)))).mono (fun k h h3 => absurd (h (Nat.lt_trans h3 hR5.out)) (Nat.not_le.2 (Nat.lt_trans h3 hRl.out)))⟩, HB8.out.trans (belowK_b (w := w) (Nat.le_refl _) w8 D _ _ (by have := hbel.size; omega) HK8.out rfl rfl)⟩)
end Go.Proofs.YtdgeiadlijlkmaaGreatDoor.X
namespace Go.Proofs.YtdgeiadlijlkmaaGreatDoor.X
open Go.RowKit Go.Proofs.YtdgeiadlijlkmaaGreatDoorW.PrintWords Go.Proofs.YtdgeiadlijlkmaaGreatDoorW.PrintMore
set_option linter.unusedVariables false
set_option linter.unusedSimpArgs false
set_option maxRecDepth 100000 in
set_option maxHeartbeats 1000000 in
theorem rep_0 (w : World) : Calls Tryz.prog 117 #[.string (⟨#[61]⟩ : ByteArray), .int .i64 0] w fun e w' => e = .returned (.string ⟨#[]⟩) ∧ w' = w := by
  go_enter Tryz.func117, Tryz.ntmps117
  go_wp2
  go_ret
  exact ⟨rfl, rfl⟩
set_option maxRecDepth 100000 in
set_option maxHeartbeats 1000000 in
theorem rep_1 (w : World) : Calls Tryz.prog 117 #[.string (⟨#[61]⟩ : ByteArray), .int .i64 1] w fun e w' => e = .returned (.string (⟨#[61]⟩ : ByteArray)) ∧ w' = w := by
  go_enter Tryz.func117, Tryz.ntmps117
  go_wp2
  go_ret
  exact ⟨rfl, rfl⟩
set_option maxRecDepth 100000 in
set_option maxHeartbeats 4000000 in
theorem rep_2 (w : World) : Calls Tryz.prog 117 #[.string (⟨#[61]⟩ : ByteArray), .int .i64 2] w fun e w' => e = .returned (.string (⟨#[61, 61]⟩ : ByteArray)) ∧ Below w.heap.size w w' := by
  have HB := Aside0.mk (Below.refl w.heap.size w)
  have HM : Aside0 (∀ w', Calls Tryz.prog 121 #[.int .u64 1, .int .u64 2] w' fun e w'' => e = .returned (.tuple #[.int .u64 0, .int .u64 2]) ∧ w'' = w') := ⟨fun w' => Tryz.bits_Mul 1 2 (by decide) (by decide) w'⟩
  have HP : Aside0 (∀ l w', Calls Tryz.prog 54 #[.string ⟨((61 : UInt8) :: l).toArray⟩, .string (⟨#[61]⟩ : ByteArray)] w' fun e w'' => e = .returned (.bool true) ∧ w'' = w') := ⟨fun l w' => by
    have := Tryz.strings_HasPrefix ⟨((61 : UInt8) :: l).toArray⟩ (⟨#[61]⟩ : ByteArray) w'
    have e : Lib.hasPrefix (⟨((61 : UInt8) :: l).toArray⟩ : ByteArray).data.toList ((⟨#[61]⟩ : ByteArray) : ByteArray).data.toList = true := by simp [Lib.hasPrefix]
    rw [e] at this
    exact this⟩
  have HF : Aside0 (∀ (b : UInt8) l w', b ≠ 61 → Calls Tryz.prog 54 #[.string ⟨(b :: l).toArray⟩, .string (⟨#[61]⟩ : ByteArray)] w' fun e w'' => e = .returned (.bool false) ∧ w'' = w') := ⟨fun b l w' hb => by
    have := Tryz.strings_HasPrefix ⟨(b :: l).toArray⟩ (⟨#[61]⟩ : ByteArray) w'
    have e : Lib.hasPrefix (⟨(b :: l).toArray⟩ : ByteArray).data.toList ((⟨#[61]⟩ : ByteArray) : ByteArray).data.toList = false := by
      simp [Lib.hasPrefix]
      have : ((61 : UInt8) == b) = false := beq_eq_false_iff_ne.2 (Ne.symm hb)
      simp [List.isPrefixOf, this]
    rw [e] at this
    exact this⟩
  go_enter Tryz.func117, Tryz.ntmps117
  go_upto_region 9 with (first | (go_at_call 121; (with_reducible refine (HM.out _).mono ?_); rintro e w1 ⟨rfl, rfl⟩))
  go_wp2_with (first | (go_at_call 54; (with_reducible refine (HF.out 32 _ _ (by decide)).mono ?_); rintro e w2 ⟨rfl, rfl⟩) | (go_at_call 54; (with_reducible refine (HF.out 45 _ _ (by decide)).mono ?_); rintro e w2 ⟨rfl, rfl⟩) | (go_at_call 54; (with_reducible refine (HF.out 48 _ _ (by decide)).mono ?_); rintro e w2 ⟨rfl, rfl⟩) | (go_at_call 54; (with_reducible refine (HP.out _ _).mono ?_); rintro e w2 ⟨rfl, rfl⟩))
  go_ret
  exact ⟨by rfl, HB.out⟩
end Go.Proofs.YtdgeiadlijlkmaaGreatDoor.X
