/- Texts of this work, merged in build order: Parse2, Kd, Pl, ParseT, Conn3, WdP, Pl2, Pl3, Next, AwC, LawCB. -/
import Derived.Test.YtdjbbncoioghfaaGreatDoorZ4
import Derived.Laws.CopyOwn
import Derived.Deep.DeepCutAuto
import Derived.WalkMore
namespace Go.Proofs.YtdjbbncoioghfaaGreatDoor.X
open Go.RowKit Go.Shelf Go.Proofs.YtdjbbncoioghfaaGreatDoorW.PrintWords Go.Proofs.YtdjbbncoioghfaaGreatDoorW.PrintMore
set_option linter.unusedVariables false
set_option linter.unusedSimpArgs false
attribute [local go_sem] Oper.semAt_some
set_option maxHeartbeats 1000000 in
theorem mkWords_in (n : Nat) (s : ByteArray) (w : World) :
    CallsIn Fence.wide n Tryz.prog 45 #[.string s] w fun e w' => e = .returned (.func (.func 81) #[] #[.pointer (some ⟨w.heap.size, 0, none⟩)]) ∧ w' = w.alloc (.cells #[.string s] 9) := by
  refine callsIn_of_wp Tryz.func45 rfl trivial ?_ rfl
  simp only [Tryz.ntmps45, List.size_toArray, List.length_cons, List.length_nil, Nat.reduceAdd, Nat.reduceSub, Array.replicate_succ, Array.replicate_zero, List.push_toArray, List.append_toArray, List.nil_append, List.cons_append]
  gi_wp2
  go_ret
  exact ⟨rfl, rfl⟩
theorem mkWords_calls (s : ByteArray) (w : World) : Calls Tryz.prog 45 #[.string s] w fun e w' => e = .returned (.func (.func 81) #[] #[.pointer (some ⟨w.heap.size, 0, none⟩)]) ∧ w' = w.alloc (.cells #[.string s] 9) := callsIn_wide.1 (mkWords_in 1 s w)
theorem words_stops (n : Nat) (hn : 1 ≤ n) (Bn n₀ : Nat) (s : ByteArray) (hs : s.size ≤ 9223372036854775807) (w : World) (hBn : Bn < w.heap.size) (hc : w.cell? ⟨Bn, 0, none⟩ = some (.string s)) :
    SeqStopsK Fence.wide n Tryz.prog 81 #[.pointer (some ⟨Bn, 0, none⟩)] (fun x : ByteArray => #[Value.string x]) (Below n₀) (fun ys => ys = wordsB s) (fun pre => pre <+: wordsB s) (wordsB s).length w := fun l J Jx W hW hJ _ hY h0 =>
  words1_in n hn l Bn n₀ s hs J Jx hY W hJ ((hW.cell (p := ⟨Bn, 0, none⟩) hBn).trans hc) h0
theorem words_lenL (l : List UInt8) : (wordsL l).length ≤ l.length := by
  induction h : l.length using Nat.strongRecOn generalizing l with
  | _ n ih =>
    by_cases h0 : trimL l = []
    · rw [wordsL_nil _ h0]; simp
    · rw [wordsL_cons _ h0, List.length_cons]
      have h1 := tailW_lt l h0
      have h2 := ih _ (by omega) (tailW (trimL l)) rfl
      omega
theorem words_len (s : ByteArray) : (wordsB s).length ≤ s.size := by
  unfold wordsB
  rw [List.length_map]
  exact words_lenL _
/-- A block of cells, and the row that it holds, abide what is no cells. -/
theorem own_blkRow {β : Type} (g : Nat) (t : TypeId) (f : Value → Array Value) (n₀ : Nat) (e : TypeId) (k : β → Nat) (xs : β → List Value) : Own (fun s W => ∃ V, W.heap[g]? = some (.cells (f V) t (0, 0)) ∧ W.ownsRow n₀ e 1 V (k s) (xs s)) := by
  rintro s X Y row ⟨V, hv, hr⟩ hg hrow
  have hne : ∀ (j : Nat) (cs : Array Value) (t' : TypeId), X.heap[j]? = some (.cells cs t' (0, 0)) → some j ≠ row := fun j cs t' hj e' => by
    obtain ⟨o, ho, hc⟩ := hrow j e'.symm
    rw [hj] at ho; cases ho; cases hc
  refine ⟨V, (hg.block g (Array.getElem?_eq_some_iff.1 hv).1 (hne g _ _ hv)).trans hv, own_move hr (fun j hj => ?_)⟩
  obtain ⟨cs, hcs⟩ := own_typed hr j hj
  exact hg.block j (Array.getElem?_eq_some_iff.1 hcs).1 (hne j _ _ hcs)
theorem own_blk {β : Type} (g : Nat) (t : TypeId) (cs : Array Value) : Own (fun (_ : β) W => W.heap[g]? = some (.cells cs t (0, 0))) := by
  rintro s X Y row hv hg hrow
  refine (hg.block g (Array.getElem?_eq_some_iff.1 hv).1 (fun e' => ?_)).trans hv
  obtain ⟨o, ho, hc⟩ := hrow g e'.symm
  rw [hv] at ho; cases ho; cases hc
theorem own_Cs {W : World} {base : Nat} {v : Value} {l : List ByteArray} (h : W.ownsRow base 9 1 v l.length (l.map Value.string)) (hl : l.length ≤ 1000000) : ∃ A c, v = .slice A l.length c ∧ l.length ≤ c ∧ Kd.string.C W A l.length l := by
  rcases h.2 with ⟨rfl, h0⟩ | ⟨g, cap, cur, rfl, hb, hh, hn, hcm, hcs, htake⟩
  · obtain rfl : l = [] := List.eq_nil_of_length_eq_zero h0
    exact ⟨none, 0, rfl, Nat.le_refl _, C_nil _ _⟩
  · refine ⟨some ⟨g, 0, none⟩, cap, rfl, hn, rfl, by omega, fun _ => ⟨_, rfl, fun j p hj => ⟨[.string p], rfl, rfl, fun i u hu => ?_⟩⟩⟩
    have hi : i = 0 := by
      have := (List.getElem?_eq_some_iff.1 hu).1
      simpa using this
    subst hi
    obtain rfl : Value.string p = u := by simpa using hu
    refine h.cells (g := g) rfl (j * 1 + 0) _ ?_
    rw [Nat.mul_one, Nat.add_zero, List.getElem?_map, hj]
    rfl
theorem C_dropk {w : World} {b o : Nat} {l : List Int} (h : (Kd.int .u8).C w (some ⟨b, o, none⟩) l.length l) (k : Nat) : (Kd.int .u8).C w (some ⟨b, o + k, none⟩) (l.drop k).length (l.drop k) := by
  obtain ⟨h1, h2, h3⟩ := h
  refine ⟨rfl, by rw [List.length_drop]; omega, fun h0 => ⟨_, rfl, fun j p hj => ?_⟩⟩
  rw [List.getElem?_drop] at hj
  obtain ⟨ad, ha, hc⟩ := h3 (by have := (List.getElem?_eq_some_iff.1 hj).1; omega)
  obtain rfl := Option.some.inj ha
  obtain ⟨cs, hlen, hK, hcell⟩ := hc (k + j) p hj
  refine ⟨cs, hlen, hK, fun i u hu => ?_⟩
  rw [← hcell i u hu, add_plain, add_plain]
  congr 2
  show o + k + (j * 1 + i) = o + ((k + j) * 1 + i)
  omega
theorem own_CsA {W : World} {base : Nat} {A : Option Addr} {c : Nat} {l : List ByteArray} (h : W.ownsRow base 9 1 (.slice A l.length c) l.length (l.map Value.string)) (hl : l.length ≤ 1000000) : Kd.string.C W A l.length l := by
  obtain ⟨A', c', e, -, hC⟩ := own_Cs h hl
  obtain ⟨rfl, -, rfl⟩ := Value.slice.inj e
  exact hC
theorem wordsL_size (l : List UInt8) : ∀ x ∈ wordsL l, x.length ≤ l.length := by
  induction h : l.length using Nat.strongRecOn generalizing l with
  | _ n ih =>
    intro x hx
    by_cases h0 : trimL l = []
    · rw [wordsL_nil _ h0] at hx; cases hx
    · rw [wordsL_cons _ h0] at hx
      have h1 := trimL_len l
      rcases List.mem_cons.1 hx with rfl | hx
      · have := headW_len (trimL l)
        omega
      · have h2 := tailW_lt l h0
        have := ih _ (by omega) (tailW (trimL l)) rfl x hx
        omega
theorem wordsB_size (s : ByteArray) : ∀ x ∈ wordsB s, x.size ≤ s.size := by
  intro x hx
  unfold wordsB at hx
  obtain ⟨y, hy, rfl⟩ := List.mem_map.1 hx
  exact wordsL_size _ y hy
theorem C_tailI {w : World} {b o c n : Nat} {v : ByteArray} {l : List ByteArray} (h : Kd.string.C w (some ⟨b, o, none⟩) (n + 1) (v :: l)) (hn : l.length = n) (hc : n + 1 ≤ c) : Kd.string.C w (if c = 1 then some ⟨b, o, none⟩ else some ⟨b, o + 1, none⟩) n l := by
  split
  · obtain rfl : n = 0 := by omega
    obtain rfl : l = [] := List.eq_nil_of_length_eq_zero hn
    exact C_zero _ _ _
  · exact C_tail h hn
/-- What a line with words is. -/
def parseW (used : Int) (rest : List Int) : List ByteArray → Step
  | [] => stepF used (⟨#[69, 82, 82, 79, 82]⟩ : ByteArray)
  | v :: ws => if (loudS v used ws).2 = true then (loudS v used ws).1 else if hushB v ws = true then otherS v true used (ws.take (ws.length - 1)) rest else otherS v false used ws rest
def lineC (verb : ByteArray) (V : Value) (quiet : Bool) (used : Int) (A4 : Option Addr) (n4 c4 : Nat) : Array Value := #[.string verb, V, .bool quiet, .int .i64 used, .slice A4 n4 c4]
set_option maxRecDepth 100000 in
set_option maxHeartbeats 2000000 in
theorem parse_go (l : List Int) (A : Option Addr) (c m : Nat) (t : ByteArray) (F : Nat → Prop) (w : World) (hCF : HolF F w (fun w2 => (Kd.int .u8).C w2 A l.length l)) (hc : l.length ≤ c) (hl : l.length ≤ 1000000) (h8 : B8 l) (he : lineS l = (t, (m : Int) + 1, 0)) (hm : m < l.length) (ht : t.size ≤ 1000000) (hT : Tabs w) :
    Calls Tryz.prog 35 #[.slice A l.length c] w (StepR F w (parseW ((m : Int) + 1) (l.drop (m + 1)) (wordsB t))) := by
  have HB := Aside0.mk (Below.refl w.heap.size w)
  have hC := hCF.now
  have HC := Aside0.mk hC
  have HCF := Aside0.mk hCF
  clear hCF
  have HT := Aside0.mk hT
  have H8 := Aside0.mk h8
  have HLN : Aside0 (∀ w', Below w.heap.size w w' → Calls Tryz.prog 43 #[.slice A l.length c] w' fun e w'' => e = .returned (.tuple #[.string t, .int .i64 ((m : Int) + 1), .int .i64 0]) ∧ Below w'.heap.size w' w'') := ⟨fun w' hb => by
    have := fline_calls l A c w' (Kd.C_below HC.out hb) hc hl h8
    rw [he] at this
    exact this⟩
  obtain ⟨b, o, rfl, hb0, -⟩ := C_cell hC m hm
  have hlen := words_len t
  obtain ⟨lr, hlr⟩ : ∃ lr, l.drop (m + 1) = lr := ⟨_, rfl⟩
  have hlrn : l.length - (m + 1) = lr.length := by rw [← hlr, List.length_drop]
  have HLR := Aside0.mk hlr
  rw [hlr]
  have HSZ : Aside0 (∀ x ∈ wordsB t, x.size ≤ 1000000) := ⟨fun x hx => Nat.le_trans (wordsB_size t x hx) ht⟩
  have h8r : B8 lr := fun z hz => h8 z (by rw [← hlr] at hz; exact List.mem_of_mem_drop hz)
  have HR8 := Aside0.mk h8r
  have hlrl : lr.length ≤ 1000000 := by omega
  obtain ⟨R, hR⟩ : ∃ R, parseW ((m : Int) + 1) lr (wordsB t) = R := ⟨_, rfl⟩
  rw [hR]
  have HRR := Aside0.mk hR
  clear hR h8r
  clear hC h8 he hT hlr
  have hi0 : (0 : Int) ≤ (m : Int) + 1 := by omega
  have hi1 : (m : Int) + 1 ≤ ↑l.length := by omega
  have hi2 : (m : Int) < ↑l.length := by omega
  have hi3 : (l.length : Int) ≤ ↑c := by omega
  have hi4 : (0 : Int) ≤ ↑m := by omega
  refine (callsIn_wide (n := 6)).1 ?_
  refine callsIn_of_wp_marks Tryz.func35 rfl trivial ?_ rfl
  simp only [Tryz.ntmps35, List.size_toArray, List.length_cons, List.length_nil, Nat.reduceAdd, Nat.reduceSub, Array.replicate_succ, Array.replicate_zero, List.push_toArray, List.append_toArray, List.nil_append, List.cons_append]
  refine wpIn_wide.2 ?_
  go_upto_region 2 with (first | (go_at_call 43; (with_reducible refine (HLN.out _ (by repeat (first | (with_reducible first | exact HB.out | apply below_alloc | apply pw_below_drewN | apply below_drew1) | exact HB.out))).mono ?_); rintro e w1 ⟨rfl, hb⟩; have BR := Aside0.mk (blk_below (g := w.heap.size) (o := .cells zStepC 61 (0, 0)) (by repeat (first | exact blk_at_new _ _ _ (by simp; done) | exact blk_at_new _ _ _ rfl | refine blk_alloc ?_ _ | refine blk_drew ?_ | refine blk_drewN ?_ _)) hb); have HBn := Aside0.mk (below_step (by repeat (first | (with_reducible first | exact HB.out | apply below_alloc | apply pw_below_drewN | apply below_drew1) | exact HB.out)) hb); clear HB; have HB := HBn; clear HBn; clear hb; have hr1 : w.heap.size < w1.heap.size := blk_lt BR.out))
  go_cut [6] from 17 to 21 (fun s6 wx => s6 = .pointer (some ⟨w1.heap.size, 0, none⟩) ∧ Aside0 (∃ A4 c4, wx.heap[w1.heap.size]? = some (.cells (lineC ⟨#[]⟩ (.slice none 0 0) false ((m : Int) + 1) A4 lr.length c4) 90 (0, 0)) ∧ lr.length ≤ c4 ∧ HolF F w (fun w2 => (Kd.int .u8).C w2 A4 lr.length lr) ∧ wx.heap[w.heap.size]? = some (.cells zStepC 61 (0, 0)) ∧ Below w.heap.size w wx ∧ wx.heap.size = w1.heap.size + 1))
  case first =>
    go_wp2
    · have hcm : c = m + 1 := by omega
      subst hcm
      have hnil : lr = [] := List.eq_nil_of_length_eq_zero (by omega)
      go_meet
      case rel => exact ⟨rfl, ⟨⟨_, _, blk_at_new _ _ _ rfl, by omega, by rw [hnil]; exact fun w2 _ _ => C_zero _ _ _, blk_alloc BR.out _, (by repeat (first | (with_reducible first | exact HB.out | apply below_alloc | apply pw_below_drewN | apply below_drew1) | exact HB.out)), by simp⟩⟩⟩
    · go_meet
      case rel => exact ⟨rfl, ⟨⟨_, _, blk_at_new _ _ _ rfl, by omega, fun w2 h2 hk2 => by have := C_dropk (HCF.out w2 h2 hk2) (m + 1); rw [HLR.out] at this; exact this, blk_alloc BR.out _, (by repeat (first | (with_reducible first | exact HB.out | apply below_alloc | apply pw_below_drewN | apply below_drew1) | exact HB.out)), by simp⟩⟩⟩
  case rest =>
    obtain ⟨rfl, HI⟩ := hcut
    obtain ⟨A4, c4, hx, hl4, hC4, hr, hB, hsz⟩ := HI.out
    obtain ⟨gl, hgl⟩ : ∃ g, w1.heap.size = g := ⟨_, rfl⟩
    rw [hgl] at hx hsz hr1
    rw [hgl]
    have BX := Aside0.mk hx
    have BRc := Aside0.mk hr
    have HBc := Aside0.mk hB
    have HC4 := Aside0.mk hC4
    clear hx hr hB hC4 HI BR HB hgl HLN HLR HC HCF
    go_wp2_with (go_at_call 45; (with_reducible refine (mkWords_calls t _).mono ?_); rintro e w' ⟨rfl, rfl⟩)
    obtain ⟨W0, hW0⟩ : ∃ W0, wc.alloc (.cells #[.string t] 9) = W0 := ⟨_, rfl⟩
    have BX0 := Aside0.mk (show W0.heap[gl]? = _ from hW0 ▸ blk_alloc BX.out _)
    have BR0 := Aside0.mk (show W0.heap[w.heap.size]? = _ from hW0 ▸ blk_alloc BRc.out _)
    have hbel : Below w.heap.size w W0 := hW0 ▸ below_alloc HBc.out _
    have bS : Boxed W0 wc.heap.size 9 (.string t) := hW0 ▸ Boxed.new wc 9 (.string t)
    have hsz0 : W0.heap.size = wc.heap.size + 1 := by rw [← hW0]; simp
    rw [hW0]
    rw [hsz] at bS hsz0
    obtain ⟨qs, hqs⟩ : ∃ q, gl + 1 = q := ⟨_, rfl⟩
    rw [hqs] at bS hsz0
    rw [hqs]
    have hql : gl < qs := by omega
    have hql2 : qs ≤ gl + 1 := by omega
    clear hW0 hqs BX BRc HBc hsz
    obtain ⟨i0, hi, hz0, hz1, hz2⟩ := info_parts info9
    refine (wpIn_wide (n := 6)).1 ?_
    refine wpIn_rangeFunc_ownG rfl (by omega) (gf := 81) (lb := #[.pointer (some ⟨qs, 0, none⟩)]) rfl trivial (enters_of Tryz.func81 (by kernel_rfl) rfl)
      (words_stops 5 (by omega) qs w.heap.size t (by omega) W0 bS.lt bS.cell) belowK_t (belowK_b hbel.size) (Below.refl _ _) (fun _ => rfl)
      (fun pre W => ((∃ V, W.heap[gl]? = some (.cells (lineC ⟨#[]⟩ V false ((m : Int) + 1) A4 lr.length c4) 90 (0, 0)) ∧ W.ownsRow (qs + 1) 9 1 V pre.length (pre.map Value.string)) ∧ W.heap[w.heap.size]? = some (.cells zStepC 61 (0, 0))) ∧ Below w.heap.size w W)
      (fun _ _ _ => False)
      (OwnFrom.and (OwnFrom.and (Own.from (own_blkRow gl 90 (fun V => lineC ⟨#[]⟩ V false ((m : Int) + 1) A4 lr.length c4) (qs + 1) 9 (fun (pre : List ByteArray) => pre.length) (fun pre => pre.map Value.string)) _) (Own.from (own_blk _ _ _) _)) (ownFrom_below (Nat.le_refl _) hbel.size))
      (fun _ _ _ _ _ hs _ _ => hs) ⟨⟨⟨_, BX0.out, World.ownsRow_nil _ _ _ _⟩, BR0.out⟩, hbel⟩ ?a1 ?assign ?body ?done ?stop
    case assign =>
      intro l x W K hK
      gi_wp2
      exact hK
    case stop =>
      rintro D c pre W _ _ h _
      exact h.elim
    case body =>
      rintro l pre x W ⟨⟨⟨V, hv, hrow⟩, hr0⟩, hB⟩ hlt2
      have hgW : gl < W.heap.size := blk_lt hv
      have e1 : W.cell? ⟨gl, 1, none⟩ = some V := (blk_cell hv 1).trans rfl
      have hne : some gl ≠ V.ownBlock := own_apart hrow (by omega)
      have hner : some w.heap.size ≠ V.ownBlock := own_apart hrow (by omega)
      have hrg : w.heap.size < gl := hr1
      gi_wp2_with (gi_at_builtin; (refine wpListIn_append_own _ rfl _ _ 30 rfl (qs + 1) 9 i0 (.string ⟨#[]⟩) 1 16 Tryz.underlying30 hi hz0 hz1 hz2 rfl (by decide) _ _ _ rfl (hrow.alloc _) ⟨W.heap.size, 0, none⟩ 1 1 [.string x] rfl rfl (cell_one_new _ _ _) (by simp [Value.oneCell']) (by unfold maxLen; omega) (by omega) (by rw [World.size_alloc]; omega) ?_); intro v' w2 hown' hgrow _; obtain ⟨g', cap', rfl⟩ := ownsRow_succ hown'; have hv2 := blk_grown (blk_alloc hv _) hgrow hne; have hr2 := blk_grown (blk_alloc hr0 _) hgrow hner; have e2 : w2.cell? ⟨gl, 1, none⟩ = some V := (blk_cell hv2 1).trans rfl; have f2 : w2.frozen? ⟨gl, 1, none⟩ = false := blk_frozen hv2 1)
      have hK2 : KeepsOthers W w2 := (KeepsOthers.alloc W _).trans (KeepsOthers.of_grownBy hgrow (fun j o' hj ho' => by
        obtain ⟨cs, hcs⟩ := own_typed (hrow.alloc _) j hj
        rw [hcs] at ho'
        cases ho'
        rfl))
      have hb2 : Below w.heap.size W w2 := ((Below.refl w.heap.size W).alloc (by omega) _).grown hgrow (by rw [World.size_alloc]; omega) (fun k hk => by have := own_base hrow k hk; omega)
      refine ⟨(hK2.trans (KeepsOthers.setCell _ _ _)).from _, hb2.setCell (p := ⟨gl, 1, none⟩) (by show w.heap.size ≤ gl; omega) _, ⟨⟨⟨_, blk_set hv2 1 _, ?_⟩, blk_far hr2 (by show w.heap.size ≠ gl; omega) _⟩, (hB.trans hb2).setCell (p := ⟨gl, 1, none⟩) (by show w.heap.size ≤ gl; omega) _⟩⟩
      rw [List.map_append, List.length_append]
      exact own_setCell hown' (own_apart hown' (show gl < qs + 1 by omega)) _
    case done =>
      rintro D ys W hD rfl ⟨⟨⟨V, hv, hrow⟩, hr0⟩, hB⟩ hK
      obtain ⟨A1, c1, rfl, hc1, hCw⟩ := own_Cs hrow (by omega)
      have hgW : gl < W.heap.size := blk_lt hv
      have BX1 := Aside0.mk hv
      have BR1 := Aside0.mk hr0
      have HBn := Aside0.mk hB
      have HCW := Aside0.mk hCw
      have HROW := Aside0.mk hrow
      have HKD := Aside0.mk hK
      have HB := HBn
      clear HBn hv hr0 hB hCw hrow hK BX0 BR0
      have hDW : D < W.heap.size := (Array.getElem?_eq_some_iff.1 HKD.out).1
      obtain ⟨ws, hws⟩ : ∃ ws, wordsB t = ws := ⟨_, rfl⟩
      rw [hws] at BX1 HCW HROW hlen hc1 HSZ HRR
      clear hws
      cases ws with
      | nil =>
        have HOE : Aside0 (∀ w', Calls Tryz.prog 50 #[.agg #[.string ⟨#[]⟩, .slice A1 0 c1, .bool false, .int .i64 ((m : Int) + 1), .slice A4 lr.length c4], .string (⟨#[69, 82, 82, 79, 82]⟩ : ByteArray)] w' fun e w'' => e = .returned (.agg (stepFC ((m : Int) + 1) (⟨#[69, 82, 82, 79, 82]⟩ : ByteArray) 0 false).toArray) ∧ Below w'.heap.size w' w'') := ⟨fun w' => fault_raw ⟨#[]⟩ A1 A4 0 c1 lr.length c4 false ((m : Int) + 1) _ w' (by decide)⟩
        have s0 : W.cell? ⟨gl, 0, none⟩ = some (.string ⟨#[]⟩) := (blk_cell BX1.out 0).trans rfl
        have s1 : W.cell? ⟨gl, 1, none⟩ = some (.slice A1 0 c1) := (blk_cell BX1.out 1).trans rfl
        have s2 : W.cell? ⟨gl, 2, none⟩ = some (.bool false) := (blk_cell BX1.out 2).trans rfl
        have s3 : W.cell? ⟨gl, 3, none⟩ = some (.int .i64 ((m : Int) + 1)) := (blk_cell BX1.out 3).trans rfl
        have s4 : W.cell? ⟨gl, 4, none⟩ = some (.slice A4 lr.length c4) := (blk_cell BX1.out 4).trans rfl
        have hRr := HRR.out
        unfold parseW at hRr
        subst hRr
        go_wp2_with (first | (go_at_call 50; (with_reducible refine (HOE.out _).mono ?_); rintro e w3 ⟨rfl, hb⟩; unfold stepFC; have BR3 := Aside0.mk (blk_below BR1.out hb); have HK3 := Aside0.mk (blk_below HKD.out hb); have HBn := Aside0.mk (below_step (by repeat (first | (with_reducible first | exact HB.out | apply below_alloc | apply pw_below_drewN | apply below_drew1) | exact HB.out)) hb); clear HB; have HB := HBn; clear HBn; clear hb) | (refine wpList_store_F rfl 61 _ _ rfl w.heap.size 0 _ rfl rfl (by simp [Value.oneCell']) 61 _ _ BR3.out (by simp [zStepC]) (by kernel_rfl) rfl ?_; intro w8 hbk hst; have BR8 := Aside0.mk hbk; have HK8 := Aside0.mk (hst.blk HK3.out (by have := hbel.size; omega)); have HB8 := Aside0.mk (hst.up HB.out (Nat.le_refl _)); clear hbk hst))
        refine ⟨by simp, .inl ⟨_, _, rfl, run_takeDeferred HK8.out, ?_⟩⟩; refine ⟨_, results_cell_row rfl _ _ w.heap.size 61 _ (0, 0) _ rfl ((World.putObj_heap_other (by have := hbel.size; omega)).trans BR8.out) Tryz.underlying61 rfl (by kernel_rfl), ?_⟩
        exact ⟨⟨_, rfl, fun w2 _ _ => stepFS_K w2 ((m : Int) + 1) (⟨#[69, 82, 82, 79, 82]⟩ : ByteArray) 0 false⟩, HB8.out.trans (belowK_b (w := w) (Nat.le_refl _) w8 D _ _ (by have := hbel.size; omega) HK8.out rfl rfl)⟩
      | cons v vs =>
        obtain ⟨b1, o1, rfl, hb1, hcv⟩ := S_cell HCW.out 0 (by simp)
        have hcv : W.cell? ⟨b1, o1, none⟩ = some (.string v) := hcv
        have HCV := Aside0.mk hcv
        have HDn := Aside0.mk (show W0.heap.size ≤ D from hD)
        have hDr : Aside0 (D ≠ w.heap.size) := ⟨by have := hbel.size; omega⟩
        have hDg : Aside0 (D ≠ gl) := ⟨by have := blk_lt BX1.out; have h2 := BX1.out; have h3 := HKD.out; intro e; rw [e, h2] at h3; cases h3⟩
        have hgr : Aside0 (w.heap.size ≠ gl) := ⟨by omega⟩
        have hle : Aside0 (w.heap.size ≤ gl) := ⟨by omega⟩
        have t1 : W.cell? ⟨gl, 1, none⟩ = some (.slice (some ⟨b1, o1, none⟩) (vs.length + 1) c1) := (blk_cell BX1.out 1).trans rfl
        have hv0 : (0 : Int) < ↑vs.length + 1 := by omega
        have hv1 : (1 : Int) ≤ ↑vs.length + 1 := by omega
        have hvc : vs.length + 1 ≤ c1 := hc1
        have hv2 : (vs.length : Int) + 1 ≤ ↑c1 := by omega
        have hb1g : b1 ≠ gl := by
          intro e
          have h2 := own_typed HROW.out b1 rfl
          obtain ⟨cs, hcs⟩ := h2
          rw [e, BX1.out] at hcs
          simp at hcs
        have BX1d := Aside0.mk (show W.drew.heap[gl]? = _ from blk_drew BX1.out)
        go_upto_region 15 with fail
        refine wp_region_noPanic ?_
        refine wp_region_L (S := (fun w' => w'.cell? ⟨gl, 1, none⟩ = some (.slice (some ⟨b1, o1, none⟩) (vs.length + 1) c1) ∧ w'.cell? ⟨b1, o1, none⟩ = some (.string v))) 10 (by kernel_rfl) ⟨t1, hcv⟩ ?_
        intro hHeld
        (refine wpAnyL_take (i := 0) (v := ?_) (by simp only [List.getElem?_toArray, List.getElem?_cons_succ, List.getElem?_cons_zero]; rfl) (by kernel_rfl) (by kernel_rfl) (by kernel_rfl) (by kernel_rfl) (fun _ _ _ h => h) (Or.inl ⟨by rfl, ?_⟩) (by exact hHeld) ?_; rotate_left; (focus (intro w' hSw; obtain ⟨s0, s1⟩ := hSw; go_simp; (try with_reducible rfl); done)); (try simp only [Act.put, List.setIfInBounds_toArray, List.set_cons_zero, List.set_cons_succ]))
        (refine wpAnyL_take (i := 1) (v := ?_) (by simp only [List.getElem?_toArray, List.getElem?_cons_succ, List.getElem?_cons_zero]; rfl) (by kernel_rfl) (by kernel_rfl) (by kernel_rfl) (by kernel_rfl) (fun _ _ _ h => h) (Or.inl ⟨by rfl, ?_⟩) (by exact hHeld) ?_; rotate_left; (focus (intro w' hSw; obtain ⟨s0, s1⟩ := hSw; go_simp; (try with_reducible rfl); done)); (try simp only [Act.put, List.setIfInBounds_toArray, List.set_cons_zero, List.set_cons_succ]))
        (refine wpAnyL_take (i := 2) (v := ?_) (by simp only [List.getElem?_toArray, List.getElem?_cons_succ, List.getElem?_cons_zero]; rfl) (by kernel_rfl) (by kernel_rfl) (by kernel_rfl) (by kernel_rfl) (fun _ _ _ h => h) (Or.inl ⟨by rfl, ?_⟩) (by exact hHeld) ?_; rotate_left; (focus (intro w' hSw; obtain ⟨s0, s1⟩ := hSw; go_simp; (try with_reducible rfl); done)); (try simp only [Act.put, List.setIfInBounds_toArray, List.set_cons_zero, List.set_cons_succ]))
        (refine wpAnyL_take (i := 3) (v := ?_) (by simp only [List.getElem?_toArray, List.getElem?_cons_succ, List.getElem?_cons_zero]; rfl) (by kernel_rfl) (by kernel_rfl) (by kernel_rfl) (by kernel_rfl) (fun _ _ _ h => h) (Or.inl ⟨by rfl, ?_⟩) (by exact hHeld) ?_; rotate_left; (focus (intro w' hSw; obtain ⟨s0, s1⟩ := hSw; go_simp; (try with_reducible rfl); done)); (try simp only [Act.put, List.setIfInBounds_toArray, List.set_cons_zero, List.set_cons_succ]))
        (refine wpAnyL_take (i := 4) (v := ?_) (by simp only [List.getElem?_toArray, List.getElem?_cons_succ, List.getElem?_cons_zero]; rfl) (by kernel_rfl) (by kernel_rfl) (by kernel_rfl) (by kernel_rfl) (fun _ _ _ h => h) (Or.inl ⟨by rfl, ?_⟩) (by exact hHeld) ?_; rotate_left; (focus (intro w' hSw; obtain ⟨s0, s1⟩ := hSw; go_simp; (try with_reducible rfl); done)); (try simp only [Act.put, List.setIfInBounds_toArray, List.set_cons_zero, List.set_cons_succ]))
        (refine wpAnyL_take (i := 5) (v := ?_) (by simp only [List.getElem?_toArray, List.getElem?_cons_succ, List.getElem?_cons_zero]; rfl) (by kernel_rfl) (by kernel_rfl) (by kernel_rfl) (by kernel_rfl) (fun _ _ _ h => h) (Or.inl ⟨by rfl, ?_⟩) (by exact hHeld) ?_; rotate_left; (focus (intro w' hSw; obtain ⟨s0, s1⟩ := hSw; go_simp; (try with_reducible rfl); done)); (try simp only [Act.put, List.setIfInBounds_toArray, List.set_cons_zero, List.set_cons_succ]))
        (refine wpAnyL_take (i := 6) (v := ?_) (by simp only [List.getElem?_toArray, List.getElem?_cons_succ, List.getElem?_cons_zero]; rfl) (by kernel_rfl) (by kernel_rfl) (by kernel_rfl) (by kernel_rfl) (fun _ _ _ h => h) (Or.inl ⟨by rfl, ?_⟩) (by exact hHeld) ?_; rotate_left; (focus (intro w' hSw; obtain ⟨s0, s1⟩ := hSw; go_simp; (try with_reducible rfl); done)); (try simp only [Act.put, List.setIfInBounds_toArray, List.set_cons_zero, List.set_cons_succ]))
        (refine wpAnyL_take (i := 7) (v := ?_) (by simp only [List.getElem?_toArray, List.getElem?_cons_succ, List.getElem?_cons_zero]; rfl) (by kernel_rfl) (by kernel_rfl) (by kernel_rfl) (by kernel_rfl) (fun _ _ _ h => h) (Or.inl ⟨by rfl, ?_⟩) (by exact hHeld) ?_; rotate_left; (focus (intro w' hSw; obtain ⟨s0, s1⟩ := hSw; go_simp; (try with_reducible rfl); done)); (try simp only [Act.put, List.setIfInBounds_toArray, List.set_cons_zero, List.set_cons_succ]))
        refine wpAnyL_one (i := 8) (by kernel_rfl) (by simp only [List.getElem?_toArray, List.getElem?_cons_succ, List.getElem?_cons_zero]; rfl) (fun K hK => ?_)
        refine step_store_F rfl 9 _ _ rfl gl 0 [.string v] rfl rfl (by intro u hu; simp only [List.mem_singleton] at hu; subst hu; rfl) 90 _ (lineC v (.slice (some ⟨b1, o1, none⟩) (vs.length + 1) c1) false ((m : Int) + 1) A4 lr.length c4) BX1d.out (by simp [lineC]) (by kernel_rfl) rfl ?_
        intro w3 hbk hst3
        have BX3 := Aside0.mk hbk
        have HST3 := Aside0.mk hst3
        have hbw : b1 ≠ gl := hb1g
        refine hK.out _ _ (fun _ => ⟨(blk_cell BX3.out 1).trans rfl, (by
          have h1 : w3.cell? ⟨b1, o1, none⟩ = W.drew.cell? ⟨b1, o1, none⟩ := World.cell?_of_block (hst3.block b1 hbw)
          exact h1.trans hcv)⟩) ?_
        clear hK K hHeld hbk hst3
        intro hHeld
        have hHeld := hHeld (by decide)
        (try simp only [Act.put, List.setIfInBounds_toArray, List.set_cons_zero, List.set_cons_succ])
        (refine wpAnyL_take (i := 9) (v := ?_) (by simp only [List.getElem?_toArray, List.getElem?_cons_succ, List.getElem?_cons_zero]; rfl) (by kernel_rfl) (by kernel_rfl) (by kernel_rfl) (by kernel_rfl) (fun _ _ _ h => h) (Or.inl ⟨by rfl, ?_⟩) (by exact hHeld) ?_; rotate_left; (focus (intro w' hSw; obtain ⟨s0, s1⟩ := hSw; go_simp; (try with_reducible rfl); done)); (try simp only [Act.put, List.setIfInBounds_toArray, List.set_cons_zero, List.set_cons_succ]))
        refine wpAnyL_one (i := 10) (by kernel_rfl) (by simp only [List.getElem?_toArray, List.getElem?_cons_succ, List.getElem?_cons_zero]; rfl) (fun K hK => ?_)
        refine step_store_F rfl 30 _ _ rfl gl 1 [.slice (if c1 = 1 then some ⟨b1, o1, none⟩ else some ⟨b1, o1 + 1, none⟩) vs.length (c1 - 1)] rfl rfl (by intro u hu; simp only [List.mem_singleton] at hu; subst hu; rfl) 90 _ (lineC v (.slice (if c1 = 1 then some ⟨b1, o1, none⟩ else some ⟨b1, o1 + 1, none⟩) vs.length (c1 - 1)) false ((m : Int) + 1) A4 lr.length c4) BX3.out (by simp [lineC]) (by kernel_rfl) rfl ?_
        intro w4 hbk hst4
        have BX4 := Aside0.mk hbk
        have HST4 := Aside0.mk hst4
        refine hK.out _ _ (fun h => absurd rfl h) ?_
        clear hK K hHeld hbk hst4
        intro _
        (try simp only [Act.put, List.setIfInBounds_toArray, List.set_cons_zero, List.set_cons_succ])
        refine wpAnyL_done (by kernel_rfl) ?_ _
        refine NoPanic.normal ?_
        have hB4 : Below w.heap.size w w4 := HST4.out.up (HST3.out.up (below_drew1 HB.out) hle.out) hle.out
        have BR4 := Aside0.mk (HST4.out.blk (HST3.out.blk (show W.drew.heap[w.heap.size]? = _ from blk_drew BR1.out) hgr.out) hgr.out)
        have HK4 := Aside0.mk (HST4.out.blk (HST3.out.blk (show W.drew.heap[D]? = _ from HKD.out) hDg.out) hDg.out)
        have hr4 := Aside0.mk (blk_lt BR4.out)
        have hD4 := Aside0.mk ((Array.getElem?_eq_some_iff.1 HK4.out).1)
        have hsz4 : w4.heap.size = W.heap.size := HST4.out.size.trans HST3.out.size
        have hob := own_base HROW.out b1 rfl
        have hbD : b1 ≠ D := by
          intro e
          obtain ⟨cs, hcs⟩ := own_typed HROW.out b1 rfl
          rw [e, HKD.out] at hcs
          cases hcs
        have HWD : Aside0 (HolF (fun k => (k ≠ w.heap.size ∧ k ≠ D ∧ k ≠ gl) ∧ (k < w.heap.size → F k)) w4 (fun w2 => Kd.string.C w2 (if c1 = 1 then some ⟨b1, o1, none⟩ else some ⟨b1, o1 + 1, none⟩) vs.length vs)) := ⟨fun w2 hb2 hk2 => C_tailI (own_CsA (l := v :: vs) (own_move HROW.out (fun k hk => by
          have hk : b1 = k := by simpa [Value.ownBlock] using hk
          subst hk
          exact (hk2 b1 (by rw [hsz4]; exact hb1) ⟨⟨by omega, hbD, hb1g⟩, fun h => absurd h (by omega)⟩).trans ((HST4.out.block b1 hb1g).trans (HST3.out.block b1 hb1g)))) (by omega)) rfl (by omega)⟩
        have HRS : Aside0 (HolF (fun k => (k ≠ w.heap.size ∧ k ≠ D ∧ k ≠ gl) ∧ (k < w.heap.size → F k)) w4 (fun w2 => (Kd.int .u8).C w2 A4 lr.length lr)) := ⟨fun w2 hb2 hk2 => HC4.out w2 ((below_zero hB4).trans hb2) (fun k hk hFk => (hk2 k (by have := hB4.size; omega) ⟨⟨by omega, by have := hbel.size; omega, by omega⟩, fun _ => hFk⟩).trans (hB4.block k hk))⟩
        obtain ⟨A1', hA1⟩ : ∃ A1' : Option Addr, (if c1 = 1 then some (⟨b1, o1, none⟩ : Addr) else some ⟨b1, o1 + 1, none⟩) = A1' := ⟨_, rfl⟩
        rw [hA1] at BX4 HWD ⊢
        clear hA1
        have HBn := Aside0.mk hB4
        clear HB hB4
        have HB := HBn
        clear HBn
        have hcc : vs.length ≤ c1 - 1 := by omega
        have hRr := HRR.out
        unfold parseW at hRr
        dsimp only at hRr
        have HLO : Aside0 (Calls Tryz.prog 51 #[.agg #[.string v, .slice A1' vs.length (c1 - 1), .bool false, .int .i64 ((m : Int) + 1), .slice A4 lr.length c4]] w4 (LoudR (fun k => (k ≠ w.heap.size ∧ k ≠ D ∧ k ≠ gl) ∧ (k < w.heap.size → F k)) w4 (loudS v ((m : Int) + 1) vs).1 (loudS v ((m : Int) + 1) vs).2)) := ⟨loud_calls ⟨v, vs, false, (m : Int) + 1, lr⟩ _ (fun k => (k ≠ w.heap.size ∧ k ≠ D ∧ k ≠ gl) ∧ (k < w.heap.size → F k)) w4 (fun w2 h1 h2 => kTextinLine_mk w2 ⟨v, vs, false, (m : Int) + 1, lr⟩ hcc (HWD.out w2 h1 h2) hl4 (HRS.out w2 h1 h2)) (Tabs.below HT.out HB.out) (by show vs.length ≤ _; rw [List.length_cons] at hlen; omega) (fun k hk => HSZ.out k (List.mem_cons_of_mem _ hk)) (by show (0 : Int) ≤ (m : Int) + 1; omega) (by show (m : Int) + 1 ≤ 1000000; omega) HR8.out hlrl rfl⟩
        obtain ⟨st, hst⟩ : ∃ st, (loudS v ((m : Int) + 1) vs).1 = st := ⟨_, rfl⟩
        obtain ⟨bb, hbb⟩ : ∃ bb, (loudS v ((m : Int) + 1) vs).2 = bb := ⟨_, rfl⟩
        rw [hst, hbb] at HLO hRr
        clear hst hbb t1 hcv HCV BX1d BX3 HST3 HST4 hob hbD hsz4 BX1 BR1 HROW HKD HCW hb1g HRR
        have x0 : w4.cell? ⟨gl, 0, none⟩ = some (.string v) := (blk_cell BX4.out 0).trans rfl
        have x1 : w4.cell? ⟨gl, 1, none⟩ = some (.slice A1' vs.length (c1 - 1)) := (blk_cell BX4.out 1).trans rfl
        have x2 : w4.cell? ⟨gl, 2, none⟩ = some (.bool false) := (blk_cell BX4.out 2).trans rfl
        have x3 : w4.cell? ⟨gl, 3, none⟩ = some (.int .i64 ((m : Int) + 1)) := (blk_cell BX4.out 3).trans rfl
        have x4 : w4.cell? ⟨gl, 4, none⟩ = some (.slice A4 lr.length c4) := (blk_cell BX4.out 4).trans rfl
        cases bb
        · rw [if_neg (by decide)] at hRr
          obtain ⟨ws7, n7, q7, hn7, hn7l, hC7, hs7, hR7, hU⟩ : ∃ ws7 n7 q7, ws7.length = n7 ∧ ws7.length ≤ vs.length ∧ (∀ w2, Kd.string.C w2 A1' vs.length vs → Kd.string.C w2 A1' ws7.length ws7) ∧ (∀ x ∈ ws7, x ∈ vs) ∧ otherS v q7 ((m : Int) + 1) ws7 lr = R ∧ (if hushB v vs = true then #[.string v, .slice A1' (vs.length - 1) (c1 - 1), .bool true, .int .i64 ((m : Int) + 1), .slice A4 lr.length c4] else #[.string v, .slice A1' vs.length (c1 - 1), .bool false, .int .i64 ((m : Int) + 1), .slice A4 lr.length c4]) = lineC v (.slice A1' n7 (c1 - 1)) q7 ((m : Int) + 1) A4 lr.length c4 := by
            by_cases hh : hushB v vs = true
            · rw [if_pos hh] at hRr ⊢
              exact ⟨vs.take (vs.length - 1), vs.length - 1, true, by rw [List.length_take]; omega, by rw [List.length_take]; omega, fun w2 h => Kd.C_take h (by omega), fun x hx => List.mem_of_mem_take hx, hRr, rfl⟩
            · rw [if_neg hh] at hRr ⊢
              exact ⟨vs, vs.length, false, rfl, Nat.le_refl _, fun w2 h => h, fun x hx => hx, hRr, rfl⟩
          have HU : Aside0 (∀ w' : World, w'.heap[gl]? = some (.cells (lineC v (.slice A1' vs.length (c1 - 1)) false ((m : Int) + 1) A4 lr.length c4) 90 (0, 0)) → Kd.string.C w' A1' vs.length vs → Calls Tryz.prog 52 #[.pointer (some ⟨gl, 0, none⟩)] w' (HushP gl (lineC v (.slice A1' n7 (c1 - 1)) q7 ((m : Int) + 1) A4 lr.length c4) w')) := ⟨fun w' h1 h2 => by
            have := hush_calls gl v A1' (c1 - 1) vs false ((m : Int) + 1) (.slice A4 lr.length c4) w' h1 h2 hcc (by rw [List.length_cons] at hlen; omega)
            rw [hU] at this
            exact this⟩
          have HOT : Aside0 (∀ w', HolF (fun k => (k ≠ w.heap.size ∧ k ≠ D ∧ k ≠ gl) ∧ (k < w.heap.size → F k)) w' (fun w2 => Kd.string.C w2 A1' vs.length vs) → HolF (fun k => (k ≠ w.heap.size ∧ k ≠ D ∧ k ≠ gl) ∧ (k < w.heap.size → F k)) w' (fun w2 => (Kd.int .u8).C w2 A4 lr.length lr) → Tabs w' → Calls Tryz.prog 53 #[.agg #[.string v, .slice A1' n7 (c1 - 1), .bool q7, .int .i64 ((m : Int) + 1), .slice A4 lr.length c4]] w' (StepR (fun k => (k ≠ w.heap.size ∧ k ≠ D ∧ k ≠ gl) ∧ (k < w.heap.size → F k)) w' R)) := ⟨fun w' h1 h2 h3 => by
            rw [← hn7, ← hR7]
            exact other_calls ⟨v, ws7, q7, (m : Int) + 1, lr⟩ _ (fun k => (k ≠ w.heap.size ∧ k ≠ D ∧ k ≠ gl) ∧ (k < w.heap.size → F k)) w' (fun w2 a1 a2 => kTextinLine_mk w2 ⟨v, ws7, q7, (m : Int) + 1, lr⟩ (show ws7.length ≤ c1 - 1 by omega) (hC7 w2 (h1 w2 a1 a2)) hl4 (h2 w2 a1 a2)) h3 (show ws7.length ≤ 1000000 by rw [List.length_cons] at hlen; omega) (fun k hk => HSZ.out k (List.mem_cons_of_mem _ (hs7 k hk))) (show (0 : Int) ≤ (m : Int) + 1 by omega) (show (m : Int) + 1 ≤ 1000000 by omega) HR8.out hlrl⟩
          clear hU hR7 hC7 hs7 hRr hn7 hn7l HSZ
          go_wp2_with (first | (go_at_call 51; (with_reducible refine (HLO.out).mono ?_); rintro e w5 ⟨⟨cs, rfl, hk⟩, hb⟩; have BX5 := Aside0.mk (blk_below BX4.out hb); have BR5 := Aside0.mk (blk_below BR4.out hb); have HK5 := Aside0.mk (blk_below HK4.out hb); have HWD5 := Aside0.mk (HWD.out.below hb); have HRS5 := Aside0.mk (HRS.out.below hb); have HBn := Aside0.mk (below_step (by repeat (first | (with_reducible first | exact HB.out | apply below_alloc | apply pw_below_drewN | apply below_drew1) | exact HB.out)) hb); clear HB; have HB := HBn; clear HBn; have HKS := Aside0.mk hk; clear hb hk; obtain ⟨B0, d0, B8, d8, B9, d9, rfl, -⟩ := kStep_open HKS.out.now; have hw45 : w.heap.size < w5.heap.size := blk_lt BR5.out; have hg45 : gl < w5.heap.size := blk_lt BX5.out; have hD45 : D < w5.heap.size := (Array.getElem?_eq_some_iff.1 HK5.out).1) | (go_at_call 52; (with_reducible refine (HU.out _ (blk_alloc BX5.out _) (HWD5.out.below ((Below.refl _ _).alloc (Nat.le_refl _) _)).now).mono ?_); rintro e w7 ⟨rfl, hbx, hlow, hsame⟩; have BX7 := Aside0.mk hbx; have BR7 := Aside0.mk ((hsame w.heap.size (by rw [World.size_alloc]; omega) hgr.out).trans (blk_alloc BR5.out _)); have HK7 := Aside0.mk ((hsame D (by rw [World.size_alloc]; omega) hDg.out).trans (blk_alloc HK5.out _)); have HWD7 := Aside0.mk ((HWD5.out.below ((Below.refl _ _).alloc (Nat.le_refl _) _)).kept (hlow 0 (Nat.zero_le _)) (fun k hk hF => hsame k hk hF.1.2.2)); have HRS7 := Aside0.mk ((HRS5.out.below ((Below.refl _ _).alloc (Nat.le_refl _) _)).kept (hlow 0 (Nat.zero_le _)) (fun k hk hF => hsame k hk hF.1.2.2)); have HB7 := Aside0.mk (Below.trans (below_alloc HB.out _) (hlow w.heap.size hle.out)); clear hbx hlow hsame HB; have HB := HB7; clear HB7; have y0 : w7.cell? ⟨gl, 0, none⟩ = some (.string v) := (blk_cell BX7.out 0).trans rfl; have y1 : w7.cell? ⟨gl, 1, none⟩ = some (.slice A1' n7 (c1 - 1)) := (blk_cell BX7.out 1).trans rfl; have y2 : w7.cell? ⟨gl, 2, none⟩ = some (.bool q7) := (blk_cell BX7.out 2).trans rfl; have y3 : w7.cell? ⟨gl, 3, none⟩ = some (.int .i64 ((m : Int) + 1)) := (blk_cell BX7.out 3).trans rfl; have y4 : w7.cell? ⟨gl, 4, none⟩ = some (.slice A4 lr.length c4) := (blk_cell BX7.out 4).trans rfl) | (go_at_call 53; (with_reducible refine (HOT.out _ HWD7.out HRS7.out (Tabs.below HT.out HB.out)).mono ?_); rintro e w9 ⟨⟨cs9, rfl, hk⟩, hb⟩; have BK := Aside0.mk (blk_below BR7.out hb); have HK9 := Aside0.mk (blk_below HK7.out hb); have hr9 := Aside0.mk (blk_lt BR7.out); have hD9 := Aside0.mk ((Array.getElem?_eq_some_iff.1 HK7.out).1); have HBn := Aside0.mk (below_step (by repeat (first | (with_reducible first | exact HB.out | apply below_alloc | apply pw_below_drewN | apply below_drew1) | exact HB.out)) hb); clear HB; have HB := HBn; clear HBn; have HKO := Aside0.mk hk; clear hb hk) | (refine wpList_store_K HKO.out.now rfl 61 _ _ rfl w.heap.size rfl rfl 61 _ BK.out (by kernel_rfl) rfl ?_; intro w8 hbk hlow hfar; have BR8 := Aside0.mk hbk; have HB8 := Aside0.mk (HB.out.trans (hlow w.heap.size (Nat.le_refl _))); have HK8 := Aside0.mk ((hfar (fun k => k = D) (fun w2 => w2.heap[D]? = some (.deferred (some []))) (fun e => hDr.out e.symm) (fun w2 _ hk => (hk D (Array.getElem?_eq_some_iff.1 HK9.out).1 rfl).trans HK9.out)).now); have HKS8 := Aside0.mk (hfar _ _ (fun h => (h hr9.out).1.1 rfl) HKO.out); clear hbk hlow hfar))
          refine ⟨by simp, .inl ⟨_, _, rfl, run_takeDeferred HK8.out, ?_⟩⟩; refine ⟨_, results_cell_row rfl _ _ w.heap.size 61 _ (0, 0) _ rfl ((World.putObj_heap_other (by have := hbel.size; omega)).trans BR8.out) Tryz.underlying61 rfl (by rw [List.size_toArray, kStep.K_len HKO.out.now]; kernel_rfl), ?_⟩
          exact ⟨⟨_, rfl, (HKS8.out.kept (belowK_b (w := w) (n₀ := 0) (Nat.zero_le _) w8 D _ _ (by have := hbel.size; have := HDn.out; omega) HK8.out rfl rfl) (fun k hk hF => World.putObj_heap_other (fun e => (hF (by rw [e]; exact hD9.out)).1.2.1 e))).mono (fun k hk hF => (hk (Nat.lt_trans hF hr9.out)).2 hF)⟩, HB8.out.trans (belowK_b (w := w) (Nat.le_refl _) w8 D _ _ (by have := hbel.size; have := HDn.out; omega) HK8.out rfl rfl)⟩
        · rw [if_pos rfl] at hRr
          subst hRr
          clear HSZ
          go_wp2_with (first | (go_at_call 51; (with_reducible refine (HLO.out).mono ?_); rintro e w5 ⟨⟨cs, rfl, hk⟩, hb⟩; have BX5 := Aside0.mk (blk_below BX4.out hb); have BR5 := Aside0.mk (blk_below BR4.out hb); have HK5 := Aside0.mk (blk_below HK4.out hb); have HWD5 := Aside0.mk (HWD.out.below hb); have HRS5 := Aside0.mk (HRS.out.below hb); have HBn := Aside0.mk (below_step (by repeat (first | (with_reducible first | exact HB.out | apply below_alloc | apply pw_below_drewN | apply below_drew1) | exact HB.out)) hb); clear HB; have HB := HBn; clear HBn; have HKS := Aside0.mk hk; clear hb hk; obtain ⟨B0, d0, B8, d8, B9, d9, rfl, -⟩ := kStep_open HKS.out.now; have hw45 : w.heap.size < w5.heap.size := blk_lt BR5.out; have hg45 : gl < w5.heap.size := blk_lt BX5.out; have hD45 : D < w5.heap.size := (Array.getElem?_eq_some_iff.1 HK5.out).1) | (refine wpList_store_F rfl 61 _ _ rfl w.heap.size 0 _ rfl rfl (by simp [Value.oneCell']) 61 _ _ (blk_alloc BR5.out _) (by simp [zStepC]) (by kernel_rfl) rfl ?_; intro w8 hbk hst; have BR8 := Aside0.mk hbk; have HK8 := Aside0.mk (hst.blk (blk_alloc HK5.out _) hDr.out); have HB8 := Aside0.mk (hst.up (by repeat (first | (with_reducible first | exact HB.out | apply below_alloc | apply pw_below_drewN | apply below_drew1) | exact HB.out)) (Nat.le_refl _)); have HKS8 := Aside0.mk (hst.hol (HKS.out.below ((Below.refl _ _).alloc (Nat.le_refl _) _)) (fun h => (h hr4.out).1.1 rfl)); clear hbk hst))
          refine ⟨by simp, .inl ⟨_, _, rfl, run_takeDeferred HK8.out, ?_⟩⟩; refine ⟨_, results_cell_row rfl _ _ w.heap.size 61 _ (0, 0) _ rfl ((World.putObj_heap_other (by have := hbel.size; omega)).trans BR8.out) Tryz.underlying61 rfl (by kernel_rfl), ?_⟩
          exact ⟨⟨_, rfl, (HKS8.out.kept (belowK_b (w := w) (n₀ := 0) (Nat.zero_le _) w8 D _ _ (by have := hbel.size; have := HDn.out; omega) HK8.out rfl rfl) (fun k hk hF => World.putObj_heap_other (fun e => (hF (by rw [e]; exact hD4.out)).1.2.1 e))).mono (fun k hk hF => (hk (Nat.lt_trans hF hr4.out)).2 hF)⟩, HB8.out.trans (belowK_b (w := w) (Nat.le_refl _) w8 D _ _ (by have := hbel.size; have := HDn.out; omega) HK8.out rfl rfl)⟩
end Go.Proofs.YtdjbbncoioghfaaGreatDoor.X
namespace Go.Proofs.YtdjbbncoioghfaaGreatDoor.X
open Go.RowKit Go.Proofs.YtdjbbncoioghfaaGreatDoorW.PrintWords Go.Proofs.YtdjbbncoioghfaaGreatDoorW.PrintMore
set_option linter.unusedVariables false
set_option linter.unusedSimpArgs false
theorem kd_bad {v k : ByteArray} {q : Bool} {used op exp delta : Int} {words : List ByteArray} {many : Nat} {wrong : ByteArray} (hn : words.length = many) (h0 : words.getD 0 ⟨#[]⟩ = k) (hk : keyS k = false) : keyedSt v q used words many op exp delta wrong = stepF used badT := by
  unfold keyedSt
  rw [if_neg (fun h => h hn), h0, if_pos hk]
theorem kd_wrong {v k : ByteArray} {q : Bool} {used op exp delta : Int} {words : List ByteArray} {many : Nat} {wrong : ByteArray} (hn : words.length = many) (h0 : words.getD 0 ⟨#[]⟩ = k) (hk : keyS k = true) (hw : wrong.size ≠ 0) : keyedSt v q used words many op exp delta wrong = stepF used wrong := by
  unfold keyedSt
  rw [if_neg (fun h => h hn), h0, if_neg (by rw [hk]; decide), if_pos hw]
theorem kd_ok {v k : ByteArray} {q : Bool} {used op exp delta : Int} {words : List ByteArray} {many : Nat} (hn : words.length = many) (h0 : words.getD 0 ⟨#[]⟩ = k) (hk : keyS k = true) : keyedSt v q used words many op exp delta ⟨#[]⟩ = stepO used (formT v q [k]) (cmdK op exp delta k) := by
  unfold keyedSt
  rw [if_neg (fun h => h hn), h0, if_neg (by rw [hk]; decide), if_neg (by decide)]
theorem sgn0 : sgnS (⟨#[48]⟩ : ByteArray) = (0, true) := by decide
end Go.Proofs.YtdjbbncoioghfaaGreatDoor.X
namespace Go.Proofs.YtdjbbncoioghfaaGreatDoor.X
open Go.RowKit Go.Proofs.YtdjbbncoioghfaaGreatDoorW.PrintWords Go.Proofs.YtdjbbncoioghfaaGreatDoorW.PrintMore
set_option linter.unusedVariables false
set_option linter.unusedSimpArgs false
/-- What the first bytes of a connection are. -/
def parseS (l : List Int) : Step :=
  if (lineS l).2.2 = 3 then stepM else if (lineS l).2.2 = 4 then stepFS (lineS l).2.1 longT 0 (l.getD ((lineS l).2.1.toNat - 1) 0 != 10)
  else parseW (lineS l).2.1 (l.drop (lineS l).2.1.toNat) (wordsB (lineS l).1)
theorem lineS_cases (l : List Int) : lineS l = (⟨#[]⟩, 0, 3) ∨ (∃ m : Nat, m < l.length ∧ lineS l = (⟨#[]⟩, (m : Int) + 1, 4)) ∨ (∃ (m : Nat) (t : ByteArray), m < l.length ∧ lineS l = (t, (m : Int) + 1, 0) ∧ t.size ≤ 2048) := by
  unfold lineS
  cases h : nlI l with
  | none =>
    dsimp only
    by_cases h1 : l.length > 2049
    · rw [if_pos h1]
      refine .inr (.inl ⟨l.length - 1, by omega, ?_⟩)
      have : ((l.length - 1 : Nat) : Int) + 1 = l.length := by omega
      rw [this]
    · rw [if_neg h1]
      exact .inl rfl
  | some i =>
    have hi := (nlI_lt l i h).1
    dsimp only
    generalize he : (if 0 < i ∧ l.getD (i - 1) 0 = 13 then i - 1 else i) = e
    by_cases h1 : e > 2048
    · rw [if_pos h1]
      exact .inr (.inl ⟨i, hi, rfl⟩)
    · rw [if_neg h1]
      refine .inr (.inr ⟨i, _, hi, rfl, ?_⟩)
      have : (strOfNums (l.take e)).size = (l.take e).length := by
        unfold strOfNums
        simp [ByteArray.size]
      rw [this, List.length_take]
      omega
/-! ### More bytes used -/
def shiftU (d : Int) (s : Step) : Step := if s.e = 3 then s else { s with used := s.used + d }
theorem sh_ite (d : Int) (c : Prop) [Decidable c] (a b : Step) : shiftU d (if c then a else b) = if c then shiftU d a else shiftU d b := by split <;> rfl
theorem sh_F (d used : Int) (r : ByteArray) : shiftU d (stepF used r) = stepF (used + d) r := if_neg (show ¬ (2 : Int) = 3 by decide)
theorem sh_FS (d used : Int) (r : ByteArray) (k : Int) (b : Bool) : shiftU d (stepFS used r k b) = stepFS (used + d) r k b := if_neg (show ¬ (2 : Int) = 3 by decide)
theorem sh_O (d used : Int) (f : Form) (c : Cmd) : shiftU d (stepO used f c) = stepO (used + d) f c := if_neg (show ¬ (0 : Int) = 3 by decide)
theorem sh_G (d used : Int) (v : ByteArray) (op exp : Int) (keys : List ByteArray) : shiftU d (stepG used v op exp keys) = stepG (used + d) v op exp keys := if_neg (show ¬ (0 : Int) = 3 by decide)
theorem sh_M (d : Int) : shiftU d stepM = stepM := if_pos rfl
theorem sh_keyed (d : Int) (v : ByteArray) (q : Bool) (u : Int) (ws : List ByteArray) (n : Nat) (op exp delta : Int) (wr : ByteArray) : shiftU d (keyedSt v q u ws n op exp delta wr) = keyedSt v q (u + d) ws n op exp delta wr := by
  unfold keyedSt
  simp only [sh_ite, sh_F, sh_O]
theorem sh_del (d : Int) (v : ByteArray) (q : Bool) (u : Int) (ws : List ByteArray) : shiftU d (delS v q u ws) = delS v q (u + d) ws := sh_keyed ..
theorem sh_touch (d : Int) (v : ByteArray) (q : Bool) (u : Int) (ws : List ByteArray) : shiftU d (touchS v q u ws) = touchS v q (u + d) ws := by
  unfold touchS
  simp only [sh_ite, sh_keyed]
theorem sh_sum (d : Int) (v : ByteArray) (q : Bool) (u : Int) (ws : List ByteArray) (op : Int) : shiftU d (sumS v q u ws op) = sumS v q (u + d) ws op := by
  unfold sumS
  simp only [sh_ite, sh_keyed]
theorem sh_flush (d : Int) (v : ByteArray) (q : Bool) (u : Int) (ws : List ByteArray) : shiftU d (flushS v q ws u) = flushS v q ws (u + d) := by
  unfold flushS
  simp only [sh_ite, sh_F, sh_O]
theorem sh_storesR (d : Int) (v : ByteArray) (q : Bool) (u : Int) (r : List Int) (op : Int) (v0 v1 v2 v3 : ByteArray) (cas : Nat × Bool) : shiftU d (storesR v q u r op v0 v1 v2 v3 cas) = storesR v q (u + d) r op v0 v1 v2 v3 cas := by
  unfold storesR
  simp only [sh_ite, sh_FS, sh_O, sh_M, Int.add_right_comm]
theorem sh_stores (d : Int) (v : ByteArray) (q : Bool) (u : Int) (ws : List ByteArray) (r : List Int) (op : Int) (n : Nat) : shiftU d (storesS v q u ws r op n) = storesS v q (u + d) ws r op n := by
  unfold storesS
  simp only [sh_ite, sh_F, sh_storesR]
theorem sh_gets (d : Int) (v : ByteArray) (u : Int) (ws : List ByteArray) (op : Int) : shiftU d (getsS v u ws op) = getsS v (u + d) ws op := by
  unfold getsS
  simp only [sh_ite, sh_F, sh_G]
theorem sh_gats (d : Int) (v : ByteArray) (u : Int) (ws : List ByteArray) : shiftU d (gatsS v u ws) = gatsS v (u + d) ws := by
  unfold gatsS
  simp only [sh_ite, sh_F, sh_G]
theorem sh_bare (d : Int) (v : ByteArray) (n : Nat) (u op : Int) : shiftU d (bareS v n u op) = bareS v n (u + d) op := by
  unfold bareS
  simp only [sh_ite, sh_F, sh_O]
theorem sh_other (d : Int) (v : ByteArray) (q : Bool) (u : Int) (ws : List ByteArray) (r : List Int) : shiftU d (otherS v q u ws r) = otherS v q (u + d) ws r := by
  unfold otherS
  simp only [sh_ite, sh_F, sh_stores, sh_del, sh_sum, sh_touch, sh_flush]
theorem sh_loud (d : Int) (v : ByteArray) (u : Int) (ws : List ByteArray) : (loudS v (u + d) ws).2 = (loudS v u ws).2 ∧ ((loudS v u ws).2 = true → shiftU d (loudS v u ws).1 = (loudS v (u + d) ws).1) := by
  unfold loudS
  by_cases h1 : v = (⟨#[103, 101, 116]⟩ : ByteArray) ∨ v = (⟨#[103, 101, 116, 115]⟩ : ByteArray)
  · simp only [if_pos h1, sh_gets]
    exact ⟨trivial, fun _ => trivial⟩
  by_cases h2 : v = (⟨#[103, 97, 116]⟩ : ByteArray) ∨ v = (⟨#[103, 97, 116, 115]⟩ : ByteArray)
  · simp only [if_neg h1, if_pos h2, sh_gats]
    exact ⟨trivial, fun _ => trivial⟩
  by_cases h3 : v = (⟨#[118, 101, 114, 115, 105, 111, 110]⟩ : ByteArray)
  · simp only [if_neg h1, if_neg h2, if_pos h3, sh_bare]
    exact ⟨trivial, fun _ => trivial⟩
  by_cases h4 : v = (⟨#[113, 117, 105, 116]⟩ : ByteArray)
  · simp only [if_neg h1, if_neg h2, if_neg h3, if_pos h4, sh_bare]
    exact ⟨trivial, fun _ => trivial⟩
  · simp only [if_neg h1, if_neg h2, if_neg h3, if_neg h4]
    exact ⟨trivial, fun h => by cases h⟩
theorem sh_W (d : Int) (u : Int) (r : List Int) (ws : List ByteArray) : shiftU d (parseW u r ws) = parseW (u + d) r ws := by
  cases ws with
  | nil => exact sh_F ..
  | cons v ws =>
    obtain ⟨h1, h2⟩ := sh_loud d v u ws
    unfold parseW
    dsimp only
    rw [h1]
    by_cases h : (loudS v u ws).2 = true
    · rw [if_pos h, if_pos h, h2 h]
    · rw [if_neg h, if_neg h, sh_ite, sh_other, sh_other]
/-! ### More bytes behind -/
theorem body_more (l m : List Int) (n : Int) : (bodyS l n).2.2 = 3 ∨ bodyS (l ++ m) n = bodyS l n := by
  unfold bodyS
  by_cases h0 : n < 0 ∨ n > 1000
  · right; simp only [if_pos h0]
  by_cases h1 : (l.length : Int) < n + 2
  · left; simp only [if_neg h0, if_pos h1]
  · right
    have h2 : ¬ ((l ++ m).length : Int) < n + 2 := by rw [List.length_append]; omega
    have g : ∀ j, j < l.length → (l ++ m).getD j 0 = l.getD j 0 := fun j hj => by
      rw [List.getD_eq_getElem?_getD, List.getD_eq_getElem?_getD, List.getElem?_append_left hj]
    simp only [if_neg h0, if_neg h1, if_neg h2]
    rw [g _ (by omega), g _ (by omega), List.take_append_of_le_length (by omega)]
theorem storesR_more (m : List Int) (v : ByteArray) (q : Bool) (u : Int) (r : List Int) (op : Int) (v0 v1 v2 v3 : ByteArray) (cas : Nat × Bool) : (storesR v q u r op v0 v1 v2 v3 cas).e = 3 ∨ storesR v q u (r ++ m) op v0 v1 v2 v3 cas = storesR v q u r op v0 v1 v2 v3 cas := by
  rcases body_more r m ((decS v3).1 : Int) with h | h
  · unfold storesR
    by_cases h1 : badA (keyS v0) (decS v1).2 (decS v1).1 (sgnS v2).2 (decS v3).2 cas.2 = true
    · right; simp only [if_pos h1]
    by_cases h2 : ((decS v3).1 : Int) > 1000
    · right; simp only [if_neg h1, if_pos h2]
    · left; simp only [if_neg h1, if_neg h2, if_pos h]; rfl
  · right
    unfold storesR
    rw [h]
theorem stores_more (m : List Int) (v : ByteArray) (q : Bool) (u : Int) (ws : List ByteArray) (r : List Int) (op : Int) (n : Nat) : (storesS v q u ws r op n).e = 3 ∨ storesS v q u ws (r ++ m) op n = storesS v q u ws r op n := by
  unfold storesS
  by_cases h : ws.length ≠ n
  · right; simp only [if_pos h]
  · simp only [if_neg h]
    exact storesR_more ..
theorem other_more (m : List Int) (v : ByteArray) (q : Bool) (u : Int) (ws : List ByteArray) (r : List Int) : (otherS v q u ws r).e = 3 ∨ otherS v q u ws (r ++ m) = otherS v q u ws r := by
  unfold otherS
  by_cases q0 : v = (⟨#[115, 101, 116]⟩ : ByteArray)
  · simp only [if_pos q0]; exact stores_more ..
  by_cases q1 : v = (⟨#[97, 100, 100]⟩ : ByteArray)
  · simp only [if_neg q0, if_pos q1]; exact stores_more ..
  by_cases q2 : v = (⟨#[114, 101, 112, 108, 97, 99, 101]⟩ : ByteArray)
  · simp only [if_neg q0, if_neg q1, if_pos q2]; exact stores_more ..
  by_cases q3 : v = (⟨#[97, 112, 112, 101, 110, 100]⟩ : ByteArray)
  · simp only [if_neg q0, if_neg q1, if_neg q2, if_pos q3]; exact stores_more ..
  by_cases q4 : v = (⟨#[112, 114, 101, 112, 101, 110, 100]⟩ : ByteArray)
  · simp only [if_neg q0, if_neg q1, if_neg q2, if_neg q3, if_pos q4]; exact stores_more ..
  by_cases q5 : v = (⟨#[99, 97, 115]⟩ : ByteArray)
  · simp only [if_neg q0, if_neg q1, if_neg q2, if_neg q3, if_neg q4, if_pos q5]; exact stores_more ..
  · simp only [if_neg q0, if_neg q1, if_neg q2, if_neg q3, if_neg q4, if_neg q5]
    right
    trivial
theorem W_more (m : List Int) (u : Int) (r : List Int) (ws : List ByteArray) : (parseW u r ws).e = 3 ∨ parseW u (r ++ m) ws = parseW u r ws := by
  cases ws with
  | nil => exact .inr rfl
  | cons v ws =>
    unfold parseW
    dsimp only
    by_cases h : (loudS v u ws).2 = true
    · right; simp only [if_pos h]
    · simp only [if_neg h]
      by_cases h2 : hushB v ws = true
      · simp only [if_pos h2]; exact other_more ..
      · simp only [if_neg h2]; exact other_more ..
/-! ### What may be -/
def MayC (c : Cmd) : Prop := (keyS c.key = true ∨ 13 ≤ c.op ∧ c.key.size = 0) ∧ c.value.length ≤ 1000 ∧ -1099511627776 ≤ c.exp ∧ c.exp ≤ 1099511627776 ∧ 0 ≤ c.op ∧ c.op ≤ 16
def GoodS (lo hi : Int) (s : Step) : Prop :=
  s = stepM ∨ (∃ u r k b, s = stepFS u r k b ∧ lo ≤ u ∧ u ≤ hi ∧ 0 ≤ k ∧ 0 < r.size ∧ r.size ≤ 1000) ∨
  (∃ u f cs, s = { zStep with req := ⟨cs, f⟩, used := u } ∧ lo ≤ u ∧ u ≤ hi ∧ cs ≠ [] ∧ cs.length ≤ 16 ∧ ∀ c ∈ cs, MayC c)
theorem good_F {lo hi u : Int} {r : ByteArray} (h0 : lo ≤ u) (h1 : u ≤ hi) (h2 : 0 < r.size) (h3 : r.size ≤ 1000) : GoodS lo hi (stepF u r) := .inr (.inl ⟨u, r, 0, false, rfl, h0, h1, by decide, h2, h3⟩)
theorem good_FS {lo hi u k : Int} {r : ByteArray} {b : Bool} (h0 : lo ≤ u) (h1 : u ≤ hi) (hk : 0 ≤ k) (h2 : 0 < r.size) (h3 : r.size ≤ 1000) : GoodS lo hi (stepFS u r k b) := .inr (.inl ⟨u, r, k, b, rfl, h0, h1, hk, h2, h3⟩)
theorem good_O {lo hi u : Int} {f : Form} {c : Cmd} (h0 : lo ≤ u) (h1 : u ≤ hi) (hc : MayC c) : GoodS lo hi (stepO u f c) :=
  .inr (.inr ⟨u, f, [c], rfl, h0, h1, by simp, by simp, fun x hx => by obtain rfl := List.mem_singleton.1 hx; exact hc⟩)
theorem sgn_in (s : ByteArray) : -1099511627776 ≤ (sgnS s).1 ∧ (sgnS s).1 ≤ 1099511627776 := by
  unfold sgnS sgnOf
  split
  · rename_i h
    have := h.2
    dsimp only
    split <;> omega
  · exact ⟨by decide, by decide⟩
theorem good_keyed {lo hi u : Int} (v : ByteArray) (q : Bool) (ws : List ByteArray) (n : Nat) (op exp delta : Int) (wr : ByteArray) (h0 : lo ≤ u) (h1 : u ≤ hi) (ho : 0 ≤ op ∧ op ≤ 16) (he : -1099511627776 ≤ exp ∧ exp ≤ 1099511627776) (hw : wr.size ≤ 1000) : GoodS lo hi (keyedSt v q u ws n op exp delta wr) := by
  unfold keyedSt
  split
  · exact good_F h0 h1 (by decide) (by decide)
  split
  · exact good_F h0 h1 (by decide) (by decide)
  split
  · exact good_F h0 h1 (by omega) hw
  · rename_i hk _
    refine good_O h0 h1 ⟨.inl ?_, by show ([] : List Int).length ≤ 1000; decide, he.1, he.2, ho.1, ho.2⟩
    show keyS (ws.getD 0 ⟨#[]⟩) = true
    revert hk
    cases keyS (ws.getD 0 ⟨#[]⟩)
    · intro h; exact absurd rfl h
    · intro _; rfl
theorem good_storesR {lo u : Int} (v : ByteArray) (q : Bool) (r : List Int) (op : Int) (v0 v1 v2 v3 : ByteArray) (cas : Nat × Bool) (h0 : lo ≤ u) (ho : 0 ≤ op ∧ op ≤ 16) : GoodS lo (u + r.length) (storesR v q u r op v0 v1 v2 v3 cas) := by
  have hsk : 0 ≤ skipN (decS v3) := by
    unfold skipN
    split <;> omega
  unfold storesR
  split
  · exact good_FS h0 (by omega) hsk (by decide) (by decide)
  rename_i hb
  split
  · exact good_FS h0 (by omega) hsk (by decide) (by decide)
  rename_i hl
  have hz1 : ((decS v3).1 : Int) ≤ 1000 := by omega
  generalize decS v3 = z at *
  have hB : (bodyS r z.1).2.2 = 3 ∨ (0 ≤ (bodyS r z.1).2.1 ∧ (bodyS r z.1).2.1 ≤ r.length ∧ (bodyS r z.1).1.length ≤ 1000) := by
    unfold bodyS
    rw [if_neg (by omega)]
    split
    · exact .inl rfl
    · rename_i hn
      right
      split
      · dsimp only
        rw [List.length_take]
        omega
      · dsimp only
        simp only [List.length_nil]
        omega
  split
  · exact .inl rfl
  rename_i h3
  obtain ⟨hB0, hB1, hB2⟩ := hB.resolve_left h3
  split
  · exact good_FS (by omega) (by omega) (by decide) (by decide) (by decide)
  · refine good_O (by omega) (by omega) ⟨.inl ?_, hB2, (sgn_in v2).1, (sgn_in v2).2, ho.1, ho.2⟩
    show keyS v0 = true
    revert hb
    unfold badA
    cases keyS v0
    · intro h; exact absurd rfl h
    · intro _; rfl
theorem good_stores {lo u : Int} (v : ByteArray) (q : Bool) (ws : List ByteArray) (r : List Int) (op : Int) (n : Nat) (h0 : lo ≤ u) (ho : 0 ≤ op ∧ op ≤ 16) : GoodS lo (u + r.length) (storesS v q u ws r op n) := by
  unfold storesS
  split
  · exact good_F h0 (by omega) (by decide) (by decide)
  · exact good_storesR _ _ _ _ _ _ _ _ _ h0 ho
theorem good_other {lo u : Int} (v : ByteArray) (q : Bool) (ws : List ByteArray) (r : List Int) (h0 : lo ≤ u) : GoodS lo (u + r.length) (otherS v q u ws r) := by
  have h1 : u ≤ u + r.length := by omega
  have hk : ∀ (v : ByteArray) (n : Nat) (op exp delta : Int) (wr : ByteArray), (0 ≤ op ∧ op ≤ 16) → (-1099511627776 ≤ exp ∧ exp ≤ 1099511627776) → wr.size ≤ 1000 → GoodS lo (u + r.length) (keyedSt v q u ws n op exp delta wr) := fun v n op exp delta wr a b c => good_keyed v q ws n op exp delta wr h0 h1 a b c
  have hs : ∀ op, GoodS lo (u + r.length) (sumS v q u ws op) ∨ ¬ (0 ≤ op ∧ op ≤ 16) := fun op => by
    by_cases ho : 0 ≤ op ∧ op ≤ 16
    · left
      unfold sumS
      split
      · exact hk _ _ _ _ _ _ ho (by decide) (by decide)
      · exact hk _ _ _ _ _ _ (by decide) (by decide) (by decide)
    · exact .inr ho
  unfold otherS
  by_cases q0 : v = (⟨#[115, 101, 116]⟩ : ByteArray)
  · rw [if_pos q0]
    exact good_stores _ _ _ _ _ _ h0 (by decide)
  rw [if_neg q0]
  by_cases q1 : v = (⟨#[97, 100, 100]⟩ : ByteArray)
  · rw [if_pos q1]
    exact good_stores _ _ _ _ _ _ h0 (by decide)
  rw [if_neg q1]
  by_cases q2 : v = (⟨#[114, 101, 112, 108, 97, 99, 101]⟩ : ByteArray)
  · rw [if_pos q2]
    exact good_stores _ _ _ _ _ _ h0 (by decide)
  rw [if_neg q2]
  by_cases q3 : v = (⟨#[97, 112, 112, 101, 110, 100]⟩ : ByteArray)
  · rw [if_pos q3]
    exact good_stores _ _ _ _ _ _ h0 (by decide)
  rw [if_neg q3]
  by_cases q4 : v = (⟨#[112, 114, 101, 112, 101, 110, 100]⟩ : ByteArray)
  · rw [if_pos q4]
    exact good_stores _ _ _ _ _ _ h0 (by decide)
  rw [if_neg q4]
  by_cases q5 : v = (⟨#[99, 97, 115]⟩ : ByteArray)
  · rw [if_pos q5]
    exact good_stores _ _ _ _ _ _ h0 (by decide)
  rw [if_neg q5]
  by_cases q6 : v = (⟨#[100, 101, 108, 101, 116, 101]⟩ : ByteArray)
  · rw [if_pos q6]
    exact hk _ _ _ _ _ _ (by decide) (by decide) (by decide)
  rw [if_neg q6]
  by_cases q7 : v = (⟨#[105, 110, 99, 114]⟩ : ByteArray)
  · rw [if_pos q7]
    exact (hs 10).resolve_right (fun h => h (by decide))
  rw [if_neg q7]
  by_cases q8 : v = (⟨#[100, 101, 99, 114]⟩ : ByteArray)
  · rw [if_pos q8]
    exact (hs 11).resolve_right (fun h => h (by decide))
  rw [if_neg q8]
  by_cases q9 : v = (⟨#[116, 111, 117, 99, 104]⟩ : ByteArray)
  · rw [if_pos q9]
    unfold touchS
    split
    · exact hk _ _ _ _ _ _ (by decide) (sgn_in _) (by decide)
    · exact hk _ _ _ _ _ _ (by decide) (by decide) (by decide)
  rw [if_neg q9]
  by_cases q10 : v = (⟨#[102, 108, 117, 115, 104, 95, 97, 108, 108]⟩ : ByteArray)
  · rw [if_pos q10]
    unfold flushS
    split
    · exact good_F h0 h1 (by decide) (by decide)
    split
    · refine good_O h0 h1 ⟨.inr ⟨by show (13 : Int) ≤ 13; decide, rfl⟩, by show ([] : List Int).length ≤ 1000; decide, ?_, ?_, by show (0 : Int) ≤ 13; decide, by show (13 : Int) ≤ 16; decide⟩
      · show _ ≤ (expF ws).1
        unfold expF
        split
        · decide
        · exact (sgn_in _).1
      · show (expF ws).1 ≤ _
        unfold expF
        split
        · decide
        · exact (sgn_in _).2
    · exact good_F h0 h1 (by decide) (by decide)
  rw [if_neg q10]
  exact good_F h0 h1 (by decide) (by decide)
theorem keysS_good {ks : List ByteArray} (h : ¬ keysS ks = false) : ks.length ≤ 16 ∧ ∀ k ∈ ks, keyS k = true := by
  have h : keysS ks = true := by revert h; cases keysS ks <;> simp
  unfold keysS at h
  rw [Bool.and_eq_true, decide_eq_true_eq, Bool.not_eq_true', List.any_eq_false] at h
  refine ⟨h.1, fun k hk => ?_⟩
  have := h.2 k hk
  unfold badK at this
  revert this
  cases keyS k <;> simp
theorem good_G {lo hi u : Int} (v : ByteArray) (op exp : Int) (ks : List ByteArray) (h0 : lo ≤ u) (h1 : u ≤ hi) (hn : ks.length ≠ 0) (hk : ¬ keysS ks = false) (ho : 0 ≤ op ∧ op ≤ 16) (he : -1099511627776 ≤ exp ∧ exp ≤ 1099511627776) : GoodS lo hi (stepG u v op exp ks) := by
  obtain ⟨hl, hks⟩ := keysS_good hk
  refine .inr (.inr ⟨u, _, _, rfl, h0, h1, ?_, by rw [List.length_map]; exact hl, ?_⟩)
  · intro h
    rw [List.map_eq_nil_iff] at h
    exact hn (by rw [h]; rfl)
  · intro c hc
    obtain ⟨k, hk, rfl⟩ := List.mem_map.1 hc
    exact ⟨.inl (hks k hk), by show ([] : List Int).length ≤ 1000; decide, he.1, he.2, ho.1, ho.2⟩
theorem good_loud {lo hi u : Int} (v : ByteArray) (ws : List ByteArray) (h0 : lo ≤ u) (h1 : u ≤ hi) (hb : (loudS v u ws).2 = true) : GoodS lo hi (loudS v u ws).1 := by
  have hb' : ∀ op, (0 ≤ op ∧ op ≤ 16 ∧ 13 ≤ op) → GoodS lo hi (bareS v ws.length u op) := fun op ho => by
    unfold bareS
    split
    · exact good_O h0 h1 ⟨.inr ⟨ho.2.2, rfl⟩, by show ([] : List Int).length ≤ 1000; decide, by show _ ≤ (0 : Int); decide, by show (0 : Int) ≤ _; decide, ho.1, ho.2.1⟩
    · exact good_F h0 h1 (by decide) (by decide)
  unfold loudS at hb ⊢
  split
  · show GoodS lo hi (getsS v u ws 0)
    unfold getsS
    split
    · exact good_F h0 h1 (by decide) (by decide)
    split
    · exact good_F h0 h1 (by decide) (by decide)
    · exact good_G _ _ _ _ h0 h1 (by assumption) (by assumption) (by decide) (by decide)
  split
  · show GoodS lo hi (gatsS v u ws)
    unfold gatsS
    split
    · exact good_F h0 h1 (by decide) (by decide)
    split
    · exact good_F h0 h1 (by decide) (by decide)
    split
    · exact good_F h0 h1 (by decide) (by decide)
    · refine good_G _ _ _ _ h0 h1 ?_ (by assumption) (by decide) (sgn_in _)
      rw [List.length_tail]
      omega
  split
  · exact hb' 15 (by decide)
  split
  · exact hb' 16 (by decide)
  · rename_i h1 h2 h3 h4
    rw [if_neg h1, if_neg h2, if_neg h3, if_neg h4] at hb
    cases hb
theorem good_W {lo u : Int} (r : List Int) (ws : List ByteArray) (h0 : lo ≤ u) : GoodS lo (u + r.length) (parseW u r ws) := by
  cases ws with
  | nil => exact good_F h0 (by omega) (by decide) (by decide)
  | cons v ws =>
    unfold parseW
    dsimp only
    split
    · exact good_loud _ _ h0 (by omega) (by assumption)
    split
    · exact good_other _ _ _ _ h0
    · exact good_other _ _ _ _ h0
theorem good_parse (l : List Int) : GoodS 1 l.length (parseS l) := by
  unfold parseS
  rcases lineS_cases l with h | ⟨m, hm, h⟩ | ⟨m, t, hm, h, ht⟩
  · rw [h]
    exact .inl rfl
  · rw [h, if_neg (by dsimp only; decide), if_pos rfl]
    exact good_FS (by dsimp only; omega) (by dsimp only; omega) (by decide) (by decide) (by decide)
  · rw [h, if_neg (by dsimp only; decide), if_neg (by dsimp only; decide)]
    dsimp only
    have := good_W (lo := 1) (u := (m : Int) + 1) (l.drop ((m : Int) + 1).toNat) (wordsB t) (by omega)
    rw [List.length_drop, show ((m : Int) + 1 + ((l.length - ((m : Int) + 1).toNat : Nat) : Int)) = l.length by omega] at this
    exact this
theorem parse_M {l : List Int} (h : lineS l = (⟨#[]⟩, 0, 3)) : parseS l = stepM := by
  unfold parseS
  rw [h]
  rfl
theorem parse_L {l : List Int} {m : Nat} (h : lineS l = (⟨#[]⟩, (m : Int) + 1, 4)) : parseS l = stepFS ((m : Int) + 1) longT 0 (l.getD m 0 != 10) := by
  unfold parseS
  rw [h, if_neg (by dsimp only; decide), if_pos rfl]
  dsimp only
  rw [show ((m : Int) + 1).toNat - 1 = m by omega]
theorem parse_T {l : List Int} {m : Nat} {t : ByteArray} (h : lineS l = (t, (m : Int) + 1, 0)) : parseS l = parseW ((m : Int) + 1) (l.drop (m + 1)) (wordsB t) := by
  unfold parseS
  rw [h, if_neg (by dsimp only; decide), if_neg (by dsimp only; decide)]
  dsimp only
  rw [show ((m : Int) + 1).toNat = m + 1 by omega]
end Go.Proofs.YtdjbbncoioghfaaGreatDoor.X
namespace Go.Proofs.YtdjbbncoioghfaaGreatDoor.X
open Go.RowKit Go.Proofs.YtdjbbncoioghfaaGreatDoorW.PrintWords Go.Proofs.YtdjbbncoioghfaaGreatDoorW.PrintMore
set_option linter.unusedVariables false
set_option linter.unusedSimpArgs false
theorem parse_callsF (l : List Int) (A : Option Addr) (c : Nat) (F : Nat → Prop) (w : World) (hCF : HolF F w (fun w2 => (Kd.int .u8).C w2 A l.length l)) (hc : l.length ≤ c) (hl : l.length ≤ 1000000) (h8 : B8 l) (hT : Tabs w) :
    Calls Tryz.prog 35 #[.slice A l.length c] w (StepR F w (parseS l)) := by
  have hC := hCF.now
  rcases lineS_cases l with h | ⟨m, hm, h⟩ | ⟨m, t, hm, h, ht⟩
  · rw [parse_M h]
    exact parse_more l A c _ w hC hc hl h8 h
  · rw [parse_L h]
    exact parse_long l A c m _ w hC hc hl h8 h hm
  · rw [parse_T h]
    exact parse_go l A c m t F w hCF hc hl h8 h hm (by omega) hT
theorem parse_calls (l : List Int) (A : Option Addr) (c : Nat) (w : World) (hC : (Kd.int .u8).C w A l.length l) (hc : l.length ≤ c) (hl : l.length ≤ 1000000) (h8 : B8 l) (hT : Tabs w) :
    Calls Tryz.prog 35 #[.slice A l.length c] w (StepR (fun _ => True) w (parseS l)) := parse_callsF l A c _ w (HolF.ofC hC) hc hl h8 hT
end Go.Proofs.YtdjbbncoioghfaaGreatDoor.X
namespace Go.Proofs.YtdjbbncoioghfaaGreatDoor.X
open Go.RowKit Go.Proofs.YtdjbbncoioghfaaGreatDoorW.PrintWords Go.Proofs.YtdjbbncoioghfaaGreatDoorW.PrintMore
set_option linter.unusedVariables false
set_option linter.unusedSimpArgs false
set_option maxRecDepth 100000 in
set_option maxHeartbeats 2000000 in
theorem cparse_calls (l : List Int) (n : Nat) (hn : l.length = n) (st : Step) (hst : parseS l = st) (A : Option Addr) (c : Nat) (vout : Value) (g : Nat) (F : Nat → Prop) (w : World) (hg : w.heap[g]? = some (.cells (cnC (.slice A n c) (vout) (1) (0) false false) 59 (0, 0))) (hC : HolF F w (fun w2 => (Kd.int .u8).C w2 A l.length l)) (hc : l.length ≤ c) (hl : l.length ≤ 1000000) (h8 : B8 l) (hT : Tabs w) :
    Calls Tryz.prog 27 #[.pointer (some ⟨g, 0, none⟩)] w (StepR F w st) := by
  subst hn
  have hgl := blk_lt hg
  have t0 : w.cell? ⟨g, 0, none⟩ = some (.slice A l.length c) := (blk_cell hg 0).trans rfl
  have t2 : w.cell? ⟨g, 2, none⟩ = some (.int .i64 1) := (blk_cell hg 2).trans rfl
  have HP : Aside0 (∀ w', Below w.heap.size w w' → Calls Tryz.prog 35 #[.slice A l.length c] w' (StepR (fun k => k < w.heap.size ∧ F k) w' st)) := ⟨fun w' hb => hst ▸ parse_callsF l A c _ w' (hC.deep hb) hc hl h8 (Tabs.below hT hb)⟩
  have HB := Aside0.mk (Below.refl w.heap.size w)
  clear hg hC hT h8 hst
  go_enter Tryz.func27, Tryz.ntmps27
  go_wp2_with (first | (refine wpList_store_K HK.out.now rfl 61 _ _ rfl (w.heap.size) rfl rfl 61 _ BK.out (by kernel_rfl) rfl ?_; intro w2 hbk hlow hfar; have HK2 := Aside0.mk (hfar _ _ (fun h => absurd (h (by simp)).1 (by simp)) HK.out); clear BK; have BK := Aside0.mk hbk; have HL := Aside0.mk hlow; clear hbk hlow hfar) | go_at_call 35; (with_reducible refine (HP.out _ (by repeat (first | (with_reducible first | exact HB.out | apply below_alloc | apply pw_below_drewN | apply below_drew1) | exact HB.out))).mono ?_); rintro e w1 ⟨⟨cs, rfl, hk⟩, hb⟩; have BK := Aside0.mk (blk_below (g := w.heap.size) (by repeat (first | exact blk_at_new _ _ _ (by simp; done) | exact blk_at_new _ _ _ rfl | refine blk_alloc ?_ _ | refine blk_drew ?_ | refine blk_drewN ?_ _)) hb); have HBn := Aside0.mk (below_step (by repeat (first | (with_reducible first | exact HB.out | apply below_alloc | apply pw_below_drewN | apply below_drew1) | exact HB.out)) hb); clear HB; have HB := HBn; clear HBn; have HK := Aside0.mk hk; clear hb hk)
  ((try simp only [Exit.inBlock, Exit.then]); refine bodyPost_ret (results_cell_row rfl _ _ (w.heap.size) 61 _ (0, 0) _ rfl BK.out Tryz.underlying61 rfl (by rw [List.size_toArray, kStep.K_len HK.out.now]; kernel_rfl)) rfl ?_)
  exact ⟨⟨_, rfl, HK2.out.mono (fun k hk h3 => (hk (by simp; omega)).2)⟩, HB.out.trans (HL.out _ (by omega))⟩
end Go.Proofs.YtdjbbncoioghfaaGreatDoor.X
namespace Go.Proofs.YtdjbbncoioghfaaGreatDoor.X
set_option linter.unusedVariables false
set_option linter.unusedSimpArgs false
def NoB (w : List UInt8) : Prop := w ≠ [] ∧ ∀ b ∈ w, b ≠ 32
def jn : List (List UInt8) → List UInt8
  | [] => []
  | [w] => w
  | w :: v :: r => w ++ 32 :: jn (v :: r)
theorem jn_snoc : ∀ (p : List (List UInt8)) (w : List UInt8), p ≠ [] → jn (p ++ [w]) = jn p ++ 32 :: w
  | [], _, h => absurd rfl h
  | [v], w, _ => rfl
  | v :: u :: r, w, _ => by
    have ih := jn_snoc (u :: r) w (by simp)
    show v ++ 32 :: jn ((u :: r) ++ [w]) = (v ++ 32 :: jn (u :: r)) ++ 32 :: w
    rw [ih]
    simp
theorem trimL_head (b : UInt8) (l : List UInt8) (h : b ≠ 32) : trimL (b :: l) = b :: l := by
  unfold trimL Lib.trimLeftB
  simp [List.dropWhile_cons, h]
theorem headW_app (w r : List UInt8) (h : ∀ b ∈ w, b ≠ 32) : headW (w ++ 32 :: r) = w := by
  induction w with
  | nil => simp [headW]
  | cons b w ih =>
    have hb := h b (by simp)
    have := ih (fun c hc => h c (by simp [hc]))
    unfold headW at this ⊢
    simp [hb, this]
theorem headW_all (w : List UInt8) (h : ∀ b ∈ w, b ≠ 32) : headW w = w := by
  induction w with
  | nil => rfl
  | cons b w ih =>
    have hb := h b (by simp)
    have := ih (fun c hc => h c (by simp [hc]))
    unfold headW at this ⊢
    simp [hb, this]
theorem wordsL_jn : ∀ (ws : List (List UInt8)), (∀ w ∈ ws, NoB w) → wordsL (jn ws) = ws
  | [], _ => wordsL_nil _ rfl
  | [w], h => by
    obtain ⟨h1, h2⟩ := h w (by simp)
    obtain ⟨b, r, rfl⟩ := List.exists_cons_of_ne_nil h1
    show wordsL (b :: r) = _
    have ht := trimL_head b r (h2 b (by simp))
    rw [wordsL_cons _ (by rw [ht]; simp), ht, headW_all _ h2]
    have : tailW (b :: r) = [] := by
      unfold tailW
      rw [headW_all _ h2]
      exact List.drop_eq_nil_of_le (by omega)
    rw [this, wordsL_nil _ rfl]
  | w :: v :: rs, h => by
    have ih := wordsL_jn (v :: rs) (fun x hx => h x (by simp at hx ⊢; right; exact hx))
    obtain ⟨h1, h2⟩ := h w (by simp)
    obtain ⟨b, r, rfl⟩ := List.exists_cons_of_ne_nil h1
    show wordsL ((b :: r) ++ 32 :: jn (v :: rs)) = _
    have ht : trimL ((b :: r) ++ 32 :: jn (v :: rs)) = (b :: r) ++ 32 :: jn (v :: rs) := trimL_head b _ (h2 b (by simp))
    rw [wordsL_cons _ (by rw [ht]; simp), ht, headW_app _ _ h2]
    have : tailW ((b :: r) ++ 32 :: jn (v :: rs)) = jn (v :: rs) := by
      unfold tailW
      rw [headW_app _ _ h2, show (b :: r) ++ 32 :: jn (v :: rs) = ((b :: r) ++ [32]) ++ jn (v :: rs) by simp, List.drop_left' (by simp)]
    rw [this, ih]
theorem trimL_first (l : List UInt8) (b : UInt8) (r : List UInt8) (h : trimL l = b :: r) : b ≠ 32 := by
  intro e
  have := List.head?_dropWhile_not (fun x : UInt8 => x == 32) l
  unfold trimL Lib.trimLeftB at h
  rw [h] at this
  simp [e] at this
theorem headW_ne (l : List UInt8) : ∀ c ∈ headW l, c ≠ 32 := by
  induction l with
  | nil => intro c hc; simp [headW] at hc
  | cons b l ih =>
    intro c hc
    unfold headW at hc ih
    by_cases hb : b = 32
    · simp [hb] at hc
    · have hb2 : (b != 32) = true := by simp [hb]
      rw [List.takeWhile_cons, hb2] at hc
      rcases List.mem_cons.1 hc with rfl | hc
      · exact hb
      · exact ih c hc
theorem wordsL_ok (l : List UInt8) : ∀ w ∈ wordsL l, NoB w := by
  induction h : l.length using Nat.strongRecOn generalizing l with
  | _ n ih =>
    by_cases h0 : trimL l = []
    · rw [wordsL_nil _ h0]; simp
    · rw [wordsL_cons _ h0]
      intro w hw
      rcases List.mem_cons.1 hw with rfl | hw
      · obtain ⟨b, r, hb⟩ := List.exists_cons_of_ne_nil h0
        have hb2 := trimL_first l b r hb
        refine ⟨?_, fun c hc => ?_⟩
        · rw [hb]
          unfold headW
          simp [hb2]
        · exact headW_ne _ c hc
      · exact ih _ (by have := tailW_lt l h0; omega) _ rfl w hw
theorem headW_stop (m : List UInt8) (h : (headW m).length < m.length) : m[(headW m).length] = 32 := by
  induction m with
  | nil => simp at h
  | cons b m ih =>
    by_cases hb : b = 32
    · subst hb
      simp [headW]
    · have e : headW (b :: m) = b :: headW m := by unfold headW; simp [hb]
      have h2 : (headW m).length < m.length := by rw [e] at h; simpa using h
      have := ih h2
      simp only [e, List.length_cons, List.getElem_cons_succ]
      exact this
theorem headW_in (m : List UInt8) (i : Nat) (h : i < (headW m).length) : m[i]'(by have := headW_len m; omega) ≠ 32 := by
  have h1 := headW_ne m (headW m)[i] (List.getElem_mem _)
  have h2 : (headW m)[i] = m[i]'(by have := headW_len m; omega) := by
    have e := headW_take m
    have h3 : (m.take (headW m).length)[i]? = (headW m)[i]? := by rw [e]
    rw [List.getElem?_take_of_lt h, List.getElem?_eq_getElem h, List.getElem?_eq_getElem (by have := headW_len m; omega)] at h3
    exact (Option.some.inj h3).symm
  rw [← h2]
  exact h1
theorem wordsL_blank (r : List UInt8) : wordsL (32 :: r) = wordsL r := by
  have e : trimL (32 :: r) = trimL r := by unfold trimL Lib.trimLeftB; simp
  by_cases h : trimL r = []
  · rw [wordsL_nil _ h, wordsL_nil _ (by rw [e]; exact h)]
  · rw [wordsL_cons _ h, wordsL_cons _ (by rw [e]; exact h), e]
theorem wordsL_step (m : List UInt8) (hm : m ≠ []) : wordsL m = (if 0 < (headW m).length then [headW m] else []) ++ wordsL (tailW m) := by
  obtain ⟨b, r, rfl⟩ := List.exists_cons_of_ne_nil hm
  by_cases hb : b = 32
  · subst hb
    have e : headW (32 :: r) = [] := by simp [headW]
    have e2 : tailW (32 :: r) = r := by unfold tailW; rw [e]; rfl
    rw [wordsL_blank, e, e2]
    simp
  · have e : headW (b :: r) = b :: headW r := by unfold headW; simp [hb]
    have ht := trimL_head b r hb
    rw [wordsL_cons _ (by rw [ht]; simp), ht, if_pos (by rw [e]; simp)]
    rfl
theorem headW_lt_app (a x : List UInt8) (h : (headW a).length < a.length) : headW (a ++ x) = headW a := by
  induction a with
  | nil => simp at h
  | cons b a ih =>
    by_cases hb : b = 32
    · subst hb
      simp [headW]
    · have e : ∀ l : List UInt8, headW (b :: l) = b :: headW l := fun l => by unfold headW; simp [hb]
      have h2 : (headW a).length < a.length := by rw [e] at h; simpa using h
      rw [List.cons_append, e, e, ih h2]
/-- A line that is put together of two with a blank between has the words of both. -/
theorem wordsL_cat (a b : List UInt8) : wordsL (a ++ 32 :: b) = wordsL a ++ wordsL b := by
  induction h : a.length using Nat.strongRecOn generalizing a with
  | _ n ih =>
    by_cases ha : a = []
    · subst ha
      rw [List.nil_append, wordsL_blank, wordsL_nil [] rfl]
      rfl
    · have hle := headW_len a
      have hpos : 0 < a.length := List.length_pos_iff.2 ha
      rw [wordsL_step _ (show a ++ 32 :: b ≠ [] by simp), wordsL_step a ha]
      by_cases hlt : (headW a).length < a.length
      · have e1 := headW_lt_app a (32 :: b) hlt
        have e2 : tailW (a ++ 32 :: b) = tailW a ++ 32 :: b := by
          unfold tailW
          rw [e1, List.drop_append_of_le_length (by omega)]
        rw [e1, e2, ih _ (by unfold tailW; rw [List.length_drop]; omega) (tailW a) rfl, List.append_assoc]
      · have hall : headW a = a := by
          have := headW_take a
          rw [show (headW a).length = a.length by omega, List.take_length] at this
          exact this.symm
        have hn : ∀ c ∈ a, c ≠ 32 := by rw [← hall]; exact headW_ne a
        have e1 := headW_app a b hn
        have e2 : tailW (a ++ 32 :: b) = b := by
          unfold tailW
          rw [e1, show a ++ 32 :: b = (a ++ [32]) ++ b by simp, List.drop_left' (by simp)]
        have e3 : tailW a = [] := by
          unfold tailW
          rw [hall]
          exact List.drop_eq_nil_of_le (by omega)
        rw [e1, e2, e3, hall, wordsL_nil [] rfl, List.append_nil]
theorem wordsL_rep (k : Nat) (l : List UInt8) : wordsL (List.replicate k 32 ++ l) = wordsL l := by
  induction k with
  | zero => rfl
  | succ k ih => rw [List.replicate_succ, List.cons_append, wordsL_blank, ih]
theorem wordsL_end (k : Nat) (l : List UInt8) : wordsL (l ++ List.replicate k 32) = wordsL l := by
  cases k with
  | zero => rw [List.replicate_zero, List.append_nil]
  | succ k =>
    have := wordsL_rep k []
    rw [List.append_nil] at this
    rw [List.replicate_succ, wordsL_cat, this, wordsL_nil [] rfl, List.append_nil]
/-- Each blank made k blanks wider. -/
def exB (k : Nat) (l : List UInt8) : List UInt8 := l.flatMap fun b => (if b = 32 then List.replicate k 32 else []) ++ [b]
theorem exB_none (k : Nat) : ∀ (l : List UInt8), (∀ c ∈ l, c ≠ 32) → exB k l = l
  | [], _ => rfl
  | c :: l, h => by
    have ih := exB_none k l (fun x hx => h x (List.mem_cons_of_mem _ hx))
    unfold exB at ih ⊢
    rw [List.flatMap_cons, ih, if_neg (h c (by simp))]
    rfl
theorem exB_app (k : Nat) (a b : List UInt8) : exB k (a ++ b) = exB k a ++ exB k b := List.flatMap_append
theorem rep_snoc (k : Nat) (l : List UInt8) : (List.replicate k 32 ++ [32]) ++ l = 32 :: (List.replicate k 32 ++ l) := by
  rw [← List.replicate_succ', List.replicate_succ]
  rfl
theorem wordsL_ex (k : Nat) (l : List UInt8) : wordsL (exB k l) = wordsL l := by
  induction h : l.length using Nat.strongRecOn generalizing l with
  | _ n ih =>
    have hle := headW_len l
    by_cases hlt : (headW l).length < l.length
    · have hs := headW_stop l hlt
      have hl : l = headW l ++ 32 :: tailW l := by
        unfold tailW
        conv => lhs; rw [← List.take_append_drop (headW l).length l, headW_take, List.drop_eq_getElem_cons hlt, hs]
      have e : exB k l = headW l ++ 32 :: (List.replicate k 32 ++ exB k (tailW l)) := by
        conv => lhs; rw [hl, exB_app, exB_none k _ (headW_ne l)]
        rw [← rep_snoc]
        rfl
      rw [e, wordsL_cat, wordsL_rep, ih _ (by unfold tailW; rw [List.length_drop]; omega) (tailW l) rfl]
      conv => rhs; rw [hl, wordsL_cat]
    · have hall : headW l = l := by
        have := headW_take l
        rw [show (headW l).length = l.length by omega, List.take_length] at this
        exact this.symm
      rw [exB_none k l (by rw [← hall]; exact headW_ne l)]
theorem wordsL_one (w : List UInt8) (h : NoB w) : wordsL w = [w] := wordsL_jn [w] (fun x hx => by obtain rfl := List.mem_singleton.1 hx; exact h)
theorem exB_len (k : Nat) : ∀ (l : List UInt8), (exB k l).length ≤ (k + 1) * l.length
  | [] => by simp [exB]
  | c :: l => by
    have ih := exB_len k l
    unfold exB at ih ⊢
    rw [List.flatMap_cons, List.length_append, List.length_cons, Nat.mul_add]
    have : ((if c = 32 then List.replicate k 32 else []) ++ [c]).length ≤ k + 1 := by
      rw [List.length_append]
      split
      · simp
      · simp
    omega
end Go.Proofs.YtdjbbncoioghfaaGreatDoor.X
namespace Go.Proofs.YtdjbbncoioghfaaGreatDoor.X
open Go.RowKit Go.Proofs.YtdjbbncoioghfaaGreatDoorW.PrintWords Go.Proofs.YtdjbbncoioghfaaGreatDoorW.PrintMore
set_option linter.unusedVariables false
set_option linter.unusedSimpArgs false
/-- Bytes as numbers. -/
def numsL (l : List UInt8) : List Int := l.map fun b => (b.toNat : Int)
theorem numsL_app (a b : List UInt8) : numsL (a ++ b) = numsL a ++ numsL b := List.map_append
theorem numsL_len (l : List UInt8) : (numsL l).length = l.length := List.length_map ..
theorem B8_nums (l : List UInt8) : B8 (numsL l) := fun z hz => by
  obtain ⟨b, _, rfl⟩ := List.mem_map.1 hz
  have := b.toNat_lt
  omega
theorem str_nums (l : List UInt8) : strOfNums (numsL l) = baOf l := by
  unfold strOfNums baOf numsL
  congr 1
  simp
  exact (List.map_congr_left (fun b _ => by simp)).trans (List.map_id l)
theorem nlI_app (l r : List Int) (h : ∀ z ∈ l, z ≠ 10) : nlI (l ++ 10 :: r) = some l.length := by
  induction l with
  | nil => simp [nlI]
  | cons z l ih =>
    have h1 := h z (by simp)
    rw [List.cons_append, nlI, if_neg h1, ih (fun x hx => h x (by simp [hx]))]
    rfl
def NoNl (l : List UInt8) : Prop := ∀ b ∈ l, b ≠ 10 ∧ b ≠ 13
theorem nums_ne {l : List UInt8} {c : UInt8} {k : Int} (hk : (c.toNat : Int) = k) (h : ∀ b ∈ l, b ≠ c) : ∀ z ∈ numsL l, z ≠ k := fun z hz e => by
  obtain ⟨b, hb, rfl⟩ := List.mem_map.1 hz
  have : b = c := by
    apply UInt8.toNat_inj.1
    have e : (b.toNat : Int) = k := e
    omega
  exact h b hb this
theorem line_crlf (l : List UInt8) (r : List Int) (h : NoNl l) (hl : l.length ≤ 2048) : lineS (numsL l ++ 13 :: 10 :: r) = (baOf l, ((l.length + 1 : Nat) : Int) + 1, 0) := by
  have hn : nlI (numsL l ++ 13 :: 10 :: r) = some (l.length + 1) := by
    have := nlI_app (numsL l ++ [13]) r (fun z hz => by
      rcases List.mem_append.1 hz with hz | hz
      · exact nums_ne (c := 10) (by decide) (fun b hb => (h b hb).1) z hz
      · obtain rfl := List.mem_singleton.1 hz
        decide)
    rw [List.length_append, numsL_len, List.append_assoc] at this
    exact this
  unfold lineS
  rw [hn]
  dsimp only
  have e1 : (numsL l ++ 13 :: 10 :: r).getD (l.length + 1 - 1) 0 = 13 := by
    rw [Nat.add_sub_cancel, List.getD_eq_getElem?_getD, List.getElem?_append_right (by rw [numsL_len]; omega), numsL_len, Nat.sub_self]
    rfl
  rw [show (if 0 < l.length + 1 ∧ (numsL l ++ 13 :: 10 :: r).getD (l.length + 1 - 1) 0 = 13 then l.length + 1 - 1 else l.length + 1) = l.length from (if_pos ⟨by omega, e1⟩).trans (Nat.add_sub_cancel ..), if_neg (by omega), List.take_left' (numsL_len l), str_nums]
theorem line_lf (l : List UInt8) (r : List Int) (h : NoNl l) (hl : l.length ≤ 2048) : lineS (numsL l ++ 10 :: r) = (baOf l, (l.length : Int) + 1, 0) := by
  have hn : nlI (numsL l ++ 10 :: r) = some l.length := by
    have := nlI_app (numsL l) r (fun z hz => nums_ne (c := 10) (by decide) (fun b hb => (h b hb).1) z hz)
    rw [numsL_len] at this
    exact this
  unfold lineS
  rw [hn]
  dsimp only
  have e1 : ¬ (0 < l.length ∧ (numsL l ++ 10 :: r).getD (l.length - 1) 0 = 13) := fun ⟨h0, e⟩ => by
    rw [List.getD_eq_getElem?_getD, List.getElem?_append_left (by rw [numsL_len]; omega), List.getElem?_eq_getElem (by rw [numsL_len]; omega)] at e
    exact nums_ne (c := 13) (k := 13) (by decide) (fun b hb => (h b hb).2) _ (List.getElem_mem (by rw [numsL_len]; omega)) e
  rw [show (if 0 < l.length ∧ (numsL l ++ 10 :: r).getD (l.length - 1) 0 = 13 then l.length - 1 else l.length) = l.length from if_neg e1, if_neg (by omega), List.take_left' (numsL_len l), str_nums]
theorem wordsB_ba (l : List UInt8) : wordsB (baOf l) = (wordsL l).map baOf := rfl
theorem parse_crlf (l : List UInt8) (r : List Int) (h : NoNl l) (hl : l.length ≤ 2048) : parseS (numsL l ++ 13 :: 10 :: r) = parseW ((l.length : Int) + 2) r ((wordsL l).map baOf) := by
  rw [parse_T (line_crlf l r h hl), wordsB_ba]
  have e : (numsL l ++ 13 :: 10 :: r).drop (l.length + 1 + 1) = r := by
    rw [show numsL l ++ 13 :: 10 :: r = (numsL l ++ [13, 10]) ++ r by simp]
    exact List.drop_left' (by rw [List.length_append, numsL_len]; rfl)
  rw [e, show (((l.length + 1 : Nat) : Int) + 1) = (l.length : Int) + 2 by omega]
theorem parse_lf (l : List UInt8) (r : List Int) (h : NoNl l) (hl : l.length ≤ 2048) : parseS (numsL l ++ 10 :: r) = parseW ((l.length : Int) + 1) r ((wordsL l).map baOf) := by
  rw [parse_T (line_lf l r h hl), wordsB_ba]
  have e : (numsL l ++ 10 :: r).drop (l.length + 1) = r := by
    rw [show numsL l ++ 10 :: r = (numsL l ++ [10]) ++ r by simp]
    exact List.drop_left' (by rw [List.length_append, numsL_len]; rfl)
  rw [e]
theorem sh_e (d : Int) (s : Step) : (shiftU d s).e = s.e := by unfold shiftU; split <;> rfl
theorem sh_used {d : Int} {s : Step} (h : s.e ≠ 3) : shiftU d s = { s with used := s.used + d } := if_neg h
/-! ### Ends -/
theorem ends_law (l : List UInt8) (h : NoNl l) (hl : l.length ≤ 2048) : parseS (numsL l ++ [13, 10]) = shiftU 1 (parseS (numsL l ++ [10])) := by
  rw [parse_crlf l [] h hl, parse_lf l [] h hl, sh_W]
  congr 1
/-! ### Blanks -/
theorem blanks_law (l : List UInt8) (k : Nat) (h : NoNl l) (hl : l.length ≤ 300) (hk : k ≤ 3) : parseS (numsL ((List.replicate k 32 ++ exB k l) ++ List.replicate k 32) ++ [13, 10]) = shiftU (((List.replicate k 32 ++ exB k l).length : Int) + k - l.length) (parseS (numsL l ++ [13, 10])) := by
  have hx : ∀ b ∈ exB k l, b ≠ 10 ∧ b ≠ 13 := fun b hb => by
    unfold exB at hb
    obtain ⟨c, hc, hb⟩ := List.mem_flatMap.1 hb
    rcases List.mem_append.1 hb with hb | hb
    · split at hb
      · obtain rfl := List.eq_of_mem_replicate hb
        decide
      · cases hb
    · obtain rfl := List.mem_singleton.1 hb
      exact h _ hc
  have hr : ∀ b ∈ List.replicate k (32 : UInt8), b ≠ 10 ∧ b ≠ 13 := fun b hb => by
    obtain rfl := List.eq_of_mem_replicate hb
    decide
  have hn : NoNl ((List.replicate k 32 ++ exB k l) ++ List.replicate k 32) := fun b hb => by
    rcases List.mem_append.1 hb with hb | hb
    · rcases List.mem_append.1 hb with hb | hb
      · exact hr b hb
      · exact hx b hb
    · exact hr b hb
  have hle := exB_len k l
  have hle2 : (k + 1) * l.length ≤ 4 * l.length := Nat.mul_le_mul_right _ (by omega)
  rw [parse_crlf _ [] hn (by rw [List.length_append, List.length_append, List.length_replicate]; omega), parse_crlf l [] h (by omega), sh_W, wordsL_end, wordsL_rep, wordsL_ex]
  congr 1
  rw [List.length_append, List.length_replicate]
  omega
/-! ### More -/
theorem nlI_more : ∀ (l m : List Int) (k : Nat), nlI l = some k → nlI (l ++ m) = some k
  | [], _, _, h => by cases h
  | z :: l, m, k, h => by
    rw [List.cons_append]
    unfold nlI at h ⊢
    by_cases hz : z = 10
    · rw [if_pos hz] at h ⊢
      exact h
    · rw [if_neg hz] at h ⊢
      cases hl : nlI l with
      | none => rw [hl] at h; cases h
      | some j =>
        rw [nlI_more l m j hl]
        rw [hl] at h
        exact h
theorem nlI_beyond : ∀ (l m : List Int) (k : Nat), nlI l = none → nlI (l ++ m) = some k → l.length ≤ k
  | [], _, _, _, _ => Nat.zero_le _
  | z :: l, m, k, h, hk => by
    rw [List.cons_append] at hk
    unfold nlI at h hk
    by_cases hz : z = 10
    · rw [if_pos hz] at h
      cases h
    · rw [if_neg hz] at h hk
      have h' : nlI l = none := by
        cases hl : nlI l with
        | none => rfl
        | some j => rw [hl] at h; cases h
      cases hl : nlI (l ++ m) with
      | none => rw [hl] at hk; cases hk
      | some j =>
        have := nlI_beyond l m j h' hl
        rw [hl] at hk
        have e : j + 1 = k := by simpa using hk
        rw [List.length_cons]
        omega
/-- More must come; or more bytes change nothing; or a line is too long that has no end. -/
def MoreR (l : List Int) (s t : Step) : Prop := s.e = 3 ∨ t = s ∨ (∃ u b, s = stepFS l.length longT 0 true ∧ t = stepFS u longT 0 b)
theorem more_law (l m : List Int) : MoreR l (parseS l) (parseS (l ++ m)) := by
  cases h : nlI l with
  | none =>
    by_cases h1 : l.length > 2049
    · have e : lineS l = (⟨#[]⟩, ((l.length - 1 : Nat) : Int) + 1, 4) := by
        unfold lineS
        rw [h]
        dsimp only
        rw [if_pos h1, show ((l.length - 1 : Nat) : Int) + 1 = l.length by omega]
      have hs := parse_L e
      rw [show ((l.length - 1 : Nat) : Int) + 1 = l.length by omega] at hs
      have hb : (l.getD (l.length - 1) 0 != 10) = true := by
        have hlt : l.length - 1 < l.length := by omega
        have := nlI_none l h l[l.length - 1] (List.getElem_mem hlt)
        rw [List.getD_eq_getElem?_getD, List.getElem?_eq_getElem hlt]
        simpa using this
      rw [hb] at hs
      have ht : ∃ m', lineS (l ++ m) = (⟨#[]⟩, ((m' : Nat) : Int) + 1, 4) := by
        unfold lineS
        cases h2 : nlI (l ++ m) with
        | none =>
          dsimp only
          refine ⟨(l ++ m).length - 1, ?_⟩
          have hl2 : (l ++ m).length = l.length + m.length := List.length_append
          rw [if_pos (by omega), show (((l ++ m).length - 1 : Nat) : Int) + 1 = (l ++ m).length by omega]
        | some k =>
          have hk := nlI_beyond l m k h h2
          dsimp only
          refine ⟨k, ?_⟩
          rw [if_pos (by split <;> omega)]
      obtain ⟨m', ht⟩ := ht
      exact .inr (.inr ⟨_, _, hs, parse_L ht⟩)
    · left
      have e : lineS l = (⟨#[]⟩, 0, 3) := by
        unfold lineS
        rw [h]
        dsimp only
        rw [if_neg h1]
      rw [parse_M e]
      rfl
  | some k =>
    obtain ⟨hk, hk10⟩ := nlI_lt l k h
    have g : ∀ j, j < l.length → (l ++ m).getD j 0 = l.getD j 0 := fun j hj => by
      rw [List.getD_eq_getElem?_getD, List.getD_eq_getElem?_getD, List.getElem?_append_left hj]
    have e : lineS (l ++ m) = lineS l := by
      unfold lineS
      rw [h, nlI_more l m k h]
      dsimp only
      rw [g (k - 1) (by omega)]
      generalize he : (if 0 < k ∧ l.getD (k - 1) 0 = 13 then k - 1 else k) = e
      have hek : e ≤ k := by rw [← he]; split <;> omega
      rw [List.take_append_of_le_length (by omega)]
    have hcase := lineS_cases l
    rcases hcase with h3 | ⟨m', hm', h4⟩ | ⟨m', t, hm', h0, ht⟩
    · left
      rw [parse_M h3]
      rfl
    · right; left
      rw [parse_L h4, parse_L (e.trans h4), g m' hm']
    · rw [parse_T h0, parse_T (e.trans h0), List.drop_append_of_le_length (by omega)]
      rcases W_more m ((m' : Int) + 1) (l.drop (m' + 1)) (wordsB t) with h | h
      · exact .inl h
      · exact .inr (.inl h)
/-! ### Quiet -/
def setQ (s : Step) : Step := if s.e = 0 then { s with req := { s.req with form := { s.req.form with quiet := true } } } else s
theorem sq_ite (c : Prop) [Decidable c] (a b : Step) : setQ (if c then a else b) = if c then setQ a else setQ b := by split <;> rfl
theorem sq_F (used : Int) (r : ByteArray) : setQ (stepF used r) = stepF used r := if_neg (show ¬ (2 : Int) = 0 by decide)
theorem sq_O (used : Int) (v : ByteArray) (q : Bool) (ks : List ByteArray) (c : Cmd) : setQ (stepO used (formT v q ks) c) = stepO used (formT v true ks) c := if_pos rfl
theorem sq_keyed (v : ByteArray) (u : Int) (ws : List ByteArray) (n : Nat) (op exp delta : Int) (wr : ByteArray) : setQ (keyedSt v false u ws n op exp delta wr) = keyedSt v true u ws n op exp delta wr := by
  unfold keyedSt
  simp only [sq_ite, sq_F, sq_O]
theorem sq_del (v : ByteArray) (u : Int) (ws : List ByteArray) : setQ (delS v false u ws) = delS v true u ws := sq_keyed ..
theorem sq_touch (v : ByteArray) (u : Int) (ws : List ByteArray) : setQ (touchS v false u ws) = touchS v true u ws := by
  unfold touchS
  simp only [sq_ite, sq_keyed]
theorem sq_sum (v : ByteArray) (u : Int) (ws : List ByteArray) (op : Int) : setQ (sumS v false u ws op) = sumS v true u ws op := by
  unfold sumS
  simp only [sq_ite, sq_keyed]
theorem sq_flush (v : ByteArray) (u : Int) (ws : List ByteArray) : setQ (flushS v false ws u) = flushS v true ws u := by
  unfold flushS
  simp only [sq_ite, sq_F, sq_O]
/-- The one command of a request. -/
def opOf (s : Step) : Int := (s.req.cmds.getD 0 zCmd).op
def AskQ (s : Step) : Prop := s.e = 0 ∧ s.req.cmds.length = 1 ∧ s.req.form.quiet = false ∧ (opOf s = 8 ∨ opOf s = 2 ∨ opOf s = 10 ∨ opOf s = 11 ∨ opOf s = 13)
theorem askq_F {u : Int} {r : ByteArray} : ¬ AskQ (stepF u r) := fun h => absurd h.1 (show ¬ (2 : Int) = 0 by decide)
theorem askq_FS {u k : Int} {r : ByteArray} {b : Bool} : ¬ AskQ (stepFS u r k b) := fun h => absurd h.1 (show ¬ (2 : Int) = 0 by decide)
theorem askq_M : ¬ AskQ stepM := fun h => absurd h.1 (show ¬ (3 : Int) = 0 by decide)
theorem askq_stores {v : ByteArray} {q : Bool} {u : Int} {ws : List ByteArray} {r : List Int} {op : Int} {n : Nat} (ho : 3 ≤ op ∧ op ≤ 7) : ¬ AskQ (storesS v q u ws r op n) := by
  unfold storesS
  split
  · exact askq_F
  unfold storesR
  split
  · exact askq_FS
  split
  · exact askq_FS
  split
  · exact askq_M
  split
  · exact askq_FS
  · intro h
    have h4 : op = 8 ∨ op = 2 ∨ op = 10 ∨ op = 11 ∨ op = 13 := h.2.2.2
    omega
theorem askq_G {u : Int} {v : ByteArray} {op exp : Int} {ks : List ByteArray} (ho : op = 0 ∨ op = 1) : ¬ AskQ (stepG u v op exp ks) := by
  intro h
  have hl : (ks.map (cmdK op exp 0)).length = 1 := h.2.1
  have h4 := h.2.2.2
  rw [List.length_map] at hl
  obtain ⟨k, rfl⟩ := len1 hl
  have h4 : op = 8 ∨ op = 2 ∨ op = 10 ∨ op = 11 ∨ op = 13 := h4
  omega
theorem askq_loud {v : ByteArray} {u : Int} {ws : List ByteArray} (hb : (loudS v u ws).2 = true) : ¬ AskQ (loudS v u ws).1 := by
  have hb' : ∀ op, (op = 15 ∨ op = 16) → ¬ AskQ (bareS v ws.length u op) := fun op ho => by
    unfold bareS
    split
    · intro h
      have h4 : op = 8 ∨ op = 2 ∨ op = 10 ∨ op = 11 ∨ op = 13 := h.2.2.2
      omega
    · exact askq_F
  unfold loudS at hb ⊢
  split
  · show ¬ AskQ (getsS v u ws 0)
    unfold getsS
    split
    · exact askq_F
    split
    · exact askq_F
    · exact askq_G (.inl rfl)
  split
  · show ¬ AskQ (gatsS v u ws)
    unfold gatsS
    split
    · exact askq_F
    split
    · exact askq_F
    split
    · exact askq_F
    · exact askq_G (.inr rfl)
  split
  · exact hb' 15 (.inl rfl)
  split
  · exact hb' 16 (.inr rfl)
  · rename_i h1 h2 h3 h4
    rw [if_neg h1, if_neg h2, if_neg h3, if_neg h4] at hb
    cases hb
theorem askq_keyed {v : ByteArray} {q : Bool} {u : Int} {ws : List ByteArray} {n : Nat} {op exp delta : Int} {wr : ByteArray} (h : AskQ (keyedSt v q u ws n op exp delta wr)) : ws.length = n := by
  unfold keyedSt at h
  by_cases hn : ws.length ≠ n
  · rw [if_pos hn] at h
    exact absurd h askq_F
  · omega
theorem hush_of {v : ByteArray} {ws : List ByteArray} (h : ((ws.length + 1 : Nat) : Int) = asksL v.toList + 1 ∨ (v.toList == [102, 108, 117, 115, 104, 95, 97, 108, 108]) = true ∧ ws.length + 1 ≤ 2) : hushB v (ws ++ [(⟨#[110, 111, 114, 101, 112, 108, 121]⟩ : ByteArray)]) = true := by
  unfold hushB moreB
  rw [List.length_append, List.length_singleton, Bool.and_eq_true, Bool.and_eq_true, Bool.or_eq_true, Bool.and_eq_true, decide_eq_true_eq, decide_eq_true_eq, decide_eq_true_eq]
  refine ⟨by omega, h, ?_⟩
  rw [Nat.add_sub_cancel, List.getD_eq_getElem?_getD, List.getElem?_append_right (Nat.le_refl _), Nat.sub_self]
  show (((⟨#[110, 111, 114, 101, 112, 108, 121]⟩ : ByteArray) : ByteArray).toList == _) = true
  rw [ByteArray.toList_eq]
  rfl
theorem quiet_ne {v : ByteArray} {u : Int} {ws : List ByteArray} {r : List Int} : ¬ AskQ (otherS v true u ws r) := by
  have hk : ∀ (n : Nat) (op exp delta : Int) (wr : ByteArray), ¬ AskQ (keyedSt v true u ws n op exp delta wr) := fun n op exp delta wr => by
    unfold keyedSt
    split
    · exact askq_F
    split
    · exact askq_F
    split
    · exact askq_F
    · exact fun h => absurd h.2.2.1 (show ¬ true = false by decide)
  have hs : ∀ op, ¬ AskQ (sumS v true u ws op) := fun op => by
    unfold sumS
    split
    · exact hk _ _ _ _ _
    · exact hk _ _ _ _ _
  unfold otherS
  by_cases q0 : v = (⟨#[115, 101, 116]⟩ : ByteArray)
  · rw [if_pos q0]
    exact askq_stores (by decide)
  rw [if_neg q0]
  by_cases q1 : v = (⟨#[97, 100, 100]⟩ : ByteArray)
  · rw [if_pos q1]
    exact askq_stores (by decide)
  rw [if_neg q1]
  by_cases q2 : v = (⟨#[114, 101, 112, 108, 97, 99, 101]⟩ : ByteArray)
  · rw [if_pos q2]
    exact askq_stores (by decide)
  rw [if_neg q2]
  by_cases q3 : v = (⟨#[97, 112, 112, 101, 110, 100]⟩ : ByteArray)
  · rw [if_pos q3]
    exact askq_stores (by decide)
  rw [if_neg q3]
  by_cases q4 : v = (⟨#[112, 114, 101, 112, 101, 110, 100]⟩ : ByteArray)
  · rw [if_pos q4]
    exact askq_stores (by decide)
  rw [if_neg q4]
  by_cases q5 : v = (⟨#[99, 97, 115]⟩ : ByteArray)
  · rw [if_pos q5]
    exact askq_stores (by decide)
  rw [if_neg q5]
  by_cases q6 : v = (⟨#[100, 101, 108, 101, 116, 101]⟩ : ByteArray)
  · rw [if_pos q6]
    exact hk _ _ _ _ _
  rw [if_neg q6]
  by_cases q7 : v = (⟨#[105, 110, 99, 114]⟩ : ByteArray)
  · rw [if_pos q7]
    exact hs _
  rw [if_neg q7]
  by_cases q8 : v = (⟨#[100, 101, 99, 114]⟩ : ByteArray)
  · rw [if_pos q8]
    exact hs _
  rw [if_neg q8]
  by_cases q9 : v = (⟨#[116, 111, 117, 99, 104]⟩ : ByteArray)
  · rw [if_pos q9]
    unfold touchS
    split
    · exact hk _ _ _ _ _
    · exact hk _ _ _ _ _
  rw [if_neg q9]
  by_cases q10 : v = (⟨#[102, 108, 117, 115, 104, 95, 97, 108, 108]⟩ : ByteArray)
  · rw [if_pos q10]
    unfold flushS
    split
    · exact askq_F
    split
    · exact fun h => absurd h.2.2.1 (show ¬ true = false by decide)
    · exact askq_F
  rw [if_neg q10]
  exact askq_F
theorem other_quiet {v : ByteArray} {u : Int} {ws : List ByteArray} {r : List Int} (h : AskQ (otherS v false u ws r)) : hushB v (ws ++ [(⟨#[110, 111, 114, 101, 112, 108, 121]⟩ : ByteArray)]) = true ∧ otherS v true u ws r = setQ (otherS v false u ws r) := by
  unfold otherS at h ⊢
  by_cases q0 : v = (⟨#[115, 101, 116]⟩ : ByteArray)
  · rw [if_pos q0] at h; exact absurd h (askq_stores (by decide))
  by_cases q1 : v = (⟨#[97, 100, 100]⟩ : ByteArray)
  · rw [if_neg q0, if_pos q1] at h; exact absurd h (askq_stores (by decide))
  by_cases q2 : v = (⟨#[114, 101, 112, 108, 97, 99, 101]⟩ : ByteArray)
  · rw [if_neg q0, if_neg q1, if_pos q2] at h; exact absurd h (askq_stores (by decide))
  by_cases q3 : v = (⟨#[97, 112, 112, 101, 110, 100]⟩ : ByteArray)
  · rw [if_neg q0, if_neg q1, if_neg q2, if_pos q3] at h; exact absurd h (askq_stores (by decide))
  by_cases q4 : v = (⟨#[112, 114, 101, 112, 101, 110, 100]⟩ : ByteArray)
  · rw [if_neg q0, if_neg q1, if_neg q2, if_neg q3, if_pos q4] at h; exact absurd h (askq_stores (by decide))
  by_cases q5 : v = (⟨#[99, 97, 115]⟩ : ByteArray)
  · rw [if_neg q0, if_neg q1, if_neg q2, if_neg q3, if_neg q4, if_pos q5] at h; exact absurd h (askq_stores (by decide))
  simp only [if_neg q0, if_neg q1, if_neg q2, if_neg q3, if_neg q4, if_neg q5] at h ⊢
  by_cases q6 : v = (⟨#[100, 101, 108, 101, 116, 101]⟩ : ByteArray)
  · simp only [if_pos q6] at h ⊢
    refine ⟨hush_of (.inl ?_), (sq_del ..).symm⟩
    have := askq_keyed h
    subst q6
    rw [show asksL ((⟨#[100, 101, 108, 101, 116, 101]⟩ : ByteArray) : ByteArray).toList = 1 by rw [ByteArray.toList_eq]; rfl]
    omega
  simp only [if_neg q6] at h ⊢
  have hsum : ∀ op, AskQ (sumS v false u ws op) → ws.length = 2 := fun op h => by
    unfold sumS at h
    split at h
    · exact askq_keyed h
    · exact askq_keyed h
  by_cases q7 : v = (⟨#[105, 110, 99, 114]⟩ : ByteArray)
  · simp only [if_pos q7] at h ⊢
    refine ⟨hush_of (.inl ?_), (sq_sum ..).symm⟩
    have := hsum _ h
    subst q7
    rw [show asksL ((⟨#[105, 110, 99, 114]⟩ : ByteArray) : ByteArray).toList = 2 by rw [ByteArray.toList_eq]; rfl]
    omega
  simp only [if_neg q7] at h ⊢
  by_cases q8 : v = (⟨#[100, 101, 99, 114]⟩ : ByteArray)
  · simp only [if_pos q8] at h ⊢
    refine ⟨hush_of (.inl ?_), (sq_sum ..).symm⟩
    have := hsum _ h
    subst q8
    rw [show asksL ((⟨#[100, 101, 99, 114]⟩ : ByteArray) : ByteArray).toList = 2 by rw [ByteArray.toList_eq]; rfl]
    omega
  simp only [if_neg q8] at h ⊢
  by_cases q9 : v = (⟨#[116, 111, 117, 99, 104]⟩ : ByteArray)
  · simp only [if_pos q9] at h ⊢
    refine ⟨hush_of (.inl ?_), (sq_touch ..).symm⟩
    have : ws.length = 2 := by
      unfold touchS at h
      split at h
      · exact askq_keyed h
      · exact askq_keyed h
    subst q9
    rw [show asksL ((⟨#[116, 111, 117, 99, 104]⟩ : ByteArray) : ByteArray).toList = 2 by rw [ByteArray.toList_eq]; rfl]
    omega
  simp only [if_neg q9] at h ⊢
  by_cases q10 : v = (⟨#[102, 108, 117, 115, 104, 95, 97, 108, 108]⟩ : ByteArray)
  · simp only [if_pos q10] at h ⊢
    refine ⟨hush_of (.inr ⟨by rw [q10, ByteArray.toList_eq]; rfl, ?_⟩), (sq_flush ..).symm⟩
    unfold flushS at h
    by_cases hn : 1 < ws.length
    · rw [if_pos hn] at h
      exact absurd h askq_F
    · omega
  · simp only [if_neg q10] at h
    exact absurd h askq_F
theorem quiet_W {u : Int} {r : List Int} {ws : List ByteArray} (h : AskQ (parseW u r ws)) : parseW u r (ws ++ [(⟨#[110, 111, 114, 101, 112, 108, 121]⟩ : ByteArray)]) = setQ (parseW u r ws) := by
  cases ws with
  | nil => exact absurd h askq_F
  | cons v ws =>
    rw [List.cons_append]
    have hl : (loudS v u (ws ++ [(⟨#[110, 111, 114, 101, 112, 108, 121]⟩ : ByteArray)])).2 = (loudS v u ws).2 := by
      unfold loudS
      repeat' split
      all_goals rfl
    unfold parseW at h ⊢
    dsimp only at h ⊢
    rw [hl]
    by_cases hb : (loudS v u ws).2 = true
    · rw [if_pos hb] at h
      exact absurd h (askq_loud hb)
    rw [if_neg hb] at h
    rw [if_neg hb, if_neg hb]
    by_cases hh : hushB v ws = true
    · rw [if_pos hh] at h
      exact absurd h quiet_ne
    rw [if_neg hh] at h
    rw [if_neg hh]
    obtain ⟨h1, h2⟩ := other_quiet h
    rw [if_pos h1, List.length_append, List.length_singleton, Nat.add_sub_cancel, List.take_left' rfl, h2]
theorem quiet_law (l : List UInt8) (h : NoNl l) (hl : l.length ≤ 500) (ha : AskQ (parseS (numsL l ++ [13, 10]))) :
    parseS (numsL (l ++ [32, 110, 111, 114, 101, 112, 108, 121]) ++ [13, 10]) = shiftU 8 (setQ (parseS (numsL l ++ [13, 10]))) := by
  have hn : NoNl (l ++ [32, 110, 111, 114, 101, 112, 108, 121]) := fun b hb => by
    rcases List.mem_append.1 hb with hb | hb
    · exact h b hb
    · exact (show NoNl [32, 110, 111, 114, 101, 112, 108, 121] from by unfold NoNl; decide) b hb
  rw [parse_crlf l [] h (by omega)] at ha ⊢
  rw [parse_crlf _ [] hn (by rw [List.length_append]; simp only [List.length_cons, List.length_nil]; omega)]
  have hw : wordsL (l ++ [32, 110, 111, 114, 101, 112, 108, 121]) = wordsL l ++ [[110, 111, 114, 101, 112, 108, 121]] := by
    rw [wordsL_cat l [110, 111, 114, 101, 112, 108, 121], wordsL_one [110, 111, 114, 101, 112, 108, 121] ⟨by decide, by decide⟩]
  rw [hw, List.map_append, ← quiet_W ha, sh_W]
  congr 1
  rw [List.length_append]
  simp only [List.length_cons, List.length_nil]
  omega
end Go.Proofs.YtdjbbncoioghfaaGreatDoor.X
namespace Go.Proofs.YtdjbbncoioghfaaGreatDoor.X
open Go.RowKit Go.Proofs.YtdjbbncoioghfaaGreatDoorW.PrintWords Go.Proofs.YtdjbbncoioghfaaGreatDoorW.PrintMore
set_option linter.unusedVariables false
set_option linter.unusedSimpArgs false
instance (w : List UInt8) : Decidable (NoB w) := by unfold NoB; infer_instance
instance (w : List UInt8) : Decidable (NoNl w) := by unfold NoNl; infer_instance
theorem dec_show (u : Nat) (hu : u < 18446744073709551616) : decS (showI u) = (u, true) := by
  unfold decS showI
  rw [Int.toNat_natCast]
  have hl : (⟨(Lib.decDigits u).toArray⟩ : ByteArray).size = Lib.nDigits u := by
    rw [← Lib.decDigits_length]
    simp [ByteArray.size]
  have h1 : (⟨(Lib.decDigits u).toArray⟩ : ByteArray).data.toList = Lib.decDigits u := rfl
  have h0 : 1 ≤ (Lib.decDigits u).length := by
    have := decDigits_mono u 0 (by omega)
    rw [Lib.decDigits_one (show 0 < 10 by omega)] at this
    exact this
  have h2 : (Lib.decDigits u).length ≤ 20 := by
    have := decDigits_mono 18446744073709551615 u (by omega)
    have e : (Lib.decDigits 18446744073709551615).length = 20 := by decide +kernel
    omega
  rw [Lib.decDigits_length] at h0 h2
  rw [if_neg (by omega), h1, rDecL_dec u hu]
theorem dig_ok (u : Nat) : ∀ b ∈ Lib.decDigits u, 48 ≤ b.toNat ∧ b.toNat ≤ 57 := by
  induction u using Nat.strongRecOn with
  | _ u ih =>
    intro b hb
    rw [Lib.decDigits] at hb
    split at hb
    · obtain rfl := List.mem_singleton.1 hb
      rename_i h
      have : (UInt8.ofNat (48 + u)).toNat = 48 + u := by
        rw [UInt8.toNat_ofNat']
        omega
      first | omega | (simp; omega)
    · rename_i h
      rcases List.mem_append.1 hb with hb | hb
      · exact ih (u / 10) (by omega) b hb
      · obtain rfl := List.mem_singleton.1 hb
        have : (UInt8.ofNat (48 + u % 10)).toNat = 48 + u % 10 := by
          rw [UInt8.toNat_ofNat']
          omega
        first | omega | (simp; omega)
theorem dig_ne (u : Nat) : Lib.decDigits u ≠ [] := by
  intro h
  have := decDigits_mono u 0 (by omega)
  rw [Lib.decDigits_one (show 0 < 10 by omega), h] at this
  exact absurd this (by decide)
theorem dig_len (u : Nat) (hu : u < 18446744073709551616) : (Lib.decDigits u).length ≤ 20 := by
  have := decDigits_mono 18446744073709551615 u (by omega)
  have e : (Lib.decDigits 18446744073709551615).length = 20 := by decide +kernel
  omega
theorem dig_NoB (u : Nat) : NoB (Lib.decDigits u) := ⟨dig_ne u, fun b hb e => by
  have := dig_ok u b hb
  subst e
  exact absurd this.1 (by decide)⟩
theorem dig_NoNl (u : Nat) : NoNl (Lib.decDigits u) := fun b hb => by
  have := dig_ok u b hb
  constructor
  · intro e
    subst e
    exact absurd this.1 (by decide)
  · intro e
    subst e
    exact absurd this.1 (by decide)
theorem sgn_show (u : Nat) (hu : u ≤ 4294967295) : sgnS (showI u) = ((u : Int), true) := by
  have hp : isNeg (showI u) = false := by
    show Lib.hasPrefix (Lib.decDigits (Int.toNat (u : Int))) [45] = false
    rw [Int.toNat_natCast]
    have h0 := dig_ok u
    have h1 := dig_ne u
    generalize Lib.decDigits u = l at *
    cases l with
    | nil => exact absurd rfl h1
    | cons b l =>
      have := h0 b (by simp)
      have hb : b ≠ 45 := fun e => by subst e; exact absurd this.1 (by decide)
      rw [Bool.eq_false_iff]
      intro hp
      simp [Lib.hasPrefix] at hp
      exact hb hp.symm
  have hn : unsigned (showI u) = showI u := by
    unfold unsigned Lib.trimPrefix
    unfold isNeg at hp
    rw [hp]
    rfl
  unfold sgnS
  rw [hn, hp, dec_show u (by omega)]
  unfold sgnOf
  rw [if_pos ⟨rfl, by show u ≤ 1099511627776; omega⟩]
  rfl
theorem nonl_app {a b : List UInt8} (ha : NoNl a) (hb : NoNl b) : NoNl (a ++ b) := fun x hx => by
  rcases List.mem_append.1 hx with h | h
  · exact ha x h
  · exact hb x h
theorem words_incr (D : List UInt8) (h : NoB D) : wordsL ([105, 110, 99, 114, 32, 107, 32] ++ D) = [[105, 110, 99, 114], [107], D] := wordsL_jn [[105, 110, 99, 114], [107], D] (fun w hw => by
  simp only [List.mem_cons, List.not_mem_nil, or_false] at hw
  rcases hw with rfl | rfl | rfl
  · decide
  · decide
  · exact h)
theorem words_set (F E : List UInt8) (hF : NoB F) (hE : NoB E) : wordsL ([115, 101, 116, 32, 107, 32] ++ (F ++ 32 :: (E ++ [32, 48]))) = [[115, 101, 116], [107], F, E, [48]] := wordsL_jn [[115, 101, 116], [107], F, E, [48]] (fun w hw => by
  simp only [List.mem_cons, List.not_mem_nil, or_false] at hw
  rcases hw with rfl | rfl | rfl | rfl | rfl
  · decide
  · decide
  · exact hF
  · exact hE
  · decide)
theorem words_cas (D : List UInt8) (h : NoB D) : wordsL ([99, 97, 115, 32, 107, 32, 48, 32, 48, 32, 48, 32] ++ D) = [[99, 97, 115], [107], [48], [48], [48], D] := wordsL_jn [[99, 97, 115], [107], [48], [48], [48], D] (fun w hw => by
  simp only [List.mem_cons, List.not_mem_nil, or_false] at hw
  rcases hw with rfl | rfl | rfl | rfl | rfl | rfl
  · decide
  · decide
  · decide
  · decide
  · decide
  · exact h)
theorem more_lit {v : ByteArray} {n : Nat} {l : List UInt8} (hv : v.data.toList = l) {k : Nat} (hn : n = k) (h1 : ¬ (k : Int) = asksL l + 1) (h2 : l ≠ [102, 108, 117, 115, 104, 95, 97, 108, 108]) : moreB v n = false := by
  subst hn
  unfold moreB
  rw [ByteArray.toList_eq, hv, decide_eq_false h1, Bool.false_or, beq_eq_false_iff_ne.2 h2, Bool.false_and]
theorem W_loud {v : ByteArray} {u : Int} {r : List Int} {ws : List ByteArray} (h1 : ¬ (v = (⟨#[103, 101, 116]⟩ : ByteArray) ∨ v = (⟨#[103, 101, 116, 115]⟩ : ByteArray))) (h2 : ¬ (v = (⟨#[103, 97, 116]⟩ : ByteArray) ∨ v = (⟨#[103, 97, 116, 115]⟩ : ByteArray))) (h3 : v ≠ (⟨#[118, 101, 114, 115, 105, 111, 110]⟩ : ByteArray)) (h4 : v ≠ (⟨#[113, 117, 105, 116]⟩ : ByteArray)) (hh : moreB v ws.length = false) : parseW u r (v :: ws) = otherS v false u ws r := by
  have hb : (loudS v u ws).2 = false := by
    unfold loudS
    rw [if_neg h1, if_neg h2, if_neg h3, if_neg h4]
  have hu : hushB v ws = false := by
    unfold hushB
    rw [hh, Bool.false_and, Bool.and_false]
  unfold parseW
  dsimp only
  rw [hb, hu, if_neg (by decide), if_neg (by decide)]
theorem incr_law (d : Nat) (hd : d < 18446744073709551616) : parseS (numsL ([105, 110, 99, 114, 32, 107, 32] ++ Lib.decDigits d) ++ [13, 10]) = stepO ((([105, 110, 99, 114, 32, 107, 32] ++ Lib.decDigits d : List UInt8).length : Int) + 2) (formT (⟨#[105, 110, 99, 114]⟩ : ByteArray) false [(⟨#[107]⟩ : ByteArray)]) (cmdK 10 0 d (⟨#[107]⟩ : ByteArray)) := by
  rw [parse_crlf _ [] (nonl_app (by decide) (dig_NoNl d)) (by have := dig_len d hd; simp only [List.length_append, List.length_cons, List.length_nil]; omega), words_incr _ (dig_NoB d)]
  generalize (([105, 110, 99, 114, 32, 107, 32] ++ Lib.decDigits d : List UInt8).length : Int) + 2 = u
  show parseW u [] ((⟨#[105, 110, 99, 114]⟩ : ByteArray) :: [(⟨#[107]⟩ : ByteArray), baOf (Lib.decDigits d)]) = _
  rw [W_loud (by decide) (by decide) (by decide) (by decide) (more_lit rfl (k := 2) rfl (by decide) (by decide))]
  have hD : decS (baOf (Lib.decDigits d)) = (d, true) := dec_show d hd
  unfold otherS
  rw [if_neg (by decide), if_neg (by decide), if_neg (by decide), if_neg (by decide), if_neg (by decide), if_neg (by decide), if_neg (by decide), if_pos rfl]
  unfold sumS
  rw [show ([(⟨#[107]⟩ : ByteArray), baOf (Lib.decDigits d)] : List ByteArray).getD 1 ⟨#[]⟩ = baOf (Lib.decDigits d) from rfl, hD, if_pos rfl]
  exact kd_ok (words := [(⟨#[107]⟩ : ByteArray), baOf (Lib.decDigits d)]) (many := 2) rfl rfl (by decide)
theorem set_law (f e : Nat) (hf : f ≤ 4294967295) (he : e ≤ 4294967295) : ∃ u, parseS (numsL ([115, 101, 116, 32, 107, 32] ++ (Lib.decDigits f ++ 32 :: (Lib.decDigits e ++ [32, 48]))) ++ 13 :: 10 :: [13, 10]) = stepO u (formT (⟨#[115, 101, 116]⟩ : ByteArray) false [(⟨#[107]⟩ : ByteArray)]) (cmdS 3 (⟨#[107]⟩ : ByteArray) [] f e 0) := by
  have hl : NoNl ([115, 101, 116, 32, 107, 32] ++ (Lib.decDigits f ++ 32 :: (Lib.decDigits e ++ [32, 48]))) := nonl_app (by decide) (nonl_app (dig_NoNl f) (nonl_app (a := [32]) (by decide) (nonl_app (dig_NoNl e) (by decide))))
  rw [parse_crlf _ _ hl (by have := dig_len f (by omega); have := dig_len e (by omega); simp only [List.length_append, List.length_cons, List.length_nil]; omega), words_set _ _ (dig_NoB f) (dig_NoB e)]
  generalize (([115, 101, 116, 32, 107, 32] ++ (Lib.decDigits f ++ 32 :: (Lib.decDigits e ++ [32, 48])) : List UInt8).length : Int) + 2 = u
  refine ⟨u + 2, ?_⟩
  show parseW u _ ((⟨#[115, 101, 116]⟩ : ByteArray) :: [(⟨#[107]⟩ : ByteArray), baOf (Lib.decDigits f), baOf (Lib.decDigits e), (⟨#[48]⟩ : ByteArray)]) = _
  rw [W_loud (by decide) (by decide) (by decide) (by decide) (more_lit rfl (k := 4) rfl (by decide) (by decide))]
  have hF : decS (baOf (Lib.decDigits f)) = (f, true) := dec_show f (by omega)
  have hE : sgnS (baOf (Lib.decDigits e)) = ((e : Int), true) := sgn_show e he
  have h0 : decS (⟨#[48]⟩ : ByteArray) = (0, true) := by decide
  have hk : keyS (⟨#[107]⟩ : ByteArray) = true := by decide
  unfold otherS
  rw [if_pos rfl]
  unfold storesS
  rw [if_neg (fun h => h rfl)]
  show storesR (⟨#[115, 101, 116]⟩ : ByteArray) false u [13, 10] 3 (⟨#[107]⟩ : ByteArray) (baOf (Lib.decDigits f)) (baOf (Lib.decDigits e)) (⟨#[48]⟩ : ByteArray) (0, true) = _
  unfold storesR
  rw [hF, hE, h0, hk]
  have hb : badA true true f true true true = false := by
    unfold badA
    have : decide ((f : Int) > 4294967295) = false := decide_eq_false (by omega)
    rw [this]
    rfl
  rw [show badA true (f, true).2 (f, true).1 ((e : Int), true).2 ((0 : Nat), true).2 ((0 : Nat), true).2 = false from hb, if_neg (by decide), if_neg (by decide)]
  rfl
theorem cas_law (d : Nat) (hd : d < 18446744073709551616) : ∃ u, parseS (numsL ([99, 97, 115, 32, 107, 32, 48, 32, 48, 32, 48, 32] ++ Lib.decDigits d) ++ 13 :: 10 :: [13, 10]) = stepO u (formT (⟨#[99, 97, 115]⟩ : ByteArray) false [(⟨#[107]⟩ : ByteArray)]) (cmdS 3 (⟨#[107]⟩ : ByteArray) [] 0 0 d) := by
  rw [parse_crlf _ _ (nonl_app (by decide) (dig_NoNl d)) (by have := dig_len d hd; simp only [List.length_append, List.length_cons, List.length_nil]; omega), words_cas _ (dig_NoB d)]
  generalize (([99, 97, 115, 32, 107, 32, 48, 32, 48, 32, 48, 32] ++ Lib.decDigits d : List UInt8).length : Int) + 2 = u
  refine ⟨u + 2, ?_⟩
  show parseW u _ ((⟨#[99, 97, 115]⟩ : ByteArray) :: [(⟨#[107]⟩ : ByteArray), (⟨#[48]⟩ : ByteArray), (⟨#[48]⟩ : ByteArray), (⟨#[48]⟩ : ByteArray), baOf (Lib.decDigits d)]) = _
  rw [W_loud (by decide) (by decide) (by decide) (by decide) (more_lit rfl (k := 5) rfl (by decide) (by decide))]
  have hD : decS (baOf (Lib.decDigits d)) = (d, true) := dec_show d hd
  have h0 : decS (⟨#[48]⟩ : ByteArray) = (0, true) := by decide
  have hk : keyS (⟨#[107]⟩ : ByteArray) = true := by decide
  unfold otherS
  rw [if_neg (by decide), if_neg (by decide), if_neg (by decide), if_neg (by decide), if_neg (by decide), if_pos rfl]
  unfold storesS
  rw [if_neg (fun h => h rfl)]
  show storesR (⟨#[99, 97, 115]⟩ : ByteArray) false u [13, 10] 3 (⟨#[107]⟩ : ByteArray) (⟨#[48]⟩ : ByteArray) (⟨#[48]⟩ : ByteArray) (⟨#[48]⟩ : ByteArray) (decS (baOf (Lib.decDigits d))) = _
  unfold storesR
  rw [hD, sgn0, h0, hk]
  rw [show badA true ((0 : Nat), true).2 ((0 : Nat), true).1 ((0 : Int), true).2 ((0 : Nat), true).2 (d, true).2 = false from rfl, if_neg (by decide), if_neg (by decide)]
  rfl
/-! ### The chapter's examples -/
theorem ex_a : parseS (numsL [103, 101, 116, 32, 97, 32, 98, 13, 10]) = stepG 9 (⟨#[103, 101, 116]⟩ : ByteArray) 0 0 [(⟨#[97]⟩ : ByteArray), (⟨#[98]⟩ : ByteArray)] := by
  rw [show numsL [103, 101, 116, 32, 97, 32, 98, 13, 10] = numsL [103, 101, 116, 32, 97, 32, 98] ++ 13 :: 10 :: [] from rfl, parse_crlf _ [] (by decide) (by decide), show wordsL [103, 101, 116, 32, 97, 32, 98] = [[103, 101, 116], [97], [98]] from wordsL_jn [[103, 101, 116], [97], [98]] (by decide)]
  rfl
theorem ex_b : parseS (numsL [115, 101, 116, 32, 107, 32, 49, 32, 48, 32, 50, 13, 10, 120, 121, 13, 10]) = stepO 17 (formT (⟨#[115, 101, 116]⟩ : ByteArray) false [(⟨#[107]⟩ : ByteArray)]) (cmdS 3 (⟨#[107]⟩ : ByteArray) [120, 121] 1 0 0) := by
  rw [show numsL [115, 101, 116, 32, 107, 32, 49, 32, 48, 32, 50, 13, 10, 120, 121, 13, 10] = numsL [115, 101, 116, 32, 107, 32, 49, 32, 48, 32, 50] ++ 13 :: 10 :: [120, 121, 13, 10] from rfl, parse_crlf _ _ (by decide) (by decide), show wordsL [115, 101, 116, 32, 107, 32, 49, 32, 48, 32, 50] = [[115, 101, 116], [107], [49], [48], [50]] from wordsL_jn [[115, 101, 116], [107], [49], [48], [50]] (by decide)]
  show parseW _ _ ((⟨#[115, 101, 116]⟩ : ByteArray) :: [(⟨#[107]⟩ : ByteArray), (⟨#[49]⟩ : ByteArray), (⟨#[48]⟩ : ByteArray), (⟨#[50]⟩ : ByteArray)]) = _
  rw [W_loud (by decide) (by decide) (by decide) (by decide) (more_lit rfl (k := 4) rfl (by decide) (by decide))]
  unfold otherS
  rw [if_pos rfl]
  unfold storesS
  rw [if_neg (fun h => h rfl)]
  show storesR (⟨#[115, 101, 116]⟩ : ByteArray) false 13 [120, 121, 13, 10] 3 (⟨#[107]⟩ : ByteArray) (⟨#[49]⟩ : ByteArray) (⟨#[48]⟩ : ByteArray) (⟨#[50]⟩ : ByteArray) (0, true) = _
  unfold storesR
  rw [sgn0, show decS (⟨#[49]⟩ : ByteArray) = (1, true) by decide, show decS (⟨#[50]⟩ : ByteArray) = (2, true) by decide, show keyS (⟨#[107]⟩ : ByteArray) = true by decide, if_neg (by decide), if_neg (by decide)]
  rfl
theorem ex_c : parseS (numsL [103, 101, 116, 13, 10]) = stepF 5 (⟨#[69, 82, 82, 79, 82]⟩ : ByteArray) := by
  rw [show numsL [103, 101, 116, 13, 10] = numsL [103, 101, 116] ++ 13 :: 10 :: [] from rfl, parse_crlf _ [] (by decide) (by decide), show wordsL [103, 101, 116] = [[103, 101, 116]] from wordsL_jn [[103, 101, 116]] (by decide)]
  rfl
end Go.Proofs.YtdjbbncoioghfaaGreatDoor.X
namespace Go.Proofs.YtdjbbncoioghfaaGreatDoor.X
open Go.RowKit Go.Proofs.YtdjbbncoioghfaaGreatDoorW.PrintWords Go.Proofs.YtdjbbncoioghfaaGreatDoorW.PrintMore
set_option linter.unusedVariables false
set_option linter.unusedSimpArgs false
section
variable {P : Program} {md : Region.Mode} {ops : Array Oper} {Q : Exit → Act → World → Prop} {S : World → Prop}
/-- The only operation that may come up now, if it is quiet. -/
theorem wpAnyL_only {N i : Nat} {oi : Oper} {v : Value} {fuel : Nat} {listed : Array Bool} {a : Act} {w : World} (hr : Region.ready md ops listed = [i]) (hi : ops[i]? = some oi) (hy : YieldsIf P ops S oi v a) (hS : S w)
    (h : wpAnyL P md ops Q S N fuel (listed.setIfInBounds i true) (a.put oi.dst v) w) : wpAnyL P md ops Q S N (fuel + 1) listed a w := by
  refine ⟨fun h0 => (by rw [h0] at hr; cases hr), fun j hj => ?_⟩
  rw [hr, List.mem_singleton] at hj
  subst hj
  exact hy.wpOp hi hS ⟨fun _ => hS, h⟩
end
def exX : List Int := numsL [120, 13, 10, 103, 101, 116, 32, 97, 13, 10]
def exG : List Int := numsL [103, 101, 116, 32, 97, 13, 10]
def exE : List Int := numsL [69, 82, 82, 79, 82, 13, 10]
theorem ex_x : parseS exX = stepF 3 (⟨#[69, 82, 82, 79, 82]⟩ : ByteArray) := by
  unfold exX
  rw [show numsL [120, 13, 10, 103, 101, 116, 32, 97, 13, 10] = numsL [120] ++ 13 :: 10 :: numsL [103, 101, 116, 32, 97, 13, 10] from rfl, parse_crlf _ _ (by decide) (by decide), show wordsL [120] = [[120]] from wordsL_jn [[120]] (by decide)]
  rfl
theorem ex_g : parseS exG = stepG 7 (⟨#[103, 101, 116]⟩ : ByteArray) 0 0 [(⟨#[97]⟩ : ByteArray)] := by
  unfold exG
  rw [show numsL [103, 101, 116, 32, 97, 13, 10] = numsL [103, 101, 116, 32, 97] ++ 13 :: 10 :: [] from rfl, parse_crlf _ [] (by decide) (by decide), show wordsL [103, 101, 116, 32, 97] = [[103, 101, 116], [97]] from wordsL_jn [[103, 101, 116], [97]] (by decide)]
  rfl
/-- A command in a row of them. -/
theorem cmd_at {w : World} {A : Option Addr} {n : Nat} {xs : List Cmd} (h : kCmd.C w A n xs) (x : Cmd) (hx : xs[0]? = some x) : ∃ b o, A = some ⟨b, o, none⟩ ∧ b < w.heap.size ∧ w.cell? ⟨b, o + 1, none⟩ = some (.string x.key) := by
  have hlt := (List.getElem?_eq_some_iff.1 hx).1
  obtain ⟨ad, rfl, hc⟩ := h.2.2 (by rw [← h.1]; omega)
  obtain ⟨cs, hlen, hK, hcell⟩ := hc 0 x hx
  obtain ⟨A2, c2, rfl, -, -⟩ := kCmd_open hK
  have h0 := hcell 0 _ rfl
  rw [Nat.zero_mul, Nat.zero_add, Addr.add_zero'] at h0
  obtain ⟨b, o, rfl, hb0⟩ := addr_plain h0
  refine ⟨b, o, rfl, hb0, ?_⟩
  have := hcell 1 _ rfl
  rw [Nat.zero_mul, Nat.zero_add, Addr.add_mid] at this
  exact this
theorem stepY_open {w : World} {cs : List Value} (h : kStep.K w (stepG 7 (⟨#[103, 101, 116]⟩ : ByteArray) 0 0 [(⟨#[97]⟩ : ByteArray)]) cs) : ∃ A1 c1 A8 c8 A9 c9, cs = [.slice A1 1 c1, .int .i64 1, .string (⟨#[103, 101, 116]⟩ : ByteArray), .int .i64 0, .int .u32 0, .bool false, .bool false, .string ⟨#[]⟩, .slice A8 0 c8, .slice A9 1 c9, .bool false, .string ⟨#[]⟩, .int .i64 7, .int .i64 0, .bool false, .int .i64 0] := by
  obtain ⟨A0, c0, A8, c8, A9, c9, rfl, -⟩ := kStep_open h
  exact ⟨A0, c0, A8, c8, A9, c9, rfl⟩
theorem stepY_key {w : World} {A1 : Option Addr} {c1 : Nat} {A8 : Option Addr} {c8 : Nat} {A9 : Option Addr} {c9 : Nat} (h : kStep.K w (stepG 7 (⟨#[103, 101, 116]⟩ : ByteArray) 0 0 [(⟨#[97]⟩ : ByteArray)]) [.slice A1 1 c1, .int .i64 1, .string (⟨#[103, 101, 116]⟩ : ByteArray), .int .i64 0, .int .u32 0, .bool false, .bool false, .string ⟨#[]⟩, .slice A8 0 c8, .slice A9 1 c9, .bool false, .string ⟨#[]⟩, .int .i64 7, .int .i64 0, .bool false, .int .i64 0]) : ∃ b o, A1 = some ⟨b, o, none⟩ ∧ b < w.heap.size ∧ w.cell? ⟨b, o + 1, none⟩ = some (.string (⟨#[97]⟩ : ByteArray)) := by
  obtain ⟨A0', c0', A8', c8', A9', c9', e, -, g0, -⟩ := kStep_open h
  obtain ⟨rfl, -, -⟩ := Value.slice.inj (List.cons.inj e).1
  exact cmd_at g0 _ rfl
theorem own_hol {W : World} {base : Nat} {v : Value} {l : List Int} {F : Nat → Prop} (h : W.ownsRow base 5 1 v l.length (encs (Value.int .u8) l)) (hF : ∀ k, base ≤ k → F k) : ∃ A c, v = .slice A l.length c ∧ l.length ≤ c ∧ HolF F W (fun w2 => (Kd.int .u8).C w2 A l.length l) := by
  obtain ⟨A, c, rfl, hc, -⟩ := own_rd h
  refine ⟨A, c, rfl, hc, fun w2 h2 hk2 => ?_⟩
  obtain ⟨A', c', e, -, hC⟩ := own_rd (own_move h (fun k hk => hk2 k (own_lt h k hk) (hF k (own_base h k hk))))
  obtain ⟨rfl, -, -⟩ := Value.slice.inj e
  exact hC
theorem stepX_open {w : World} {cs : List Value} (h : kStep.K w (stepF 3 (⟨#[69, 82, 82, 79, 82]⟩ : ByteArray)) cs) : ∃ A0 c0 A8 c8 A9 c9, cs = [.slice A0 0 c0, .int .i64 0, .string ⟨#[]⟩, .int .i64 0, .int .u32 0, .bool false, .bool false, .string ⟨#[]⟩, .slice A8 0 c8, .slice A9 0 c9, .bool false, .string (⟨#[69, 82, 82, 79, 82, 13, 10]⟩ : ByteArray), .int .i64 3, .int .i64 0, .bool false, .int .i64 2] := by
  obtain ⟨A0, c0, A8, c8, A9, c9, rfl, -⟩ := kStep_open h
  exact ⟨A0, c0, A8, c8, A9, c9, rfl⟩
def zReqC : Array Value := #[.slice none 0 0, .int .i64 0, .string ⟨#[]⟩, .int .i64 0, .int .u32 0, .bool false, .bool false, .string ⟨#[]⟩, .slice none 0 0, .slice none 0 0, .bool false]
/-- The loop's states: nothing parsed yet; the first line was answered. -/
def NxS (g g2 b c : Nat) (w wr : World) : Prop := But g w wr ∧ wr.heap[g2]? = some (.cells zReqC 34 (0, 0)) ∧
  ((wr.heap[g]? = some (.cells (cnC (.slice (some ⟨b, 0, none⟩) 10 c) (.slice none 0 0) (0) (0) false false) 59 (0, 0))) ∨
   ∃ A0 c0, 7 ≤ c0 ∧ (wr.heap[g]? = some (.cells (cnC (.slice (some ⟨b, 3, none⟩) 7 (c - 3)) (.slice A0 7 c0) (1) (0) false false) 59 (0, 0))) ∧ HolF (fun k => k ≠ g ∧ k ≠ g2) wr (fun w2 => (Kd.int .u8).C w2 A0 7 exE))
set_option maxRecDepth 100000 in
set_option maxHeartbeats 4000000 in
theorem next_calls (b c g : Nat) (w : World) (hg : w.heap[g]? = some (.cells (cnC (.slice (some ⟨b, 0, none⟩) 10 c) (.slice none 0 0) (0) (0) false false) 59 (0, 0))) (hC : HolF (fun k => k ≠ g) w (fun w2 => (Kd.int .u8).C w2 (some ⟨b, 0, none⟩) 10 exX)) (hc : 10 ≤ c) (hT : ∀ w2, But g w w2 → Tabs w2) :
    Calls Tryz.prog 11 #[.pointer (some ⟨g, 0, none⟩)] w fun e w' => ∃ (b1 o1 c1 : Nat) (x1 : Int) (x2 : ByteArray) (x3 x4 : Int) (x5 x6 : Bool) (x7 : ByteArray) (A8 : Option Addr) (n8 c8 : Nat) (A9 : Option Addr) (n9 c9 : Nat) (x10 : Bool) (vi : Value) (A0 : Option Addr) (c0 : Nat),
      e = .returned (.tuple #[.agg #[.slice (some ⟨b1, o1, none⟩) 1 c1, .int .i64 x1, .string x2, .int .i64 x3, .int .u32 x4, .bool x5, .bool x6, .string x7, .slice A8 n8 c8, .slice A9 n9 c9, .bool x10], .int .i64 0]) ∧ w'.cell? ⟨b1, o1 + 1, none⟩ = some (.string (⟨#[97]⟩ : ByteArray)) ∧ b1 < w'.heap.size ∧
      (w'.heap[g]? = some (.cells (cnC (vi) (.slice A0 7 c0) (1) (0) false false) 59 (0, 0))) ∧ HolF (fun k => k ≠ g) w' (fun w2 => (Kd.int .u8).C w2 A0 7 exE) ∧ But g w w' := by
  have HG := Aside0.mk (blk_lt hg)
  have BX := Aside0.mk hg
  have HC := Aside0.mk hC
  have HT := Aside0.mk hT
  have hgl := blk_lt hg
  have hc10 : (10 : Int) ≤ ↑c := by omega
  have hc3 : ¬ (c = 3) := by omega
  clear hg hC hT
  have HB := Aside0.mk (Below.refl w.heap.size w)
  go_enter Tryz.func11, Tryz.ntmps11
  go_wp2
  go_step3
  go_wp2
  go_step3
  go_wp2
  go_loopw [] (fun wr => Aside0 (NxS g w.heap.size b c w wr)) (fun wr => 1 - (intOf ((wr.cell? ⟨g, 2, none⟩).getD (.int .i64 0))).toNat)
  case atStart =>
    exact ⟨⟨⟨fun B hB => (Below.refl _ _).alloc (by omega) _, fun k hk _ => heap_alloc_old w _ hk⟩, heap_alloc_new w _, Or.inl ((heap_alloc_old w _ HG.out).trans BX.out)⟩⟩
  case round =>
    obtain ⟨hbt, hz, hst⟩ := hrel.out
    have HBT := Aside0.mk hbt
    have HZ := Aside0.mk hz
    have hgr : g < wr.heap.size := Nat.lt_of_lt_of_le HG.out (hbt.low 0 (Nat.zero_le _)).size
    rcases hst with h0 | ⟨A0, c0, hc0, h1, hE⟩
    · have t5 : wr.cell? ⟨g, 5, none⟩ = some (.bool false) := (blk_cell h0 5).trans rfl
      have T2 := Aside0.mk (show wr.cell? ⟨g, 2, none⟩ = some (.int .i64 0) from (blk_cell h0 2).trans rfl)
      have HPS := Aside0.mk (pass_calls b 0 10 c (.slice none 0 0) 0 g wr (by omega) hc h0)
      have HDT : Aside0 (∀ w1, (w1.heap[g]? = some (.cells (cnC (.slice (some ⟨b, 0, none⟩) 10 c) (.slice none 0 0) (0) (0) false false) 59 (0, 0))) → But g w w1 → Calls Tryz.prog 26 #[.pointer (some ⟨g, 0, none⟩)] w1 fun e w' => e = .returned (.tuple #[]) ∧ (w'.heap[g]? = some (.cells (cnC (.slice (some ⟨b, 0, none⟩) 10 c) (.slice none 0 0) (1) (0) false false) 59 (0, 0))) ∧ StoreTo g w1 w') := ⟨fun w1 hx hb => by
        obtain ⟨b', o', e, -, hcell⟩ := C_cell (l := exX) (HC.out w1 (hb.low 0 (Nat.zero_le _)) (fun k hk hF => hb.blk k hk hF)) 0 (by decide)
        obtain ⟨rfl, rfl, -⟩ : b = b' ∧ 0 = o' ∧ True := by simpa using e
        exact detect1 b 0 10 c _ g w1 (by omega) hc hx 120 hcell (by decide) (by decide)⟩
      have HPR : Aside0 (∀ w1, (w1.heap[g]? = some (.cells (cnC (.slice (some ⟨b, 0, none⟩) 10 c) (.slice none 0 0) (1) (0) false false) 59 (0, 0))) → But g w w1 → Calls Tryz.prog 27 #[.pointer (some ⟨g, 0, none⟩)] w1 (StepR (fun k => k < w.heap.size ∧ k ≠ g) w1 (stepF 3 (⟨#[69, 82, 82, 79, 82]⟩ : ByteArray)))) := ⟨fun w1 hx hb =>
        cparse_calls exX 10 rfl _ ex_x _ c _ g _ w1 hx (fun w2 h2 hk2 => HC.out w2 ((hb.low 0 (Nat.zero_le _)).trans h2) (fun k hk hF => (hk2 k (by have := (hb.low 0 (Nat.zero_le _)).size; omega) ⟨hk, hF⟩).trans (hb.blk k hk hF))) hc (by decide) (B8_nums _) (HT.out w1 hb)⟩
      clear hrel hbt hz h0
      go_upto_region 11 with (first | (go_at_call 25; (with_reducible refine (HPS.out).mono ?_); rintro e w1 ⟨rfl, hbx, hbt⟩; have BX1 := Aside0.mk hbx; have HB1 := Aside0.mk hbt; clear hbx hbt) | (go_at_call 26; (with_reducible refine (HDT.out _ BX1.out (HBT.out.trans HB1.out)).mono ?_); rintro e w2 ⟨rfl, hbx, hst⟩; have BX2 := Aside0.mk hbx; have HB2 := Aside0.mk (hst.But_of HB1.out); clear hbx hst) | (go_at_call 27; (with_reducible refine (HPR.out _ BX2.out (HBT.out.trans HB2.out)).mono ?_); rintro e w3 ⟨⟨cs, rfl, hk⟩, hb⟩; have BX3 := Aside0.mk (blk_below BX2.out hb); have HB3 := Aside0.mk (HB2.out.below hb hgr); obtain ⟨A0, c0, A8, c8, A9, c9, rfl⟩ := stepX_open hk.now; have hg3 : g < w3.heap.size := blk_lt BX3.out; clear hk hb))
      obtain ⟨W, hW⟩ : ∃ W, w3.alloc (.cells #[.slice A0 0 c0, .int .i64 0, .string ⟨#[]⟩, .int .i64 0, .int .u32 0, .bool false, .bool false, .string ⟨#[]⟩, .slice A8 0 c8, .slice A9 0 c9, .bool false, .string (⟨#[69, 82, 82, 79, 82, 13, 10]⟩ : ByteArray), .int .i64 3, .int .i64 0, .bool false, .int .i64 2] 61 (0, 0)) = W := ⟨_, rfl⟩
      rw [hW]
      have BS := Aside0.mk (show W.drew.heap[w3.heap.size]? = some (.cells #[.slice A0 0 c0, .int .i64 0, .string ⟨#[]⟩, .int .i64 0, .int .u32 0, .bool false, .bool false, .string ⟨#[]⟩, .slice A8 0 c8, .slice A9 0 c9, .bool false, .string (⟨#[69, 82, 82, 79, 82, 13, 10]⟩ : ByteArray), .int .i64 3, .int .i64 0, .bool false, .int .i64 2] 61 (0, 0)) from blk_drew (hW ▸ blk_at_new _ _ _ rfl))
      have BXW := Aside0.mk (show W.heap[g]? = _ from hW ▸ blk_alloc BX3.out _)
      have HBW := Aside0.mk (show But g wr W.drew from But.drew (hW ▸ HB3.out.below ((Below.refl _ _).alloc (Nat.le_refl _) _) hgr))
      have hne : Aside0 (w3.heap.size ≠ g) := ⟨by omega⟩
      have t0 : W.cell? ⟨g, 0, none⟩ = some (.slice (some ⟨b, 0, none⟩) 10 c) := (blk_cell BXW.out 0).trans rfl
      have t12 : W.cell? ⟨w3.heap.size, 12, none⟩ = some (.int .i64 3) := (blk_cell (hW ▸ blk_at_new _ _ _ rfl : W.heap[w3.heap.size]? = some (.cells #[.slice A0 0 c0, .int .i64 0, .string ⟨#[]⟩, .int .i64 0, .int .u32 0, .bool false, .bool false, .string ⟨#[]⟩, .slice A8 0 c8, .slice A9 0 c9, .bool false, .string (⟨#[69, 82, 82, 79, 82, 13, 10]⟩ : ByteArray), .int .i64 3, .int .i64 0, .bool false, .int .i64 2] 61 (0, 0))) 12).trans rfl
      clear hW
      refine wp_region_noPanic ?_
      refine wp_region_L (S := fun w' => w'.cell? ⟨g, 0, none⟩ = some (.slice (some ⟨b, 0, none⟩) 10 c) ∧ w'.cell? ⟨w3.heap.size, 12, none⟩ = some (.int .i64 3)) 10 (by kernel_rfl) ⟨t0, t12⟩ ?_
      intro hHeld
      (refine wpAnyL_take (i := 0) (v := ?_) (by simp only [List.getElem?_toArray, List.getElem?_cons_succ, List.getElem?_cons_zero]; rfl) (by kernel_rfl) (by kernel_rfl) (by kernel_rfl) (by kernel_rfl) (fun _ _ _ h => h) (Or.inl ⟨by rfl, ?_⟩) (by exact hHeld) ?_; rotate_left; (focus (intro w' hSw; obtain ⟨s0, s1⟩ := hSw; go_simp; (try with_reducible rfl); done)); (try simp only [Act.put, List.setIfInBounds_toArray, List.set_cons_zero, List.set_cons_succ]))
      (refine wpAnyL_take (i := 1) (v := ?_) (by simp only [List.getElem?_toArray, List.getElem?_cons_succ, List.getElem?_cons_zero]; rfl) (by kernel_rfl) (by kernel_rfl) (by kernel_rfl) (by kernel_rfl) (fun _ _ _ h => h) (Or.inl ⟨by rfl, ?_⟩) (by exact hHeld) ?_; rotate_left; (focus (intro w' hSw; obtain ⟨s0, s1⟩ := hSw; go_simp; (try with_reducible rfl); done)); (try simp only [Act.put, List.setIfInBounds_toArray, List.set_cons_zero, List.set_cons_succ]))
      (refine wpAnyL_take (i := 2) (v := ?_) (by simp only [List.getElem?_toArray, List.getElem?_cons_succ, List.getElem?_cons_zero]; rfl) (by kernel_rfl) (by kernel_rfl) (by kernel_rfl) (by kernel_rfl) (fun _ _ _ h => h) (Or.inl ⟨by rfl, ?_⟩) (by exact hHeld) ?_; rotate_left; (focus (intro w' hSw; obtain ⟨s0, s1⟩ := hSw; go_simp; (try with_reducible rfl); done)); (try simp only [Act.put, List.setIfInBounds_toArray, List.set_cons_zero, List.set_cons_succ]))
      (refine wpAnyL_take (i := 3) (v := ?_) (by simp only [List.getElem?_toArray, List.getElem?_cons_succ, List.getElem?_cons_zero]; rfl) (by kernel_rfl) (by kernel_rfl) (by kernel_rfl) (by kernel_rfl) (fun _ _ _ h => h) (Or.inl ⟨by rfl, ?_⟩) (by exact hHeld) ?_; rotate_left; (focus (intro w' hSw; obtain ⟨s0, s1⟩ := hSw; go_simp; (try with_reducible rfl); done)); (try simp only [Act.put, List.setIfInBounds_toArray, List.set_cons_zero, List.set_cons_succ]))
      (refine wpAnyL_take (i := 4) (v := ?_) (by simp only [List.getElem?_toArray, List.getElem?_cons_succ, List.getElem?_cons_zero]; rfl) (by kernel_rfl) (by kernel_rfl) (by kernel_rfl) (by kernel_rfl) (fun _ _ _ h => h) (Or.inl ⟨by rfl, ?_⟩) (by exact hHeld) ?_; rotate_left; (focus (intro w' hSw; obtain ⟨s0, s1⟩ := hSw; go_simp; (try with_reducible rfl); done)); (try simp only [Act.put, List.setIfInBounds_toArray, List.set_cons_zero, List.set_cons_succ]))
      (refine wpAnyL_take (i := 5) (v := ?_) (by simp only [List.getElem?_toArray, List.getElem?_cons_succ, List.getElem?_cons_zero]; rfl) (by kernel_rfl) (by kernel_rfl) (by kernel_rfl) (by kernel_rfl) (fun _ _ _ h => h) (Or.inl ⟨by rfl, ?_⟩) (by exact hHeld) ?_; rotate_left; (focus (intro w' hSw; obtain ⟨s0, s1⟩ := hSw; go_simp; (try with_reducible rfl); done)); (try simp only [Act.put, List.setIfInBounds_toArray, List.set_cons_zero, List.set_cons_succ]))
      (refine wpAnyL_take (i := 6) (v := ?_) (by simp only [List.getElem?_toArray, List.getElem?_cons_succ, List.getElem?_cons_zero]; rfl) (by kernel_rfl) (by kernel_rfl) (by kernel_rfl) (by kernel_rfl) (fun _ _ _ h => h) (Or.inl ⟨by rfl, ?_⟩) (by exact hHeld) ?_; rotate_left; (focus (intro w' hSw; obtain ⟨s0, s1⟩ := hSw; go_simp; (try with_reducible rfl); done)); (try simp only [Act.put, List.setIfInBounds_toArray, List.set_cons_zero, List.set_cons_succ]))
      (refine wpAnyL_take (i := 7) (v := ?_) (by simp only [List.getElem?_toArray, List.getElem?_cons_succ, List.getElem?_cons_zero]; rfl) (by kernel_rfl) (by kernel_rfl) (by kernel_rfl) (by kernel_rfl) (fun _ _ _ h => h) (Or.inl ⟨by rfl, ?_⟩) (by exact hHeld) ?_; rotate_left; (focus (intro w' hSw; obtain ⟨s0, s1⟩ := hSw; go_simp; (try with_reducible rfl); done)); (try simp only [Act.put, List.setIfInBounds_toArray, List.set_cons_zero, List.set_cons_succ]))
      (refine wpAnyL_only (i := 8) (v := ?_) (by kernel_rfl) (by simp only [List.getElem?_toArray, List.getElem?_cons_succ, List.getElem?_cons_zero]; rfl) (Or.inl ⟨by rfl, ?_⟩) (by exact hHeld) ?_; rotate_left; (focus (intro w' hSw; obtain ⟨s0, s1⟩ := hSw; go_simp; (try with_reducible rfl); done)); (try simp only [Act.put, List.setIfInBounds_toArray, List.set_cons_zero, List.set_cons_succ]))
      (refine wpAnyL_take (i := 9) (v := ?_) (by simp only [List.getElem?_toArray, List.getElem?_cons_succ, List.getElem?_cons_zero]; rfl) (by kernel_rfl) (by kernel_rfl) (by kernel_rfl) (by kernel_rfl) (fun _ _ _ h => h) (Or.inl ⟨by rfl, ?_⟩) (by exact hHeld) ?_; rotate_left; (focus (intro w' hSw; obtain ⟨s0, s1⟩ := hSw; go_simp; (try with_reducible rfl); done)); (try simp only [Act.put, List.setIfInBounds_toArray, List.set_cons_zero, List.set_cons_succ]))
      refine wpAnyL_one (i := 10) (by kernel_rfl) (by simp only [List.getElem?_toArray, List.getElem?_cons_succ, List.getElem?_cons_zero]; rfl) (fun K hK => ?_)
      refine step_store_F rfl 22 _ _ rfl g 0 [.slice (some ⟨b, 3, none⟩) 7 (c - 3)] rfl rfl (by intro u hu; simp only [List.mem_singleton] at hu; subst hu; rfl) 59 _ (cnC (.slice (some ⟨b, 3, none⟩) 7 (c - 3)) (.slice none 0 0) 1 0 false false) (blk_drew BXW.out) (by simp [cnC]) (by kernel_rfl) rfl ?_
      intro w4 hbk hst
      have BX4 := Aside0.mk hbk
      have HB4 := Aside0.mk (hst.But_of HBW.out)
      have BS4 := Aside0.mk (hst.blk BS.out hne.out)
      refine hK.out _ _ (fun h => absurd rfl h) ?_
      clear hK K hHeld hbk hst t0 t12
      intro _
      (try simp only [Act.put, List.setIfInBounds_toArray, List.set_cons_zero, List.set_cons_succ])
      refine wpAnyL_done (by kernel_rfl) ?_ _
      refine NoPanic.normal ?_
      have hg4 : g < w4.heap.size := blk_lt BX4.out
      have hs4 : w3.heap.size < w4.heap.size := blk_lt BS4.out
      have x11 : w4.cell? ⟨w3.heap.size, 11, none⟩ = some (.string (⟨#[69, 82, 82, 79, 82, 13, 10]⟩ : ByteArray)) := (blk_cell BS4.out 11).trans rfl
      have x15 : w4.cell? ⟨w3.heap.size, 15, none⟩ = some (.int .i64 2) := (blk_cell BS4.out 15).trans rfl
      have HSY := Aside0.mk (fun (w' : World) (hx : w'.heap[g]? = some (.cells (cnC (.slice (some ⟨b, 3, none⟩) 7 (c - 3)) (.slice none 0 0) (1) (0) false false) 59 (0, 0))) (B : Option Addr) (c' : Nat) (hB : (Kd.int .u8).C w' B 7 exE) (hc' : 7 ≤ c') => say_calls exE _ 1 0 false false g B 7 c' w' rfl hx hB hc' (by decide))
      go_upto_region 15 with (first | ((with_reducible refine gate_dst (N := 45) rfl ?_); refine wp_bytes rfl _ _ _ _ rfl _ rfl Tryz.underlying9 Tryz.underlying22 Tryz.underlying5 (by decide) ?_; rw [show (bytesOf (⟨#[69, 82, 82, 79, 82, 13, 10]⟩ : ByteArray)).length = 7 from rfl]; intro Ab cb w5 hcap hby hb; have HBY := Aside0.mk (show (Kd.int .u8).C w5 Ab 7 exE from hby); have HCAP := Aside0.mk (show 7 ≤ cb from hcap); have BX5 := Aside0.mk (blk_below BX4.out hb); have BS5 := Aside0.mk (blk_below BS4.out hb); have HB5 := Aside0.mk (HB4.out.below hb hgr); have hg5 := blk_lt BX5.out; have hs5 := blk_lt BS5.out; clear hcap hby hb) | (go_at_call 21; (with_reducible refine (HSY.out _ BX5.out _ _ HBY.out HCAP.out).mono ?_); rintro e w6 ⟨rfl, v6, hbx, hown, hbt⟩; have BX6 := Aside0.mk hbx; have HOW := Aside0.mk hown; have HB6 := Aside0.mk (HB5.out.trans hbt); have BS6 := Aside0.mk ((hbt.blk _ hs5 hne.out).trans BS5.out); clear hbx hown hbt))
      have t13 : w6.cell? ⟨w3.heap.size, 13, none⟩ = some (.int .i64 0) := (blk_cell BS6.out 13).trans rfl
      have t14 : w6.cell? ⟨w3.heap.size, 14, none⟩ = some (.bool false) := (blk_cell BS6.out 14).trans rfl
      refine wp_region_noPanic ?_
      refine wp_region_L (S := fun w' => w'.cell? ⟨w3.heap.size, 13, none⟩ = some (.int .i64 0) ∧ w'.cell? ⟨w3.heap.size, 14, none⟩ = some (.bool false)) 11 (by kernel_rfl) ⟨t13, t14⟩ ?_
      intro hHeld
      (refine wpAnyL_take (i := 0) (v := ?_) (by simp only [List.getElem?_toArray, List.getElem?_cons_succ, List.getElem?_cons_zero]; rfl) (by kernel_rfl) (by kernel_rfl) (by kernel_rfl) (by kernel_rfl) (fun _ _ _ h => h) (Or.inl ⟨by rfl, ?_⟩) (by exact hHeld) ?_; rotate_left; (focus (intro w' hSw; obtain ⟨s0, s1⟩ := hSw; go_simp; (try with_reducible rfl); done)); (try simp only [Act.put, List.setIfInBounds_toArray, List.set_cons_zero, List.set_cons_succ]))
      (refine wpAnyL_take (i := 1) (v := ?_) (by simp only [List.getElem?_toArray, List.getElem?_cons_succ, List.getElem?_cons_zero]; rfl) (by kernel_rfl) (by kernel_rfl) (by kernel_rfl) (by kernel_rfl) (fun _ _ _ h => h) (Or.inl ⟨by rfl, ?_⟩) (by exact hHeld) ?_; rotate_left; (focus (intro w' hSw; obtain ⟨s0, s1⟩ := hSw; go_simp; (try with_reducible rfl); done)); (try simp only [Act.put, List.setIfInBounds_toArray, List.set_cons_zero, List.set_cons_succ]))
      (refine wpAnyL_take (i := 2) (v := ?_) (by simp only [List.getElem?_toArray, List.getElem?_cons_succ, List.getElem?_cons_zero]; rfl) (by kernel_rfl) (by kernel_rfl) (by kernel_rfl) (by kernel_rfl) (fun _ _ _ h => h) (Or.inl ⟨by rfl, ?_⟩) (by exact hHeld) ?_; rotate_left; (focus (intro w' hSw; obtain ⟨s0, s1⟩ := hSw; go_simp; (try with_reducible rfl); done)); (try simp only [Act.put, List.setIfInBounds_toArray, List.set_cons_zero, List.set_cons_succ]))
      (refine wpAnyL_take (i := 3) (v := ?_) (by simp only [List.getElem?_toArray, List.getElem?_cons_succ, List.getElem?_cons_zero]; rfl) (by kernel_rfl) (by kernel_rfl) (by kernel_rfl) (by kernel_rfl) (fun _ _ _ h => h) (Or.inl ⟨by rfl, ?_⟩) (by exact hHeld) ?_; rotate_left; (focus (intro w' hSw; obtain ⟨s0, s1⟩ := hSw; go_simp; (try with_reducible rfl); done)); (try simp only [Act.put, List.setIfInBounds_toArray, List.set_cons_zero, List.set_cons_succ]))
      (refine wpAnyL_take (i := 4) (v := ?_) (by simp only [List.getElem?_toArray, List.getElem?_cons_succ, List.getElem?_cons_zero]; rfl) (by kernel_rfl) (by kernel_rfl) (by kernel_rfl) (by kernel_rfl) (fun _ _ _ h => h) (Or.inl ⟨by rfl, ?_⟩) (by exact hHeld) ?_; rotate_left; (focus (intro w' hSw; obtain ⟨s0, s1⟩ := hSw; go_simp; (try with_reducible rfl); done)); (try simp only [Act.put, List.setIfInBounds_toArray, List.set_cons_zero, List.set_cons_succ]))
      (refine wpAnyL_take (i := 5) (v := ?_) (by simp only [List.getElem?_toArray, List.getElem?_cons_succ, List.getElem?_cons_zero]; rfl) (by kernel_rfl) (by kernel_rfl) (by kernel_rfl) (by kernel_rfl) (fun _ _ _ h => h) (Or.inl ⟨by rfl, ?_⟩) (by exact hHeld) ?_; rotate_left; (focus (intro w' hSw; obtain ⟨s0, s1⟩ := hSw; go_simp; (try with_reducible rfl); done)); (try simp only [Act.put, List.setIfInBounds_toArray, List.set_cons_zero, List.set_cons_succ]))
      (refine wpAnyL_take (i := 6) (v := ?_) (by simp only [List.getElem?_toArray, List.getElem?_cons_succ, List.getElem?_cons_zero]; rfl) (by kernel_rfl) (by kernel_rfl) (by kernel_rfl) (by kernel_rfl) (fun _ _ _ h => h) (Or.inl ⟨by rfl, ?_⟩) (by exact hHeld) ?_; rotate_left; (focus (intro w' hSw; obtain ⟨s0, s1⟩ := hSw; go_simp; (try with_reducible rfl); done)); (try simp only [Act.put, List.setIfInBounds_toArray, List.set_cons_zero, List.set_cons_succ]))
      (refine wpAnyL_take (i := 7) (v := ?_) (by simp only [List.getElem?_toArray, List.getElem?_cons_succ, List.getElem?_cons_zero]; rfl) (by kernel_rfl) (by kernel_rfl) (by kernel_rfl) (by kernel_rfl) (fun _ _ _ h => h) (Or.inl ⟨by rfl, ?_⟩) (by exact hHeld) ?_; rotate_left; (focus (intro w' hSw; obtain ⟨s0, s1⟩ := hSw; go_simp; (try with_reducible rfl); done)); (try simp only [Act.put, List.setIfInBounds_toArray, List.set_cons_zero, List.set_cons_succ]))
      refine wpAnyL_one (i := 8) (by kernel_rfl) (by simp only [List.getElem?_toArray, List.getElem?_cons_succ, List.getElem?_cons_zero]; rfl) (fun K hK => ?_)
      refine step_store_F rfl 3 _ _ rfl g 3 [.int .i64 0] rfl rfl (by intro u hu; simp only [List.mem_singleton] at hu; subst hu; rfl) 59 _ (cnC (.slice (some ⟨b, 3, none⟩) 7 (c - 3)) v6 1 0 false false) (blk_drew BX6.out) (by simp [cnC]) (by kernel_rfl) rfl ?_
      intro w7 hbk hst
      have BX7 := Aside0.mk hbk
      have BS7 := Aside0.mk (hst.blk (blk_drew BS6.out) hne.out)
      have HS7 := Aside0.mk hst
      refine hK.out _ _ (fun _ => ⟨(blk_cell BS7.out 13).trans rfl, (blk_cell BS7.out 14).trans rfl⟩) ?_
      clear hK K hHeld hbk hst
      intro hHeld
      have hHeld := hHeld (by decide)
      (try simp only [Act.put, List.setIfInBounds_toArray, List.set_cons_zero, List.set_cons_succ])
      (refine wpAnyL_only (i := 9) (v := ?_) (by kernel_rfl) (by simp only [List.getElem?_toArray, List.getElem?_cons_succ, List.getElem?_cons_zero]; rfl) (Or.inl ⟨by rfl, ?_⟩) (by exact hHeld) ?_; rotate_left; (focus (intro w' hSw; obtain ⟨s0, s1⟩ := hSw; go_simp; (try with_reducible rfl); done)); (try simp only [Act.put, List.setIfInBounds_toArray, List.set_cons_zero, List.set_cons_succ]))
      (refine wpAnyL_take (i := 10) (v := ?_) (by simp only [List.getElem?_toArray, List.getElem?_cons_succ, List.getElem?_cons_zero]; rfl) (by kernel_rfl) (by kernel_rfl) (by kernel_rfl) (by kernel_rfl) (fun _ _ _ h => h) (Or.inl ⟨by rfl, ?_⟩) (by exact hHeld) ?_; rotate_left; (focus (intro w' hSw; obtain ⟨s0, s1⟩ := hSw; go_simp; (try with_reducible rfl); done)); (try simp only [Act.put, List.setIfInBounds_toArray, List.set_cons_zero, List.set_cons_succ]))
      refine wpAnyL_one (i := 11) (by kernel_rfl) (by simp only [List.getElem?_toArray, List.getElem?_cons_succ, List.getElem?_cons_zero]; rfl) (fun K hK => ?_)
      refine step_store_F rfl 4 _ _ rfl g 4 [.bool false] rfl rfl (by intro u hu; simp only [List.mem_singleton] at hu; subst hu; rfl) 59 _ (cnC (.slice (some ⟨b, 3, none⟩) 7 (c - 3)) v6 1 0 false false) BX7.out (by simp [cnC]) (by kernel_rfl) rfl ?_
      intro w8 hbk hst
      have BX8 := Aside0.mk hbk
      have HS8 := Aside0.mk hst
      refine hK.out _ _ (fun h => absurd rfl h) ?_
      clear hK K hHeld hbk hst
      intro _
      (try simp only [Act.put, List.setIfInBounds_toArray, List.set_cons_zero, List.set_cons_succ])
      refine wpAnyL_done (by kernel_rfl) ?_ _
      refine NoPanic.normal ?_
      have HB8 := Aside0.mk (HS8.out.But_of (HS7.out.But_of (But.drew HB6.out)))
      go_wp2
      go_roundw
      case rel =>
        obtain ⟨A6, c6, rfl, hc6, hH⟩ := own_hol (F := fun k => k ≠ g ∧ k ≠ w.heap.size) HOW.out (fun k hk => ⟨by omega, by have := blk_lt HZ.out; have := (HB5.out.low 0 (Nat.zero_le _)).size; omega⟩)
        exact ⟨⟨HBT.out.trans HB8.out, (HB8.out.blk _ (blk_lt HZ.out) (by omega)).trans HZ.out, Or.inr ⟨A6, c6, hc6, BX8.out, hH.kept (HS8.out.up (HS7.out.up (below_drew1 (Below.refl _ _)) (Nat.zero_le _)) (Nat.zero_le _)) (fun k hk hF => (HS8.out.block k hF.1).trans ((HS7.out.block k hF.1).trans rfl))⟩⟩⟩
      case measure =>
        rw [show w8.cell? ⟨g, 2, none⟩ = some (.int .i64 1) from (blk_cell BX8.out 2).trans rfl, show wr.cell? ⟨g, 2, none⟩ = some (.int .i64 0) from T2.out]
        decide
    · have t5 : wr.cell? ⟨g, 5, none⟩ = some (.bool false) := (blk_cell h1 5).trans rfl
      have HE := Aside0.mk hE
      have HC0 := Aside0.mk hc0
      have HPS := Aside0.mk (pass_calls b 3 7 (c - 3) (.slice A0 7 c0) 1 g wr (by omega) (by omega) h1)
      have HDT : Aside0 (∀ w1, (w1.heap[g]? = some (.cells (cnC (.slice (some ⟨b, 3, none⟩) 7 (c - 3)) (.slice A0 7 c0) (1) (0) false false) 59 (0, 0))) → Calls Tryz.prog 26 #[.pointer (some ⟨g, 0, none⟩)] w1 fun e w' => e = .returned (.tuple #[]) ∧ Below w1.heap.size w1 w') := ⟨fun w1 hx => detect2 _ _ g w1 hx⟩
      have HPR : Aside0 (∀ w1, (w1.heap[g]? = some (.cells (cnC (.slice (some ⟨b, 3, none⟩) 7 (c - 3)) (.slice A0 7 c0) (1) (0) false false) 59 (0, 0))) → But g w w1 → Calls Tryz.prog 27 #[.pointer (some ⟨g, 0, none⟩)] w1 (StepR (fun k => k < w.heap.size ∧ k ≠ g) w1 (stepG 7 (⟨#[103, 101, 116]⟩ : ByteArray) 0 0 [(⟨#[97]⟩ : ByteArray)]))) := ⟨fun w1 hx hb =>
        cparse_calls exG 7 rfl _ ex_g _ (c - 3) _ g _ w1 hx (fun w2 h2 hk2 => (show (Kd.int .u8).C w2 (some ⟨b, 0 + 3, none⟩) (exX.drop 3).length (exX.drop 3) from C_dropk (l := exX) (HC.out w2 ((hb.low 0 (Nat.zero_le _)).trans h2) (fun k hk hF => (hk2 k (by have := (hb.low 0 (Nat.zero_le _)).size; omega) ⟨hk, hF⟩).trans (hb.blk k hk hF))) 3)) (show 7 ≤ c - 3 by omega) (by decide) (B8_nums _) (HT.out w1 hb)⟩
      have hc13 : (7 : Int) ≤ ↑(c - 3) := by omega
      clear hrel hbt hz h1 hE hc0
      go_upto_region 11 with (first | (go_at_call 25; (with_reducible refine (HPS.out).mono ?_); rintro e w1 ⟨rfl, hbx, hbt⟩; have BX1 := Aside0.mk hbx; have HB1 := Aside0.mk hbt; clear hbx hbt) | (go_at_call 26; (with_reducible refine (HDT.out _ BX1.out).mono ?_); rintro e w2 ⟨rfl, hb⟩; have BX2 := Aside0.mk (blk_below BX1.out hb); have HB2 := Aside0.mk (HB1.out.below hb hgr); clear hb) | (go_at_call 27; (with_reducible refine (HPR.out _ BX2.out (HBT.out.trans HB2.out)).mono ?_); rintro e w3 ⟨⟨cs, rfl, hk⟩, hb⟩; have BX3 := Aside0.mk (blk_below BX2.out hb); have HB3 := Aside0.mk (HB2.out.below hb hgr); obtain ⟨A1, c1, A8, c8, A9, c9, rfl⟩ := stepY_open hk.now; have HK := Aside0.mk hk; have hg3 : g < w3.heap.size := blk_lt BX3.out; have hw23 := Aside0.mk hb.size; clear hk hb))
      obtain ⟨W, hW⟩ : ∃ W, w3.alloc (.cells #[.slice A1 1 c1, .int .i64 1, .string (⟨#[103, 101, 116]⟩ : ByteArray), .int .i64 0, .int .u32 0, .bool false, .bool false, .string ⟨#[]⟩, .slice A8 0 c8, .slice A9 1 c9, .bool false, .string ⟨#[]⟩, .int .i64 7, .int .i64 0, .bool false, .int .i64 0] 61 (0, 0)) = W := ⟨_, rfl⟩
      rw [hW]
      have BSW := Aside0.mk (show W.heap[w3.heap.size]? = some (.cells #[.slice A1 1 c1, .int .i64 1, .string (⟨#[103, 101, 116]⟩ : ByteArray), .int .i64 0, .int .u32 0, .bool false, .bool false, .string ⟨#[]⟩, .slice A8 0 c8, .slice A9 1 c9, .bool false, .string ⟨#[]⟩, .int .i64 7, .int .i64 0, .bool false, .int .i64 0] 61 (0, 0)) from hW ▸ blk_at_new _ _ _ rfl)
      have BXW := Aside0.mk (show W.heap[g]? = _ from hW ▸ blk_alloc BX3.out _)
      have HBW := Aside0.mk (show But g wr W.drew from But.drew (hW ▸ HB3.out.below ((Below.refl _ _).alloc (Nat.le_refl _) _) hgr))
      have HKW := Aside0.mk (show HolF _ W (fun w2 => kStep.K w2 (stepG 7 (⟨#[103, 101, 116]⟩ : ByteArray) 0 0 [(⟨#[97]⟩ : ByteArray)]) [.slice A1 1 c1, .int .i64 1, .string (⟨#[103, 101, 116]⟩ : ByteArray), .int .i64 0, .int .u32 0, .bool false, .bool false, .string ⟨#[]⟩, .slice A8 0 c8, .slice A9 1 c9, .bool false, .string ⟨#[]⟩, .int .i64 7, .int .i64 0, .bool false, .int .i64 0]) from hW ▸ HK.out.below ((Below.refl _ _).alloc (Nat.le_refl _) _))
      have HS3 : Aside0 (W.heap.size = w3.heap.size + 1) := ⟨hW ▸ World.size_alloc _ _⟩
      have hne : Aside0 (w3.heap.size ≠ g) := ⟨by omega⟩
      have t0 : W.cell? ⟨g, 0, none⟩ = some (.slice (some ⟨b, 3, none⟩) 7 (c - 3)) := (blk_cell BXW.out 0).trans rfl
      have t12 : W.cell? ⟨w3.heap.size, 12, none⟩ = some (.int .i64 7) := (blk_cell BSW.out 12).trans rfl
      clear hW
      refine wp_region_noPanic ?_
      refine wp_region_L (S := fun w' => w'.cell? ⟨g, 0, none⟩ = some (.slice (some ⟨b, 3, none⟩) 7 (c - 3)) ∧ w'.cell? ⟨w3.heap.size, 12, none⟩ = some (.int .i64 7)) 10 (by kernel_rfl) ⟨t0, t12⟩ ?_
      intro hHeld
      (refine wpAnyL_take (i := 0) (v := ?_) (by simp only [List.getElem?_toArray, List.getElem?_cons_succ, List.getElem?_cons_zero]; rfl) (by kernel_rfl) (by kernel_rfl) (by kernel_rfl) (by kernel_rfl) (fun _ _ _ h => h) (Or.inl ⟨by rfl, ?_⟩) (by exact hHeld) ?_; rotate_left; (focus (intro w' hSw; obtain ⟨s0, s1⟩ := hSw; go_simp; (try with_reducible rfl); done)); (try simp only [Act.put, List.setIfInBounds_toArray, List.set_cons_zero, List.set_cons_succ]))
      (refine wpAnyL_take (i := 1) (v := ?_) (by simp only [List.getElem?_toArray, List.getElem?_cons_succ, List.getElem?_cons_zero]; rfl) (by kernel_rfl) (by kernel_rfl) (by kernel_rfl) (by kernel_rfl) (fun _ _ _ h => h) (Or.inl ⟨by rfl, ?_⟩) (by exact hHeld) ?_; rotate_left; (focus (intro w' hSw; obtain ⟨s0, s1⟩ := hSw; go_simp; (try with_reducible rfl); done)); (try simp only [Act.put, List.setIfInBounds_toArray, List.set_cons_zero, List.set_cons_succ]))
      (refine wpAnyL_take (i := 2) (v := ?_) (by simp only [List.getElem?_toArray, List.getElem?_cons_succ, List.getElem?_cons_zero]; rfl) (by kernel_rfl) (by kernel_rfl) (by kernel_rfl) (by kernel_rfl) (fun _ _ _ h => h) (Or.inl ⟨by rfl, ?_⟩) (by exact hHeld) ?_; rotate_left; (focus (intro w' hSw; obtain ⟨s0, s1⟩ := hSw; go_simp; (try with_reducible rfl); done)); (try simp only [Act.put, List.setIfInBounds_toArray, List.set_cons_zero, List.set_cons_succ]))
      (refine wpAnyL_take (i := 3) (v := ?_) (by simp only [List.getElem?_toArray, List.getElem?_cons_succ, List.getElem?_cons_zero]; rfl) (by kernel_rfl) (by kernel_rfl) (by kernel_rfl) (by kernel_rfl) (fun _ _ _ h => h) (Or.inl ⟨by rfl, ?_⟩) (by exact hHeld) ?_; rotate_left; (focus (intro w' hSw; obtain ⟨s0, s1⟩ := hSw; go_simp; (try with_reducible rfl); done)); (try simp only [Act.put, List.setIfInBounds_toArray, List.set_cons_zero, List.set_cons_succ]))
      (refine wpAnyL_take (i := 4) (v := ?_) (by simp only [List.getElem?_toArray, List.getElem?_cons_succ, List.getElem?_cons_zero]; rfl) (by kernel_rfl) (by kernel_rfl) (by kernel_rfl) (by kernel_rfl) (fun _ _ _ h => h) (Or.inl ⟨by rfl, ?_⟩) (by exact hHeld) ?_; rotate_left; (focus (intro w' hSw; obtain ⟨s0, s1⟩ := hSw; go_simp; (try with_reducible rfl); done)); (try simp only [Act.put, List.setIfInBounds_toArray, List.set_cons_zero, List.set_cons_succ]))
      (refine wpAnyL_take (i := 5) (v := ?_) (by simp only [List.getElem?_toArray, List.getElem?_cons_succ, List.getElem?_cons_zero]; rfl) (by kernel_rfl) (by kernel_rfl) (by kernel_rfl) (by kernel_rfl) (fun _ _ _ h => h) (Or.inl ⟨by rfl, ?_⟩) (by exact hHeld) ?_; rotate_left; (focus (intro w' hSw; obtain ⟨s0, s1⟩ := hSw; go_simp; (try with_reducible rfl); done)); (try simp only [Act.put, List.setIfInBounds_toArray, List.set_cons_zero, List.set_cons_succ]))
      (refine wpAnyL_take (i := 6) (v := ?_) (by simp only [List.getElem?_toArray, List.getElem?_cons_succ, List.getElem?_cons_zero]; rfl) (by kernel_rfl) (by kernel_rfl) (by kernel_rfl) (by kernel_rfl) (fun _ _ _ h => h) (Or.inl ⟨by rfl, ?_⟩) (by exact hHeld) ?_; rotate_left; (focus (intro w' hSw; obtain ⟨s0, s1⟩ := hSw; go_simp; (try with_reducible rfl); done)); (try simp only [Act.put, List.setIfInBounds_toArray, List.set_cons_zero, List.set_cons_succ]))
      (refine wpAnyL_take (i := 7) (v := ?_) (by simp only [List.getElem?_toArray, List.getElem?_cons_succ, List.getElem?_cons_zero]; rfl) (by kernel_rfl) (by kernel_rfl) (by kernel_rfl) (by kernel_rfl) (fun _ _ _ h => h) (Or.inl ⟨by rfl, ?_⟩) (by exact hHeld) ?_; rotate_left; (focus (intro w' hSw; obtain ⟨s0, s1⟩ := hSw; go_simp; (try with_reducible rfl); done)); (try simp only [Act.put, List.setIfInBounds_toArray, List.set_cons_zero, List.set_cons_succ]))
      (refine wpAnyL_only (i := 8) (v := ?_) (by kernel_rfl) (by simp only [List.getElem?_toArray, List.getElem?_cons_succ, List.getElem?_cons_zero]; rfl) (Or.inl ⟨by rfl, ?_⟩) (by exact hHeld) ?_; rotate_left; (focus (intro w' hSw; obtain ⟨s0, s1⟩ := hSw; go_simp; (try with_reducible rfl); done)); (try simp only [Act.put, List.setIfInBounds_toArray, List.set_cons_zero, List.set_cons_succ]))
      (refine wpAnyL_take (i := 9) (v := ?_) (by simp only [List.getElem?_toArray, List.getElem?_cons_succ, List.getElem?_cons_zero]; rfl) (by kernel_rfl) (by kernel_rfl) (by kernel_rfl) (by kernel_rfl) (fun _ _ _ h => h) (Or.inl ⟨by rfl, ?_⟩) (by exact hHeld) ?_; rotate_left; (focus (intro w' hSw; obtain ⟨s0, s1⟩ := hSw; go_simp; (try with_reducible rfl); done)); (try simp only [Act.put, List.setIfInBounds_toArray, List.set_cons_zero, List.set_cons_succ]))
      obtain ⟨A7, hA7⟩ : ∃ A7 : Option Addr, (if c - 3 = 7 then some (⟨b, 3, none⟩ : Addr) else some ⟨b, 10, none⟩) = A7 := ⟨_, rfl⟩
      rw [hA7]
      clear hA7
      obtain ⟨c7, hc7⟩ : ∃ c7 : Nat, c - 3 - 7 = c7 := ⟨_, rfl⟩
      rw [hc7]
      clear hc7
      refine wpAnyL_one (i := 10) (by kernel_rfl) (by simp only [List.getElem?_toArray, List.getElem?_cons_succ, List.getElem?_cons_zero]; rfl) (fun K hK => ?_)
      refine step_store_F rfl 22 _ _ rfl g 0 [.slice A7 0 c7] rfl rfl (by intro u hu; simp only [List.mem_singleton] at hu; subst hu; rfl) 59 _ (cnC (.slice A7 0 c7) (.slice A0 7 c0) 1 0 false false) (blk_drew BXW.out) (by simp [cnC]) (by kernel_rfl) rfl ?_
      intro w4 hbk hst
      have BX4 := Aside0.mk hbk
      have HB4 := Aside0.mk (hst.But_of HBW.out)
      have HS4 := Aside0.mk hst
      have BS4 := Aside0.mk (hst.blk (show W.drew.heap[w3.heap.size]? = _ from blk_drew BSW.out) hne.out)
      refine hK.out _ _ (fun h => absurd rfl h) ?_
      clear hK K hHeld hbk hst t0 t12
      intro _
      (try simp only [Act.put, List.setIfInBounds_toArray, List.set_cons_zero, List.set_cons_succ])
      refine wpAnyL_done (by kernel_rfl) ?_ _
      refine NoPanic.normal ?_
      have hg4 : g < w4.heap.size := blk_lt BX4.out
      have hs4 : w3.heap.size < w4.heap.size := blk_lt BS4.out
      have x15 : w4.cell? ⟨w3.heap.size, 15, none⟩ = some (.int .i64 0) := (blk_cell BS4.out 15).trans rfl
      have HZ4 := Aside0.mk ((HB4.out.blk _ (blk_lt HZ.out) (by omega)).trans HZ.out)
      have HRQ : Aside0 (w4.rangeAt w3.heap.size 0 ([.slice A1 1 c1, .int .i64 1, .string (⟨#[103, 101, 116]⟩ : ByteArray), .int .i64 0, .int .u32 0, .bool false, .bool false, .string ⟨#[]⟩, .slice A8 0 c8, .slice A9 1 c9, .bool false] : List Value)) := ⟨fun j v hj => by
        rw [Nat.zero_add]
        exact (blk_cell BS4.out j).trans (by
          rw [show (#[.slice A1 1 c1, .int .i64 1, .string (⟨#[103, 101, 116]⟩ : ByteArray), .int .i64 0, .int .u32 0, .bool false, .bool false, .string ⟨#[]⟩, .slice A8 0 c8, .slice A9 1 c9, .bool false, .string ⟨#[]⟩, .int .i64 7, .int .i64 0, .bool false, .int .i64 0] : Array Value) = (([.slice A1 1 c1, .int .i64 1, .string (⟨#[103, 101, 116]⟩ : ByteArray), .int .i64 0, .int .u32 0, .bool false, .bool false, .string ⟨#[]⟩, .slice A8 0 c8, .slice A9 1 c9, .bool false] : List Value) ++ ([.string ⟨#[]⟩, .int .i64 7, .int .i64 0, .bool false, .int .i64 0] : List Value)).toArray from rfl, List.getElem?_toArray, List.getElem?_append_left (List.getElem?_eq_some_iff.1 hj).1]
          exact hj)⟩
      go_wp2_with (first
        | (refine wpList_load_mid rfl 34 _ rfl w3.heap.size 0 rfl ([.slice A1 1 c1, .int .i64 1, .string (⟨#[103, 101, 116]⟩ : ByteArray), .int .i64 0, .int .u32 0, .bool false, .bool false, .string ⟨#[]⟩, .slice A8 0 c8, .slice A9 1 c9, .bool false] : List Value) _ HRQ.out Tryz.underlying34 rfl (by kernel_rfl) ?_)
        | (refine wpList_store_F rfl 34 _ _ rfl w.heap.size 0 ([.slice A1 1 c1, .int .i64 1, .string (⟨#[103, 101, 116]⟩ : ByteArray), .int .i64 0, .int .u32 0, .bool false, .bool false, .string ⟨#[]⟩, .slice A8 0 c8, .slice A9 1 c9, .bool false] : List Value) rfl rfl (by simp [Value.oneCell']) 34 _ ([.slice A1 1 c1, .int .i64 1, .string (⟨#[103, 101, 116]⟩ : ByteArray), .int .i64 0, .int .u32 0, .bool false, .bool false, .string ⟨#[]⟩, .slice A8 0 c8, .slice A9 1 c9, .bool false] : List Value).toArray HZ4.out (by simp [zReqC]) (by kernel_rfl) rfl ?_; intro w5 hbk hst; have BZ5 := Aside0.mk hbk; have HS5 := Aside0.mk hst; clear hbk hst))
      rw [Exit.noGoto_ret]
      refine bodyPost_ret (results_ct rfl _ _ w.heap.size 34 _ (0, 0) _ rfl BZ5.out Tryz.underlying34 rfl (by kernel_rfl)) rfl ?_
      have hz1 := blk_lt HZ.out
      have hz2 := (HB2.out.low 0 (Nat.zero_le _)).size
      have hdr : Below 0 W w4 := HS4.out.up (below_drew1 (Below.refl _ _)) (Nat.zero_le _)
      have hK5 := HKW.out.kept (HS5.out.up hdr (Nat.zero_le _)) (fun k hk hF => (HS5.out.block k (fun e => absurd (hF (by omega)).1 (by omega))).trans ((HS4.out.block k (fun e => absurd (hF (by omega)).2 (by omega))).trans rfl))
      obtain ⟨b1, o1, rfl, hb1, hkey⟩ := stepY_key hK5.now
      have hB4 := HBT.out.trans HB4.out
      exact ⟨b1, o1, c1, _, _, _, _, _, _, _, _, _, _, _, _, _, _, _, A0, c0, rfl, hkey, hb1, HS5.out.blk BX4.out (by omega), (HE.out.kept (HS5.out.up (HB4.out.low 0 (Nat.zero_le _)) (Nat.zero_le _)) (fun k hk hF => (HS5.out.block k hF.2).trans (HB4.out.blk k hk hF.1))).mono (fun k h => h.1), ⟨fun B hB => HS5.out.up (hB4.low B hB) (by omega), fun k hk hkg => (HS5.out.block k (by omega)).trans (hB4.blk k hk hkg)⟩⟩
end Go.Proofs.YtdjbbncoioghfaaGreatDoor.X
namespace Go.Proofs.YtdjbbncoioghfaaGreatDoor.X
open Go.RowKit Go.Proofs.YtdjbbncoioghfaaGreatDoorW.PrintWords Go.Proofs.YtdjbbncoioghfaaGreatDoorW.PrintMore Go.Proofs.YtdjbbncoioghfaaGreatDoorW.PrintLast
set_option linter.unusedVariables false
set_option linter.unusedSimpArgs false
theorem own_sl {W : World} {base : Nat} {v : Value} {l : List Int} {F : Nat → Prop} (h : W.ownsRow base 5 1 v l.length (encs (Value.int .u8) l)) (h0 : 0 < l.length) (hF : ∀ k, base ≤ k → F k) : ∃ b c, v = .slice (some ⟨b, 0, none⟩) l.length c ∧ l.length ≤ c ∧ HolF F W (fun w2 => (Kd.int .u8).C w2 (some ⟨b, 0, none⟩) l.length l) := by
  obtain ⟨A, c, e, hc, hH⟩ := own_hol h hF
  rcases h.2 with ⟨rfl, h1⟩ | ⟨g, cap, cur, rfl, -⟩
  · omega
  · obtain ⟨rfl, -, rfl⟩ := Value.slice.inj e
    exact ⟨_, _, rfl, hc, hH⟩
theorem exX_at {W : World} {b : Nat} {e : TypeId} {fr : Nat × Nat} (hb : W.heap[b]? = some (.cells #[.int .u8 120, .int .u8 13, .int .u8 10, .int .u8 103, .int .u8 101, .int .u8 116, .int .u8 32, .int .u8 97, .int .u8 13, .int .u8 10] e fr)) : (Kd.int .u8).C W (some ⟨b, 0, none⟩) 10 exX := Bytes_at hb exX (by decide) rfl
theorem er_eq : (strOfNums exE).toList = [69, 82, 82, 79, 82, 13, 10] := by
  rw [ByteArray.toList_eq]
  rfl
set_option maxRecDepth 100000 in
set_option maxHeartbeats 4000000 in
theorem awake_calls (w : World) (hT : Tabs w) : Calls Tryz.prog 8 #[] w fun e w' => e = .returned (.bool true) ∧ Below w.heap.size w w' := by
  have HB := Aside0.mk (Below.refl w.heap.size w)
  have HT := Aside0.mk hT
  have HFD := Aside0.mk (fun (w' : World) (B : Option Addr) (c' : Nat) (hx : w'.heap[w.heap.size]? = some (.cells (cnC (.slice none 0 0) (.slice none 0 0) (0) (0) false false) 59 (0, 0))) (hB : (Kd.int .u8).C w' B 10 exX) (hc' : 10 ≤ c') => (feed_ok [] exX (.slice none 0 0) (.slice none 0 0) 0 0 false w.heap.size B 10 c' w' rfl hx (own_nil _ _ _ _) hB hc' (by decide)).mono (R' := fun e w'' => ∃ b c, e = .returned (.int .i64 0) ∧ 10 ≤ c ∧ (w''.heap[w.heap.size]? = some (.cells (cnC (.slice (some ⟨b, 0, none⟩) 10 c) (.slice none 0 0) (0) (0) false false) 59 (0, 0))) ∧ HolF (fun k => k ≠ w.heap.size) w'' (fun w2 => (Kd.int .u8).C w2 (some ⟨b, 0, none⟩) 10 exX) ∧ Below w.heap.size w' w'') (by
      rintro e w'' ⟨v, rfl, hbx, hown, hb⟩
      obtain ⟨b, c, rfl, hc, hH⟩ := own_sl (l := exX) hown (by decide) (F := fun k => k ≠ w.heap.size) (fun k hk => by omega)
      exact ⟨b, c, rfl, hc, hbx, hH, hb⟩))
  have hxy : ((strOfNums exE).toList == [69, 82, 82, 79, 82, 13, 10]) = true := beq_iff_eq.2 er_eq
  clear hT
  go_enter Tryz.func8, Tryz.ntmps8
  go_wp2_with (first | ((with_reducible refine gate_dst (N := 10) rfl ?_); (first | (refine wp_const_drew rfl _ _ _ rfl _ _ _ _ rfl ?_ Tryz.underlying22 Tryz.underlying5 ?_) | (refine wp_const rfl _ _ _ rfl _ _ _ _ rfl ?_ Tryz.underlying22 Tryz.underlying5 ?_)); (case _ => simp)) | (go_at_call 9; (with_reducible refine (new_calls _).mono ?_); rintro e w1 ⟨rfl, hbx, hb⟩; have BX1 := Aside0.mk hbx; have hg1 : w.heap.size < w1.heap.size := blk_lt hbx; have HBn := Aside0.mk (below_step (by repeat (first | (with_reducible first | exact HB.out | apply below_alloc | apply pw_below_drewN | apply below_drew1) | exact HB.out)) hb); clear HB; have HB := HBn; clear HBn; clear hbx hb) | (go_at_call 10; (with_reducible refine (HFD.out _ _ _ (by repeat (first | (with_reducible exact BX1.out) | (with_reducible refine blk_alloc ?_ _) | (with_reducible refine blk_drew ?_) | (with_reducible refine blk_drewN ?_ _))) (exX_at (by repeat first | (apply ha_at; (simp; done)) | apply ha_old)) (by decide)).mono ?_); rintro e w2 ⟨b, c, rfl, hc, hbx, hH, hb⟩; have BX2 := Aside0.mk hbx; have HBn := Aside0.mk (Below.trans (by repeat (first | (with_reducible first | exact HB.out | apply below_alloc | apply pw_below_drewN | apply below_drew1) | exact HB.out)) hb); clear HB; have HB := HBn; clear HBn; have HH := Aside0.mk hH; have HCc := Aside0.mk hc; clear hbx hH hb hc) | (go_at_call 11; (with_reducible refine (next_calls b c w.heap.size w2 BX2.out HH.out HCc.out (fun w3 h => Tabs.below HT.out (HB.out.trans (h.low _ (Nat.le_refl _))))).mono ?_); rintro e w3 ⟨b1, o1, c1, x1, x2, x3, x4, x5, x6, x7, A8, n8, c8, A9, n9, c9, x10, vi, A0, c0, rfl, hkey, hb1, hbx, hH, hbt⟩; have BX3 := Aside0.mk hbx; have HBn := Aside0.mk (Below.trans HB.out (hbt.low _ (Nat.le_refl _))); clear HB; have HB := HBn; clear HBn; have HH3 := Aside0.mk hH; have hg3 : w.heap.size < w3.heap.size := blk_lt hbx; clear hbx hH hbt) | (go_at_call 16; (with_reducible refine (take_calls 7 A0 c0 vi 1 0 false false w.heap.size _ (blk_alloc BX3.out _)).mono ?_); rintro e w4 ⟨rfl, hbx, hst⟩; have BX4 := Aside0.mk hbx; have HBn := Aside0.mk (hst.up (by repeat (first | (with_reducible first | exact HB.out | apply below_alloc | apply pw_below_drewN | apply below_drew1) | exact HB.out)) (Nat.le_refl _)); clear HB; have HB := HBn; clear HBn; have r2 : (convert 22 9 (.slice A0 7 c0)).run Tryz.prog w4 = .ok (.string (strOfNums exE)) w4 := Kd.C_string Tryz.underlying22 Tryz.underlying5 Tryz.underlying9 (HH3.out w4 (hst.up ((Below.refl _ _).alloc (Nat.zero_le _) _) (Nat.zero_le _)) (fun k hk hF => (hst.block k hF).trans (heap_alloc_old _ _ hk))); clear hbx hst) | (go_at_call 12; (with_reducible refine (dialect_calls _ _ 1 0 false false w.heap.size _ BX4.out).mono ?_); rintro e w5 ⟨rfl, hb⟩; have HBn := Aside0.mk (below_step (by repeat (first | (with_reducible first | exact HB.out | apply below_alloc | apply pw_below_drewN | apply below_drew1) | exact HB.out)) hb); clear HB; have HB := HBn; clear HBn; clear hb))
  go_ret
  exact ⟨rfl, (by repeat (first | (with_reducible first | exact HB.out | apply below_alloc | apply pw_below_drewN | apply below_drew1) | exact HB.out))⟩
end Go.Proofs.YtdjbbncoioghfaaGreatDoor.X
namespace Go.Proofs.YtdjbbncoioghfaaGreatDoor.X
open Go.RowKit Go.Proofs.YtdjbbncoioghfaaGreatDoorW.PrintWords Go.Proofs.YtdjbbncoioghfaaGreatDoorW.PrintMore Go.Proofs.YtdjbbncoioghfaaGreatDoorW.PrintLast
set_option linter.unusedVariables false
set_option linter.unusedSimpArgs false
theorem made_eq (z : Value) (n : Nat) : madeCells #[z] n = (List.replicate n z).toArray := by
  apply Array.ext
  · simp [madeCells]
  · intro i h1 h2
    simp [madeCells, Nat.mod_one]
theorem made_C {W : World} {b n : Nat} {e : TypeId} {fr : Nat × Nat} (hb : W.heap[b]? = some (.cells (madeCells #[.int .u8 0] n) e fr)) (hn : n ≤ 20000) : (Kd.int .u8).C W (some ⟨b, 0, none⟩) n (List.replicate n 0) := by
  have := Bytes_at hb (List.replicate n 0) (by rw [List.length_replicate]; omega) (by rw [made_eq, List.map_replicate])
  unfold Bytes at this
  rw [List.length_replicate] at this
  exact this
theorem feed_n (n m : Nat) (A : Option Addr) (c g : Nat) (B : Option Addr) (c' : Nat) (w : World) (hg : w.heap[g]? = some (.cells (cnC (.slice A n c) (.slice none 0 0) (0) (0) false false) 59 (0, 0))) (ho : w.ownsRow (g + 1) 5 1 (.slice A n c) n (encs (Value.int .u8) (List.replicate n 0))) (hB : (Kd.int .u8).C w B m (List.replicate m 0)) (hc : m ≤ c') (hn : n + m ≤ 16384) :
    Calls Tryz.prog 10 #[.pointer (some ⟨g, 0, none⟩), .slice B m c'] w fun e w' => ∃ A' c1, e = .returned (.int .i64 0) ∧ (w'.heap[g]? = some (.cells (cnC (.slice A' (n + m) c1) (.slice none 0 0) (0) (0) false false) 59 (0, 0))) ∧ w'.ownsRow (g + 1) 5 1 (.slice A' (n + m) c1) (n + m) (encs (Value.int .u8) (List.replicate (n + m) 0)) ∧ Below g w w' := by
  refine (feed_ok (List.replicate n 0) (List.replicate m 0) (.slice A n c) (.slice none 0 0) 0 0 false g B m c' w (List.length_replicate ..) hg (by rw [List.length_replicate]; exact ho) (by rw [List.length_replicate]; exact hB) hc (by rw [List.length_replicate, List.length_replicate]; exact hn)).mono ?_
  rintro e w' ⟨v, rfl, hbx, hown, hb⟩
  rw [List.replicate_append_replicate] at hown
  obtain ⟨A', c1, rfl, -, -⟩ := own_rd hown
  rw [List.length_replicate] at hown hbx
  exact ⟨A', c1, rfl, hbx, hown, hb⟩
theorem own_al {W : World} {o : Obj} {base n size : Nat} {e : TypeId} {v : Value} {xs : List Value} (h : W.ownsRow base e size v n xs) : (W.alloc o).ownsRow base e size v n xs := own_up h ((Below.refl _ _).alloc (Nat.le_refl _) _)
set_option maxRecDepth 100000 in
set_option maxHeartbeats 4000000 in
theorem cb_0f (m : Nat) (hm2 : m ≤ 20000) (hs : 0 + m ≤ 16384) (w : World) (hT : Tabs w) : Calls Tryz.prog 5 #[.int .i64 0, .int .i64 (m : Int)] w fun e w' => e = .returned (.bool true) ∧ Below w.heap.size w w' := by
  have HB := Aside0.mk (Below.refl w.heap.size w)
  have HT := Aside0.mk hT
  obtain ⟨i0, hi, hzz⟩ := Option.map_eq_some_iff.1 (show (Tryz.prog.info? 5).map (fun i => (i.zero, i.size, i.bytes)) = some (some (.int .u8 0), 1, 1) by kernel_rfl)
  simp only [Prod.mk.injEq] at hzz
  have HI := Aside0.mk (show Tryz.prog.info? 5 = some i0 ∧ i0.zero = some (.int .u8 0) ∧ i0.size = 1 ∧ i0.bytes = 1 from ⟨hi, hzz⟩)
  have f2 : ¬ ((m : Int) < 0) := by omega
  have f3 : ¬ (20000 < (m : Int)) := by omega
  have f9 : (0 : Int) ≤ (m : Int) := by omega
  have f6 : ((m : Int) ≤ 16384) := by omega
  have HWA := Aside0.mk (fun (g : Nat) (w' : World) (k : Nat) (A0 : Option Addr) (c0 : Nat) (hx : w'.heap[g]? = some (.cells (cnC (.slice A0 k c0) (.slice none 0 0) (0) (0) false false) 59 (0, 0))) => waits_calls k A0 c0 _ 0 0 false false g w' hx)
  clear hT hi hzz
  go_enter Tryz.func5, Tryz.ntmps5
  go_wp2_with (first
    | (go_at_call 8; (with_reducible refine (awake_calls _ (Tabs.below HT.out (by repeat (first | (with_reducible first | exact HB.out | apply below_alloc | apply pw_below_drewN | apply below_drew1) | exact HB.out)))).mono ?_); rintro e w0 ⟨rfl, hb⟩; have HBn := Aside0.mk (below_step (by repeat (first | (with_reducible first | exact HB.out | apply below_alloc | apply pw_below_drewN | apply below_drew1) | exact HB.out)) hb); clear HB; have HB := HBn; clear HBn; have HW0 := Aside0.mk hb.size; clear hb)
    | (go_at_call 9; (with_reducible refine (new_calls _).mono ?_); rintro e w1 ⟨rfl, hbx, hb⟩; have BX1 := Aside0.mk hbx; have hg1 : w0.heap.size < w1.heap.size := blk_lt hbx; have HBn := Aside0.mk (below_step (by repeat (first | (with_reducible first | exact HB.out | apply below_alloc | apply pw_below_drewN | apply below_drew1) | exact HB.out)) hb); clear HB; have HB := HBn; clear HBn; clear hbx hb)
    | (refine wpList_make_row _ rfl _ _ 22 rfl 5 i0 (.int .u8 0) Tryz.underlying22 HI.out.1 HI.out.2.1 HI.out.2.2.1 rfl .i64 .i64 (0) rfl rfl (by rw [HI.out.2.2.2]; omega) (by omega) ?_)
    | (refine wpList_make_row _ rfl _ _ 22 rfl 5 i0 (.int .u8 0) Tryz.underlying22 HI.out.1 HI.out.2.1 HI.out.2.2.1 rfl .i64 .i64 (m) rfl rfl (by rw [HI.out.2.2.2]; omega) (by omega) ?_)
    | (go_at_call 10; (with_reducible refine (feed_n 0 (0) none 0 w0.heap.size _ _ _ (blk_alloc BX1.out _) (own_nil _ _ _ _) (made_C (blk_at_new _ _ _ rfl) (by omega)) (Nat.le_refl _) (by omega)).mono ?_); rintro e w2 ⟨A1, c1, rfl, hbx, hown, hb⟩; rw [Nat.zero_add] at hbx hown; have BX2 := Aside0.mk hbx; have HO2 := Aside0.mk hown; have HBn := Aside0.mk (Below.trans (by repeat (first | (with_reducible first | exact HB.out | apply below_alloc | apply pw_below_drewN | apply below_drew1) | exact HB.out)) (hb.mono HW0.out)); clear HB; have HB := HBn; clear HBn; clear hbx hown hb)
    | (go_at_call 17; (with_reducible refine (HWA.out _ _ (0) _ _ BX2.out).mono ?_); rintro e w3 ⟨rfl, hb⟩; have BX3 := Aside0.mk (blk_below BX2.out hb); have HO3 := Aside0.mk (own_up HO2.out hb); have HBn := Aside0.mk (below_step (by repeat (first | (with_reducible first | exact HB.out | apply below_alloc | apply pw_below_drewN | apply below_drew1) | exact HB.out)) hb); clear HB; have HB := HBn; clear HBn; clear BX2 hb)
    | (go_at_call 10; (with_reducible refine (feed_n (0) m A1 c1 w0.heap.size _ _ _ (blk_alloc BX3.out _) (own_al HO3.out) (made_C (blk_at_new _ _ _ rfl) (by omega)) (Nat.le_refl _) (by omega)).mono ?_); rintro e w4 ⟨A4, c4, rfl, hbx, hown, hb⟩; have BX4 := Aside0.mk hbx; have HBn := Aside0.mk (Below.trans (by repeat (first | (with_reducible first | exact HB.out | apply below_alloc | apply pw_below_drewN | apply below_drew1) | exact HB.out)) (hb.mono HW0.out)); clear HB; have HB := HBn; clear HBn; clear hbx hown hb)
    | (go_at_call 17; (with_reducible refine (HWA.out _ _ (0 + m) _ _ BX4.out).mono ?_); rintro e w5 ⟨rfl, hb⟩; rw [Nat.zero_add]; have HBn := Aside0.mk (below_step (by repeat (first | (with_reducible first | exact HB.out | apply below_alloc | apply pw_below_drewN | apply below_drew1) | exact HB.out)) hb); clear HB; have HB := HBn; clear HBn; clear hb))
  go_ret
  refine ⟨?_, (by repeat (first | (with_reducible first | exact HB.out | apply below_alloc | apply pw_below_drewN | apply below_drew1) | exact HB.out))⟩
  first | rfl | (simp; omega)
set_option maxRecDepth 100000 in
set_option maxHeartbeats 4000000 in
theorem cb_0n (m : Nat) (hm2 : m ≤ 20000) (hs : 16384 < 0 + m) (w : World) (hT : Tabs w) : Calls Tryz.prog 5 #[.int .i64 0, .int .i64 (m : Int)] w fun e w' => e = .returned (.bool true) ∧ Below w.heap.size w w' := by
  have HB := Aside0.mk (Below.refl w.heap.size w)
  have HT := Aside0.mk hT
  obtain ⟨i0, hi, hzz⟩ := Option.map_eq_some_iff.1 (show (Tryz.prog.info? 5).map (fun i => (i.zero, i.size, i.bytes)) = some (some (.int .u8 0), 1, 1) by kernel_rfl)
  simp only [Prod.mk.injEq] at hzz
  have HI := Aside0.mk (show Tryz.prog.info? 5 = some i0 ∧ i0.zero = some (.int .u8 0) ∧ i0.size = 1 ∧ i0.bytes = 1 from ⟨hi, hzz⟩)
  have f2 : ¬ ((m : Int) < 0) := by omega
  have f3 : ¬ (20000 < (m : Int)) := by omega
  have f9 : (0 : Int) ≤ (m : Int) := by omega
  have f6 : ¬ ((m : Int) ≤ 16384) := by omega
  have HWA := Aside0.mk (fun (g : Nat) (w' : World) (k : Nat) (A0 : Option Addr) (c0 : Nat) (hx : w'.heap[g]? = some (.cells (cnC (.slice A0 k c0) (.slice none 0 0) (0) (0) false false) 59 (0, 0))) => waits_calls k A0 c0 _ 0 0 false false g w' hx)
  clear hT hi hzz
  go_enter Tryz.func5, Tryz.ntmps5
  go_wp2_with (first
    | (go_at_call 8; (with_reducible refine (awake_calls _ (Tabs.below HT.out (by repeat (first | (with_reducible first | exact HB.out | apply below_alloc | apply pw_below_drewN | apply below_drew1) | exact HB.out)))).mono ?_); rintro e w0 ⟨rfl, hb⟩; have HBn := Aside0.mk (below_step (by repeat (first | (with_reducible first | exact HB.out | apply below_alloc | apply pw_below_drewN | apply below_drew1) | exact HB.out)) hb); clear HB; have HB := HBn; clear HBn; have HW0 := Aside0.mk hb.size; clear hb)
    | (go_at_call 9; (with_reducible refine (new_calls _).mono ?_); rintro e w1 ⟨rfl, hbx, hb⟩; have BX1 := Aside0.mk hbx; have hg1 : w0.heap.size < w1.heap.size := blk_lt hbx; have HBn := Aside0.mk (below_step (by repeat (first | (with_reducible first | exact HB.out | apply below_alloc | apply pw_below_drewN | apply below_drew1) | exact HB.out)) hb); clear HB; have HB := HBn; clear HBn; clear hbx hb)
    | (refine wpList_make_row _ rfl _ _ 22 rfl 5 i0 (.int .u8 0) Tryz.underlying22 HI.out.1 HI.out.2.1 HI.out.2.2.1 rfl .i64 .i64 (0) rfl rfl (by rw [HI.out.2.2.2]; omega) (by omega) ?_)
    | (refine wpList_make_row _ rfl _ _ 22 rfl 5 i0 (.int .u8 0) Tryz.underlying22 HI.out.1 HI.out.2.1 HI.out.2.2.1 rfl .i64 .i64 (m) rfl rfl (by rw [HI.out.2.2.2]; omega) (by omega) ?_)
    | (go_at_call 10; (with_reducible refine (feed_n 0 (0) none 0 w0.heap.size _ _ _ (blk_alloc BX1.out _) (own_nil _ _ _ _) (made_C (blk_at_new _ _ _ rfl) (by omega)) (Nat.le_refl _) (by omega)).mono ?_); rintro e w2 ⟨A1, c1, rfl, hbx, hown, hb⟩; rw [Nat.zero_add] at hbx hown; have BX2 := Aside0.mk hbx; have HO2 := Aside0.mk hown; have HBn := Aside0.mk (Below.trans (by repeat (first | (with_reducible first | exact HB.out | apply below_alloc | apply pw_below_drewN | apply below_drew1) | exact HB.out)) (hb.mono HW0.out)); clear HB; have HB := HBn; clear HBn; clear hbx hown hb)
    | (go_at_call 17; (with_reducible refine (HWA.out _ _ (0) _ _ BX2.out).mono ?_); rintro e w3 ⟨rfl, hb⟩; have BX3 := Aside0.mk (blk_below BX2.out hb); have HO3 := Aside0.mk (own_up HO2.out hb); have HBn := Aside0.mk (below_step (by repeat (first | (with_reducible first | exact HB.out | apply below_alloc | apply pw_below_drewN | apply below_drew1) | exact HB.out)) hb); clear HB; have HB := HBn; clear HBn; clear BX2 hb)
    | (go_at_call 10; (with_reducible refine (feed_full (0) A1 c1 _ 0 0 false w0.heap.size _ m _ _ (blk_alloc BX3.out _) (by omega) (by omega)).mono ?_); rintro e w4 ⟨rfl, hb⟩; have BX4 := Aside0.mk (blk_below (blk_alloc BX3.out _) hb); have HBn := Aside0.mk (below_step (by repeat (first | (with_reducible first | exact HB.out | apply below_alloc | apply pw_below_drewN | apply below_drew1) | exact HB.out)) hb); clear HB; have HB := HBn; clear HBn; clear hb)
    | (go_at_call 17; (with_reducible refine (HWA.out _ _ (0) _ _ BX4.out).mono ?_); rintro e w5 ⟨rfl, hb⟩; have HBn := Aside0.mk (below_step (by repeat (first | (with_reducible first | exact HB.out | apply below_alloc | apply pw_below_drewN | apply below_drew1) | exact HB.out)) hb); clear HB; have HB := HBn; clear HBn; clear hb))
  go_ret
  refine ⟨?_, (by repeat (first | (with_reducible first | exact HB.out | apply below_alloc | apply pw_below_drewN | apply below_drew1) | exact HB.out))⟩
  first | rfl | (simp; omega)
set_option maxRecDepth 100000 in
set_option maxHeartbeats 4000000 in
theorem cb_ff (n m : Nat) (hn0 : 0 < n) (hn2 : n ≤ 20000) (hm2 : m ≤ 20000) (hn1 : n ≤ 16384) (hs : n + m ≤ 16384) (w : World) (hT : Tabs w) : Calls Tryz.prog 5 #[.int .i64 (n : Int), .int .i64 (m : Int)] w fun e w' => e = .returned (.bool true) ∧ Below w.heap.size w w' := by
  have HB := Aside0.mk (Below.refl w.heap.size w)
  have HT := Aside0.mk hT
  obtain ⟨i0, hi, hzz⟩ := Option.map_eq_some_iff.1 (show (Tryz.prog.info? 5).map (fun i => (i.zero, i.size, i.bytes)) = some (some (.int .u8 0), 1, 1) by kernel_rfl)
  simp only [Prod.mk.injEq] at hzz
  have HI := Aside0.mk (show Tryz.prog.info? 5 = some i0 ∧ i0.zero = some (.int .u8 0) ∧ i0.size = 1 ∧ i0.bytes = 1 from ⟨hi, hzz⟩)
  have f0 : ¬ ((n : Int) < 0) := by omega
  have f1 : ¬ (20000 < (n : Int)) := by omega
  have f4 : ¬ ((n : Int) = 0) := by omega
  have f5 : ((n : Int) ≤ 16384) := by omega
  have f8 : (0 : Int) ≤ (n : Int) := by omega
  have f2 : ¬ ((m : Int) < 0) := by omega
  have f3 : ¬ (20000 < (m : Int)) := by omega
  have f9 : (0 : Int) ≤ (m : Int) := by omega
  have f6 : ((n : Int) + (m : Int) ≤ 16384) := by omega
  have f7 : (n : Int) + (m : Int) ≤ 9223372036854775807 := by omega
  have f10 : (-9223372036854775808 : Int) ≤ (n : Int) + (m : Int) := by omega
  have HWA := Aside0.mk (fun (g : Nat) (w' : World) (k : Nat) (A0 : Option Addr) (c0 : Nat) (hx : w'.heap[g]? = some (.cells (cnC (.slice A0 k c0) (.slice none 0 0) (0) (0) false false) 59 (0, 0))) => waits_calls k A0 c0 _ 0 0 false false g w' hx)
  clear hT hi hzz
  go_enter Tryz.func5, Tryz.ntmps5
  go_wp2_with (first
    | (go_at_call 8; (with_reducible refine (awake_calls _ (Tabs.below HT.out (by repeat (first | (with_reducible first | exact HB.out | apply below_alloc | apply pw_below_drewN | apply below_drew1) | exact HB.out)))).mono ?_); rintro e w0 ⟨rfl, hb⟩; have HBn := Aside0.mk (below_step (by repeat (first | (with_reducible first | exact HB.out | apply below_alloc | apply pw_below_drewN | apply below_drew1) | exact HB.out)) hb); clear HB; have HB := HBn; clear HBn; have HW0 := Aside0.mk hb.size; clear hb)
    | (go_at_call 9; (with_reducible refine (new_calls _).mono ?_); rintro e w1 ⟨rfl, hbx, hb⟩; have BX1 := Aside0.mk hbx; have hg1 : w0.heap.size < w1.heap.size := blk_lt hbx; have HBn := Aside0.mk (below_step (by repeat (first | (with_reducible first | exact HB.out | apply below_alloc | apply pw_below_drewN | apply below_drew1) | exact HB.out)) hb); clear HB; have HB := HBn; clear HBn; clear hbx hb)
    | (refine wpList_make_row _ rfl _ _ 22 rfl 5 i0 (.int .u8 0) Tryz.underlying22 HI.out.1 HI.out.2.1 HI.out.2.2.1 rfl .i64 .i64 (n) rfl rfl (by rw [HI.out.2.2.2]; omega) (by omega) ?_)
    | (refine wpList_make_row _ rfl _ _ 22 rfl 5 i0 (.int .u8 0) Tryz.underlying22 HI.out.1 HI.out.2.1 HI.out.2.2.1 rfl .i64 .i64 (m) rfl rfl (by rw [HI.out.2.2.2]; omega) (by omega) ?_)
    | (go_at_call 10; (with_reducible refine (feed_n 0 (n) none 0 w0.heap.size _ _ _ (blk_alloc BX1.out _) (own_nil _ _ _ _) (made_C (blk_at_new _ _ _ rfl) (by omega)) (Nat.le_refl _) (by omega)).mono ?_); rintro e w2 ⟨A1, c1, rfl, hbx, hown, hb⟩; rw [Nat.zero_add] at hbx hown; have BX2 := Aside0.mk hbx; have HO2 := Aside0.mk hown; have HBn := Aside0.mk (Below.trans (by repeat (first | (with_reducible first | exact HB.out | apply below_alloc | apply pw_below_drewN | apply below_drew1) | exact HB.out)) (hb.mono HW0.out)); clear HB; have HB := HBn; clear HBn; clear hbx hown hb)
    | (go_at_call 17; (with_reducible refine (HWA.out _ _ (n) _ _ BX2.out).mono ?_); rintro e w3 ⟨rfl, hb⟩; have BX3 := Aside0.mk (blk_below BX2.out hb); have HO3 := Aside0.mk (own_up HO2.out hb); have HBn := Aside0.mk (below_step (by repeat (first | (with_reducible first | exact HB.out | apply below_alloc | apply pw_below_drewN | apply below_drew1) | exact HB.out)) hb); clear HB; have HB := HBn; clear HBn; clear BX2 hb)
    | (go_at_call 10; (with_reducible refine (feed_n (n) m A1 c1 w0.heap.size _ _ _ (blk_alloc BX3.out _) (own_al HO3.out) (made_C (blk_at_new _ _ _ rfl) (by omega)) (Nat.le_refl _) (by omega)).mono ?_); rintro e w4 ⟨A4, c4, rfl, hbx, hown, hb⟩; have BX4 := Aside0.mk hbx; have HBn := Aside0.mk (Below.trans (by repeat (first | (with_reducible first | exact HB.out | apply below_alloc | apply pw_below_drewN | apply below_drew1) | exact HB.out)) (hb.mono HW0.out)); clear HB; have HB := HBn; clear HBn; clear hbx hown hb)
    | (go_at_call 17; (with_reducible refine (HWA.out _ _ (n + m) _ _ BX4.out).mono ?_); rintro e w5 ⟨rfl, hb⟩; rw [Int.natCast_add]; have HBn := Aside0.mk (below_step (by repeat (first | (with_reducible first | exact HB.out | apply below_alloc | apply pw_below_drewN | apply below_drew1) | exact HB.out)) hb); clear HB; have HB := HBn; clear HBn; clear hb))
  go_ret
  refine ⟨?_, (by repeat (first | (with_reducible first | exact HB.out | apply below_alloc | apply pw_below_drewN | apply below_drew1) | exact HB.out))⟩
  first | rfl | (simp; omega)
set_option maxRecDepth 100000 in
set_option maxHeartbeats 4000000 in
theorem cb_fn (n m : Nat) (hn0 : 0 < n) (hn2 : n ≤ 20000) (hm2 : m ≤ 20000) (hn1 : n ≤ 16384) (hs : 16384 < n + m) (w : World) (hT : Tabs w) : Calls Tryz.prog 5 #[.int .i64 (n : Int), .int .i64 (m : Int)] w fun e w' => e = .returned (.bool true) ∧ Below w.heap.size w w' := by
  have HB := Aside0.mk (Below.refl w.heap.size w)
  have HT := Aside0.mk hT
  obtain ⟨i0, hi, hzz⟩ := Option.map_eq_some_iff.1 (show (Tryz.prog.info? 5).map (fun i => (i.zero, i.size, i.bytes)) = some (some (.int .u8 0), 1, 1) by kernel_rfl)
  simp only [Prod.mk.injEq] at hzz
  have HI := Aside0.mk (show Tryz.prog.info? 5 = some i0 ∧ i0.zero = some (.int .u8 0) ∧ i0.size = 1 ∧ i0.bytes = 1 from ⟨hi, hzz⟩)
  have f0 : ¬ ((n : Int) < 0) := by omega
  have f1 : ¬ (20000 < (n : Int)) := by omega
  have f4 : ¬ ((n : Int) = 0) := by omega
  have f5 : ((n : Int) ≤ 16384) := by omega
  have f8 : (0 : Int) ≤ (n : Int) := by omega
  have f2 : ¬ ((m : Int) < 0) := by omega
  have f3 : ¬ (20000 < (m : Int)) := by omega
  have f9 : (0 : Int) ≤ (m : Int) := by omega
  have f6 : ¬ ((n : Int) + (m : Int) ≤ 16384) := by omega
  have f7 : (n : Int) + (m : Int) ≤ 9223372036854775807 := by omega
  have f10 : (-9223372036854775808 : Int) ≤ (n : Int) + (m : Int) := by omega
  have HWA := Aside0.mk (fun (g : Nat) (w' : World) (k : Nat) (A0 : Option Addr) (c0 : Nat) (hx : w'.heap[g]? = some (.cells (cnC (.slice A0 k c0) (.slice none 0 0) (0) (0) false false) 59 (0, 0))) => waits_calls k A0 c0 _ 0 0 false false g w' hx)
  clear hT hi hzz
  go_enter Tryz.func5, Tryz.ntmps5
  go_wp2_with (first
    | (go_at_call 8; (with_reducible refine (awake_calls _ (Tabs.below HT.out (by repeat (first | (with_reducible first | exact HB.out | apply below_alloc | apply pw_below_drewN | apply below_drew1) | exact HB.out)))).mono ?_); rintro e w0 ⟨rfl, hb⟩; have HBn := Aside0.mk (below_step (by repeat (first | (with_reducible first | exact HB.out | apply below_alloc | apply pw_below_drewN | apply below_drew1) | exact HB.out)) hb); clear HB; have HB := HBn; clear HBn; have HW0 := Aside0.mk hb.size; clear hb)
    | (go_at_call 9; (with_reducible refine (new_calls _).mono ?_); rintro e w1 ⟨rfl, hbx, hb⟩; have BX1 := Aside0.mk hbx; have hg1 : w0.heap.size < w1.heap.size := blk_lt hbx; have HBn := Aside0.mk (below_step (by repeat (first | (with_reducible first | exact HB.out | apply below_alloc | apply pw_below_drewN | apply below_drew1) | exact HB.out)) hb); clear HB; have HB := HBn; clear HBn; clear hbx hb)
    | (refine wpList_make_row _ rfl _ _ 22 rfl 5 i0 (.int .u8 0) Tryz.underlying22 HI.out.1 HI.out.2.1 HI.out.2.2.1 rfl .i64 .i64 (n) rfl rfl (by rw [HI.out.2.2.2]; omega) (by omega) ?_)
    | (refine wpList_make_row _ rfl _ _ 22 rfl 5 i0 (.int .u8 0) Tryz.underlying22 HI.out.1 HI.out.2.1 HI.out.2.2.1 rfl .i64 .i64 (m) rfl rfl (by rw [HI.out.2.2.2]; omega) (by omega) ?_)
    | (go_at_call 10; (with_reducible refine (feed_n 0 (n) none 0 w0.heap.size _ _ _ (blk_alloc BX1.out _) (own_nil _ _ _ _) (made_C (blk_at_new _ _ _ rfl) (by omega)) (Nat.le_refl _) (by omega)).mono ?_); rintro e w2 ⟨A1, c1, rfl, hbx, hown, hb⟩; rw [Nat.zero_add] at hbx hown; have BX2 := Aside0.mk hbx; have HO2 := Aside0.mk hown; have HBn := Aside0.mk (Below.trans (by repeat (first | (with_reducible first | exact HB.out | apply below_alloc | apply pw_below_drewN | apply below_drew1) | exact HB.out)) (hb.mono HW0.out)); clear HB; have HB := HBn; clear HBn; clear hbx hown hb)
    | (go_at_call 17; (with_reducible refine (HWA.out _ _ (n) _ _ BX2.out).mono ?_); rintro e w3 ⟨rfl, hb⟩; have BX3 := Aside0.mk (blk_below BX2.out hb); have HO3 := Aside0.mk (own_up HO2.out hb); have HBn := Aside0.mk (below_step (by repeat (first | (with_reducible first | exact HB.out | apply below_alloc | apply pw_below_drewN | apply below_drew1) | exact HB.out)) hb); clear HB; have HB := HBn; clear HBn; clear BX2 hb)
    | (go_at_call 10; (with_reducible refine (feed_full (n) A1 c1 _ 0 0 false w0.heap.size _ m _ _ (blk_alloc BX3.out _) (by omega) (by omega)).mono ?_); rintro e w4 ⟨rfl, hb⟩; have BX4 := Aside0.mk (blk_below (blk_alloc BX3.out _) hb); have HBn := Aside0.mk (below_step (by repeat (first | (with_reducible first | exact HB.out | apply below_alloc | apply pw_below_drewN | apply below_drew1) | exact HB.out)) hb); clear HB; have HB := HBn; clear HBn; clear hb)
    | (go_at_call 17; (with_reducible refine (HWA.out _ _ (n) _ _ BX4.out).mono ?_); rintro e w5 ⟨rfl, hb⟩; have HBn := Aside0.mk (below_step (by repeat (first | (with_reducible first | exact HB.out | apply below_alloc | apply pw_below_drewN | apply below_drew1) | exact HB.out)) hb); clear HB; have HB := HBn; clear HBn; clear hb))
  go_ret
  refine ⟨?_, (by repeat (first | (with_reducible first | exact HB.out | apply below_alloc | apply pw_below_drewN | apply below_drew1) | exact HB.out))⟩
  first | rfl | (simp; omega)
set_option maxRecDepth 100000 in
set_option maxHeartbeats 4000000 in
theorem cb_nf (n m : Nat) (hn0 : 0 < n) (hn2 : n ≤ 20000) (hm2 : m ≤ 20000) (hn1 : 16384 < n) (hs : 0 + m ≤ 16384) (w : World) (hT : Tabs w) : Calls Tryz.prog 5 #[.int .i64 (n : Int), .int .i64 (m : Int)] w fun e w' => e = .returned (.bool true) ∧ Below w.heap.size w w' := by
  have HB := Aside0.mk (Below.refl w.heap.size w)
  have HT := Aside0.mk hT
  obtain ⟨i0, hi, hzz⟩ := Option.map_eq_some_iff.1 (show (Tryz.prog.info? 5).map (fun i => (i.zero, i.size, i.bytes)) = some (some (.int .u8 0), 1, 1) by kernel_rfl)
  simp only [Prod.mk.injEq] at hzz
  have HI := Aside0.mk (show Tryz.prog.info? 5 = some i0 ∧ i0.zero = some (.int .u8 0) ∧ i0.size = 1 ∧ i0.bytes = 1 from ⟨hi, hzz⟩)
  have f0 : ¬ ((n : Int) < 0) := by omega
  have f1 : ¬ (20000 < (n : Int)) := by omega
  have f4 : ¬ ((n : Int) = 0) := by omega
  have f5 : ¬ ((n : Int) ≤ 16384) := by omega
  have f8 : (0 : Int) ≤ (n : Int) := by omega
  have f2 : ¬ ((m : Int) < 0) := by omega
  have f3 : ¬ (20000 < (m : Int)) := by omega
  have f9 : (0 : Int) ≤ (m : Int) := by omega
  have f6 : ((m : Int) ≤ 16384) := by omega
  have HWA := Aside0.mk (fun (g : Nat) (w' : World) (k : Nat) (A0 : Option Addr) (c0 : Nat) (hx : w'.heap[g]? = some (.cells (cnC (.slice A0 k c0) (.slice none 0 0) (0) (0) false false) 59 (0, 0))) => waits_calls k A0 c0 _ 0 0 false false g w' hx)
  clear hT hi hzz
  go_enter Tryz.func5, Tryz.ntmps5
  go_wp2_with (first
    | (go_at_call 8; (with_reducible refine (awake_calls _ (Tabs.below HT.out (by repeat (first | (with_reducible first | exact HB.out | apply below_alloc | apply pw_below_drewN | apply below_drew1) | exact HB.out)))).mono ?_); rintro e w0 ⟨rfl, hb⟩; have HBn := Aside0.mk (below_step (by repeat (first | (with_reducible first | exact HB.out | apply below_alloc | apply pw_below_drewN | apply below_drew1) | exact HB.out)) hb); clear HB; have HB := HBn; clear HBn; have HW0 := Aside0.mk hb.size; clear hb)
    | (go_at_call 9; (with_reducible refine (new_calls _).mono ?_); rintro e w1 ⟨rfl, hbx, hb⟩; have BX1 := Aside0.mk hbx; have hg1 : w0.heap.size < w1.heap.size := blk_lt hbx; have HBn := Aside0.mk (below_step (by repeat (first | (with_reducible first | exact HB.out | apply below_alloc | apply pw_below_drewN | apply below_drew1) | exact HB.out)) hb); clear HB; have HB := HBn; clear HBn; clear hbx hb)
    | (refine wpList_make_row _ rfl _ _ 22 rfl 5 i0 (.int .u8 0) Tryz.underlying22 HI.out.1 HI.out.2.1 HI.out.2.2.1 rfl .i64 .i64 (n) rfl rfl (by rw [HI.out.2.2.2]; omega) (by omega) ?_)
    | (refine wpList_make_row _ rfl _ _ 22 rfl 5 i0 (.int .u8 0) Tryz.underlying22 HI.out.1 HI.out.2.1 HI.out.2.2.1 rfl .i64 .i64 (m) rfl rfl (by rw [HI.out.2.2.2]; omega) (by omega) ?_)
    | (go_at_call 10; (with_reducible refine (feed_full 0 none 0 _ 0 0 false w0.heap.size _ n _ _ (blk_alloc BX1.out _) (by omega) (by omega)).mono ?_); rintro e w2 ⟨rfl, hb⟩; have BX2 := Aside0.mk (blk_below (blk_alloc BX1.out _) hb); have HBn := Aside0.mk (below_step (by repeat (first | (with_reducible first | exact HB.out | apply below_alloc | apply pw_below_drewN | apply below_drew1) | exact HB.out)) hb); clear HB; have HB := HBn; clear HBn; clear hb)
    | (go_at_call 17; (with_reducible refine (HWA.out _ _ (0) _ _ BX2.out).mono ?_); rintro e w3 ⟨rfl, hb⟩; have BX3 := Aside0.mk (blk_below BX2.out hb); have HBn := Aside0.mk (below_step (by repeat (first | (with_reducible first | exact HB.out | apply below_alloc | apply pw_below_drewN | apply below_drew1) | exact HB.out)) hb); clear HB; have HB := HBn; clear HBn; clear BX2 hb)
    | (go_at_call 10; (with_reducible refine (feed_n (0) m none 0 w0.heap.size _ _ _ (blk_alloc BX3.out _) (own_nil _ _ _ _) (made_C (blk_at_new _ _ _ rfl) (by omega)) (Nat.le_refl _) (by omega)).mono ?_); rintro e w4 ⟨A4, c4, rfl, hbx, hown, hb⟩; have BX4 := Aside0.mk hbx; have HBn := Aside0.mk (Below.trans (by repeat (first | (with_reducible first | exact HB.out | apply below_alloc | apply pw_below_drewN | apply below_drew1) | exact HB.out)) (hb.mono HW0.out)); clear HB; have HB := HBn; clear HBn; clear hbx hown hb)
    | (go_at_call 17; (with_reducible refine (HWA.out _ _ (0 + m) _ _ BX4.out).mono ?_); rintro e w5 ⟨rfl, hb⟩; rw [Nat.zero_add]; have HBn := Aside0.mk (below_step (by repeat (first | (with_reducible first | exact HB.out | apply below_alloc | apply pw_below_drewN | apply below_drew1) | exact HB.out)) hb); clear HB; have HB := HBn; clear HBn; clear hb))
  go_ret
  refine ⟨?_, (by repeat (first | (with_reducible first | exact HB.out | apply below_alloc | apply pw_below_drewN | apply below_drew1) | exact HB.out))⟩
  first | rfl | (simp; omega)
set_option maxRecDepth 100000 in
set_option maxHeartbeats 4000000 in
theorem cb_nn (n m : Nat) (hn0 : 0 < n) (hn2 : n ≤ 20000) (hm2 : m ≤ 20000) (hn1 : 16384 < n) (hs : 16384 < 0 + m) (w : World) (hT : Tabs w) : Calls Tryz.prog 5 #[.int .i64 (n : Int), .int .i64 (m : Int)] w fun e w' => e = .returned (.bool true) ∧ Below w.heap.size w w' := by
  have HB := Aside0.mk (Below.refl w.heap.size w)
  have HT := Aside0.mk hT
  obtain ⟨i0, hi, hzz⟩ := Option.map_eq_some_iff.1 (show (Tryz.prog.info? 5).map (fun i => (i.zero, i.size, i.bytes)) = some (some (.int .u8 0), 1, 1) by kernel_rfl)
  simp only [Prod.mk.injEq] at hzz
  have HI := Aside0.mk (show Tryz.prog.info? 5 = some i0 ∧ i0.zero = some (.int .u8 0) ∧ i0.size = 1 ∧ i0.bytes = 1 from ⟨hi, hzz⟩)
  have f0 : ¬ ((n : Int) < 0) := by omega
  have f1 : ¬ (20000 < (n : Int)) := by omega
  have f4 : ¬ ((n : Int) = 0) := by omega
  have f5 : ¬ ((n : Int) ≤ 16384) := by omega
  have f8 : (0 : Int) ≤ (n : Int) := by omega
  have f2 : ¬ ((m : Int) < 0) := by omega
  have f3 : ¬ (20000 < (m : Int)) := by omega
  have f9 : (0 : Int) ≤ (m : Int) := by omega
  have f6 : ¬ ((m : Int) ≤ 16384) := by omega
  have HWA := Aside0.mk (fun (g : Nat) (w' : World) (k : Nat) (A0 : Option Addr) (c0 : Nat) (hx : w'.heap[g]? = some (.cells (cnC (.slice A0 k c0) (.slice none 0 0) (0) (0) false false) 59 (0, 0))) => waits_calls k A0 c0 _ 0 0 false false g w' hx)
  clear hT hi hzz
  go_enter Tryz.func5, Tryz.ntmps5
  go_wp2_with (first
    | (go_at_call 8; (with_reducible refine (awake_calls _ (Tabs.below HT.out (by repeat (first | (with_reducible first | exact HB.out | apply below_alloc | apply pw_below_drewN | apply below_drew1) | exact HB.out)))).mono ?_); rintro e w0 ⟨rfl, hb⟩; have HBn := Aside0.mk (below_step (by repeat (first | (with_reducible first | exact HB.out | apply below_alloc | apply pw_below_drewN | apply below_drew1) | exact HB.out)) hb); clear HB; have HB := HBn; clear HBn; have HW0 := Aside0.mk hb.size; clear hb)
    | (go_at_call 9; (with_reducible refine (new_calls _).mono ?_); rintro e w1 ⟨rfl, hbx, hb⟩; have BX1 := Aside0.mk hbx; have hg1 : w0.heap.size < w1.heap.size := blk_lt hbx; have HBn := Aside0.mk (below_step (by repeat (first | (with_reducible first | exact HB.out | apply below_alloc | apply pw_below_drewN | apply below_drew1) | exact HB.out)) hb); clear HB; have HB := HBn; clear HBn; clear hbx hb)
    | (refine wpList_make_row _ rfl _ _ 22 rfl 5 i0 (.int .u8 0) Tryz.underlying22 HI.out.1 HI.out.2.1 HI.out.2.2.1 rfl .i64 .i64 (n) rfl rfl (by rw [HI.out.2.2.2]; omega) (by omega) ?_)
    | (refine wpList_make_row _ rfl _ _ 22 rfl 5 i0 (.int .u8 0) Tryz.underlying22 HI.out.1 HI.out.2.1 HI.out.2.2.1 rfl .i64 .i64 (m) rfl rfl (by rw [HI.out.2.2.2]; omega) (by omega) ?_)
    | (go_at_call 10; (with_reducible refine (feed_full 0 none 0 _ 0 0 false w0.heap.size _ n _ _ (blk_alloc BX1.out _) (by omega) (by omega)).mono ?_); rintro e w2 ⟨rfl, hb⟩; have BX2 := Aside0.mk (blk_below (blk_alloc BX1.out _) hb); have HBn := Aside0.mk (below_step (by repeat (first | (with_reducible first | exact HB.out | apply below_alloc | apply pw_below_drewN | apply below_drew1) | exact HB.out)) hb); clear HB; have HB := HBn; clear HBn; clear hb)
    | (go_at_call 17; (with_reducible refine (HWA.out _ _ (0) _ _ BX2.out).mono ?_); rintro e w3 ⟨rfl, hb⟩; have BX3 := Aside0.mk (blk_below BX2.out hb); have HBn := Aside0.mk (below_step (by repeat (first | (with_reducible first | exact HB.out | apply below_alloc | apply pw_below_drewN | apply below_drew1) | exact HB.out)) hb); clear HB; have HB := HBn; clear HBn; clear BX2 hb)
    | (go_at_call 10; (with_reducible refine (feed_full (0) none 0 _ 0 0 false w0.heap.size _ m _ _ (blk_alloc BX3.out _) (by omega) (by omega)).mono ?_); rintro e w4 ⟨rfl, hb⟩; have BX4 := Aside0.mk (blk_below (blk_alloc BX3.out _) hb); have HBn := Aside0.mk (below_step (by repeat (first | (with_reducible first | exact HB.out | apply below_alloc | apply pw_below_drewN | apply below_drew1) | exact HB.out)) hb); clear HB; have HB := HBn; clear HBn; clear hb)
    | (go_at_call 17; (with_reducible refine (HWA.out _ _ (0) _ _ BX4.out).mono ?_); rintro e w5 ⟨rfl, hb⟩; have HBn := Aside0.mk (below_step (by repeat (first | (with_reducible first | exact HB.out | apply below_alloc | apply pw_below_drewN | apply below_drew1) | exact HB.out)) hb); clear HB; have HB := HBn; clear HBn; clear hb))
  go_ret
  refine ⟨?_, (by repeat (first | (with_reducible first | exact HB.out | apply below_alloc | apply pw_below_drewN | apply below_drew1) | exact HB.out))⟩
  first | rfl | (simp; omega)
set_option maxRecDepth 100000 in
set_option maxHeartbeats 4000000 in
theorem cb_out (a b : Int) (h : a < 0 ∨ b < 0 ∨ 20000 < a ∨ 20000 < b) (w : World) (hT : Tabs w) : Calls Tryz.prog 5 #[.int .i64 a, .int .i64 b] w fun e w' => e = .returned (.bool true) ∧ Below w.heap.size w w' := by
  have HB := Aside0.mk (Below.refl w.heap.size w)
  have HT := Aside0.mk hT
  clear hT
  by_cases h1 : a < 0
  · clear h
    go_enter Tryz.func5, Tryz.ntmps5
    go_wp2_with (first | (go_at_call 8; (with_reducible refine (awake_calls _ (Tabs.below HT.out (by repeat (first | (with_reducible first | exact HB.out | apply below_alloc | apply pw_below_drewN | apply below_drew1) | exact HB.out)))).mono ?_); rintro e w0 ⟨rfl, hb⟩; have HBn := Aside0.mk (below_step (by repeat (first | (with_reducible first | exact HB.out | apply below_alloc | apply pw_below_drewN | apply below_drew1) | exact HB.out)) hb); clear HB; have HB := HBn; clear HBn; have HW0 := Aside0.mk hb.size; clear hb) | (go_at_call 9; (with_reducible refine (new_calls _).mono ?_); rintro e w1 ⟨rfl, hbx, hb⟩; have BX1 := Aside0.mk hbx; have hg1 : w0.heap.size < w1.heap.size := blk_lt hbx; have HBn := Aside0.mk (below_step (by repeat (first | (with_reducible first | exact HB.out | apply below_alloc | apply pw_below_drewN | apply below_drew1) | exact HB.out)) hb); clear HB; have HB := HBn; clear HBn; clear hbx hb))
    go_ret
    exact ⟨rfl, (by repeat (first | (with_reducible first | exact HB.out | apply below_alloc | apply pw_below_drewN | apply below_drew1) | exact HB.out))⟩
  by_cases h2 : b < 0
  · clear h
    go_enter Tryz.func5, Tryz.ntmps5
    go_wp2_with (first | (go_at_call 8; (with_reducible refine (awake_calls _ (Tabs.below HT.out (by repeat (first | (with_reducible first | exact HB.out | apply below_alloc | apply pw_below_drewN | apply below_drew1) | exact HB.out)))).mono ?_); rintro e w0 ⟨rfl, hb⟩; have HBn := Aside0.mk (below_step (by repeat (first | (with_reducible first | exact HB.out | apply below_alloc | apply pw_below_drewN | apply below_drew1) | exact HB.out)) hb); clear HB; have HB := HBn; clear HBn; have HW0 := Aside0.mk hb.size; clear hb) | (go_at_call 9; (with_reducible refine (new_calls _).mono ?_); rintro e w1 ⟨rfl, hbx, hb⟩; have BX1 := Aside0.mk hbx; have hg1 : w0.heap.size < w1.heap.size := blk_lt hbx; have HBn := Aside0.mk (below_step (by repeat (first | (with_reducible first | exact HB.out | apply below_alloc | apply pw_below_drewN | apply below_drew1) | exact HB.out)) hb); clear HB; have HB := HBn; clear HBn; clear hbx hb))
    go_ret
    exact ⟨rfl, (by repeat (first | (with_reducible first | exact HB.out | apply below_alloc | apply pw_below_drewN | apply below_drew1) | exact HB.out))⟩
  by_cases h3 : 20000 < a
  · clear h
    go_enter Tryz.func5, Tryz.ntmps5
    go_wp2_with (first | (go_at_call 8; (with_reducible refine (awake_calls _ (Tabs.below HT.out (by repeat (first | (with_reducible first | exact HB.out | apply below_alloc | apply pw_below_drewN | apply below_drew1) | exact HB.out)))).mono ?_); rintro e w0 ⟨rfl, hb⟩; have HBn := Aside0.mk (below_step (by repeat (first | (with_reducible first | exact HB.out | apply below_alloc | apply pw_below_drewN | apply below_drew1) | exact HB.out)) hb); clear HB; have HB := HBn; clear HBn; have HW0 := Aside0.mk hb.size; clear hb) | (go_at_call 9; (with_reducible refine (new_calls _).mono ?_); rintro e w1 ⟨rfl, hbx, hb⟩; have BX1 := Aside0.mk hbx; have hg1 : w0.heap.size < w1.heap.size := blk_lt hbx; have HBn := Aside0.mk (below_step (by repeat (first | (with_reducible first | exact HB.out | apply below_alloc | apply pw_below_drewN | apply below_drew1) | exact HB.out)) hb); clear HB; have HB := HBn; clear HBn; clear hbx hb))
    go_ret
    exact ⟨rfl, (by repeat (first | (with_reducible first | exact HB.out | apply below_alloc | apply pw_below_drewN | apply below_drew1) | exact HB.out))⟩
  have h4 : 20000 < b := by omega
  clear h
  go_enter Tryz.func5, Tryz.ntmps5
  go_wp2_with (first | (go_at_call 8; (with_reducible refine (awake_calls _ (Tabs.below HT.out (by repeat (first | (with_reducible first | exact HB.out | apply below_alloc | apply pw_below_drewN | apply below_drew1) | exact HB.out)))).mono ?_); rintro e w0 ⟨rfl, hb⟩; have HBn := Aside0.mk (below_step (by repeat (first | (with_reducible first | exact HB.out | apply below_alloc | apply pw_below_drewN | apply below_drew1) | exact HB.out)) hb); clear HB; have HB := HBn; clear HBn; have HW0 := Aside0.mk hb.size; clear hb) | (go_at_call 9; (with_reducible refine (new_calls _).mono ?_); rintro e w1 ⟨rfl, hbx, hb⟩; have BX1 := Aside0.mk hbx; have hg1 : w0.heap.size < w1.heap.size := blk_lt hbx; have HBn := Aside0.mk (below_step (by repeat (first | (with_reducible first | exact HB.out | apply below_alloc | apply pw_below_drewN | apply below_drew1) | exact HB.out)) hb); clear HB; have HB := HBn; clear HBn; clear hbx hb))
  go_ret
  exact ⟨rfl, (by repeat (first | (with_reducible first | exact HB.out | apply below_alloc | apply pw_below_drewN | apply below_drew1) | exact HB.out))⟩
theorem bounds_calls (a b : Int) (w : World) (hT : Tabs w) : Calls Tryz.prog 5 #[.int .i64 a, .int .i64 b] w fun e w' => e = .returned (.bool true) ∧ Below w.heap.size w w' := by
  by_cases h : a < 0 ∨ b < 0 ∨ 20000 < a ∨ 20000 < b
  · exact cb_out a b h w hT
  obtain ⟨n, rfl⟩ := Int.eq_ofNat_of_zero_le (show 0 ≤ a by omega)
  obtain ⟨m, rfl⟩ := Int.eq_ofNat_of_zero_le (show 0 ≤ b by omega)
  rcases Nat.eq_zero_or_pos n with rfl | h0
  · by_cases h1 : 0 + m ≤ 16384
    · exact cb_0f m (by omega) h1 w hT
    · exact cb_0n m (by omega) (by omega) w hT
  by_cases h2 : n ≤ 16384
  · by_cases h1 : n + m ≤ 16384
    · exact cb_ff n m h0 (by omega) (by omega) h2 h1 w hT
    · exact cb_fn n m h0 (by omega) (by omega) h2 (by omega) w hT
  · by_cases h1 : 0 + m ≤ 16384
    · exact cb_nf n m h0 (by omega) (by omega) (by omega) h1 w hT
    · exact cb_nn n m h0 (by omega) (by omega) (by omega) (by omega) w hT
end Go.Proofs.YtdjbbncoioghfaaGreatDoor.X
