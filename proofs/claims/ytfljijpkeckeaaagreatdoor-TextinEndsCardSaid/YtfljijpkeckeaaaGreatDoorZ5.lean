/- Texts of this work, merged in build order: Parse2, Kd, Pl, ParseT, Steps, WdP, Pl2, Pl3, LawA, Opens, Open32. -/
import Derived.Test.YtfljijpkeckeaaaGreatDoorZ4
import Derived.Laws.CopyOwn
import Derived.Deep.DeepCutAuto
import Derived.Deep.MidRow
import Derived.ChangeArms
import Derived.Deep.Slices
namespace Go.Proofs.YtfljijpkeckeaaaGreatDoor.X
open Go.RowKit Go.Shelf Go.Proofs.YtfljijpkeckeaaaGreatDoorW.PrintWords Go.Proofs.YtfljijpkeckeaaaGreatDoorW.PrintMore
set_option linter.unusedVariables false
set_option linter.unusedSimpArgs false
attribute [local go_sem] Oper.semAt_some
set_option maxHeartbeats 1000000 in
theorem mkWords_in (n : Nat) (s : ByteArray) (w : World) :
    CallsIn Fence.wide n Tryz.prog 19 #[.string s] w fun e w' => e = .returned (.func (.func 38) #[] #[.pointer (some ⟨w.heap.size, 0, none⟩)]) ∧ w' = w.alloc (.cells #[.string s] 9) := by
  refine callsIn_of_wp Tryz.func19 rfl trivial ?_ rfl
  simp only [Tryz.ntmps19, List.size_toArray, List.length_cons, List.length_nil, Nat.reduceAdd, Nat.reduceSub, Array.replicate_succ, Array.replicate_zero, List.push_toArray, List.append_toArray, List.nil_append, List.cons_append]
  gi_wp2
  go_ret
  exact ⟨rfl, rfl⟩
theorem mkWords_calls (s : ByteArray) (w : World) : Calls Tryz.prog 19 #[.string s] w fun e w' => e = .returned (.func (.func 38) #[] #[.pointer (some ⟨w.heap.size, 0, none⟩)]) ∧ w' = w.alloc (.cells #[.string s] 9) := callsIn_wide.1 (mkWords_in 1 s w)
theorem words_stops (n : Nat) (hn : 1 ≤ n) (Bn n₀ : Nat) (s : ByteArray) (hs : s.size ≤ 9223372036854775807) (w : World) (hBn : Bn < w.heap.size) (hc : w.cell? ⟨Bn, 0, none⟩ = some (.string s)) :
    SeqStopsK Fence.wide n Tryz.prog 38 #[.pointer (some ⟨Bn, 0, none⟩)] (fun x : ByteArray => #[Value.string x]) (Below n₀) (fun ys => ys = wordsB s) (fun pre => pre <+: wordsB s) (wordsB s).length w := fun l J Jx W hW hJ _ hY h0 =>
  words1_in n hn l Bn n₀ s hs J Jx hY W hJ ((hW.cell (p := ⟨Bn, 0, none⟩) hBn).trans hc) h0
theorem words_lenL (l : List UInt8) : (wordsL l).length ≤ l.length := by
  induction h : l.length using Nat.strongRecOn generalizing l with
  | _ n ih =>
    by_cases h0 : trimL l = []
    · rw [wordsL_nil _ h0]; simp
    · rw [wordsL_cons _ h0, List.length_cons]
      have h1 := tailW_lt l h0
      have h2 := ih _ (by omega) (tailW (trimL l)) rfl
      omega
theorem words_len (s : ByteArray) : (wordsB s).length ≤ s.size := by
  unfold wordsB
  rw [List.length_map]
  exact words_lenL _
/-- A block of cells, and the row that it holds, abide what is no cells. -/
theorem own_blkRow {β : Type} (g : Nat) (t : TypeId) (f : Value → Array Value) (n₀ : Nat) (e : TypeId) (k : β → Nat) (xs : β → List Value) : Own (fun s W => ∃ V, W.heap[g]? = some (.cells (f V) t (0, 0)) ∧ W.ownsRow n₀ e 1 V (k s) (xs s)) := by
  rintro s X Y row ⟨V, hv, hr⟩ hg hrow
  have hne : ∀ (j : Nat) (cs : Array Value) (t' : TypeId), X.heap[j]? = some (.cells cs t' (0, 0)) → some j ≠ row := fun j cs t' hj e' => by
    obtain ⟨o, ho, hc⟩ := hrow j e'.symm
    rw [hj] at ho; cases ho; cases hc
  refine ⟨V, (hg.block g (Array.getElem?_eq_some_iff.1 hv).1 (hne g _ _ hv)).trans hv, own_move hr (fun j hj => ?_)⟩
  obtain ⟨cs, hcs⟩ := own_typed hr j hj
  exact hg.block j (Array.getElem?_eq_some_iff.1 hcs).1 (hne j _ _ hcs)
theorem own_blk {β : Type} (g : Nat) (t : TypeId) (cs : Array Value) : Own (fun (_ : β) W => W.heap[g]? = some (.cells cs t (0, 0))) := by
  rintro s X Y row hv hg hrow
  refine (hg.block g (Array.getElem?_eq_some_iff.1 hv).1 (fun e' => ?_)).trans hv
  obtain ⟨o, ho, hc⟩ := hrow g e'.symm
  rw [hv] at ho; cases ho; cases hc
theorem own_Cs {W : World} {base : Nat} {v : Value} {l : List ByteArray} (h : W.ownsRow base 9 1 v l.length (l.map Value.string)) (hl : l.length ≤ 1000000) : ∃ A c, v = .slice A l.length c ∧ l.length ≤ c ∧ Kd.string.C W A l.length l := by
  rcases h.2 with ⟨rfl, h0⟩ | ⟨g, cap, cur, rfl, hb, hh, hn, hcm, hcs, htake⟩
  · obtain rfl : l = [] := List.eq_nil_of_length_eq_zero h0
    exact ⟨none, 0, rfl, Nat.le_refl _, C_nil _ _⟩
  · refine ⟨some ⟨g, 0, none⟩, cap, rfl, hn, rfl, by omega, fun _ => ⟨_, rfl, fun j p hj => ⟨[.string p], rfl, rfl, fun i u hu => ?_⟩⟩⟩
    have hi : i = 0 := by
      have := (List.getElem?_eq_some_iff.1 hu).1
      simpa using this
    subst hi
    obtain rfl : Value.string p = u := by simpa using hu
    refine h.cells (g := g) rfl (j * 1 + 0) _ ?_
    rw [Nat.mul_one, Nat.add_zero, List.getElem?_map, hj]
    rfl
theorem C_dropk {w : World} {b o : Nat} {l : List Int} (h : (Kd.int .u8).C w (some ⟨b, o, none⟩) l.length l) (k : Nat) : (Kd.int .u8).C w (some ⟨b, o + k, none⟩) (l.drop k).length (l.drop k) := by
  obtain ⟨h1, h2, h3⟩ := h
  refine ⟨rfl, by rw [List.length_drop]; omega, fun h0 => ⟨_, rfl, fun j p hj => ?_⟩⟩
  rw [List.getElem?_drop] at hj
  obtain ⟨ad, ha, hc⟩ := h3 (by have := (List.getElem?_eq_some_iff.1 hj).1; omega)
  obtain rfl := Option.some.inj ha
  obtain ⟨cs, hlen, hK, hcell⟩ := hc (k + j) p hj
  refine ⟨cs, hlen, hK, fun i u hu => ?_⟩
  rw [← hcell i u hu, add_plain, add_plain]
  congr 2
  show o + k + (j * 1 + i) = o + ((k + j) * 1 + i)
  omega
theorem own_CsA {W : World} {base : Nat} {A : Option Addr} {c : Nat} {l : List ByteArray} (h : W.ownsRow base 9 1 (.slice A l.length c) l.length (l.map Value.string)) (hl : l.length ≤ 1000000) : Kd.string.C W A l.length l := by
  obtain ⟨A', c', e, -, hC⟩ := own_Cs h hl
  obtain ⟨rfl, -, rfl⟩ := Value.slice.inj e
  exact hC
theorem wordsL_size (l : List UInt8) : ∀ x ∈ wordsL l, x.length ≤ l.length := by
  induction h : l.length using Nat.strongRecOn generalizing l with
  | _ n ih =>
    intro x hx
    by_cases h0 : trimL l = []
    · rw [wordsL_nil _ h0] at hx; cases hx
    · rw [wordsL_cons _ h0] at hx
      have h1 := trimL_len l
      rcases List.mem_cons.1 hx with rfl | hx
      · have := headW_len (trimL l)
        omega
      · have h2 := tailW_lt l h0
        have := ih _ (by omega) (tailW (trimL l)) rfl x hx
        omega
theorem wordsB_size (s : ByteArray) : ∀ x ∈ wordsB s, x.size ≤ s.size := by
  intro x hx
  unfold wordsB at hx
  obtain ⟨y, hy, rfl⟩ := List.mem_map.1 hx
  exact wordsL_size _ y hy
theorem C_tailI {w : World} {b o c n : Nat} {v : ByteArray} {l : List ByteArray} (h : Kd.string.C w (some ⟨b, o, none⟩) (n + 1) (v :: l)) (hn : l.length = n) (hc : n + 1 ≤ c) : Kd.string.C w (if c = 1 then some ⟨b, o, none⟩ else some ⟨b, o + 1, none⟩) n l := by
  split
  · obtain rfl : n = 0 := by omega
    obtain rfl : l = [] := List.eq_nil_of_length_eq_zero hn
    exact C_zero _ _ _
  · exact C_tail h hn
/-- What a line with words is. -/
def parseW (used : Int) (rest : List Int) : List ByteArray → Step
  | [] => stepF used (⟨#[69, 82, 82, 79, 82]⟩ : ByteArray)
  | v :: ws => if (loudS v used ws).2 = true then (loudS v used ws).1 else if hushB v ws = true then otherS v true used (ws.take (ws.length - 1)) rest else otherS v false used ws rest
def lineC (verb : ByteArray) (V : Value) (quiet : Bool) (used : Int) (A4 : Option Addr) (n4 c4 : Nat) : Array Value := #[.string verb, V, .bool quiet, .int .i64 used, .slice A4 n4 c4]
set_option maxRecDepth 100000 in
set_option maxHeartbeats 2000000 in
theorem parse_go (l : List Int) (A : Option Addr) (c m : Nat) (t : ByteArray) (w : World) (hC : (Kd.int .u8).C w A l.length l) (hc : l.length ≤ c) (hl : l.length ≤ 1000000) (h8 : B8 l) (he : lineS l = (t, (m : Int) + 1, 0)) (hm : m < l.length) (ht : t.size ≤ 1000000) (hT : Tabs w) :
    Calls Tryz.prog 12 #[.slice A l.length c] w (StepR (fun _ => True) w (parseW ((m : Int) + 1) (l.drop (m + 1)) (wordsB t))) := by
  have HB := Aside0.mk (Below.refl w.heap.size w)
  have HC := Aside0.mk hC
  have HT := Aside0.mk hT
  have H8 := Aside0.mk h8
  have HLN : Aside0 (∀ w', Below w.heap.size w w' → Calls Tryz.prog 17 #[.slice A l.length c] w' fun e w'' => e = .returned (.tuple #[.string t, .int .i64 ((m : Int) + 1), .int .i64 0]) ∧ Below w'.heap.size w' w'') := ⟨fun w' hb => by
    have := fline_calls l A c w' (Kd.C_below HC.out hb) hc hl h8
    rw [he] at this
    exact this⟩
  obtain ⟨b, o, rfl, hb0, -⟩ := C_cell hC m hm
  have hlen := words_len t
  obtain ⟨lr, hlr⟩ : ∃ lr, l.drop (m + 1) = lr := ⟨_, rfl⟩
  have hlrn : l.length - (m + 1) = lr.length := by rw [← hlr, List.length_drop]
  have HLR := Aside0.mk hlr
  rw [hlr]
  have HSZ : Aside0 (∀ x ∈ wordsB t, x.size ≤ 1000000) := ⟨fun x hx => Nat.le_trans (wordsB_size t x hx) ht⟩
  have h8r : B8 lr := fun z hz => h8 z (by rw [← hlr] at hz; exact List.mem_of_mem_drop hz)
  have HR8 := Aside0.mk h8r
  have hlrl : lr.length ≤ 1000000 := by omega
  obtain ⟨R, hR⟩ : ∃ R, parseW ((m : Int) + 1) lr (wordsB t) = R := ⟨_, rfl⟩
  rw [hR]
  have HRR := Aside0.mk hR
  clear hR h8r
  clear hC h8 he hT hlr
  have hi0 : (0 : Int) ≤ (m : Int) + 1 := by omega
  have hi1 : (m : Int) + 1 ≤ ↑l.length := by omega
  have hi2 : (m : Int) < ↑l.length := by omega
  have hi3 : (l.length : Int) ≤ ↑c := by omega
  have hi4 : (0 : Int) ≤ ↑m := by omega
  refine (callsIn_wide (n := 6)).1 ?_
  refine callsIn_of_wp_marks Tryz.func12 rfl trivial ?_ rfl
  simp only [Tryz.ntmps12, List.size_toArray, List.length_cons, List.length_nil, Nat.reduceAdd, Nat.reduceSub, Array.replicate_succ, Array.replicate_zero, List.push_toArray, List.append_toArray, List.nil_append, List.cons_append]
  refine wpIn_wide.2 ?_
  go_upto_region 2 with (first | (go_at_call 17; (with_reducible refine (HLN.out _ (by repeat (first | (with_reducible first | exact HB.out | apply below_alloc | apply pw_below_drewN | apply below_drew1) | exact HB.out))).mono ?_); rintro e w1 ⟨rfl, hb⟩; have BR := Aside0.mk (blk_below (g := w.heap.size) (o := .cells zStepC 34 (0, 0)) (by repeat (first | exact blk_at_new _ _ _ (by simp; done) | exact blk_at_new _ _ _ rfl | refine blk_alloc ?_ _ | refine blk_drew ?_ | refine blk_drewN ?_ _)) hb); have HBn := Aside0.mk (below_step (by repeat (first | (with_reducible first | exact HB.out | apply below_alloc | apply pw_below_drewN | apply below_drew1) | exact HB.out)) hb); clear HB; have HB := HBn; clear HBn; clear hb; have hr1 : w.heap.size < w1.heap.size := blk_lt BR.out))
  go_cut [6] from 17 to 21 (fun s6 wx => s6 = .pointer (some ⟨w1.heap.size, 0, none⟩) ∧ Aside0 (∃ A4 c4, wx.heap[w1.heap.size]? = some (.cells (lineC ⟨#[]⟩ (.slice none 0 0) false ((m : Int) + 1) A4 lr.length c4) 50 (0, 0)) ∧ lr.length ≤ c4 ∧ (Kd.int .u8).C w A4 lr.length lr ∧ wx.heap[w.heap.size]? = some (.cells zStepC 34 (0, 0)) ∧ Below w.heap.size w wx ∧ wx.heap.size = w1.heap.size + 1))
  case first =>
    go_wp2
    · have hcm : c = m + 1 := by omega
      subst hcm
      have hnil : lr = [] := List.eq_nil_of_length_eq_zero (by omega)
      go_meet
      case rel => exact ⟨rfl, ⟨⟨_, _, blk_at_new _ _ _ rfl, by omega, by rw [hnil]; exact C_zero _ _ _, blk_alloc BR.out _, (by repeat (first | (with_reducible first | exact HB.out | apply below_alloc | apply pw_below_drewN | apply below_drew1) | exact HB.out)), by simp⟩⟩⟩
    · go_meet
      case rel => exact ⟨rfl, ⟨⟨_, _, blk_at_new _ _ _ rfl, by omega, by have := C_dropk HC.out (m + 1); rw [HLR.out] at this; exact this, blk_alloc BR.out _, (by repeat (first | (with_reducible first | exact HB.out | apply below_alloc | apply pw_below_drewN | apply below_drew1) | exact HB.out)), by simp⟩⟩⟩
  case rest =>
    obtain ⟨rfl, HI⟩ := hcut
    obtain ⟨A4, c4, hx, hl4, hC4, hr, hB, hsz⟩ := HI.out
    obtain ⟨gl, hgl⟩ : ∃ g, w1.heap.size = g := ⟨_, rfl⟩
    rw [hgl] at hx hsz hr1
    rw [hgl]
    have BX := Aside0.mk hx
    have BRc := Aside0.mk hr
    have HBc := Aside0.mk hB
    have HC4 := Aside0.mk hC4
    clear hx hr hB hC4 HI BR HB hgl HLN HLR HC
    go_wp2_with (go_at_call 19; (with_reducible refine (mkWords_calls t _).mono ?_); rintro e w' ⟨rfl, rfl⟩)
    obtain ⟨W0, hW0⟩ : ∃ W0, wc.alloc (.cells #[.string t] 9) = W0 := ⟨_, rfl⟩
    have BX0 := Aside0.mk (show W0.heap[gl]? = _ from hW0 ▸ blk_alloc BX.out _)
    have BR0 := Aside0.mk (show W0.heap[w.heap.size]? = _ from hW0 ▸ blk_alloc BRc.out _)
    have hbel : Below w.heap.size w W0 := hW0 ▸ below_alloc HBc.out _
    have bS : Boxed W0 wc.heap.size 9 (.string t) := hW0 ▸ Boxed.new wc 9 (.string t)
    have hsz0 : W0.heap.size = wc.heap.size + 1 := by rw [← hW0]; simp
    rw [hW0]
    rw [hsz] at bS hsz0
    obtain ⟨qs, hqs⟩ : ∃ q, gl + 1 = q := ⟨_, rfl⟩
    rw [hqs] at bS hsz0
    rw [hqs]
    have hql : gl < qs := by omega
    have hql2 : qs ≤ gl + 1 := by omega
    clear hW0 hqs BX BRc HBc hsz
    obtain ⟨i0, hi, hz0, hz1, hz2⟩ := info_parts info9
    refine (wpIn_wide (n := 6)).1 ?_
    refine wpIn_rangeFunc_ownG rfl (by omega) (gf := 38) (lb := #[.pointer (some ⟨qs, 0, none⟩)]) rfl trivial (enters_of Tryz.func38 (by kernel_rfl) rfl)
      (words_stops 5 (by omega) qs w.heap.size t (by omega) W0 bS.lt bS.cell) belowK_t (belowK_b hbel.size) (Below.refl _ _) (fun _ => rfl)
      (fun pre W => ((∃ V, W.heap[gl]? = some (.cells (lineC ⟨#[]⟩ V false ((m : Int) + 1) A4 lr.length c4) 50 (0, 0)) ∧ W.ownsRow (qs + 1) 9 1 V pre.length (pre.map Value.string)) ∧ W.heap[w.heap.size]? = some (.cells zStepC 34 (0, 0))) ∧ Below w.heap.size w W)
      (fun _ _ _ => False)
      (OwnFrom.and (OwnFrom.and (Own.from (own_blkRow gl 50 (fun V => lineC ⟨#[]⟩ V false ((m : Int) + 1) A4 lr.length c4) (qs + 1) 9 (fun (pre : List ByteArray) => pre.length) (fun pre => pre.map Value.string)) _) (Own.from (own_blk _ _ _) _)) (ownFrom_below (Nat.le_refl _) hbel.size))
      (fun _ _ _ _ _ hs _ _ => hs) ⟨⟨⟨_, BX0.out, World.ownsRow_nil _ _ _ _⟩, BR0.out⟩, hbel⟩ ?a1 ?assign ?body ?done ?stop
    case assign =>
      intro l x W K hK
      gi_wp2
      exact hK
    case stop =>
      rintro D c pre W _ _ h _
      exact h.elim
    case body =>
      rintro l pre x W ⟨⟨⟨V, hv, hrow⟩, hr0⟩, hB⟩ hlt2
      have hgW : gl < W.heap.size := blk_lt hv
      have e1 : W.cell? ⟨gl, 1, none⟩ = some V := (blk_cell hv 1).trans rfl
      have hne : some gl ≠ V.ownBlock := own_apart hrow (by omega)
      have hner : some w.heap.size ≠ V.ownBlock := own_apart hrow (by omega)
      have hrg : w.heap.size < gl := hr1
      gi_wp2_with (gi_at_builtin; (refine wpListIn_append_own _ rfl _ _ 27 rfl (qs + 1) 9 i0 (.string ⟨#[]⟩) 1 16 Tryz.underlying27 hi hz0 hz1 hz2 rfl (by decide) _ _ _ rfl (hrow.alloc _) ⟨W.heap.size, 0, none⟩ 1 1 [.string x] rfl rfl (cell_one_new _ _ _) (by simp [Value.oneCell']) (by unfold maxLen; omega) (by omega) (by rw [World.size_alloc]; omega) ?_); intro v' w2 hown' hgrow _; obtain ⟨g', cap', rfl⟩ := ownsRow_succ hown'; have hv2 := blk_grown (blk_alloc hv _) hgrow hne; have hr2 := blk_grown (blk_alloc hr0 _) hgrow hner; have e2 : w2.cell? ⟨gl, 1, none⟩ = some V := (blk_cell hv2 1).trans rfl; have f2 : w2.frozen? ⟨gl, 1, none⟩ = false := blk_frozen hv2 1)
      have hK2 : KeepsOthers W w2 := (KeepsOthers.alloc W _).trans (KeepsOthers.of_grownBy hgrow (fun j o' hj ho' => by
        obtain ⟨cs, hcs⟩ := own_typed (hrow.alloc _) j hj
        rw [hcs] at ho'
        cases ho'
        rfl))
      have hb2 : Below w.heap.size W w2 := ((Below.refl w.heap.size W).alloc (by omega) _).grown hgrow (by rw [World.size_alloc]; omega) (fun k hk => by have := own_base hrow k hk; omega)
      refine ⟨(hK2.trans (KeepsOthers.setCell _ _ _)).from _, hb2.setCell (p := ⟨gl, 1, none⟩) (by show w.heap.size ≤ gl; omega) _, ⟨⟨⟨_, blk_set hv2 1 _, ?_⟩, blk_far hr2 (by show w.heap.size ≠ gl; omega) _⟩, (hB.trans hb2).setCell (p := ⟨gl, 1, none⟩) (by show w.heap.size ≤ gl; omega) _⟩⟩
      rw [List.map_append, List.length_append]
      exact own_setCell hown' (own_apart hown' (show gl < qs + 1 by omega)) _
    case done =>
      rintro D ys W hD rfl ⟨⟨⟨V, hv, hrow⟩, hr0⟩, hB⟩ hK
      obtain ⟨A1, c1, rfl, hc1, hCw⟩ := own_Cs hrow (by omega)
      have hgW : gl < W.heap.size := blk_lt hv
      have BX1 := Aside0.mk hv
      have BR1 := Aside0.mk hr0
      have HBn := Aside0.mk hB
      have HCW := Aside0.mk hCw
      have HROW := Aside0.mk hrow
      have HKD := Aside0.mk hK
      have HB := HBn
      clear HBn hv hr0 hB hCw hrow hK BX0 BR0
      have hDW : D < W.heap.size := (Array.getElem?_eq_some_iff.1 HKD.out).1
      obtain ⟨ws, hws⟩ : ∃ ws, wordsB t = ws := ⟨_, rfl⟩
      rw [hws] at BX1 HCW HROW hlen hc1 HSZ HRR
      clear hws
      cases ws with
      | nil =>
        have HOE : Aside0 (∀ w', Calls Tryz.prog 18 #[.agg #[.string ⟨#[]⟩, .slice A1 0 c1, .bool false, .int .i64 ((m : Int) + 1), .slice A4 lr.length c4], .string (⟨#[69, 82, 82, 79, 82]⟩ : ByteArray)] w' fun e w'' => e = .returned (.agg (stepFC ((m : Int) + 1) (⟨#[69, 82, 82, 79, 82]⟩ : ByteArray) 0 false).toArray) ∧ Below w'.heap.size w' w'') := ⟨fun w' => fault_raw ⟨#[]⟩ A1 A4 0 c1 lr.length c4 false ((m : Int) + 1) _ w' (by decide)⟩
        have s0 : W.cell? ⟨gl, 0, none⟩ = some (.string ⟨#[]⟩) := (blk_cell BX1.out 0).trans rfl
        have s1 : W.cell? ⟨gl, 1, none⟩ = some (.slice A1 0 c1) := (blk_cell BX1.out 1).trans rfl
        have s2 : W.cell? ⟨gl, 2, none⟩ = some (.bool false) := (blk_cell BX1.out 2).trans rfl
        have s3 : W.cell? ⟨gl, 3, none⟩ = some (.int .i64 ((m : Int) + 1)) := (blk_cell BX1.out 3).trans rfl
        have s4 : W.cell? ⟨gl, 4, none⟩ = some (.slice A4 lr.length c4) := (blk_cell BX1.out 4).trans rfl
        have hRr := HRR.out
        unfold parseW at hRr
        subst hRr
        go_wp2_with (first | (go_at_call 18; (with_reducible refine (HOE.out _).mono ?_); rintro e w3 ⟨rfl, hb⟩; unfold stepFC; have BR3 := Aside0.mk (blk_below BR1.out hb); have HK3 := Aside0.mk (blk_below HKD.out hb); have HBn := Aside0.mk (below_step (by repeat (first | (with_reducible first | exact HB.out | apply below_alloc | apply pw_below_drewN | apply below_drew1) | exact HB.out)) hb); clear HB; have HB := HBn; clear HBn; clear hb) | (refine wpList_store_F rfl 34 _ _ rfl w.heap.size 0 _ rfl rfl (by simp [Value.oneCell']) 34 _ _ BR3.out (by simp [zStepC]) (by kernel_rfl) rfl ?_; intro w8 hbk hst; have BR8 := Aside0.mk hbk; have HK8 := Aside0.mk (hst.blk HK3.out (by have := hbel.size; omega)); have HB8 := Aside0.mk (hst.up HB.out (Nat.le_refl _)); clear hbk hst))
        refine ⟨by simp, .inl ⟨_, _, rfl, run_takeDeferred HK8.out, ?_⟩⟩; refine ⟨_, results_cell_row rfl _ _ w.heap.size 34 _ (0, 0) _ rfl ((World.putObj_heap_other (by have := hbel.size; omega)).trans BR8.out) Tryz.underlying34 rfl (by kernel_rfl), ?_⟩
        exact ⟨⟨_, rfl, fun w2 _ _ => stepFS_K w2 ((m : Int) + 1) (⟨#[69, 82, 82, 79, 82]⟩ : ByteArray) 0 false⟩, HB8.out.trans (belowK_b (w := w) (Nat.le_refl _) w8 D _ _ (by have := hbel.size; omega) HK8.out rfl rfl)⟩
      | cons v vs =>
        obtain ⟨b1, o1, rfl, hb1, hcv⟩ := S_cell HCW.out 0 (by simp)
        have hcv : W.cell? ⟨b1, o1, none⟩ = some (.string v) := hcv
        have HCV := Aside0.mk hcv
        have HDn := Aside0.mk (show W0.heap.size ≤ D from hD)
        have hDr : Aside0 (D ≠ w.heap.size) := ⟨by have := hbel.size; omega⟩
        have hDg : Aside0 (D ≠ gl) := ⟨by have := blk_lt BX1.out; have h2 := BX1.out; have h3 := HKD.out; intro e; rw [e, h2] at h3; cases h3⟩
        have hgr : Aside0 (w.heap.size ≠ gl) := ⟨by omega⟩
        have hle : Aside0 (w.heap.size ≤ gl) := ⟨by omega⟩
        have t1 : W.cell? ⟨gl, 1, none⟩ = some (.slice (some ⟨b1, o1, none⟩) (vs.length + 1) c1) := (blk_cell BX1.out 1).trans rfl
        have hv0 : (0 : Int) < ↑vs.length + 1 := by omega
        have hv1 : (1 : Int) ≤ ↑vs.length + 1 := by omega
        have hvc : vs.length + 1 ≤ c1 := hc1
        have hv2 : (vs.length : Int) + 1 ≤ ↑c1 := by omega
        have hb1g : b1 ≠ gl := by
          intro e
          have h2 := own_typed HROW.out b1 rfl
          obtain ⟨cs, hcs⟩ := h2
          rw [e, BX1.out] at hcs
          simp at hcs
        have BX1d := Aside0.mk (show W.drew.heap[gl]? = _ from blk_drew BX1.out)
        go_upto_region 15 with fail
        refine wp_region_noPanic ?_
        refine wp_region_L (S := (fun w' => w'.cell? ⟨gl, 1, none⟩ = some (.slice (some ⟨b1, o1, none⟩) (vs.length + 1) c1) ∧ w'.cell? ⟨b1, o1, none⟩ = some (.string v))) 10 (by kernel_rfl) ⟨t1, hcv⟩ ?_
        intro hHeld
        (refine wpAnyL_take (i := 0) (v := ?_) (by simp only [List.getElem?_toArray, List.getElem?_cons_succ, List.getElem?_cons_zero]; rfl) (by kernel_rfl) (by kernel_rfl) (by kernel_rfl) (by kernel_rfl) (fun _ _ _ h => h) (Or.inl ⟨by rfl, ?_⟩) (by exact hHeld) ?_; rotate_left; (focus (intro w' hSw; obtain ⟨s0, s1⟩ := hSw; go_simp; (try with_reducible rfl); done)); (try simp only [Act.put, List.setIfInBounds_toArray, List.set_cons_zero, List.set_cons_succ]))
        (refine wpAnyL_take (i := 1) (v := ?_) (by simp only [List.getElem?_toArray, List.getElem?_cons_succ, List.getElem?_cons_zero]; rfl) (by kernel_rfl) (by kernel_rfl) (by kernel_rfl) (by kernel_rfl) (fun _ _ _ h => h) (Or.inl ⟨by rfl, ?_⟩) (by exact hHeld) ?_; rotate_left; (focus (intro w' hSw; obtain ⟨s0, s1⟩ := hSw; go_simp; (try with_reducible rfl); done)); (try simp only [Act.put, List.setIfInBounds_toArray, List.set_cons_zero, List.set_cons_succ]))
        (refine wpAnyL_take (i := 2) (v := ?_) (by simp only [List.getElem?_toArray, List.getElem?_cons_succ, List.getElem?_cons_zero]; rfl) (by kernel_rfl) (by kernel_rfl) (by kernel_rfl) (by kernel_rfl) (fun _ _ _ h => h) (Or.inl ⟨by rfl, ?_⟩) (by exact hHeld) ?_; rotate_left; (focus (intro w' hSw; obtain ⟨s0, s1⟩ := hSw; go_simp; (try with_reducible rfl); done)); (try simp only [Act.put, List.setIfInBounds_toArray, List.set_cons_zero, List.set_cons_succ]))
        (refine wpAnyL_take (i := 3) (v := ?_) (by simp only [List.getElem?_toArray, List.getElem?_cons_succ, List.getElem?_cons_zero]; rfl) (by kernel_rfl) (by kernel_rfl) (by kernel_rfl) (by kernel_rfl) (fun _ _ _ h => h) (Or.inl ⟨by rfl, ?_⟩) (by exact hHeld) ?_; rotate_left; (focus (intro w' hSw; obtain ⟨s0, s1⟩ := hSw; go_simp; (try with_reducible rfl); done)); (try simp only [Act.put, List.setIfInBounds_toArray, List.set_cons_zero, List.set_cons_succ]))
        (refine wpAnyL_take (i := 4) (v := ?_) (by simp only [List.getElem?_toArray, List.getElem?_cons_succ, List.getElem?_cons_zero]; rfl) (by kernel_rfl) (by kernel_rfl) (by kernel_rfl) (by kernel_rfl) (fun _ _ _ h => h) (Or.inl ⟨by rfl, ?_⟩) (by exact hHeld) ?_; rotate_left; (focus (intro w' hSw; obtain ⟨s0, s1⟩ := hSw; go_simp; (try with_reducible rfl); done)); (try simp only [Act.put, List.setIfInBounds_toArray, List.set_cons_zero, List.set_cons_succ]))
        (refine wpAnyL_take (i := 5) (v := ?_) (by simp only [List.getElem?_toArray, List.getElem?_cons_succ, List.getElem?_cons_zero]; rfl) (by kernel_rfl) (by kernel_rfl) (by kernel_rfl) (by kernel_rfl) (fun _ _ _ h => h) (Or.inl ⟨by rfl, ?_⟩) (by exact hHeld) ?_; rotate_left; (focus (intro w' hSw; obtain ⟨s0, s1⟩ := hSw; go_simp; (try with_reducible rfl); done)); (try simp only [Act.put, List.setIfInBounds_toArray, List.set_cons_zero, List.set_cons_succ]))
        (refine wpAnyL_take (i := 6) (v := ?_) (by simp only [List.getElem?_toArray, List.getElem?_cons_succ, List.getElem?_cons_zero]; rfl) (by kernel_rfl) (by kernel_rfl) (by kernel_rfl) (by kernel_rfl) (fun _ _ _ h => h) (Or.inl ⟨by rfl, ?_⟩) (by exact hHeld) ?_; rotate_left; (focus (intro w' hSw; obtain ⟨s0, s1⟩ := hSw; go_simp; (try with_reducible rfl); done)); (try simp only [Act.put, List.setIfInBounds_toArray, List.set_cons_zero, List.set_cons_succ]))
        (refine wpAnyL_take (i := 7) (v := ?_) (by simp only [List.getElem?_toArray, List.getElem?_cons_succ, List.getElem?_cons_zero]; rfl) (by kernel_rfl) (by kernel_rfl) (by kernel_rfl) (by kernel_rfl) (fun _ _ _ h => h) (Or.inl ⟨by rfl, ?_⟩) (by exact hHeld) ?_; rotate_left; (focus (intro w' hSw; obtain ⟨s0, s1⟩ := hSw; go_simp; (try with_reducible rfl); done)); (try simp only [Act.put, List.setIfInBounds_toArray, List.set_cons_zero, List.set_cons_succ]))
        refine wpAnyL_one (i := 8) (by kernel_rfl) (by simp only [List.getElem?_toArray, List.getElem?_cons_succ, List.getElem?_cons_zero]; rfl) (fun K hK => ?_)
        refine step_store_F rfl 9 _ _ rfl gl 0 [.string v] rfl rfl (by intro u hu; simp only [List.mem_singleton] at hu; subst hu; rfl) 50 _ (lineC v (.slice (some ⟨b1, o1, none⟩) (vs.length + 1) c1) false ((m : Int) + 1) A4 lr.length c4) BX1d.out (by simp [lineC]) (by kernel_rfl) rfl ?_
        intro w3 hbk hst3
        have BX3 := Aside0.mk hbk
        have HST3 := Aside0.mk hst3
        have hbw : b1 ≠ gl := hb1g
        refine hK.out _ _ (fun _ => ⟨(blk_cell BX3.out 1).trans rfl, (by
          have h1 : w3.cell? ⟨b1, o1, none⟩ = W.drew.cell? ⟨b1, o1, none⟩ := World.cell?_of_block (hst3.block b1 hbw)
          exact h1.trans hcv)⟩) ?_
        clear hK K hHeld hbk hst3
        intro hHeld
        have hHeld := hHeld (by decide)
        (try simp only [Act.put, List.setIfInBounds_toArray, List.set_cons_zero, List.set_cons_succ])
        (refine wpAnyL_take (i := 9) (v := ?_) (by simp only [List.getElem?_toArray, List.getElem?_cons_succ, List.getElem?_cons_zero]; rfl) (by kernel_rfl) (by kernel_rfl) (by kernel_rfl) (by kernel_rfl) (fun _ _ _ h => h) (Or.inl ⟨by rfl, ?_⟩) (by exact hHeld) ?_; rotate_left; (focus (intro w' hSw; obtain ⟨s0, s1⟩ := hSw; go_simp; (try with_reducible rfl); done)); (try simp only [Act.put, List.setIfInBounds_toArray, List.set_cons_zero, List.set_cons_succ]))
        refine wpAnyL_one (i := 10) (by kernel_rfl) (by simp only [List.getElem?_toArray, List.getElem?_cons_succ, List.getElem?_cons_zero]; rfl) (fun K hK => ?_)
        refine step_store_F rfl 27 _ _ rfl gl 1 [.slice (if c1 = 1 then some ⟨b1, o1, none⟩ else some ⟨b1, o1 + 1, none⟩) vs.length (c1 - 1)] rfl rfl (by intro u hu; simp only [List.mem_singleton] at hu; subst hu; rfl) 50 _ (lineC v (.slice (if c1 = 1 then some ⟨b1, o1, none⟩ else some ⟨b1, o1 + 1, none⟩) vs.length (c1 - 1)) false ((m : Int) + 1) A4 lr.length c4) BX3.out (by simp [lineC]) (by kernel_rfl) rfl ?_
        intro w4 hbk hst4
        have BX4 := Aside0.mk hbk
        have HST4 := Aside0.mk hst4
        refine hK.out _ _ (fun h => absurd rfl h) ?_
        clear hK K hHeld hbk hst4
        intro _
        (try simp only [Act.put, List.setIfInBounds_toArray, List.set_cons_zero, List.set_cons_succ])
        refine wpAnyL_done (by kernel_rfl) ?_ _
        refine NoPanic.normal ?_
        have hB4 : Below w.heap.size w w4 := HST4.out.up (HST3.out.up (below_drew1 HB.out) hle.out) hle.out
        have BR4 := Aside0.mk (HST4.out.blk (HST3.out.blk (show W.drew.heap[w.heap.size]? = _ from blk_drew BR1.out) hgr.out) hgr.out)
        have HK4 := Aside0.mk (HST4.out.blk (HST3.out.blk (show W.drew.heap[D]? = _ from HKD.out) hDg.out) hDg.out)
        have hr4 := Aside0.mk (blk_lt BR4.out)
        have hD4 := Aside0.mk ((Array.getElem?_eq_some_iff.1 HK4.out).1)
        have hsz4 : w4.heap.size = W.heap.size := HST4.out.size.trans HST3.out.size
        have hob := own_base HROW.out b1 rfl
        have hbD : b1 ≠ D := by
          intro e
          obtain ⟨cs, hcs⟩ := own_typed HROW.out b1 rfl
          rw [e, HKD.out] at hcs
          cases hcs
        have HWD : Aside0 (HolF (fun k => k ≠ w.heap.size ∧ k ≠ D ∧ k ≠ gl) w4 (fun w2 => Kd.string.C w2 (if c1 = 1 then some ⟨b1, o1, none⟩ else some ⟨b1, o1 + 1, none⟩) vs.length vs)) := ⟨fun w2 hb2 hk2 => C_tailI (own_CsA (l := v :: vs) (own_move HROW.out (fun k hk => by
          have hk : b1 = k := by simpa [Value.ownBlock] using hk
          subst hk
          exact (hk2 b1 (by rw [hsz4]; exact hb1) ⟨by omega, hbD, hb1g⟩).trans ((HST4.out.block b1 hb1g).trans (HST3.out.block b1 hb1g)))) (by omega)) rfl (by omega)⟩
        have HRS : Aside0 (HolF (fun k => k ≠ w.heap.size ∧ k ≠ D ∧ k ≠ gl) w4 (fun w2 => (Kd.int .u8).C w2 A4 lr.length lr)) := ⟨fun w2 hb2 hk2 => (HolF.ofC HC4.out) w2 ((below_zero hB4).trans hb2) (fun k hk _ => (hk2 k (by have := hB4.size; omega) ⟨by omega, by have := hbel.size; omega, by omega⟩).trans (hB4.block k hk))⟩
        obtain ⟨A1', hA1⟩ : ∃ A1' : Option Addr, (if c1 = 1 then some (⟨b1, o1, none⟩ : Addr) else some ⟨b1, o1 + 1, none⟩) = A1' := ⟨_, rfl⟩
        rw [hA1] at BX4 HWD ⊢
        clear hA1
        have HBn := Aside0.mk hB4
        clear HB hB4
        have HB := HBn
        clear HBn
        have hcc : vs.length ≤ c1 - 1 := by omega
        have hRr := HRR.out
        unfold parseW at hRr
        dsimp only at hRr
        have HLO : Aside0 (Calls Tryz.prog 20 #[.agg #[.string v, .slice A1' vs.length (c1 - 1), .bool false, .int .i64 ((m : Int) + 1), .slice A4 lr.length c4]] w4 (LoudR (fun k => k ≠ w.heap.size ∧ k ≠ D ∧ k ≠ gl) w4 (loudS v ((m : Int) + 1) vs).1 (loudS v ((m : Int) + 1) vs).2)) := ⟨loud_calls ⟨v, vs, false, (m : Int) + 1, lr⟩ _ (fun k => k ≠ w.heap.size ∧ k ≠ D ∧ k ≠ gl) w4 (fun w2 h1 h2 => kTextinLine_mk w2 ⟨v, vs, false, (m : Int) + 1, lr⟩ hcc (HWD.out w2 h1 h2) hl4 (HRS.out w2 h1 h2)) (Tabs.below HT.out HB.out) (by show vs.length ≤ _; rw [List.length_cons] at hlen; omega) (fun k hk => HSZ.out k (List.mem_cons_of_mem _ hk)) (by show (0 : Int) ≤ (m : Int) + 1; omega) (by show (m : Int) + 1 ≤ 1000000; omega) HR8.out hlrl rfl⟩
        obtain ⟨st, hst⟩ : ∃ st, (loudS v ((m : Int) + 1) vs).1 = st := ⟨_, rfl⟩
        obtain ⟨bb, hbb⟩ : ∃ bb, (loudS v ((m : Int) + 1) vs).2 = bb := ⟨_, rfl⟩
        rw [hst, hbb] at HLO hRr
        clear hst hbb t1 hcv HCV BX1d BX3 HST3 HST4 hob hbD hsz4 BX1 BR1 HROW HKD HCW hb1g HRR
        have x0 : w4.cell? ⟨gl, 0, none⟩ = some (.string v) := (blk_cell BX4.out 0).trans rfl
        have x1 : w4.cell? ⟨gl, 1, none⟩ = some (.slice A1' vs.length (c1 - 1)) := (blk_cell BX4.out 1).trans rfl
        have x2 : w4.cell? ⟨gl, 2, none⟩ = some (.bool false) := (blk_cell BX4.out 2).trans rfl
        have x3 : w4.cell? ⟨gl, 3, none⟩ = some (.int .i64 ((m : Int) + 1)) := (blk_cell BX4.out 3).trans rfl
        have x4 : w4.cell? ⟨gl, 4, none⟩ = some (.slice A4 lr.length c4) := (blk_cell BX4.out 4).trans rfl
        cases bb
        · rw [if_neg (by decide)] at hRr
          obtain ⟨ws7, n7, q7, hn7, hn7l, hC7, hs7, hR7, hU⟩ : ∃ ws7 n7 q7, ws7.length = n7 ∧ ws7.length ≤ vs.length ∧ (∀ w2, Kd.string.C w2 A1' vs.length vs → Kd.string.C w2 A1' ws7.length ws7) ∧ (∀ x ∈ ws7, x ∈ vs) ∧ otherS v q7 ((m : Int) + 1) ws7 lr = R ∧ (if hushB v vs = true then #[.string v, .slice A1' (vs.length - 1) (c1 - 1), .bool true, .int .i64 ((m : Int) + 1), .slice A4 lr.length c4] else #[.string v, .slice A1' vs.length (c1 - 1), .bool false, .int .i64 ((m : Int) + 1), .slice A4 lr.length c4]) = lineC v (.slice A1' n7 (c1 - 1)) q7 ((m : Int) + 1) A4 lr.length c4 := by
            by_cases hh : hushB v vs = true
            · rw [if_pos hh] at hRr ⊢
              exact ⟨vs.take (vs.length - 1), vs.length - 1, true, by rw [List.length_take]; omega, by rw [List.length_take]; omega, fun w2 h => Kd.C_take h (by omega), fun x hx => List.mem_of_mem_take hx, hRr, rfl⟩
            · rw [if_neg hh] at hRr ⊢
              exact ⟨vs, vs.length, false, rfl, Nat.le_refl _, fun w2 h => h, fun x hx => hx, hRr, rfl⟩
          have HU : Aside0 (∀ w' : World, w'.heap[gl]? = some (.cells (lineC v (.slice A1' vs.length (c1 - 1)) false ((m : Int) + 1) A4 lr.length c4) 50 (0, 0)) → Kd.string.C w' A1' vs.length vs → Calls Tryz.prog 21 #[.pointer (some ⟨gl, 0, none⟩)] w' (HushP gl (lineC v (.slice A1' n7 (c1 - 1)) q7 ((m : Int) + 1) A4 lr.length c4) w')) := ⟨fun w' h1 h2 => by
            have := hush_calls gl v A1' (c1 - 1) vs false ((m : Int) + 1) (.slice A4 lr.length c4) w' h1 h2 hcc (by rw [List.length_cons] at hlen; omega)
            rw [hU] at this
            exact this⟩
          have HOT : Aside0 (∀ w', HolF (fun k => k ≠ w.heap.size ∧ k ≠ D ∧ k ≠ gl) w' (fun w2 => Kd.string.C w2 A1' vs.length vs) → HolF (fun k => k ≠ w.heap.size ∧ k ≠ D ∧ k ≠ gl) w' (fun w2 => (Kd.int .u8).C w2 A4 lr.length lr) → Tabs w' → Calls Tryz.prog 22 #[.agg #[.string v, .slice A1' n7 (c1 - 1), .bool q7, .int .i64 ((m : Int) + 1), .slice A4 lr.length c4]] w' (StepR (fun k => k ≠ w.heap.size ∧ k ≠ D ∧ k ≠ gl) w' R)) := ⟨fun w' h1 h2 h3 => by
            rw [← hn7, ← hR7]
            exact other_calls ⟨v, ws7, q7, (m : Int) + 1, lr⟩ _ (fun k => k ≠ w.heap.size ∧ k ≠ D ∧ k ≠ gl) w' (fun w2 a1 a2 => kTextinLine_mk w2 ⟨v, ws7, q7, (m : Int) + 1, lr⟩ (show ws7.length ≤ c1 - 1 by omega) (hC7 w2 (h1 w2 a1 a2)) hl4 (h2 w2 a1 a2)) h3 (show ws7.length ≤ 1000000 by rw [List.length_cons] at hlen; omega) (fun k hk => HSZ.out k (List.mem_cons_of_mem _ (hs7 k hk))) (show (0 : Int) ≤ (m : Int) + 1 by omega) (show (m : Int) + 1 ≤ 1000000 by omega) HR8.out hlrl⟩
          clear hU hR7 hC7 hs7 hRr hn7 hn7l HSZ
          go_wp2_with (first | (go_at_call 20; (with_reducible refine (HLO.out).mono ?_); rintro e w5 ⟨⟨cs, rfl, hk⟩, hb⟩; have BX5 := Aside0.mk (blk_below BX4.out hb); have BR5 := Aside0.mk (blk_below BR4.out hb); have HK5 := Aside0.mk (blk_below HK4.out hb); have HWD5 := Aside0.mk (HWD.out.below hb); have HRS5 := Aside0.mk (HRS.out.below hb); have HBn := Aside0.mk (below_step (by repeat (first | (with_reducible first | exact HB.out | apply below_alloc | apply pw_below_drewN | apply below_drew1) | exact HB.out)) hb); clear HB; have HB := HBn; clear HBn; have HKS := Aside0.mk hk; clear hb hk; obtain ⟨B0, d0, B8, d8, B9, d9, rfl, -⟩ := kStep_open HKS.out.now; have hw45 : w.heap.size < w5.heap.size := blk_lt BR5.out; have hg45 : gl < w5.heap.size := blk_lt BX5.out; have hD45 : D < w5.heap.size := (Array.getElem?_eq_some_iff.1 HK5.out).1) | (go_at_call 21; (with_reducible refine (HU.out _ (blk_alloc BX5.out _) (HWD5.out.below ((Below.refl _ _).alloc (Nat.le_refl _) _)).now).mono ?_); rintro e w7 ⟨rfl, hbx, hlow, hsame⟩; have BX7 := Aside0.mk hbx; have BR7 := Aside0.mk ((hsame w.heap.size (by rw [World.size_alloc]; omega) hgr.out).trans (blk_alloc BR5.out _)); have HK7 := Aside0.mk ((hsame D (by rw [World.size_alloc]; omega) hDg.out).trans (blk_alloc HK5.out _)); have HWD7 := Aside0.mk ((HWD5.out.below ((Below.refl _ _).alloc (Nat.le_refl _) _)).kept (hlow 0 (Nat.zero_le _)) (fun k hk hF => hsame k hk hF.2.2)); have HRS7 := Aside0.mk ((HRS5.out.below ((Below.refl _ _).alloc (Nat.le_refl _) _)).kept (hlow 0 (Nat.zero_le _)) (fun k hk hF => hsame k hk hF.2.2)); have HB7 := Aside0.mk (Below.trans (below_alloc HB.out _) (hlow w.heap.size hle.out)); clear hbx hlow hsame HB; have HB := HB7; clear HB7; have y0 : w7.cell? ⟨gl, 0, none⟩ = some (.string v) := (blk_cell BX7.out 0).trans rfl; have y1 : w7.cell? ⟨gl, 1, none⟩ = some (.slice A1' n7 (c1 - 1)) := (blk_cell BX7.out 1).trans rfl; have y2 : w7.cell? ⟨gl, 2, none⟩ = some (.bool q7) := (blk_cell BX7.out 2).trans rfl; have y3 : w7.cell? ⟨gl, 3, none⟩ = some (.int .i64 ((m : Int) + 1)) := (blk_cell BX7.out 3).trans rfl; have y4 : w7.cell? ⟨gl, 4, none⟩ = some (.slice A4 lr.length c4) := (blk_cell BX7.out 4).trans rfl) | (go_at_call 22; (with_reducible refine (HOT.out _ HWD7.out HRS7.out (Tabs.below HT.out HB.out)).mono ?_); rintro e w9 ⟨⟨cs9, rfl, hk⟩, hb⟩; have BK := Aside0.mk (blk_below BR7.out hb); have HK9 := Aside0.mk (blk_below HK7.out hb); have hr9 := Aside0.mk (blk_lt BR7.out); have hD9 := Aside0.mk ((Array.getElem?_eq_some_iff.1 HK7.out).1); have HBn := Aside0.mk (below_step (by repeat (first | (with_reducible first | exact HB.out | apply below_alloc | apply pw_below_drewN | apply below_drew1) | exact HB.out)) hb); clear HB; have HB := HBn; clear HBn; have HKO := Aside0.mk hk; clear hb hk) | (refine wpList_store_K HKO.out.now rfl 34 _ _ rfl w.heap.size rfl rfl 34 _ BK.out (by kernel_rfl) rfl ?_; intro w8 hbk hlow hfar; have BR8 := Aside0.mk hbk; have HB8 := Aside0.mk (HB.out.trans (hlow w.heap.size (Nat.le_refl _))); have HK8 := Aside0.mk ((hfar (fun k => k = D) (fun w2 => w2.heap[D]? = some (.deferred (some []))) (fun e => hDr.out e.symm) (fun w2 _ hk => (hk D (Array.getElem?_eq_some_iff.1 HK9.out).1 rfl).trans HK9.out)).now); have HKS8 := Aside0.mk (hfar _ _ (fun h => (h hr9.out).1 rfl) HKO.out); clear hbk hlow hfar))
          refine ⟨by simp, .inl ⟨_, _, rfl, run_takeDeferred HK8.out, ?_⟩⟩; refine ⟨_, results_cell_row rfl _ _ w.heap.size 34 _ (0, 0) _ rfl ((World.putObj_heap_other (by have := hbel.size; omega)).trans BR8.out) Tryz.underlying34 rfl (by rw [List.size_toArray, kStep.K_len HKO.out.now]; kernel_rfl), ?_⟩
          exact ⟨⟨_, rfl, (HKS8.out.kept (belowK_b (w := w) (n₀ := 0) (Nat.zero_le _) w8 D _ _ (by have := hbel.size; have := HDn.out; omega) HK8.out rfl rfl) (fun k hk hF => World.putObj_heap_other (fun e => (hF (by rw [e]; exact hD9.out)).2.1 e))).mono (fun k _ _ => trivial)⟩, HB8.out.trans (belowK_b (w := w) (Nat.le_refl _) w8 D _ _ (by have := hbel.size; have := HDn.out; omega) HK8.out rfl rfl)⟩
        · rw [if_pos rfl] at hRr
          subst hRr
          clear HSZ
          go_wp2_with (first | (go_at_call 20; (with_reducible refine (HLO.out).mono ?_); rintro e w5 ⟨⟨cs, rfl, hk⟩, hb⟩; have BX5 := Aside0.mk (blk_below BX4.out hb); have BR5 := Aside0.mk (blk_below BR4.out hb); have HK5 := Aside0.mk (blk_below HK4.out hb); have HWD5 := Aside0.mk (HWD.out.below hb); have HRS5 := Aside0.mk (HRS.out.below hb); have HBn := Aside0.mk (below_step (by repeat (first | (with_reducible first | exact HB.out | apply below_alloc | apply pw_below_drewN | apply below_drew1) | exact HB.out)) hb); clear HB; have HB := HBn; clear HBn; have HKS := Aside0.mk hk; clear hb hk; obtain ⟨B0, d0, B8, d8, B9, d9, rfl, -⟩ := kStep_open HKS.out.now; have hw45 : w.heap.size < w5.heap.size := blk_lt BR5.out; have hg45 : gl < w5.heap.size := blk_lt BX5.out; have hD45 : D < w5.heap.size := (Array.getElem?_eq_some_iff.1 HK5.out).1) | (refine wpList_store_F rfl 34 _ _ rfl w.heap.size 0 _ rfl rfl (by simp [Value.oneCell']) 34 _ _ (blk_alloc BR5.out _) (by simp [zStepC]) (by kernel_rfl) rfl ?_; intro w8 hbk hst; have BR8 := Aside0.mk hbk; have HK8 := Aside0.mk (hst.blk (blk_alloc HK5.out _) hDr.out); have HB8 := Aside0.mk (hst.up (by repeat (first | (with_reducible first | exact HB.out | apply below_alloc | apply pw_below_drewN | apply below_drew1) | exact HB.out)) (Nat.le_refl _)); have HKS8 := Aside0.mk (hst.hol (HKS.out.below ((Below.refl _ _).alloc (Nat.le_refl _) _)) (fun h => (h hr4.out).1 rfl)); clear hbk hst))
          refine ⟨by simp, .inl ⟨_, _, rfl, run_takeDeferred HK8.out, ?_⟩⟩; refine ⟨_, results_cell_row rfl _ _ w.heap.size 34 _ (0, 0) _ rfl ((World.putObj_heap_other (by have := hbel.size; omega)).trans BR8.out) Tryz.underlying34 rfl (by kernel_rfl), ?_⟩
          exact ⟨⟨_, rfl, (HKS8.out.kept (belowK_b (w := w) (n₀ := 0) (Nat.zero_le _) w8 D _ _ (by have := hbel.size; have := HDn.out; omega) HK8.out rfl rfl) (fun k hk hF => World.putObj_heap_other (fun e => (hF (by rw [e]; exact hD4.out)).2.1 e))).mono (fun k _ _ => trivial)⟩, HB8.out.trans (belowK_b (w := w) (Nat.le_refl _) w8 D _ _ (by have := hbel.size; have := HDn.out; omega) HK8.out rfl rfl)⟩
end Go.Proofs.YtfljijpkeckeaaaGreatDoor.X
namespace Go.Proofs.YtfljijpkeckeaaaGreatDoor.X
open Go.RowKit Go.Proofs.YtfljijpkeckeaaaGreatDoorW.PrintWords Go.Proofs.YtfljijpkeckeaaaGreatDoorW.PrintMore
set_option linter.unusedVariables false
set_option linter.unusedSimpArgs false
theorem kd_bad {v k : ByteArray} {q : Bool} {used op exp delta : Int} {words : List ByteArray} {many : Nat} {wrong : ByteArray} (hn : words.length = many) (h0 : words.getD 0 ⟨#[]⟩ = k) (hk : keyS k = false) : keyedSt v q used words many op exp delta wrong = stepF used badT := by
  unfold keyedSt
  rw [if_neg (fun h => h hn), h0, if_pos hk]
theorem kd_wrong {v k : ByteArray} {q : Bool} {used op exp delta : Int} {words : List ByteArray} {many : Nat} {wrong : ByteArray} (hn : words.length = many) (h0 : words.getD 0 ⟨#[]⟩ = k) (hk : keyS k = true) (hw : wrong.size ≠ 0) : keyedSt v q used words many op exp delta wrong = stepF used wrong := by
  unfold keyedSt
  rw [if_neg (fun h => h hn), h0, if_neg (by rw [hk]; decide), if_pos hw]
theorem kd_ok {v k : ByteArray} {q : Bool} {used op exp delta : Int} {words : List ByteArray} {many : Nat} (hn : words.length = many) (h0 : words.getD 0 ⟨#[]⟩ = k) (hk : keyS k = true) : keyedSt v q used words many op exp delta ⟨#[]⟩ = stepO used (formT v q [k]) (cmdK op exp delta k) := by
  unfold keyedSt
  rw [if_neg (fun h => h hn), h0, if_neg (by rw [hk]; decide), if_neg (by decide)]
theorem sgn0 : sgnS (⟨#[48]⟩ : ByteArray) = (0, true) := by decide
end Go.Proofs.YtfljijpkeckeaaaGreatDoor.X
namespace Go.Proofs.YtfljijpkeckeaaaGreatDoor.X
open Go.RowKit Go.Proofs.YtfljijpkeckeaaaGreatDoorW.PrintWords Go.Proofs.YtfljijpkeckeaaaGreatDoorW.PrintMore
set_option linter.unusedVariables false
set_option linter.unusedSimpArgs false
/-- What the first bytes of a connection are. -/
def parseS (l : List Int) : Step :=
  if (lineS l).2.2 = 3 then stepM else if (lineS l).2.2 = 4 then stepFS (lineS l).2.1 longT 0 (l.getD ((lineS l).2.1.toNat - 1) 0 != 10)
  else parseW (lineS l).2.1 (l.drop (lineS l).2.1.toNat) (wordsB (lineS l).1)
theorem lineS_cases (l : List Int) : lineS l = (⟨#[]⟩, 0, 3) ∨ (∃ m : Nat, m < l.length ∧ lineS l = (⟨#[]⟩, (m : Int) + 1, 4)) ∨ (∃ (m : Nat) (t : ByteArray), m < l.length ∧ lineS l = (t, (m : Int) + 1, 0) ∧ t.size ≤ 2048) := by
  unfold lineS
  cases h : nlI l with
  | none =>
    dsimp only
    by_cases h1 : l.length > 2049
    · rw [if_pos h1]
      refine .inr (.inl ⟨l.length - 1, by omega, ?_⟩)
      have : ((l.length - 1 : Nat) : Int) + 1 = l.length := by omega
      rw [this]
    · rw [if_neg h1]
      exact .inl rfl
  | some i =>
    have hi := (nlI_lt l i h).1
    dsimp only
    generalize he : (if 0 < i ∧ l.getD (i - 1) 0 = 13 then i - 1 else i) = e
    by_cases h1 : e > 2048
    · rw [if_pos h1]
      exact .inr (.inl ⟨i, hi, rfl⟩)
    · rw [if_neg h1]
      refine .inr (.inr ⟨i, _, hi, rfl, ?_⟩)
      have : (strOfNums (l.take e)).size = (l.take e).length := by
        unfold strOfNums
        simp [ByteArray.size]
      rw [this, List.length_take]
      omega
/-! ### More bytes used -/
def shiftU (d : Int) (s : Step) : Step := if s.e = 3 then s else { s with used := s.used + d }
theorem sh_ite (d : Int) (c : Prop) [Decidable c] (a b : Step) : shiftU d (if c then a else b) = if c then shiftU d a else shiftU d b := by split <;> rfl
theorem sh_F (d used : Int) (r : ByteArray) : shiftU d (stepF used r) = stepF (used + d) r := if_neg (show ¬ (2 : Int) = 3 by decide)
theorem sh_FS (d used : Int) (r : ByteArray) (k : Int) (b : Bool) : shiftU d (stepFS used r k b) = stepFS (used + d) r k b := if_neg (show ¬ (2 : Int) = 3 by decide)
theorem sh_O (d used : Int) (f : Form) (c : Cmd) : shiftU d (stepO used f c) = stepO (used + d) f c := if_neg (show ¬ (0 : Int) = 3 by decide)
theorem sh_G (d used : Int) (v : ByteArray) (op exp : Int) (keys : List ByteArray) : shiftU d (stepG used v op exp keys) = stepG (used + d) v op exp keys := if_neg (show ¬ (0 : Int) = 3 by decide)
theorem sh_M (d : Int) : shiftU d stepM = stepM := if_pos rfl
theorem sh_keyed (d : Int) (v : ByteArray) (q : Bool) (u : Int) (ws : List ByteArray) (n : Nat) (op exp delta : Int) (wr : ByteArray) : shiftU d (keyedSt v q u ws n op exp delta wr) = keyedSt v q (u + d) ws n op exp delta wr := by
  unfold keyedSt
  simp only [sh_ite, sh_F, sh_O]
theorem sh_del (d : Int) (v : ByteArray) (q : Bool) (u : Int) (ws : List ByteArray) : shiftU d (delS v q u ws) = delS v q (u + d) ws := sh_keyed ..
theorem sh_touch (d : Int) (v : ByteArray) (q : Bool) (u : Int) (ws : List ByteArray) : shiftU d (touchS v q u ws) = touchS v q (u + d) ws := by
  unfold touchS
  simp only [sh_ite, sh_keyed]
theorem sh_sum (d : Int) (v : ByteArray) (q : Bool) (u : Int) (ws : List ByteArray) (op : Int) : shiftU d (sumS v q u ws op) = sumS v q (u + d) ws op := by
  unfold sumS
  simp only [sh_ite, sh_keyed]
theorem sh_flush (d : Int) (v : ByteArray) (q : Bool) (u : Int) (ws : List ByteArray) : shiftU d (flushS v q ws u) = flushS v q ws (u + d) := by
  unfold flushS
  simp only [sh_ite, sh_F, sh_O]
theorem sh_storesR (d : Int) (v : ByteArray) (q : Bool) (u : Int) (r : List Int) (op : Int) (v0 v1 v2 v3 : ByteArray) (cas : Nat × Bool) : shiftU d (storesR v q u r op v0 v1 v2 v3 cas) = storesR v q (u + d) r op v0 v1 v2 v3 cas := by
  unfold storesR
  simp only [sh_ite, sh_FS, sh_O, sh_M, Int.add_right_comm]
theorem sh_stores (d : Int) (v : ByteArray) (q : Bool) (u : Int) (ws : List ByteArray) (r : List Int) (op : Int) (n : Nat) : shiftU d (storesS v q u ws r op n) = storesS v q (u + d) ws r op n := by
  unfold storesS
  simp only [sh_ite, sh_F, sh_storesR]
theorem sh_gets (d : Int) (v : ByteArray) (u : Int) (ws : List ByteArray) (op : Int) : shiftU d (getsS v u ws op) = getsS v (u + d) ws op := by
  unfold getsS
  simp only [sh_ite, sh_F, sh_G]
theorem sh_gats (d : Int) (v : ByteArray) (u : Int) (ws : List ByteArray) : shiftU d (gatsS v u ws) = gatsS v (u + d) ws := by
  unfold gatsS
  simp only [sh_ite, sh_F, sh_G]
theorem sh_bare (d : Int) (v : ByteArray) (n : Nat) (u op : Int) : shiftU d (bareS v n u op) = bareS v n (u + d) op := by
  unfold bareS
  simp only [sh_ite, sh_F, sh_O]
theorem sh_other (d : Int) (v : ByteArray) (q : Bool) (u : Int) (ws : List ByteArray) (r : List Int) : shiftU d (otherS v q u ws r) = otherS v q (u + d) ws r := by
  unfold otherS
  simp only [sh_ite, sh_F, sh_stores, sh_del, sh_sum, sh_touch, sh_flush]
theorem sh_loud (d : Int) (v : ByteArray) (u : Int) (ws : List ByteArray) : (loudS v (u + d) ws).2 = (loudS v u ws).2 ∧ ((loudS v u ws).2 = true → shiftU d (loudS v u ws).1 = (loudS v (u + d) ws).1) := by
  unfold loudS
  by_cases h1 : v = (⟨#[103, 101, 116]⟩ : ByteArray) ∨ v = (⟨#[103, 101, 116, 115]⟩ : ByteArray)
  · simp only [if_pos h1, sh_gets]
    exact ⟨trivial, fun _ => trivial⟩
  by_cases h2 : v = (⟨#[103, 97, 116]⟩ : ByteArray) ∨ v = (⟨#[103, 97, 116, 115]⟩ : ByteArray)
  · simp only [if_neg h1, if_pos h2, sh_gats]
    exact ⟨trivial, fun _ => trivial⟩
  by_cases h3 : v = (⟨#[118, 101, 114, 115, 105, 111, 110]⟩ : ByteArray)
  · simp only [if_neg h1, if_neg h2, if_pos h3, sh_bare]
    exact ⟨trivial, fun _ => trivial⟩
  by_cases h4 : v = (⟨#[113, 117, 105, 116]⟩ : ByteArray)
  · simp only [if_neg h1, if_neg h2, if_neg h3, if_pos h4, sh_bare]
    exact ⟨trivial, fun _ => trivial⟩
  · simp only [if_neg h1, if_neg h2, if_neg h3, if_neg h4]
    exact ⟨trivial, fun h => by cases h⟩
theorem sh_W (d : Int) (u : Int) (r : List Int) (ws : List ByteArray) : shiftU d (parseW u r ws) = parseW (u + d) r ws := by
  cases ws with
  | nil => exact sh_F ..
  | cons v ws =>
    obtain ⟨h1, h2⟩ := sh_loud d v u ws
    unfold parseW
    dsimp only
    rw [h1]
    by_cases h : (loudS v u ws).2 = true
    · rw [if_pos h, if_pos h, h2 h]
    · rw [if_neg h, if_neg h, sh_ite, sh_other, sh_other]
/-! ### More bytes behind -/
theorem body_more (l m : List Int) (n : Int) : (bodyS l n).2.2 = 3 ∨ bodyS (l ++ m) n = bodyS l n := by
  unfold bodyS
  by_cases h0 : n < 0 ∨ n > 1000
  · right; simp only [if_pos h0]
  by_cases h1 : (l.length : Int) < n + 2
  · left; simp only [if_neg h0, if_pos h1]
  · right
    have h2 : ¬ ((l ++ m).length : Int) < n + 2 := by rw [List.length_append]; omega
    have g : ∀ j, j < l.length → (l ++ m).getD j 0 = l.getD j 0 := fun j hj => by
      rw [List.getD_eq_getElem?_getD, List.getD_eq_getElem?_getD, List.getElem?_append_left hj]
    simp only [if_neg h0, if_neg h1, if_neg h2]
    rw [g _ (by omega), g _ (by omega), List.take_append_of_le_length (by omega)]
theorem storesR_more (m : List Int) (v : ByteArray) (q : Bool) (u : Int) (r : List Int) (op : Int) (v0 v1 v2 v3 : ByteArray) (cas : Nat × Bool) : (storesR v q u r op v0 v1 v2 v3 cas).e = 3 ∨ storesR v q u (r ++ m) op v0 v1 v2 v3 cas = storesR v q u r op v0 v1 v2 v3 cas := by
  rcases body_more r m ((decS v3).1 : Int) with h | h
  · unfold storesR
    by_cases h1 : badA (keyS v0) (decS v1).2 (decS v1).1 (sgnS v2).2 (decS v3).2 cas.2 = true
    · right; simp only [if_pos h1]
    by_cases h2 : ((decS v3).1 : Int) > 1000
    · right; simp only [if_neg h1, if_pos h2]
    · left; simp only [if_neg h1, if_neg h2, if_pos h]; rfl
  · right
    unfold storesR
    rw [h]
theorem stores_more (m : List Int) (v : ByteArray) (q : Bool) (u : Int) (ws : List ByteArray) (r : List Int) (op : Int) (n : Nat) : (storesS v q u ws r op n).e = 3 ∨ storesS v q u ws (r ++ m) op n = storesS v q u ws r op n := by
  unfold storesS
  by_cases h : ws.length ≠ n
  · right; simp only [if_pos h]
  · simp only [if_neg h]
    exact storesR_more ..
theorem other_more (m : List Int) (v : ByteArray) (q : Bool) (u : Int) (ws : List ByteArray) (r : List Int) : (otherS v q u ws r).e = 3 ∨ otherS v q u ws (r ++ m) = otherS v q u ws r := by
  unfold otherS
  by_cases q0 : v = (⟨#[115, 101, 116]⟩ : ByteArray)
  · simp only [if_pos q0]; exact stores_more ..
  by_cases q1 : v = (⟨#[97, 100, 100]⟩ : ByteArray)
  · simp only [if_neg q0, if_pos q1]; exact stores_more ..
  by_cases q2 : v = (⟨#[114, 101, 112, 108, 97, 99, 101]⟩ : ByteArray)
  · simp only [if_neg q0, if_neg q1, if_pos q2]; exact stores_more ..
  by_cases q3 : v = (⟨#[97, 112, 112, 101, 110, 100]⟩ : ByteArray)
  · simp only [if_neg q0, if_neg q1, if_neg q2, if_pos q3]; exact stores_more ..
  by_cases q4 : v = (⟨#[112, 114, 101, 112, 101, 110, 100]⟩ : ByteArray)
  · simp only [if_neg q0, if_neg q1, if_neg q2, if_neg q3, if_pos q4]; exact stores_more ..
  by_cases q5 : v = (⟨#[99, 97, 115]⟩ : ByteArray)
  · simp only [if_neg q0, if_neg q1, if_neg q2, if_neg q3, if_neg q4, if_pos q5]; exact stores_more ..
  · simp only [if_neg q0, if_neg q1, if_neg q2, if_neg q3, if_neg q4, if_neg q5]
    right
    trivial
theorem W_more (m : List Int) (u : Int) (r : List Int) (ws : List ByteArray) : (parseW u r ws).e = 3 ∨ parseW u (r ++ m) ws = parseW u r ws := by
  cases ws with
  | nil => exact .inr rfl
  | cons v ws =>
    unfold parseW
    dsimp only
    by_cases h : (loudS v u ws).2 = true
    · right; simp only [if_pos h]
    · simp only [if_neg h]
      by_cases h2 : hushB v ws = true
      · simp only [if_pos h2]; exact other_more ..
      · simp only [if_neg h2]; exact other_more ..
/-! ### What may be -/
def MayC (c : Cmd) : Prop := (keyS c.key = true ∨ 13 ≤ c.op ∧ c.key.size = 0) ∧ c.value.length ≤ 1000 ∧ -1099511627776 ≤ c.exp ∧ c.exp ≤ 1099511627776 ∧ 0 ≤ c.op ∧ c.op ≤ 16
def GoodS (lo hi : Int) (s : Step) : Prop :=
  s = stepM ∨ (∃ u r k b, s = stepFS u r k b ∧ lo ≤ u ∧ u ≤ hi ∧ 0 ≤ k ∧ 0 < r.size ∧ r.size ≤ 1000) ∨
  (∃ u f cs, s = { zStep with req := ⟨cs, f⟩, used := u } ∧ lo ≤ u ∧ u ≤ hi ∧ cs ≠ [] ∧ cs.length ≤ 16 ∧ ∀ c ∈ cs, MayC c)
theorem good_F {lo hi u : Int} {r : ByteArray} (h0 : lo ≤ u) (h1 : u ≤ hi) (h2 : 0 < r.size) (h3 : r.size ≤ 1000) : GoodS lo hi (stepF u r) := .inr (.inl ⟨u, r, 0, false, rfl, h0, h1, by decide, h2, h3⟩)
theorem good_FS {lo hi u k : Int} {r : ByteArray} {b : Bool} (h0 : lo ≤ u) (h1 : u ≤ hi) (hk : 0 ≤ k) (h2 : 0 < r.size) (h3 : r.size ≤ 1000) : GoodS lo hi (stepFS u r k b) := .inr (.inl ⟨u, r, k, b, rfl, h0, h1, hk, h2, h3⟩)
theorem good_O {lo hi u : Int} {f : Form} {c : Cmd} (h0 : lo ≤ u) (h1 : u ≤ hi) (hc : MayC c) : GoodS lo hi (stepO u f c) :=
  .inr (.inr ⟨u, f, [c], rfl, h0, h1, by simp, by simp, fun x hx => by obtain rfl := List.mem_singleton.1 hx; exact hc⟩)
theorem sgn_in (s : ByteArray) : -1099511627776 ≤ (sgnS s).1 ∧ (sgnS s).1 ≤ 1099511627776 := by
  unfold sgnS sgnOf
  split
  · rename_i h
    have := h.2
    dsimp only
    split <;> omega
  · exact ⟨by decide, by decide⟩
theorem good_keyed {lo hi u : Int} (v : ByteArray) (q : Bool) (ws : List ByteArray) (n : Nat) (op exp delta : Int) (wr : ByteArray) (h0 : lo ≤ u) (h1 : u ≤ hi) (ho : 0 ≤ op ∧ op ≤ 16) (he : -1099511627776 ≤ exp ∧ exp ≤ 1099511627776) (hw : wr.size ≤ 1000) : GoodS lo hi (keyedSt v q u ws n op exp delta wr) := by
  unfold keyedSt
  split
  · exact good_F h0 h1 (by decide) (by decide)
  split
  · exact good_F h0 h1 (by decide) (by decide)
  split
  · exact good_F h0 h1 (by omega) hw
  · rename_i hk _
    refine good_O h0 h1 ⟨.inl ?_, by show ([] : List Int).length ≤ 1000; decide, he.1, he.2, ho.1, ho.2⟩
    show keyS (ws.getD 0 ⟨#[]⟩) = true
    revert hk
    cases keyS (ws.getD 0 ⟨#[]⟩)
    · intro h; exact absurd rfl h
    · intro _; rfl
theorem good_storesR {lo u : Int} (v : ByteArray) (q : Bool) (r : List Int) (op : Int) (v0 v1 v2 v3 : ByteArray) (cas : Nat × Bool) (h0 : lo ≤ u) (ho : 0 ≤ op ∧ op ≤ 16) : GoodS lo (u + r.length) (storesR v q u r op v0 v1 v2 v3 cas) := by
  have hsk : 0 ≤ skipN (decS v3) := by
    unfold skipN
    split <;> omega
  unfold storesR
  split
  · exact good_FS h0 (by omega) hsk (by decide) (by decide)
  rename_i hb
  split
  · exact good_FS h0 (by omega) hsk (by decide) (by decide)
  rename_i hl
  have hz1 : ((decS v3).1 : Int) ≤ 1000 := by omega
  generalize decS v3 = z at *
  have hB : (bodyS r z.1).2.2 = 3 ∨ (0 ≤ (bodyS r z.1).2.1 ∧ (bodyS r z.1).2.1 ≤ r.length ∧ (bodyS r z.1).1.length ≤ 1000) := by
    unfold bodyS
    rw [if_neg (by omega)]
    split
    · exact .inl rfl
    · rename_i hn
      right
      split
      · dsimp only
        rw [List.length_take]
        omega
      · dsimp only
        simp only [List.length_nil]
        omega
  split
  · exact .inl rfl
  rename_i h3
  obtain ⟨hB0, hB1, hB2⟩ := hB.resolve_left h3
  split
  · exact good_FS (by omega) (by omega) (by decide) (by decide) (by decide)
  · refine good_O (by omega) (by omega) ⟨.inl ?_, hB2, (sgn_in v2).1, (sgn_in v2).2, ho.1, ho.2⟩
    show keyS v0 = true
    revert hb
    unfold badA
    cases keyS v0
    · intro h; exact absurd rfl h
    · intro _; rfl
theorem good_stores {lo u : Int} (v : ByteArray) (q : Bool) (ws : List ByteArray) (r : List Int) (op : Int) (n : Nat) (h0 : lo ≤ u) (ho : 0 ≤ op ∧ op ≤ 16) : GoodS lo (u + r.length) (storesS v q u ws r op n) := by
  unfold storesS
  split
  · exact good_F h0 (by omega) (by decide) (by decide)
  · exact good_storesR _ _ _ _ _ _ _ _ _ h0 ho
theorem good_other {lo u : Int} (v : ByteArray) (q : Bool) (ws : List ByteArray) (r : List Int) (h0 : lo ≤ u) : GoodS lo (u + r.length) (otherS v q u ws r) := by
  have h1 : u ≤ u + r.length := by omega
  have hk : ∀ (v : ByteArray) (n : Nat) (op exp delta : Int) (wr : ByteArray), (0 ≤ op ∧ op ≤ 16) → (-1099511627776 ≤ exp ∧ exp ≤ 1099511627776) → wr.size ≤ 1000 → GoodS lo (u + r.length) (keyedSt v q u ws n op exp delta wr) := fun v n op exp delta wr a b c => good_keyed v q ws n op exp delta wr h0 h1 a b c
  have hs : ∀ op, GoodS lo (u + r.length) (sumS v q u ws op) ∨ ¬ (0 ≤ op ∧ op ≤ 16) := fun op => by
    by_cases ho : 0 ≤ op ∧ op ≤ 16
    · left
      unfold sumS
      split
      · exact hk _ _ _ _ _ _ ho (by decide) (by decide)
      · exact hk _ _ _ _ _ _ (by decide) (by decide) (by decide)
    · exact .inr ho
  unfold otherS
  by_cases q0 : v = (⟨#[115, 101, 116]⟩ : ByteArray)
  · rw [if_pos q0]
    exact good_stores _ _ _ _ _ _ h0 (by decide)
  rw [if_neg q0]
  by_cases q1 : v = (⟨#[97, 100, 100]⟩ : ByteArray)
  · rw [if_pos q1]
    exact good_stores _ _ _ _ _ _ h0 (by decide)
  rw [if_neg q1]
  by_cases q2 : v = (⟨#[114, 101, 112, 108, 97, 99, 101]⟩ : ByteArray)
  · rw [if_pos q2]
    exact good_stores _ _ _ _ _ _ h0 (by decide)
  rw [if_neg q2]
  by_cases q3 : v = (⟨#[97, 112, 112, 101, 110, 100]⟩ : ByteArray)
  · rw [if_pos q3]
    exact good_stores _ _ _ _ _ _ h0 (by decide)
  rw [if_neg q3]
  by_cases q4 : v = (⟨#[112, 114, 101, 112, 101, 110, 100]⟩ : ByteArray)
  · rw [if_pos q4]
    exact good_stores _ _ _ _ _ _ h0 (by decide)
  rw [if_neg q4]
  by_cases q5 : v = (⟨#[99, 97, 115]⟩ : ByteArray)
  · rw [if_pos q5]
    exact good_stores _ _ _ _ _ _ h0 (by decide)
  rw [if_neg q5]
  by_cases q6 : v = (⟨#[100, 101, 108, 101, 116, 101]⟩ : ByteArray)
  · rw [if_pos q6]
    exact hk _ _ _ _ _ _ (by decide) (by decide) (by decide)
  rw [if_neg q6]
  by_cases q7 : v = (⟨#[105, 110, 99, 114]⟩ : ByteArray)
  · rw [if_pos q7]
    exact (hs 10).resolve_right (fun h => h (by decide))
  rw [if_neg q7]
  by_cases q8 : v = (⟨#[100, 101, 99, 114]⟩ : ByteArray)
  · rw [if_pos q8]
    exact (hs 11).resolve_right (fun h => h (by decide))
  rw [if_neg q8]
  by_cases q9 : v = (⟨#[116, 111, 117, 99, 104]⟩ : ByteArray)
  · rw [if_pos q9]
    unfold touchS
    split
    · exact hk _ _ _ _ _ _ (by decide) (sgn_in _) (by decide)
    · exact hk _ _ _ _ _ _ (by decide) (by decide) (by decide)
  rw [if_neg q9]
  by_cases q10 : v = (⟨#[102, 108, 117, 115, 104, 95, 97, 108, 108]⟩ : ByteArray)
  · rw [if_pos q10]
    unfold flushS
    split
    · exact good_F h0 h1 (by decide) (by decide)
    split
    · refine good_O h0 h1 ⟨.inr ⟨by show (13 : Int) ≤ 13; decide, rfl⟩, by show ([] : List Int).length ≤ 1000; decide, ?_, ?_, by show (0 : Int) ≤ 13; decide, by show (13 : Int) ≤ 16; decide⟩
      · show _ ≤ (expF ws).1
        unfold expF
        split
        · decide
        · exact (sgn_in _).1
      · show (expF ws).1 ≤ _
        unfold expF
        split
        · decide
        · exact (sgn_in _).2
    · exact good_F h0 h1 (by decide) (by decide)
  rw [if_neg q10]
  exact good_F h0 h1 (by decide) (by decide)
theorem keysS_good {ks : List ByteArray} (h : ¬ keysS ks = false) : ks.length ≤ 16 ∧ ∀ k ∈ ks, keyS k = true := by
  have h : keysS ks = true := by revert h; cases keysS ks <;> simp
  unfold keysS at h
  rw [Bool.and_eq_true, decide_eq_true_eq, Bool.not_eq_true', List.any_eq_false] at h
  refine ⟨h.1, fun k hk => ?_⟩
  have := h.2 k hk
  unfold badK at this
  revert this
  cases keyS k <;> simp
theorem good_G {lo hi u : Int} (v : ByteArray) (op exp : Int) (ks : List ByteArray) (h0 : lo ≤ u) (h1 : u ≤ hi) (hn : ks.length ≠ 0) (hk : ¬ keysS ks = false) (ho : 0 ≤ op ∧ op ≤ 16) (he : -1099511627776 ≤ exp ∧ exp ≤ 1099511627776) : GoodS lo hi (stepG u v op exp ks) := by
  obtain ⟨hl, hks⟩ := keysS_good hk
  refine .inr (.inr ⟨u, _, _, rfl, h0, h1, ?_, by rw [List.length_map]; exact hl, ?_⟩)
  · intro h
    rw [List.map_eq_nil_iff] at h
    exact hn (by rw [h]; rfl)
  · intro c hc
    obtain ⟨k, hk, rfl⟩ := List.mem_map.1 hc
    exact ⟨.inl (hks k hk), by show ([] : List Int).length ≤ 1000; decide, he.1, he.2, ho.1, ho.2⟩
theorem good_loud {lo hi u : Int} (v : ByteArray) (ws : List ByteArray) (h0 : lo ≤ u) (h1 : u ≤ hi) (hb : (loudS v u ws).2 = true) : GoodS lo hi (loudS v u ws).1 := by
  have hb' : ∀ op, (0 ≤ op ∧ op ≤ 16 ∧ 13 ≤ op) → GoodS lo hi (bareS v ws.length u op) := fun op ho => by
    unfold bareS
    split
    · exact good_O h0 h1 ⟨.inr ⟨ho.2.2, rfl⟩, by show ([] : List Int).length ≤ 1000; decide, by show _ ≤ (0 : Int); decide, by show (0 : Int) ≤ _; decide, ho.1, ho.2.1⟩
    · exact good_F h0 h1 (by decide) (by decide)
  unfold loudS at hb ⊢
  split
  · show GoodS lo hi (getsS v u ws 0)
    unfold getsS
    split
    · exact good_F h0 h1 (by decide) (by decide)
    split
    · exact good_F h0 h1 (by decide) (by decide)
    · exact good_G _ _ _ _ h0 h1 (by assumption) (by assumption) (by decide) (by decide)
  split
  · show GoodS lo hi (gatsS v u ws)
    unfold gatsS
    split
    · exact good_F h0 h1 (by decide) (by decide)
    split
    · exact good_F h0 h1 (by decide) (by decide)
    split
    · exact good_F h0 h1 (by decide) (by decide)
    · refine good_G _ _ _ _ h0 h1 ?_ (by assumption) (by decide) (sgn_in _)
      rw [List.length_tail]
      omega
  split
  · exact hb' 15 (by decide)
  split
  · exact hb' 16 (by decide)
  · rename_i h1 h2 h3 h4
    rw [if_neg h1, if_neg h2, if_neg h3, if_neg h4] at hb
    cases hb
theorem good_W {lo u : Int} (r : List Int) (ws : List ByteArray) (h0 : lo ≤ u) : GoodS lo (u + r.length) (parseW u r ws) := by
  cases ws with
  | nil => exact good_F h0 (by omega) (by decide) (by decide)
  | cons v ws =>
    unfold parseW
    dsimp only
    split
    · exact good_loud _ _ h0 (by omega) (by assumption)
    split
    · exact good_other _ _ _ _ h0
    · exact good_other _ _ _ _ h0
theorem good_parse (l : List Int) : GoodS 1 l.length (parseS l) := by
  unfold parseS
  rcases lineS_cases l with h | ⟨m, hm, h⟩ | ⟨m, t, hm, h, ht⟩
  · rw [h]
    exact .inl rfl
  · rw [h, if_neg (by dsimp only; decide), if_pos rfl]
    exact good_FS (by dsimp only; omega) (by dsimp only; omega) (by decide) (by decide) (by decide)
  · rw [h, if_neg (by dsimp only; decide), if_neg (by dsimp only; decide)]
    dsimp only
    have := good_W (lo := 1) (u := (m : Int) + 1) (l.drop ((m : Int) + 1).toNat) (wordsB t) (by omega)
    rw [List.length_drop, show ((m : Int) + 1 + ((l.length - ((m : Int) + 1).toNat : Nat) : Int)) = l.length by omega] at this
    exact this
theorem parse_M {l : List Int} (h : lineS l = (⟨#[]⟩, 0, 3)) : parseS l = stepM := by
  unfold parseS
  rw [h]
  rfl
theorem parse_L {l : List Int} {m : Nat} (h : lineS l = (⟨#[]⟩, (m : Int) + 1, 4)) : parseS l = stepFS ((m : Int) + 1) longT 0 (l.getD m 0 != 10) := by
  unfold parseS
  rw [h, if_neg (by dsimp only; decide), if_pos rfl]
  dsimp only
  rw [show ((m : Int) + 1).toNat - 1 = m by omega]
theorem parse_T {l : List Int} {m : Nat} {t : ByteArray} (h : lineS l = (t, (m : Int) + 1, 0)) : parseS l = parseW ((m : Int) + 1) (l.drop (m + 1)) (wordsB t) := by
  unfold parseS
  rw [h, if_neg (by dsimp only; decide), if_neg (by dsimp only; decide)]
  dsimp only
  rw [show ((m : Int) + 1).toNat = m + 1 by omega]
end Go.Proofs.YtfljijpkeckeaaaGreatDoor.X
namespace Go.Proofs.YtfljijpkeckeaaaGreatDoor.X
open Go.RowKit Go.Proofs.YtfljijpkeckeaaaGreatDoorW.PrintWords Go.Proofs.YtfljijpkeckeaaaGreatDoorW.PrintMore
set_option linter.unusedVariables false
set_option linter.unusedSimpArgs false
theorem parse_calls (l : List Int) (A : Option Addr) (c : Nat) (w : World) (hC : (Kd.int .u8).C w A l.length l) (hc : l.length ≤ c) (hl : l.length ≤ 1000000) (h8 : B8 l) (hT : Tabs w) :
    Calls Tryz.prog 12 #[.slice A l.length c] w (StepR (fun _ => True) w (parseS l)) := by
  rcases lineS_cases l with h | ⟨m, hm, h⟩ | ⟨m, t, hm, h, ht⟩
  · rw [parse_M h]
    exact parse_more l A c _ w hC hc hl h8 h
  · rw [parse_L h]
    exact parse_long l A c m _ w hC hc hl h8 h hm
  · rw [parse_T h]
    exact parse_go l A c m t w hC hc hl h8 h hm (by omega) hT
end Go.Proofs.YtfljijpkeckeaaaGreatDoor.X
namespace Go.Proofs.YtfljijpkeckeaaaGreatDoor.X
open Go.RowKit Go.Proofs.YtfljijpkeckeaaaGreatDoorW.PrintWords Go.Proofs.YtfljijpkeckeaaaGreatDoorW.PrintMore Go.Proofs.YtfljijpkeckeaaaGreatDoorW.PrintLast
set_option linter.unusedVariables false
set_option linter.unusedSimpArgs false
theorem texts_ev (a : List ByteArray) (hl : a.length ≤ 9223372036854775807) : Ev (fun k => butterylaw14_texts.f k a a) true := by
  have g : ∀ (d i : Nat), i + d = a.length → Ev (fun k => butterylaw14_texts.l0 k a a i) true := by
    intro d
    induction d with
    | zero =>
      intro i hd
      exact Ev.step (fun k => by rw [butterylaw14_texts.l0]) (Ev.neg (by omega) (Ev.now _))
    | succ d ih =>
      intro i hd
      refine Ev.step (fun k => by rw [butterylaw14_texts.l0]) (Ev.pos (by omega) (Ev.pos (by omega) (Ev.pos (by omega) (Ev.pos rfl ?_))))
      rw [w64 _ (by omega) (by omega)]
      exact ih (i + 1) (by omega)
  unfold butterylaw14_texts.f
  exact Ev.pos rfl (g a.length 0 (by omega))
theorem texts_same (l : List ByteArray) (A B : Option Addr) (n c d : Nat) (w : World) (hn : l.length = n) (hA : Kd.string.C w A n l) (hc : n ≤ c) (hB : Kd.string.C w B n l) (hd : n ≤ d) :
    Calls Tryz.prog 35 #[.slice A n c, .slice B n d] w fun e w' => e = .returned (.bool true) ∧ Below w.heap.size w w' := by
  subst hn
  obtain ⟨K, hK⟩ := texts_ev l hA.2.1
  exact (butterylaw14_texts.calls K A c l B d l true w hA hc hB hd (hK K (Nat.le_refl _))).mono fun e w' ⟨he, hd⟩ => ⟨he, hd.below⟩
section
variable {P : Program} {ops : Array Oper} {rest : List Oper} {o : Oper} {a : Act} {Q : Exit → Act → World → Prop} {W : World}
/-- An arm: 'string(b)' under a guard that says yes. -/
theorem wp_strofG (hw : Region.wanted o (yielded ops a.tmps) = true) (src dst e : TypeId) (x : Operand) (ho : o.op = .convert src dst x) (A : Option Addr) (n c : Nat) (xs : List Int) (hx : a.eval x = .slice A n c)
    (hs : P.underlying src = some (.slice e)) (he : P.underlying e = some (.int .u8)) (hd : P.underlying dst = some .string) (hC : (Kd.int .u8).C W A n xs)
    (h : wpList P ops Q rest (a.put o.dst (.string (strOfNums xs))) W) : wpList P ops Q (o :: rest) a W := by
  have hr := Kd.C_string (c := c) hs he hd hC
  rw [wpList, if_pos hw]
  left
  unfold Oper.wp
  have hrun : (execOp a.eval o).run P W = .ok (.value (.string (strOfNums xs))) W := by simp [execOp, ho, hx, hr]
  rw [hrun]
  exact h
end
set_option maxRecDepth 100000 in
set_option maxHeartbeats 1000000 in
theorem cmds_same (x : Cmd) (cx cy : List Value) (w : World) (hx : kCmd.K w x cx) (hy : kCmd.K w x cy) :
    Calls Tryz.prog 34 #[.agg cx.toArray, .agg cy.toArray] w fun e w' => e = .returned (.bool true) ∧ Below w.heap.size w w' := by
  have HB := Aside0.mk (Below.refl w.heap.size w)
  obtain ⟨A2, c2, rfl, hl2, hg2⟩ := kCmd_open hx
  obtain ⟨A3, c3, rfl, hl3, hg3⟩ := kCmd_open hy
  have HX := Aside0.mk hg2
  have HY := Aside0.mk hg3
  have r2 : (convert 22 9 (.slice A2 x.value.length c2)).run Tryz.prog ((w.alloc (.cells #[.int .i64 x.op, .string x.key, .slice A2 x.value.length c2, .int .u32 x.flags, .int .i64 x.exp, .int .u64 x.cas, .int .u64 x.delta, .int .u64 x.initial, .bool x.makes, .bool x.sets] 40 (0, 0))).alloc (.cells #[.int .i64 x.op, .string x.key, .slice A3 x.value.length c3, .int .u32 x.flags, .int .i64 x.exp, .int .u64 x.cas, .int .u64 x.delta, .int .u64 x.initial, .bool x.makes, .bool x.sets] 40 (0, 0))) = .ok (.string (strOfNums x.value)) ((w.alloc (.cells #[.int .i64 x.op, .string x.key, .slice A2 x.value.length c2, .int .u32 x.flags, .int .i64 x.exp, .int .u64 x.cas, .int .u64 x.delta, .int .u64 x.initial, .bool x.makes, .bool x.sets] 40 (0, 0))).alloc (.cells #[.int .i64 x.op, .string x.key, .slice A3 x.value.length c3, .int .u32 x.flags, .int .i64 x.exp, .int .u64 x.cas, .int .u64 x.delta, .int .u64 x.initial, .bool x.makes, .bool x.sets] 40 (0, 0))) := Kd.C_string Tryz.underlying22 Tryz.underlying5 Tryz.underlying9 (Kd.C_below HX.out (by repeat (first | (with_reducible first | exact HB.out | apply below_alloc | apply pw_below_drewN | apply below_drew1) | exact HB.out)))
  have r3 : (convert 22 9 (.slice A3 x.value.length c3)).run Tryz.prog ((w.alloc (.cells #[.int .i64 x.op, .string x.key, .slice A2 x.value.length c2, .int .u32 x.flags, .int .i64 x.exp, .int .u64 x.cas, .int .u64 x.delta, .int .u64 x.initial, .bool x.makes, .bool x.sets] 40 (0, 0))).alloc (.cells #[.int .i64 x.op, .string x.key, .slice A3 x.value.length c3, .int .u32 x.flags, .int .i64 x.exp, .int .u64 x.cas, .int .u64 x.delta, .int .u64 x.initial, .bool x.makes, .bool x.sets] 40 (0, 0))) = .ok (.string (strOfNums x.value)) ((w.alloc (.cells #[.int .i64 x.op, .string x.key, .slice A2 x.value.length c2, .int .u32 x.flags, .int .i64 x.exp, .int .u64 x.cas, .int .u64 x.delta, .int .u64 x.initial, .bool x.makes, .bool x.sets] 40 (0, 0))).alloc (.cells #[.int .i64 x.op, .string x.key, .slice A3 x.value.length c3, .int .u32 x.flags, .int .i64 x.exp, .int .u64 x.cas, .int .u64 x.delta, .int .u64 x.initial, .bool x.makes, .bool x.sets] 40 (0, 0))) := Kd.C_string Tryz.underlying22 Tryz.underlying5 Tryz.underlying9 (Kd.C_below HY.out (by repeat (first | (with_reducible first | exact HB.out | apply below_alloc | apply pw_below_drewN | apply below_drew1) | exact HB.out)))
  clear hx hy hg2 hg3
  go_enter Tryz.func34, Tryz.ntmps34
  go_wp2
  go_ret
  exact ⟨rfl, (by repeat (first | (with_reducible first | exact HB.out | apply below_alloc | apply pw_below_drewN | apply below_drew1) | exact HB.out))⟩

/-- A command in a row of them. -/
theorem cmd_v {w : World} {A : Option Addr} {n : Nat} {xs : List Cmd} (h : kCmd.C w A n xs) (i : Nat) (x : Cmd) (hx : xs[i]? = some x) : ∃ b o A2 c2, A = some ⟨b, o, none⟩ ∧ b < w.heap.size ∧
    w.rangeAt b (o + i * 10) [.int .i64 x.op, .string x.key, .slice A2 x.value.length c2, .int .u32 x.flags, .int .i64 x.exp, .int .u64 x.cas, .int .u64 x.delta, .int .u64 x.initial, .bool x.makes, .bool x.sets] ∧ x.value.length ≤ c2 ∧ (Kd.int .u8).C w A2 x.value.length x.value := by
  have hlt := (List.getElem?_eq_some_iff.1 hx).1
  obtain ⟨ad, rfl, hc⟩ := h.2.2 (by rw [← h.1]; omega)
  obtain ⟨cs, hlen, hK, hcell⟩ := hc i x hx
  obtain ⟨A2, c2, rfl, hl2, hC2⟩ := kCmd_open hK
  obtain ⟨cs0, hlen0, hK0, hcell0⟩ := hc 0 _ (List.getElem?_eq_getElem (show 0 < xs.length by omega))
  have h0 := hcell0 0 _ (List.getElem?_eq_getElem (show 0 < cs0.length by rw [hlen0]; decide))
  rw [Nat.zero_mul, Nat.zero_add, Addr.add_zero'] at h0
  obtain ⟨b, o, rfl, hb0⟩ := addr_plain h0
  refine ⟨b, o, A2, c2, rfl, hb0, fun j v hj => ?_, hl2, hC2⟩
  have := hcell j v hj
  have e1 : (⟨b, o, none⟩ : Addr).add (i * kCmd.sz + j) = ⟨b, o + i * 10 + j, none⟩ := by
    rw [Addr.add_mid]
    congr 1
    show o + (i * 10 + j) = o + i * 10 + j
    omega
  rw [e1] at this
  exact this
theorem range_below {w w1 : World} {b o : Nat} {cs : List Value} (h : w.rangeAt b o cs) {B : Nat} (hB : Below B w w1) (hbB : b < B) : w1.rangeAt b o cs := fun j v hj =>
  (hB.cell (p := ⟨b, o + j, none⟩) hbB).trans (h j v hj)
set_option maxRecDepth 100000 in
set_option maxHeartbeats 2000000 in
theorem requests_same (q : Request) (cx cy : List Value) (w : World) (hx : kRequest.K w q cx) (hy : kRequest.K w q cy) :
    Calls Tryz.prog 16 #[.agg cx.toArray, .agg cy.toArray] w fun e w' => e = .returned (.bool true) ∧ Below w.heap.size w w' := by
  obtain ⟨A0, c0, A8, c8, A9, c9, rfl, hl0, hC0, hl8, hC8, hl9, hC9⟩ := kRequest_open hx
  obtain ⟨D0, d0, D8, d8, D9, d9, rfl, hm0, hD0, hm8, hD8, hm9, hD9⟩ := kRequest_open hy
  have hcl : q.cmds.length ≤ 9223372036854775807 := hC0.2.1
  have HCX := Aside0.mk hC0
  have HCY := Aside0.mk hD0
  have HT := Aside0.mk (And.intro hC8 (And.intro hD8 (And.intro hC9 hD9)))
  clear hx hy hC0 hC8 hC9 hD0 hD8 hD9
  go_enter Tryz.func16, Tryz.ntmps16
  go_upto_region 3 with fail
  obtain ⟨W0, hW0⟩ : ∃ W0, (((w.alloc (.cells #[.slice A0 q.cmds.length c0, .int .i64 q.form.dialect, .string q.form.verb, .int .i64 q.form.code, .int .u32 q.form.opq, .bool q.form.quiet, .bool q.form.withcas, .string q.form.flags, .slice A8 q.form.tokens.length c8, .slice A9 q.form.keys.length c9, .bool q.form.base64] 31 (0, 0))).alloc (.cells #[.slice D0 q.cmds.length d0, .int .i64 q.form.dialect, .string q.form.verb, .int .i64 q.form.code, .int .u32 q.form.opq, .bool q.form.quiet, .bool q.form.withcas, .string q.form.flags, .slice D8 q.form.tokens.length d8, .slice D9 q.form.keys.length d9, .bool q.form.base64] 31 (0, 0))).alloc (.cells #[.int .i64 q.form.dialect, .string q.form.verb, .int .i64 q.form.code, .int .u32 q.form.opq, .bool q.form.quiet, .bool q.form.withcas, .string q.form.flags, .slice A8 q.form.tokens.length c8, .slice A9 q.form.keys.length c9, .bool q.form.base64] 29 (0, 0))).alloc (.cells #[.int .i64 q.form.dialect, .string q.form.verb, .int .i64 q.form.code, .int .u32 q.form.opq, .bool q.form.quiet, .bool q.form.withcas, .string q.form.flags, .slice D8 q.form.tokens.length d8, .slice D9 q.form.keys.length d9, .bool q.form.base64] 29 (0, 0)) = W0 := ⟨_, rfl⟩
  rw [hW0]
  have B2 := Aside0.mk (show W0.heap[w.heap.size]? = _ from hW0 ▸ blk_alloc (blk_alloc (blk_alloc (blk_at_new _ _ _ rfl) _) _) _)
  have B3 := Aside0.mk (show W0.heap[w.heap.size + 1]? = _ from hW0 ▸ blk_alloc (blk_alloc (blk_at_new _ _ _ (by simp)) _) _)
  have B5 := Aside0.mk (show W0.heap[w.heap.size + 1 + 1]? = _ from hW0 ▸ blk_alloc (blk_at_new _ _ _ (by simp)) _)
  have B6 := Aside0.mk (show W0.heap[w.heap.size + 1 + 1 + 1]? = _ from hW0 ▸ blk_at_new _ _ _ (by simp))
  have HBW : Aside0 (Below w.heap.size w W0) := ⟨hW0 ▸ below_alloc (below_alloc (below_alloc (below_alloc (Below.refl _ _) _) _) _) _⟩
  have HB0 := Aside0.mk (Below.refl W0.heap.size W0)
  have l0 := Aside0.mk (blk_lt B2.out)
  have l1 := Aside0.mk (blk_lt B3.out)
  have l2 := Aside0.mk (blk_lt B5.out)
  have l3 := Aside0.mk (blk_lt B6.out)
  have HCX0 := Aside0.mk (Kd.C_below HCX.out HBW.out)
  have HCY0 := Aside0.mk (Kd.C_below HCY.out HBW.out)
  have HTX : Aside0 (∀ w', Below W0.heap.size W0 w' → Calls Tryz.prog 35 #[.slice A8 q.form.tokens.length c8, .slice D8 q.form.tokens.length d8] w' fun e w'' => e = .returned (.bool true) ∧ Below w'.heap.size w' w'') := ⟨fun w' hb => texts_same _ _ _ _ _ _ w' rfl (Kd.C_below (Kd.C_below HT.out.1 HBW.out) hb) hl8 (Kd.C_below (Kd.C_below HT.out.2.1 HBW.out) hb) hm8⟩
  have HTY : Aside0 (∀ w', Below W0.heap.size W0 w' → Calls Tryz.prog 35 #[.slice A9 q.form.keys.length c9, .slice D9 q.form.keys.length d9] w' fun e w'' => e = .returned (.bool true) ∧ Below w'.heap.size w' w'') := ⟨fun w' hb => texts_same _ _ _ _ _ _ w' rfl (Kd.C_below (Kd.C_below HT.out.2.2.1 HBW.out) hb) hl9 (Kd.C_below (Kd.C_below HT.out.2.2.2 HBW.out) hb) hm9⟩
  clear hW0 HCX HCY HT hl8 hl9 hm8 hm9
  obtain ⟨g0, hg0⟩ : ∃ g, w.heap.size = g := ⟨_, rfl⟩
  rw [hg0] at B2 B3 B5 B6 l0 l1 l2 l3 HBW ⊢
  obtain ⟨g1, hg1⟩ : ∃ g, g0 + 1 = g := ⟨_, rfl⟩
  rw [hg1] at B3 B5 B6 l1 l2 l3 ⊢
  obtain ⟨g2, hg2⟩ : ∃ g, g1 + 1 = g := ⟨_, rfl⟩
  rw [hg2] at B5 B6 l2 l3 ⊢
  obtain ⟨g3, hg3⟩ : ∃ g, g2 + 1 = g := ⟨_, rfl⟩
  rw [hg3] at B6 l3 ⊢
  have HG0 := Aside0.mk hg0
  clear hg0 hg1 hg2 hg3
  have t0 : W0.cell? ⟨g0, 0, none⟩ = some (.slice A0 q.cmds.length c0) := (blk_cell B2.out 0).trans rfl
  have t1 : W0.cell? ⟨g1, 0, none⟩ = some (.slice D0 q.cmds.length d0) := (blk_cell B3.out 0).trans rfl
  have f0 : W0.cell? ⟨g2, 0, none⟩ = some (.int .i64 q.form.dialect) := (blk_cell B5.out 0).trans rfl
  have f1 : W0.cell? ⟨g2, 1, none⟩ = some (.string q.form.verb) := (blk_cell B5.out 1).trans rfl
  have f2 : W0.cell? ⟨g2, 2, none⟩ = some (.int .i64 q.form.code) := (blk_cell B5.out 2).trans rfl
  have f3 : W0.cell? ⟨g2, 3, none⟩ = some (.int .u32 q.form.opq) := (blk_cell B5.out 3).trans rfl
  have f4 : W0.cell? ⟨g2, 4, none⟩ = some (.bool q.form.quiet) := (blk_cell B5.out 4).trans rfl
  have f5 : W0.cell? ⟨g2, 5, none⟩ = some (.bool q.form.withcas) := (blk_cell B5.out 5).trans rfl
  have f6 : W0.cell? ⟨g2, 6, none⟩ = some (.string q.form.flags) := (blk_cell B5.out 6).trans rfl
  have f9 : W0.cell? ⟨g2, 9, none⟩ = some (.bool q.form.base64) := (blk_cell B5.out 9).trans rfl
  have h0 : W0.cell? ⟨g3, 0, none⟩ = some (.int .i64 q.form.dialect) := (blk_cell B6.out 0).trans rfl
  have h1 : W0.cell? ⟨g3, 1, none⟩ = some (.string q.form.verb) := (blk_cell B6.out 1).trans rfl
  have h2 : W0.cell? ⟨g3, 2, none⟩ = some (.int .i64 q.form.code) := (blk_cell B6.out 2).trans rfl
  have h3 : W0.cell? ⟨g3, 3, none⟩ = some (.int .u32 q.form.opq) := (blk_cell B6.out 3).trans rfl
  have h4 : W0.cell? ⟨g3, 4, none⟩ = some (.bool q.form.quiet) := (blk_cell B6.out 4).trans rfl
  have h5 : W0.cell? ⟨g3, 5, none⟩ = some (.bool q.form.withcas) := (blk_cell B6.out 5).trans rfl
  have h6 : W0.cell? ⟨g3, 6, none⟩ = some (.string q.form.flags) := (blk_cell B6.out 6).trans rfl
  have h9 : W0.cell? ⟨g3, 9, none⟩ = some (.bool q.form.base64) := (blk_cell B6.out 9).trans rfl
  go_wp2
  clear f0 f1 f2 f3 f4 f5 f6 f9 h0 h1 h2 h3 h4 h5 h6 h9 t0 t1
  go_loopw [7] (fun v wr => ∃ k : Nat, v = .int .i64 k ∧ k ≤ q.cmds.length ∧ Aside0 (Below W0.heap.size W0 wr)) (fun v _ => q.cmds.length - (intOf v).toNat)
  case atStart => exact ⟨0, rfl, by omega, ⟨Below.refl _ _⟩⟩
  case round =>
    obtain ⟨k, rfl, hk, HI⟩ := hrel
    clear HB0
    have HB0 := HI
    clear HI
    have t0 : wr.cell? ⟨g0, 0, none⟩ = some (.slice A0 q.cmds.length c0) := (Below.cell HB0.out (p := ⟨g0, 0, none⟩) l0.out).trans ((blk_cell B2.out 0).trans rfl)
    have t1 : wr.cell? ⟨g1, 0, none⟩ = some (.slice D0 q.cmds.length d0) := (Below.cell HB0.out (p := ⟨g1, 0, none⟩) l1.out).trans ((blk_cell B3.out 0).trans rfl)
    by_cases hlt : k < q.cmds.length
    · obtain ⟨x, hx⟩ : ∃ x, q.cmds[k]? = some x := ⟨_, List.getElem?_eq_getElem hlt⟩
      obtain ⟨b1, o1, A2, c2, rfl, hb1, hr1, hl2, hC2⟩ := cmd_v HCX0.out k x hx
      obtain ⟨b2, o2, A3, c3, rfl, hb2, hr2, hl3, hC3⟩ := cmd_v HCY0.out k x hx
      have HR1 := Aside0.mk hr1
      have HR2 := Aside0.mk hr2
      have HK : Aside0 (∀ w', Below W0.heap.size W0 w' → Calls Tryz.prog 34 #[.agg #[.int .i64 x.op, .string x.key, .slice A2 x.value.length c2, .int .u32 x.flags, .int .i64 x.exp, .int .u64 x.cas, .int .u64 x.delta, .int .u64 x.initial, .bool x.makes, .bool x.sets], .agg #[.int .i64 x.op, .string x.key, .slice A3 x.value.length c3, .int .u32 x.flags, .int .i64 x.exp, .int .u64 x.cas, .int .u64 x.delta, .int .u64 x.initial, .bool x.makes, .bool x.sets]] w' fun e w'' => e = .returned (.bool true) ∧ Below w'.heap.size w' w'') := ⟨fun w' hb => cmds_same x _ _ w' (kCmd_mk w' x hl2 (Kd.C_below hC2 hb)) (kCmd_mk w' x hl3 (Kd.C_below hC3 hb))⟩
      have hki : (k : Int) < ↑q.cmds.length := by omega
      clear hx hr1 hr2 hC2 hC3 hl2 hl3
      go_wp2
      (refine wp_region_noPanic ?_; refine wp_region_held_drew (S := fun w' => Below W0.heap.size W0 w') (by kernel_rfl) (below_drew1 HB0.out) ?_; intro hHeld)
      clear t0 t1
      (refine wpAnyH_take (i := 0) (v := ?_) (by simp only [List.getElem?_toArray, List.getElem?_cons_succ, List.getElem?_cons_zero]; rfl) (by kernel_rfl) (by kernel_rfl) (by kernel_rfl) (fun _ _ _ h => h) (Or.inl ⟨by rfl, ?_⟩) (by exact hHeld) ?_; rotate_left; (focus (intro w' hSw; have t0 : w'.cell? ⟨g0, 0, none⟩ = some (.slice (some ⟨b1, o1, none⟩) q.cmds.length c0) := (Below.cell hSw (p := ⟨g0, 0, none⟩) l0.out).trans ((blk_cell B2.out 0).trans rfl); have t1 : w'.cell? ⟨g1, 0, none⟩ = some (.slice (some ⟨b2, o2, none⟩) q.cmds.length d0) := (Below.cell hSw (p := ⟨g1, 0, none⟩) l1.out).trans ((blk_cell B3.out 0).trans rfl); clear hSw; go_simp; (try with_reducible rfl); done)); (try simp only [Act.put, List.setIfInBounds_toArray, List.set_cons_zero, List.set_cons_succ]))
      (refine wpAnyH_take (i := 1) (v := ?_) (by simp only [List.getElem?_toArray, List.getElem?_cons_succ, List.getElem?_cons_zero]; rfl) (by kernel_rfl) (by kernel_rfl) (by kernel_rfl) (fun _ _ _ h => h) (Or.inl ⟨by rfl, ?_⟩) (by exact hHeld) ?_; rotate_left; (focus (intro w' hSw; have t0 : w'.cell? ⟨g0, 0, none⟩ = some (.slice (some ⟨b1, o1, none⟩) q.cmds.length c0) := (Below.cell hSw (p := ⟨g0, 0, none⟩) l0.out).trans ((blk_cell B2.out 0).trans rfl); have t1 : w'.cell? ⟨g1, 0, none⟩ = some (.slice (some ⟨b2, o2, none⟩) q.cmds.length d0) := (Below.cell hSw (p := ⟨g1, 0, none⟩) l1.out).trans ((blk_cell B3.out 0).trans rfl); clear hSw; go_simp; (try with_reducible rfl); done)); (try simp only [Act.put, List.setIfInBounds_toArray, List.set_cons_zero, List.set_cons_succ]))
      (refine wpAnyH_take (i := 2) (v := ?_) (by simp only [List.getElem?_toArray, List.getElem?_cons_succ, List.getElem?_cons_zero]; rfl) (by kernel_rfl) (by kernel_rfl) (by kernel_rfl) (fun _ _ _ h => h) (Or.inl ⟨by rfl, ?_⟩) (by exact hHeld) ?_; rotate_left; (focus (intro w' hSw; have t0 : w'.cell? ⟨g0, 0, none⟩ = some (.slice (some ⟨b1, o1, none⟩) q.cmds.length c0) := (Below.cell hSw (p := ⟨g0, 0, none⟩) l0.out).trans ((blk_cell B2.out 0).trans rfl); have t1 : w'.cell? ⟨g1, 0, none⟩ = some (.slice (some ⟨b2, o2, none⟩) q.cmds.length d0) := (Below.cell hSw (p := ⟨g1, 0, none⟩) l1.out).trans ((blk_cell B3.out 0).trans rfl); clear hSw; go_simp; (try with_reducible rfl); done)); (try simp only [Act.put, List.setIfInBounds_toArray, List.set_cons_zero, List.set_cons_succ]))
      (refine wpAnyH_take (i := 3) (v := ?_) (by simp only [List.getElem?_toArray, List.getElem?_cons_succ, List.getElem?_cons_zero]; rfl) (by kernel_rfl) (by kernel_rfl) (by kernel_rfl) (fun _ _ _ h => h) (Or.inl ⟨by rfl, ?_⟩) (by exact hHeld) ?_; rotate_left; (focus (intro w' hSw; have t0 : w'.cell? ⟨g0, 0, none⟩ = some (.slice (some ⟨b1, o1, none⟩) q.cmds.length c0) := (Below.cell hSw (p := ⟨g0, 0, none⟩) l0.out).trans ((blk_cell B2.out 0).trans rfl); have t1 : w'.cell? ⟨g1, 0, none⟩ = some (.slice (some ⟨b2, o2, none⟩) q.cmds.length d0) := (Below.cell hSw (p := ⟨g1, 0, none⟩) l1.out).trans ((blk_cell B3.out 0).trans rfl); clear hSw; go_simp; (try with_reducible rfl); done)); (try simp only [Act.put, List.setIfInBounds_toArray, List.set_cons_zero, List.set_cons_succ]))
      (refine wpAnyH_take (i := 4) (v := .agg #[.int .i64 x.op, .string x.key, .slice A2 x.value.length c2, .int .u32 x.flags, .int .i64 x.exp, .int .u64 x.cas, .int .u64 x.delta, .int .u64 x.initial, .bool x.makes, .bool x.sets]) (by simp only [List.getElem?_toArray, List.getElem?_cons_succ, List.getElem?_cons_zero]; rfl) (by kernel_rfl) (by kernel_rfl) (by kernel_rfl) (fun _ _ _ h => h) (yieldsIf_load_mid (by rfl) _ _ rfl b1 (o1 + k * 10) rfl _ _ (fun w' hS => range_below HR1.out hS hb1) Tryz.underlying40 rfl (by kernel_rfl)) (by exact hHeld) ?_; (try simp only [Act.put, List.setIfInBounds_toArray, List.set_cons_zero, List.set_cons_succ]))
      (refine wpAnyH_take (i := 5) (v := ?_) (by simp only [List.getElem?_toArray, List.getElem?_cons_succ, List.getElem?_cons_zero]; rfl) (by kernel_rfl) (by kernel_rfl) (by kernel_rfl) (fun _ _ _ h => h) (Or.inl ⟨by rfl, ?_⟩) (by exact hHeld) ?_; rotate_left; (focus (intro w' hSw; have t0 : w'.cell? ⟨g0, 0, none⟩ = some (.slice (some ⟨b1, o1, none⟩) q.cmds.length c0) := (Below.cell hSw (p := ⟨g0, 0, none⟩) l0.out).trans ((blk_cell B2.out 0).trans rfl); have t1 : w'.cell? ⟨g1, 0, none⟩ = some (.slice (some ⟨b2, o2, none⟩) q.cmds.length d0) := (Below.cell hSw (p := ⟨g1, 0, none⟩) l1.out).trans ((blk_cell B3.out 0).trans rfl); clear hSw; go_simp; (try with_reducible rfl); done)); (try simp only [Act.put, List.setIfInBounds_toArray, List.set_cons_zero, List.set_cons_succ]))
      (refine wpAnyH_take (i := 6) (v := ?_) (by simp only [List.getElem?_toArray, List.getElem?_cons_succ, List.getElem?_cons_zero]; rfl) (by kernel_rfl) (by kernel_rfl) (by kernel_rfl) (fun _ _ _ h => h) (Or.inl ⟨by rfl, ?_⟩) (by exact hHeld) ?_; rotate_left; (focus (intro w' hSw; have t0 : w'.cell? ⟨g0, 0, none⟩ = some (.slice (some ⟨b1, o1, none⟩) q.cmds.length c0) := (Below.cell hSw (p := ⟨g0, 0, none⟩) l0.out).trans ((blk_cell B2.out 0).trans rfl); have t1 : w'.cell? ⟨g1, 0, none⟩ = some (.slice (some ⟨b2, o2, none⟩) q.cmds.length d0) := (Below.cell hSw (p := ⟨g1, 0, none⟩) l1.out).trans ((blk_cell B3.out 0).trans rfl); clear hSw; go_simp; (try with_reducible rfl); done)); (try simp only [Act.put, List.setIfInBounds_toArray, List.set_cons_zero, List.set_cons_succ]))
      (refine wpAnyH_take (i := 7) (v := ?_) (by simp only [List.getElem?_toArray, List.getElem?_cons_succ, List.getElem?_cons_zero]; rfl) (by kernel_rfl) (by kernel_rfl) (by kernel_rfl) (fun _ _ _ h => h) (Or.inl ⟨by rfl, ?_⟩) (by exact hHeld) ?_; rotate_left; (focus (intro w' hSw; have t0 : w'.cell? ⟨g0, 0, none⟩ = some (.slice (some ⟨b1, o1, none⟩) q.cmds.length c0) := (Below.cell hSw (p := ⟨g0, 0, none⟩) l0.out).trans ((blk_cell B2.out 0).trans rfl); have t1 : w'.cell? ⟨g1, 0, none⟩ = some (.slice (some ⟨b2, o2, none⟩) q.cmds.length d0) := (Below.cell hSw (p := ⟨g1, 0, none⟩) l1.out).trans ((blk_cell B3.out 0).trans rfl); clear hSw; go_simp; (try with_reducible rfl); done)); (try simp only [Act.put, List.setIfInBounds_toArray, List.set_cons_zero, List.set_cons_succ]))
      (refine wpAnyH_take (i := 8) (v := ?_) (by simp only [List.getElem?_toArray, List.getElem?_cons_succ, List.getElem?_cons_zero]; rfl) (by kernel_rfl) (by kernel_rfl) (by kernel_rfl) (fun _ _ _ h => h) (Or.inl ⟨by rfl, ?_⟩) (by exact hHeld) ?_; rotate_left; (focus (intro w' hSw; have t0 : w'.cell? ⟨g0, 0, none⟩ = some (.slice (some ⟨b1, o1, none⟩) q.cmds.length c0) := (Below.cell hSw (p := ⟨g0, 0, none⟩) l0.out).trans ((blk_cell B2.out 0).trans rfl); have t1 : w'.cell? ⟨g1, 0, none⟩ = some (.slice (some ⟨b2, o2, none⟩) q.cmds.length d0) := (Below.cell hSw (p := ⟨g1, 0, none⟩) l1.out).trans ((blk_cell B3.out 0).trans rfl); clear hSw; go_simp; (try with_reducible rfl); done)); (try simp only [Act.put, List.setIfInBounds_toArray, List.set_cons_zero, List.set_cons_succ]))
      (refine wpAnyH_take (i := 9) (v := .agg #[.int .i64 x.op, .string x.key, .slice A3 x.value.length c3, .int .u32 x.flags, .int .i64 x.exp, .int .u64 x.cas, .int .u64 x.delta, .int .u64 x.initial, .bool x.makes, .bool x.sets]) (by simp only [List.getElem?_toArray, List.getElem?_cons_succ, List.getElem?_cons_zero]; rfl) (by kernel_rfl) (by kernel_rfl) (by kernel_rfl) (fun _ _ _ h => h) (yieldsIf_load_mid (by rfl) _ _ rfl b2 (o2 + k * 10) rfl _ _ (fun w' hS => range_below HR2.out hS hb2) Tryz.underlying40 rfl (by kernel_rfl)) (by exact hHeld) ?_; (try simp only [Act.put, List.setIfInBounds_toArray, List.set_cons_zero, List.set_cons_succ]))
      refine wpAnyH_ready (rs := [10]) (by kernel_rfl) (by simp) ?_
      refine AllReadyH.cons (by simp only [List.getElem?_toArray, List.getElem?_cons_succ, List.getElem?_cons_zero]; rfl) (fun K hK => ?_) AllReadyH.nil
      go_simp
      (go_at_call 34; (with_reducible refine (HK.out _ hHeld).mono ?_); rintro e w5 ⟨rfl, hb⟩)
      have HB5 := Aside0.mk (below_step hHeld hb)
      refine hK.out _ _ HB5.out ?_
      clear hK K hHeld hb HB0
      have HB0 := HB5
      clear HB5
      intro hHeld
      (try simp only [Act.put, List.setIfInBounds_toArray, List.set_cons_zero, List.set_cons_succ])
      (refine wpAnyH_take (i := 11) (v := ?_) (by simp only [List.getElem?_toArray, List.getElem?_cons_succ, List.getElem?_cons_zero]; rfl) (by kernel_rfl) (by kernel_rfl) (by kernel_rfl) (fun _ _ _ h => h) (Or.inl ⟨by rfl, ?_⟩) (by exact hHeld) ?_; rotate_left; (focus (intro w' hSw; skip; clear hSw; go_simp; (try with_reducible rfl); done)); (try simp only [Act.put, List.setIfInBounds_toArray, List.set_cons_zero, List.set_cons_succ]))
      (refine wpAnyH_done (by kernel_rfl) ?_ _; refine NoPanic.normal ?_)
      go_wp2
      go_roundw
      case rel => exact ⟨k + 1, by first | rfl | simp, by omega, ⟨HB0.out⟩⟩
      case measure => simp [intOf]; omega
    · have hki : ¬ (k : Int) < ↑q.cmds.length := by omega
      have f7 : wr.cell? ⟨g2, 7, none⟩ = some (.slice A8 q.form.tokens.length c8) := (Below.cell HB0.out (p := ⟨g2, 7, none⟩) l2.out).trans (blk_cell B5.out 7); have f8 : wr.cell? ⟨g2, 8, none⟩ = some (.slice A9 q.form.keys.length c9) := (Below.cell HB0.out (p := ⟨g2, 8, none⟩) l2.out).trans (blk_cell B5.out 8); have h7 : wr.cell? ⟨g3, 7, none⟩ = some (.slice D8 q.form.tokens.length d8) := (Below.cell HB0.out (p := ⟨g3, 7, none⟩) l3.out).trans (blk_cell B6.out 7); have h8 : wr.cell? ⟨g3, 8, none⟩ = some (.slice D9 q.form.keys.length d9) := (Below.cell HB0.out (p := ⟨g3, 8, none⟩) l3.out).trans (blk_cell B6.out 8)
      go_wp2_with (first | (go_at_call 35; (with_reducible refine (HTX.out _ HB0.out).mono ?_); rintro e w5 ⟨rfl, hb⟩; have HBn := Aside0.mk (below_step HB0.out hb); clear HB0 hb; have HB0 := HBn; clear HBn; have f7 : w5.cell? ⟨g2, 7, none⟩ = some (.slice A8 q.form.tokens.length c8) := (Below.cell HB0.out (p := ⟨g2, 7, none⟩) l2.out).trans (blk_cell B5.out 7); have f8 : w5.cell? ⟨g2, 8, none⟩ = some (.slice A9 q.form.keys.length c9) := (Below.cell HB0.out (p := ⟨g2, 8, none⟩) l2.out).trans (blk_cell B5.out 8); have h7 : w5.cell? ⟨g3, 7, none⟩ = some (.slice D8 q.form.tokens.length d8) := (Below.cell HB0.out (p := ⟨g3, 7, none⟩) l3.out).trans (blk_cell B6.out 7); have h8 : w5.cell? ⟨g3, 8, none⟩ = some (.slice D9 q.form.keys.length d9) := (Below.cell HB0.out (p := ⟨g3, 8, none⟩) l3.out).trans (blk_cell B6.out 8)) | (go_at_call 35; (with_reducible refine (HTY.out _ HB0.out).mono ?_); rintro e w5 ⟨rfl, hb⟩; have HBn := Aside0.mk (below_step HB0.out hb); clear HB0 hb; have HB0 := HBn; clear HBn; have f7 : w5.cell? ⟨g2, 7, none⟩ = some (.slice A8 q.form.tokens.length c8) := (Below.cell HB0.out (p := ⟨g2, 7, none⟩) l2.out).trans (blk_cell B5.out 7); have f8 : w5.cell? ⟨g2, 8, none⟩ = some (.slice A9 q.form.keys.length c9) := (Below.cell HB0.out (p := ⟨g2, 8, none⟩) l2.out).trans (blk_cell B5.out 8); have h7 : w5.cell? ⟨g3, 7, none⟩ = some (.slice D8 q.form.tokens.length d8) := (Below.cell HB0.out (p := ⟨g3, 7, none⟩) l3.out).trans (blk_cell B6.out 7); have h8 : w5.cell? ⟨g3, 8, none⟩ = some (.slice D9 q.form.keys.length d9) := (Below.cell HB0.out (p := ⟨g3, 8, none⟩) l3.out).trans (blk_cell B6.out 8)))
      go_ret
      exact ⟨rfl, HG0.out ▸ HBW.out.trans (HB0.out.mono (by have := HBW.out.size; have := HG0.out; omega))⟩
set_option maxRecDepth 100000 in
set_option maxHeartbeats 2000000 in
theorem steps_same (s : Step) (cx cy : List Value) (w : World) (hx : kStep.K w s cx) (hy : kStep.K w s cy) :
    Calls Tryz.prog 11 #[.agg cx.toArray, .agg cy.toArray] w fun e w' => e = .returned (.bool true) ∧ Below w.heap.size w w' := by
  have HB := Aside0.mk (Below.refl w.heap.size w)
  obtain ⟨A0, c0, A8, c8, A9, c9, rfl, hl0, hC0, hl8, hC8, hl9, hC9⟩ := kStep_open hx
  obtain ⟨D0, d0, D8, d8, D9, d9, rfl, hm0, hD0, hm8, hD8, hm9, hD9⟩ := kStep_open hy
  have HR : Aside0 (∀ w', Below w.heap.size w w' → Calls Tryz.prog 16 #[.agg #[.slice A0 s.req.cmds.length c0, .int .i64 s.req.form.dialect, .string s.req.form.verb, .int .i64 s.req.form.code, .int .u32 s.req.form.opq, .bool s.req.form.quiet, .bool s.req.form.withcas, .string s.req.form.flags, .slice A8 s.req.form.tokens.length c8, .slice A9 s.req.form.keys.length c9, .bool s.req.form.base64], .agg #[.slice D0 s.req.cmds.length d0, .int .i64 s.req.form.dialect, .string s.req.form.verb, .int .i64 s.req.form.code, .int .u32 s.req.form.opq, .bool s.req.form.quiet, .bool s.req.form.withcas, .string s.req.form.flags, .slice D8 s.req.form.tokens.length d8, .slice D9 s.req.form.keys.length d9, .bool s.req.form.base64]] w' fun e w'' => e = .returned (.bool true) ∧ Below w'.heap.size w' w'') := ⟨fun w' hb => requests_same s.req _ _ w' (kRequest_mk w' s.req hl0 (Kd.C_below hC0 hb) hl8 (Kd.C_below hC8 hb) hl9 (Kd.C_below hC9 hb)) (kRequest_mk w' s.req hm0 (Kd.C_below hD0 hb) hm8 (Kd.C_below hD8 hb) hm9 (Kd.C_below hD9 hb))⟩
  clear hx hy hC0 hC8 hC9 hD0 hD8 hD9
  go_enter Tryz.func11, Tryz.ntmps11
  go_wp2_with (first | (go_at_call 16; (with_reducible refine (HR.out _ (by repeat (first | (with_reducible first | exact HB.out | apply below_alloc | apply pw_below_drewN | apply below_drew1) | exact HB.out))).mono ?_); rintro e w1 ⟨rfl, hb⟩; have B2 := Aside0.mk (blk_below (g := w.heap.size) (o := .cells #[.slice A0 s.req.cmds.length c0, .int .i64 s.req.form.dialect, .string s.req.form.verb, .int .i64 s.req.form.code, .int .u32 s.req.form.opq, .bool s.req.form.quiet, .bool s.req.form.withcas, .string s.req.form.flags, .slice A8 s.req.form.tokens.length c8, .slice A9 s.req.form.keys.length c9, .bool s.req.form.base64, .string s.reply, .int .i64 s.used, .int .i64 s.skip, .bool s.line, .int .i64 s.e] 34 (0, 0)) (by repeat (first | exact blk_at_new _ _ _ (by simp; done) | exact blk_at_new _ _ _ rfl | refine blk_alloc ?_ _ | refine blk_drew ?_ | refine blk_drewN ?_ _)) hb); have B3 := Aside0.mk (blk_below (g := w.heap.size + 1) (o := .cells #[.slice D0 s.req.cmds.length d0, .int .i64 s.req.form.dialect, .string s.req.form.verb, .int .i64 s.req.form.code, .int .u32 s.req.form.opq, .bool s.req.form.quiet, .bool s.req.form.withcas, .string s.req.form.flags, .slice D8 s.req.form.tokens.length d8, .slice D9 s.req.form.keys.length d9, .bool s.req.form.base64, .string s.reply, .int .i64 s.used, .int .i64 s.skip, .bool s.line, .int .i64 s.e] 34 (0, 0)) (by repeat (first | exact blk_at_new _ _ _ (by simp; done) | exact blk_at_new _ _ _ rfl | refine blk_alloc ?_ _ | refine blk_drew ?_ | refine blk_drewN ?_ _)) hb); have HBn := Aside0.mk (below_step (by repeat (first | (with_reducible first | exact HB.out | apply below_alloc | apply pw_below_drewN | apply below_drew1) | exact HB.out)) hb); clear HB; have HB := HBn; clear HBn; clear hb; have $Xr : w1.cell? ⟨w.heap.size, 11, none⟩ = some (.string s.reply) := (blk_cell B2.out 11).trans rfl; have $Xu : w1.cell? ⟨w.heap.size, 12, none⟩ = some (.int .i64 s.used) := (blk_cell B2.out 12).trans rfl; have $Xk : w1.cell? ⟨w.heap.size, 13, none⟩ = some (.int .i64 s.skip) := (blk_cell B2.out 13).trans rfl; have $Xl : w1.cell? ⟨w.heap.size, 14, none⟩ = some (.bool s.line) := (blk_cell B2.out 14).trans rfl; have $Xe : w1.cell? ⟨w.heap.size, 15, none⟩ = some (.int .i64 s.e) := (blk_cell B2.out 15).trans rfl; have $Xr : w1.cell? ⟨w.heap.size + 1, 11, none⟩ = some (.string s.reply) := (blk_cell B3.out 11).trans rfl; have $Xu : w1.cell? ⟨w.heap.size + 1, 12, none⟩ = some (.int .i64 s.used) := (blk_cell B3.out 12).trans rfl; have $Xk : w1.cell? ⟨w.heap.size + 1, 13, none⟩ = some (.int .i64 s.skip) := (blk_cell B3.out 13).trans rfl; have $Xl : w1.cell? ⟨w.heap.size + 1, 14, none⟩ = some (.bool s.line) := (blk_cell B3.out 14).trans rfl; have $Xe : w1.cell? ⟨w.heap.size + 1, 15, none⟩ = some (.int .i64 s.e) := (blk_cell B3.out 15).trans rfl))
  go_ret
  exact ⟨rfl, (by repeat (first | (with_reducible first | exact HB.out | apply below_alloc | apply pw_below_drewN | apply below_drew1) | exact HB.out))⟩
end Go.Proofs.YtfljijpkeckeaaaGreatDoor.X
namespace Go.Proofs.YtfljijpkeckeaaaGreatDoor.X
set_option linter.unusedVariables false
set_option linter.unusedSimpArgs false
def NoB (w : List UInt8) : Prop := w ≠ [] ∧ ∀ b ∈ w, b ≠ 32
def jn : List (List UInt8) → List UInt8
  | [] => []
  | [w] => w
  | w :: v :: r => w ++ 32 :: jn (v :: r)
theorem jn_snoc : ∀ (p : List (List UInt8)) (w : List UInt8), p ≠ [] → jn (p ++ [w]) = jn p ++ 32 :: w
  | [], _, h => absurd rfl h
  | [v], w, _ => rfl
  | v :: u :: r, w, _ => by
    have ih := jn_snoc (u :: r) w (by simp)
    show v ++ 32 :: jn ((u :: r) ++ [w]) = (v ++ 32 :: jn (u :: r)) ++ 32 :: w
    rw [ih]
    simp
theorem trimL_head (b : UInt8) (l : List UInt8) (h : b ≠ 32) : trimL (b :: l) = b :: l := by
  unfold trimL Lib.trimLeftB
  simp [List.dropWhile_cons, h]
theorem headW_app (w r : List UInt8) (h : ∀ b ∈ w, b ≠ 32) : headW (w ++ 32 :: r) = w := by
  induction w with
  | nil => simp [headW]
  | cons b w ih =>
    have hb := h b (by simp)
    have := ih (fun c hc => h c (by simp [hc]))
    unfold headW at this ⊢
    simp [hb, this]
theorem headW_all (w : List UInt8) (h : ∀ b ∈ w, b ≠ 32) : headW w = w := by
  induction w with
  | nil => rfl
  | cons b w ih =>
    have hb := h b (by simp)
    have := ih (fun c hc => h c (by simp [hc]))
    unfold headW at this ⊢
    simp [hb, this]
theorem wordsL_jn : ∀ (ws : List (List UInt8)), (∀ w ∈ ws, NoB w) → wordsL (jn ws) = ws
  | [], _ => wordsL_nil _ rfl
  | [w], h => by
    obtain ⟨h1, h2⟩ := h w (by simp)
    obtain ⟨b, r, rfl⟩ := List.exists_cons_of_ne_nil h1
    show wordsL (b :: r) = _
    have ht := trimL_head b r (h2 b (by simp))
    rw [wordsL_cons _ (by rw [ht]; simp), ht, headW_all _ h2]
    have : tailW (b :: r) = [] := by
      unfold tailW
      rw [headW_all _ h2]
      exact List.drop_eq_nil_of_le (by omega)
    rw [this, wordsL_nil _ rfl]
  | w :: v :: rs, h => by
    have ih := wordsL_jn (v :: rs) (fun x hx => h x (by simp at hx ⊢; right; exact hx))
    obtain ⟨h1, h2⟩ := h w (by simp)
    obtain ⟨b, r, rfl⟩ := List.exists_cons_of_ne_nil h1
    show wordsL ((b :: r) ++ 32 :: jn (v :: rs)) = _
    have ht : trimL ((b :: r) ++ 32 :: jn (v :: rs)) = (b :: r) ++ 32 :: jn (v :: rs) := trimL_head b _ (h2 b (by simp))
    rw [wordsL_cons _ (by rw [ht]; simp), ht, headW_app _ _ h2]
    have : tailW ((b :: r) ++ 32 :: jn (v :: rs)) = jn (v :: rs) := by
      unfold tailW
      rw [headW_app _ _ h2, show (b :: r) ++ 32 :: jn (v :: rs) = ((b :: r) ++ [32]) ++ jn (v :: rs) by simp, List.drop_left' (by simp)]
    rw [this, ih]
theorem trimL_first (l : List UInt8) (b : UInt8) (r : List UInt8) (h : trimL l = b :: r) : b ≠ 32 := by
  intro e
  have := List.head?_dropWhile_not (fun x : UInt8 => x == 32) l
  unfold trimL Lib.trimLeftB at h
  rw [h] at this
  simp [e] at this
theorem headW_ne (l : List UInt8) : ∀ c ∈ headW l, c ≠ 32 := by
  induction l with
  | nil => intro c hc; simp [headW] at hc
  | cons b l ih =>
    intro c hc
    unfold headW at hc ih
    by_cases hb : b = 32
    · simp [hb] at hc
    · have hb2 : (b != 32) = true := by simp [hb]
      rw [List.takeWhile_cons, hb2] at hc
      rcases List.mem_cons.1 hc with rfl | hc
      · exact hb
      · exact ih c hc
theorem wordsL_ok (l : List UInt8) : ∀ w ∈ wordsL l, NoB w := by
  induction h : l.length using Nat.strongRecOn generalizing l with
  | _ n ih =>
    by_cases h0 : trimL l = []
    · rw [wordsL_nil _ h0]; simp
    · rw [wordsL_cons _ h0]
      intro w hw
      rcases List.mem_cons.1 hw with rfl | hw
      · obtain ⟨b, r, hb⟩ := List.exists_cons_of_ne_nil h0
        have hb2 := trimL_first l b r hb
        refine ⟨?_, fun c hc => ?_⟩
        · rw [hb]
          unfold headW
          simp [hb2]
        · exact headW_ne _ c hc
      · exact ih _ (by have := tailW_lt l h0; omega) _ rfl w hw
theorem headW_stop (m : List UInt8) (h : (headW m).length < m.length) : m[(headW m).length] = 32 := by
  induction m with
  | nil => simp at h
  | cons b m ih =>
    by_cases hb : b = 32
    · subst hb
      simp [headW]
    · have e : headW (b :: m) = b :: headW m := by unfold headW; simp [hb]
      have h2 : (headW m).length < m.length := by rw [e] at h; simpa using h
      have := ih h2
      simp only [e, List.length_cons, List.getElem_cons_succ]
      exact this
theorem headW_in (m : List UInt8) (i : Nat) (h : i < (headW m).length) : m[i]'(by have := headW_len m; omega) ≠ 32 := by
  have h1 := headW_ne m (headW m)[i] (List.getElem_mem _)
  have h2 : (headW m)[i] = m[i]'(by have := headW_len m; omega) := by
    have e := headW_take m
    have h3 : (m.take (headW m).length)[i]? = (headW m)[i]? := by rw [e]
    rw [List.getElem?_take_of_lt h, List.getElem?_eq_getElem h, List.getElem?_eq_getElem (by have := headW_len m; omega)] at h3
    exact (Option.some.inj h3).symm
  rw [← h2]
  exact h1
theorem wordsL_blank (r : List UInt8) : wordsL (32 :: r) = wordsL r := by
  have e : trimL (32 :: r) = trimL r := by unfold trimL Lib.trimLeftB; simp
  by_cases h : trimL r = []
  · rw [wordsL_nil _ h, wordsL_nil _ (by rw [e]; exact h)]
  · rw [wordsL_cons _ h, wordsL_cons _ (by rw [e]; exact h), e]
theorem wordsL_step (m : List UInt8) (hm : m ≠ []) : wordsL m = (if 0 < (headW m).length then [headW m] else []) ++ wordsL (tailW m) := by
  obtain ⟨b, r, rfl⟩ := List.exists_cons_of_ne_nil hm
  by_cases hb : b = 32
  · subst hb
    have e : headW (32 :: r) = [] := by simp [headW]
    have e2 : tailW (32 :: r) = r := by unfold tailW; rw [e]; rfl
    rw [wordsL_blank, e, e2]
    simp
  · have e : headW (b :: r) = b :: headW r := by unfold headW; simp [hb]
    have ht := trimL_head b r hb
    rw [wordsL_cons _ (by rw [ht]; simp), ht, if_pos (by rw [e]; simp)]
    rfl
theorem headW_lt_app (a x : List UInt8) (h : (headW a).length < a.length) : headW (a ++ x) = headW a := by
  induction a with
  | nil => simp at h
  | cons b a ih =>
    by_cases hb : b = 32
    · subst hb
      simp [headW]
    · have e : ∀ l : List UInt8, headW (b :: l) = b :: headW l := fun l => by unfold headW; simp [hb]
      have h2 : (headW a).length < a.length := by rw [e] at h; simpa using h
      rw [List.cons_append, e, e, ih h2]
/-- A line that is put together of two with a blank between has the words of both. -/
theorem wordsL_cat (a b : List UInt8) : wordsL (a ++ 32 :: b) = wordsL a ++ wordsL b := by
  induction h : a.length using Nat.strongRecOn generalizing a with
  | _ n ih =>
    by_cases ha : a = []
    · subst ha
      rw [List.nil_append, wordsL_blank, wordsL_nil [] rfl]
      rfl
    · have hle := headW_len a
      have hpos : 0 < a.length := List.length_pos_iff.2 ha
      rw [wordsL_step _ (show a ++ 32 :: b ≠ [] by simp), wordsL_step a ha]
      by_cases hlt : (headW a).length < a.length
      · have e1 := headW_lt_app a (32 :: b) hlt
        have e2 : tailW (a ++ 32 :: b) = tailW a ++ 32 :: b := by
          unfold tailW
          rw [e1, List.drop_append_of_le_length (by omega)]
        rw [e1, e2, ih _ (by unfold tailW; rw [List.length_drop]; omega) (tailW a) rfl, List.append_assoc]
      · have hall : headW a = a := by
          have := headW_take a
          rw [show (headW a).length = a.length by omega, List.take_length] at this
          exact this.symm
        have hn : ∀ c ∈ a, c ≠ 32 := by rw [← hall]; exact headW_ne a
        have e1 := headW_app a b hn
        have e2 : tailW (a ++ 32 :: b) = b := by
          unfold tailW
          rw [e1, show a ++ 32 :: b = (a ++ [32]) ++ b by simp, List.drop_left' (by simp)]
        have e3 : tailW a = [] := by
          unfold tailW
          rw [hall]
          exact List.drop_eq_nil_of_le (by omega)
        rw [e1, e2, e3, hall, wordsL_nil [] rfl, List.append_nil]
theorem wordsL_rep (k : Nat) (l : List UInt8) : wordsL (List.replicate k 32 ++ l) = wordsL l := by
  induction k with
  | zero => rfl
  | succ k ih => rw [List.replicate_succ, List.cons_append, wordsL_blank, ih]
theorem wordsL_end (k : Nat) (l : List UInt8) : wordsL (l ++ List.replicate k 32) = wordsL l := by
  cases k with
  | zero => rw [List.replicate_zero, List.append_nil]
  | succ k =>
    have := wordsL_rep k []
    rw [List.append_nil] at this
    rw [List.replicate_succ, wordsL_cat, this, wordsL_nil [] rfl, List.append_nil]
/-- Each blank made k blanks wider. -/
def exB (k : Nat) (l : List UInt8) : List UInt8 := l.flatMap fun b => (if b = 32 then List.replicate k 32 else []) ++ [b]
theorem exB_none (k : Nat) : ∀ (l : List UInt8), (∀ c ∈ l, c ≠ 32) → exB k l = l
  | [], _ => rfl
  | c :: l, h => by
    have ih := exB_none k l (fun x hx => h x (List.mem_cons_of_mem _ hx))
    unfold exB at ih ⊢
    rw [List.flatMap_cons, ih, if_neg (h c (by simp))]
    rfl
theorem exB_app (k : Nat) (a b : List UInt8) : exB k (a ++ b) = exB k a ++ exB k b := List.flatMap_append
theorem rep_snoc (k : Nat) (l : List UInt8) : (List.replicate k 32 ++ [32]) ++ l = 32 :: (List.replicate k 32 ++ l) := by
  rw [← List.replicate_succ', List.replicate_succ]
  rfl
theorem wordsL_ex (k : Nat) (l : List UInt8) : wordsL (exB k l) = wordsL l := by
  induction h : l.length using Nat.strongRecOn generalizing l with
  | _ n ih =>
    have hle := headW_len l
    by_cases hlt : (headW l).length < l.length
    · have hs := headW_stop l hlt
      have hl : l = headW l ++ 32 :: tailW l := by
        unfold tailW
        conv => lhs; rw [← List.take_append_drop (headW l).length l, headW_take, List.drop_eq_getElem_cons hlt, hs]
      have e : exB k l = headW l ++ 32 :: (List.replicate k 32 ++ exB k (tailW l)) := by
        conv => lhs; rw [hl, exB_app, exB_none k _ (headW_ne l)]
        rw [← rep_snoc]
        rfl
      rw [e, wordsL_cat, wordsL_rep, ih _ (by unfold tailW; rw [List.length_drop]; omega) (tailW l) rfl]
      conv => rhs; rw [hl, wordsL_cat]
    · have hall : headW l = l := by
        have := headW_take l
        rw [show (headW l).length = l.length by omega, List.take_length] at this
        exact this.symm
      rw [exB_none k l (by rw [← hall]; exact headW_ne l)]
theorem wordsL_one (w : List UInt8) (h : NoB w) : wordsL w = [w] := wordsL_jn [w] (fun x hx => by obtain rfl := List.mem_singleton.1 hx; exact h)
theorem exB_len (k : Nat) : ∀ (l : List UInt8), (exB k l).length ≤ (k + 1) * l.length
  | [] => by simp [exB]
  | c :: l => by
    have ih := exB_len k l
    unfold exB at ih ⊢
    rw [List.flatMap_cons, List.length_append, List.length_cons, Nat.mul_add]
    have : ((if c = 32 then List.replicate k 32 else []) ++ [c]).length ≤ k + 1 := by
      rw [List.length_append]
      split
      · simp
      · simp
    omega
end Go.Proofs.YtfljijpkeckeaaaGreatDoor.X
namespace Go.Proofs.YtfljijpkeckeaaaGreatDoor.X
open Go.RowKit Go.Proofs.YtfljijpkeckeaaaGreatDoorW.PrintWords Go.Proofs.YtfljijpkeckeaaaGreatDoorW.PrintMore
set_option linter.unusedVariables false
set_option linter.unusedSimpArgs false
/-- Bytes as numbers. -/
def numsL (l : List UInt8) : List Int := l.map fun b => (b.toNat : Int)
theorem numsL_app (a b : List UInt8) : numsL (a ++ b) = numsL a ++ numsL b := List.map_append
theorem numsL_len (l : List UInt8) : (numsL l).length = l.length := List.length_map ..
theorem B8_nums (l : List UInt8) : B8 (numsL l) := fun z hz => by
  obtain ⟨b, _, rfl⟩ := List.mem_map.1 hz
  have := b.toNat_lt
  omega
theorem str_nums (l : List UInt8) : strOfNums (numsL l) = baOf l := by
  unfold strOfNums baOf numsL
  congr 1
  simp
  exact (List.map_congr_left (fun b _ => by simp)).trans (List.map_id l)
theorem nlI_app (l r : List Int) (h : ∀ z ∈ l, z ≠ 10) : nlI (l ++ 10 :: r) = some l.length := by
  induction l with
  | nil => simp [nlI]
  | cons z l ih =>
    have h1 := h z (by simp)
    rw [List.cons_append, nlI, if_neg h1, ih (fun x hx => h x (by simp [hx]))]
    rfl
def NoNl (l : List UInt8) : Prop := ∀ b ∈ l, b ≠ 10 ∧ b ≠ 13
theorem nums_ne {l : List UInt8} {c : UInt8} {k : Int} (hk : (c.toNat : Int) = k) (h : ∀ b ∈ l, b ≠ c) : ∀ z ∈ numsL l, z ≠ k := fun z hz e => by
  obtain ⟨b, hb, rfl⟩ := List.mem_map.1 hz
  have : b = c := by
    apply UInt8.toNat_inj.1
    have e : (b.toNat : Int) = k := e
    omega
  exact h b hb this
theorem line_crlf (l : List UInt8) (r : List Int) (h : NoNl l) (hl : l.length ≤ 2048) : lineS (numsL l ++ 13 :: 10 :: r) = (baOf l, ((l.length + 1 : Nat) : Int) + 1, 0) := by
  have hn : nlI (numsL l ++ 13 :: 10 :: r) = some (l.length + 1) := by
    have := nlI_app (numsL l ++ [13]) r (fun z hz => by
      rcases List.mem_append.1 hz with hz | hz
      · exact nums_ne (c := 10) (by decide) (fun b hb => (h b hb).1) z hz
      · obtain rfl := List.mem_singleton.1 hz
        decide)
    rw [List.length_append, numsL_len, List.append_assoc] at this
    exact this
  unfold lineS
  rw [hn]
  dsimp only
  have e1 : (numsL l ++ 13 :: 10 :: r).getD (l.length + 1 - 1) 0 = 13 := by
    rw [Nat.add_sub_cancel, List.getD_eq_getElem?_getD, List.getElem?_append_right (by rw [numsL_len]; omega), numsL_len, Nat.sub_self]
    rfl
  rw [show (if 0 < l.length + 1 ∧ (numsL l ++ 13 :: 10 :: r).getD (l.length + 1 - 1) 0 = 13 then l.length + 1 - 1 else l.length + 1) = l.length from (if_pos ⟨by omega, e1⟩).trans (Nat.add_sub_cancel ..), if_neg (by omega), List.take_left' (numsL_len l), str_nums]
theorem line_lf (l : List UInt8) (r : List Int) (h : NoNl l) (hl : l.length ≤ 2048) : lineS (numsL l ++ 10 :: r) = (baOf l, (l.length : Int) + 1, 0) := by
  have hn : nlI (numsL l ++ 10 :: r) = some l.length := by
    have := nlI_app (numsL l) r (fun z hz => nums_ne (c := 10) (by decide) (fun b hb => (h b hb).1) z hz)
    rw [numsL_len] at this
    exact this
  unfold lineS
  rw [hn]
  dsimp only
  have e1 : ¬ (0 < l.length ∧ (numsL l ++ 10 :: r).getD (l.length - 1) 0 = 13) := fun ⟨h0, e⟩ => by
    rw [List.getD_eq_getElem?_getD, List.getElem?_append_left (by rw [numsL_len]; omega), List.getElem?_eq_getElem (by rw [numsL_len]; omega)] at e
    exact nums_ne (c := 13) (k := 13) (by decide) (fun b hb => (h b hb).2) _ (List.getElem_mem (by rw [numsL_len]; omega)) e
  rw [show (if 0 < l.length ∧ (numsL l ++ 10 :: r).getD (l.length - 1) 0 = 13 then l.length - 1 else l.length) = l.length from if_neg e1, if_neg (by omega), List.take_left' (numsL_len l), str_nums]
theorem wordsB_ba (l : List UInt8) : wordsB (baOf l) = (wordsL l).map baOf := rfl
theorem parse_crlf (l : List UInt8) (r : List Int) (h : NoNl l) (hl : l.length ≤ 2048) : parseS (numsL l ++ 13 :: 10 :: r) = parseW ((l.length : Int) + 2) r ((wordsL l).map baOf) := by
  rw [parse_T (line_crlf l r h hl), wordsB_ba]
  have e : (numsL l ++ 13 :: 10 :: r).drop (l.length + 1 + 1) = r := by
    rw [show numsL l ++ 13 :: 10 :: r = (numsL l ++ [13, 10]) ++ r by simp]
    exact List.drop_left' (by rw [List.length_append, numsL_len]; rfl)
  rw [e, show (((l.length + 1 : Nat) : Int) + 1) = (l.length : Int) + 2 by omega]
theorem parse_lf (l : List UInt8) (r : List Int) (h : NoNl l) (hl : l.length ≤ 2048) : parseS (numsL l ++ 10 :: r) = parseW ((l.length : Int) + 1) r ((wordsL l).map baOf) := by
  rw [parse_T (line_lf l r h hl), wordsB_ba]
  have e : (numsL l ++ 10 :: r).drop (l.length + 1) = r := by
    rw [show numsL l ++ 10 :: r = (numsL l ++ [10]) ++ r by simp]
    exact List.drop_left' (by rw [List.length_append, numsL_len]; rfl)
  rw [e]
theorem sh_e (d : Int) (s : Step) : (shiftU d s).e = s.e := by unfold shiftU; split <;> rfl
theorem sh_used {d : Int} {s : Step} (h : s.e ≠ 3) : shiftU d s = { s with used := s.used + d } := if_neg h
/-! ### Ends -/
theorem ends_law (l : List UInt8) (h : NoNl l) (hl : l.length ≤ 2048) : parseS (numsL l ++ [13, 10]) = shiftU 1 (parseS (numsL l ++ [10])) := by
  rw [parse_crlf l [] h hl, parse_lf l [] h hl, sh_W]
  congr 1
/-! ### Blanks -/
theorem blanks_law (l : List UInt8) (k : Nat) (h : NoNl l) (hl : l.length ≤ 300) (hk : k ≤ 3) : parseS (numsL ((List.replicate k 32 ++ exB k l) ++ List.replicate k 32) ++ [13, 10]) = shiftU (((List.replicate k 32 ++ exB k l).length : Int) + k - l.length) (parseS (numsL l ++ [13, 10])) := by
  have hx : ∀ b ∈ exB k l, b ≠ 10 ∧ b ≠ 13 := fun b hb => by
    unfold exB at hb
    obtain ⟨c, hc, hb⟩ := List.mem_flatMap.1 hb
    rcases List.mem_append.1 hb with hb | hb
    · split at hb
      · obtain rfl := List.eq_of_mem_replicate hb
        decide
      · cases hb
    · obtain rfl := List.mem_singleton.1 hb
      exact h _ hc
  have hr : ∀ b ∈ List.replicate k (32 : UInt8), b ≠ 10 ∧ b ≠ 13 := fun b hb => by
    obtain rfl := List.eq_of_mem_replicate hb
    decide
  have hn : NoNl ((List.replicate k 32 ++ exB k l) ++ List.replicate k 32) := fun b hb => by
    rcases List.mem_append.1 hb with hb | hb
    · rcases List.mem_append.1 hb with hb | hb
      · exact hr b hb
      · exact hx b hb
    · exact hr b hb
  have hle := exB_len k l
  have hle2 : (k + 1) * l.length ≤ 4 * l.length := Nat.mul_le_mul_right _ (by omega)
  rw [parse_crlf _ [] hn (by rw [List.length_append, List.length_append, List.length_replicate]; omega), parse_crlf l [] h (by omega), sh_W, wordsL_end, wordsL_rep, wordsL_ex]
  congr 1
  rw [List.length_append, List.length_replicate]
  omega
/-! ### More -/
theorem nlI_more : ∀ (l m : List Int) (k : Nat), nlI l = some k → nlI (l ++ m) = some k
  | [], _, _, h => by cases h
  | z :: l, m, k, h => by
    rw [List.cons_append]
    unfold nlI at h ⊢
    by_cases hz : z = 10
    · rw [if_pos hz] at h ⊢
      exact h
    · rw [if_neg hz] at h ⊢
      cases hl : nlI l with
      | none => rw [hl] at h; cases h
      | some j =>
        rw [nlI_more l m j hl]
        rw [hl] at h
        exact h
theorem nlI_beyond : ∀ (l m : List Int) (k : Nat), nlI l = none → nlI (l ++ m) = some k → l.length ≤ k
  | [], _, _, _, _ => Nat.zero_le _
  | z :: l, m, k, h, hk => by
    rw [List.cons_append] at hk
    unfold nlI at h hk
    by_cases hz : z = 10
    · rw [if_pos hz] at h
      cases h
    · rw [if_neg hz] at h hk
      have h' : nlI l = none := by
        cases hl : nlI l with
        | none => rfl
        | some j => rw [hl] at h; cases h
      cases hl : nlI (l ++ m) with
      | none => rw [hl] at hk; cases hk
      | some j =>
        have := nlI_beyond l m j h' hl
        rw [hl] at hk
        have e : j + 1 = k := by simpa using hk
        rw [List.length_cons]
        omega
/-- More must come; or more bytes change nothing; or a line is too long that has no end. -/
def MoreR (l : List Int) (s t : Step) : Prop := s.e = 3 ∨ t = s ∨ (∃ u b, s = stepFS l.length longT 0 true ∧ t = stepFS u longT 0 b)
theorem more_law (l m : List Int) : MoreR l (parseS l) (parseS (l ++ m)) := by
  cases h : nlI l with
  | none =>
    by_cases h1 : l.length > 2049
    · have e : lineS l = (⟨#[]⟩, ((l.length - 1 : Nat) : Int) + 1, 4) := by
        unfold lineS
        rw [h]
        dsimp only
        rw [if_pos h1, show ((l.length - 1 : Nat) : Int) + 1 = l.length by omega]
      have hs := parse_L e
      rw [show ((l.length - 1 : Nat) : Int) + 1 = l.length by omega] at hs
      have hb : (l.getD (l.length - 1) 0 != 10) = true := by
        have hlt : l.length - 1 < l.length := by omega
        have := nlI_none l h l[l.length - 1] (List.getElem_mem hlt)
        rw [List.getD_eq_getElem?_getD, List.getElem?_eq_getElem hlt]
        simpa using this
      rw [hb] at hs
      have ht : ∃ m', lineS (l ++ m) = (⟨#[]⟩, ((m' : Nat) : Int) + 1, 4) := by
        unfold lineS
        cases h2 : nlI (l ++ m) with
        | none =>
          dsimp only
          refine ⟨(l ++ m).length - 1, ?_⟩
          have hl2 : (l ++ m).length = l.length + m.length := List.length_append
          rw [if_pos (by omega), show (((l ++ m).length - 1 : Nat) : Int) + 1 = (l ++ m).length by omega]
        | some k =>
          have hk := nlI_beyond l m k h h2
          dsimp only
          refine ⟨k, ?_⟩
          rw [if_pos (by split <;> omega)]
      obtain ⟨m', ht⟩ := ht
      exact .inr (.inr ⟨_, _, hs, parse_L ht⟩)
    · left
      have e : lineS l = (⟨#[]⟩, 0, 3) := by
        unfold lineS
        rw [h]
        dsimp only
        rw [if_neg h1]
      rw [parse_M e]
      rfl
  | some k =>
    obtain ⟨hk, hk10⟩ := nlI_lt l k h
    have g : ∀ j, j < l.length → (l ++ m).getD j 0 = l.getD j 0 := fun j hj => by
      rw [List.getD_eq_getElem?_getD, List.getD_eq_getElem?_getD, List.getElem?_append_left hj]
    have e : lineS (l ++ m) = lineS l := by
      unfold lineS
      rw [h, nlI_more l m k h]
      dsimp only
      rw [g (k - 1) (by omega)]
      generalize he : (if 0 < k ∧ l.getD (k - 1) 0 = 13 then k - 1 else k) = e
      have hek : e ≤ k := by rw [← he]; split <;> omega
      rw [List.take_append_of_le_length (by omega)]
    have hcase := lineS_cases l
    rcases hcase with h3 | ⟨m', hm', h4⟩ | ⟨m', t, hm', h0, ht⟩
    · left
      rw [parse_M h3]
      rfl
    · right; left
      rw [parse_L h4, parse_L (e.trans h4), g m' hm']
    · rw [parse_T h0, parse_T (e.trans h0), List.drop_append_of_le_length (by omega)]
      rcases W_more m ((m' : Int) + 1) (l.drop (m' + 1)) (wordsB t) with h | h
      · exact .inl h
      · exact .inr (.inl h)
/-! ### Quiet -/
def setQ (s : Step) : Step := if s.e = 0 then { s with req := { s.req with form := { s.req.form with quiet := true } } } else s
theorem sq_ite (c : Prop) [Decidable c] (a b : Step) : setQ (if c then a else b) = if c then setQ a else setQ b := by split <;> rfl
theorem sq_F (used : Int) (r : ByteArray) : setQ (stepF used r) = stepF used r := if_neg (show ¬ (2 : Int) = 0 by decide)
theorem sq_O (used : Int) (v : ByteArray) (q : Bool) (ks : List ByteArray) (c : Cmd) : setQ (stepO used (formT v q ks) c) = stepO used (formT v true ks) c := if_pos rfl
theorem sq_keyed (v : ByteArray) (u : Int) (ws : List ByteArray) (n : Nat) (op exp delta : Int) (wr : ByteArray) : setQ (keyedSt v false u ws n op exp delta wr) = keyedSt v true u ws n op exp delta wr := by
  unfold keyedSt
  simp only [sq_ite, sq_F, sq_O]
theorem sq_del (v : ByteArray) (u : Int) (ws : List ByteArray) : setQ (delS v false u ws) = delS v true u ws := sq_keyed ..
theorem sq_touch (v : ByteArray) (u : Int) (ws : List ByteArray) : setQ (touchS v false u ws) = touchS v true u ws := by
  unfold touchS
  simp only [sq_ite, sq_keyed]
theorem sq_sum (v : ByteArray) (u : Int) (ws : List ByteArray) (op : Int) : setQ (sumS v false u ws op) = sumS v true u ws op := by
  unfold sumS
  simp only [sq_ite, sq_keyed]
theorem sq_flush (v : ByteArray) (u : Int) (ws : List ByteArray) : setQ (flushS v false ws u) = flushS v true ws u := by
  unfold flushS
  simp only [sq_ite, sq_F, sq_O]
/-- The one command of a request. -/
def opOf (s : Step) : Int := (s.req.cmds.getD 0 zCmd).op
def AskQ (s : Step) : Prop := s.e = 0 ∧ s.req.cmds.length = 1 ∧ s.req.form.quiet = false ∧ (opOf s = 8 ∨ opOf s = 2 ∨ opOf s = 10 ∨ opOf s = 11 ∨ opOf s = 13)
theorem askq_F {u : Int} {r : ByteArray} : ¬ AskQ (stepF u r) := fun h => absurd h.1 (show ¬ (2 : Int) = 0 by decide)
theorem askq_FS {u k : Int} {r : ByteArray} {b : Bool} : ¬ AskQ (stepFS u r k b) := fun h => absurd h.1 (show ¬ (2 : Int) = 0 by decide)
theorem askq_M : ¬ AskQ stepM := fun h => absurd h.1 (show ¬ (3 : Int) = 0 by decide)
theorem askq_stores {v : ByteArray} {q : Bool} {u : Int} {ws : List ByteArray} {r : List Int} {op : Int} {n : Nat} (ho : 3 ≤ op ∧ op ≤ 7) : ¬ AskQ (storesS v q u ws r op n) := by
  unfold storesS
  split
  · exact askq_F
  unfold storesR
  split
  · exact askq_FS
  split
  · exact askq_FS
  split
  · exact askq_M
  split
  · exact askq_FS
  · intro h
    have h4 : op = 8 ∨ op = 2 ∨ op = 10 ∨ op = 11 ∨ op = 13 := h.2.2.2
    omega
theorem askq_G {u : Int} {v : ByteArray} {op exp : Int} {ks : List ByteArray} (ho : op = 0 ∨ op = 1) : ¬ AskQ (stepG u v op exp ks) := by
  intro h
  have hl : (ks.map (cmdK op exp 0)).length = 1 := h.2.1
  have h4 := h.2.2.2
  rw [List.length_map] at hl
  obtain ⟨k, rfl⟩ := len1 hl
  have h4 : op = 8 ∨ op = 2 ∨ op = 10 ∨ op = 11 ∨ op = 13 := h4
  omega
theorem askq_loud {v : ByteArray} {u : Int} {ws : List ByteArray} (hb : (loudS v u ws).2 = true) : ¬ AskQ (loudS v u ws).1 := by
  have hb' : ∀ op, (op = 15 ∨ op = 16) → ¬ AskQ (bareS v ws.length u op) := fun op ho => by
    unfold bareS
    split
    · intro h
      have h4 : op = 8 ∨ op = 2 ∨ op = 10 ∨ op = 11 ∨ op = 13 := h.2.2.2
      omega
    · exact askq_F
  unfold loudS at hb ⊢
  split
  · show ¬ AskQ (getsS v u ws 0)
    unfold getsS
    split
    · exact askq_F
    split
    · exact askq_F
    · exact askq_G (.inl rfl)
  split
  · show ¬ AskQ (gatsS v u ws)
    unfold gatsS
    split
    · exact askq_F
    split
    · exact askq_F
    split
    · exact askq_F
    · exact askq_G (.inr rfl)
  split
  · exact hb' 15 (.inl rfl)
  split
  · exact hb' 16 (.inr rfl)
  · rename_i h1 h2 h3 h4
    rw [if_neg h1, if_neg h2, if_neg h3, if_neg h4] at hb
    cases hb
theorem askq_keyed {v : ByteArray} {q : Bool} {u : Int} {ws : List ByteArray} {n : Nat} {op exp delta : Int} {wr : ByteArray} (h : AskQ (keyedSt v q u ws n op exp delta wr)) : ws.length = n := by
  unfold keyedSt at h
  by_cases hn : ws.length ≠ n
  · rw [if_pos hn] at h
    exact absurd h askq_F
  · omega
theorem hush_of {v : ByteArray} {ws : List ByteArray} (h : ((ws.length + 1 : Nat) : Int) = asksL v.toList + 1 ∨ (v.toList == [102, 108, 117, 115, 104, 95, 97, 108, 108]) = true ∧ ws.length + 1 ≤ 2) : hushB v (ws ++ [(⟨#[110, 111, 114, 101, 112, 108, 121]⟩ : ByteArray)]) = true := by
  unfold hushB moreB
  rw [List.length_append, List.length_singleton, Bool.and_eq_true, Bool.and_eq_true, Bool.or_eq_true, Bool.and_eq_true, decide_eq_true_eq, decide_eq_true_eq, decide_eq_true_eq]
  refine ⟨by omega, h, ?_⟩
  rw [Nat.add_sub_cancel, List.getD_eq_getElem?_getD, List.getElem?_append_right (Nat.le_refl _), Nat.sub_self]
  show (((⟨#[110, 111, 114, 101, 112, 108, 121]⟩ : ByteArray) : ByteArray).toList == _) = true
  rw [ByteArray.toList_eq]
  rfl
theorem quiet_ne {v : ByteArray} {u : Int} {ws : List ByteArray} {r : List Int} : ¬ AskQ (otherS v true u ws r) := by
  have hk : ∀ (n : Nat) (op exp delta : Int) (wr : ByteArray), ¬ AskQ (keyedSt v true u ws n op exp delta wr) := fun n op exp delta wr => by
    unfold keyedSt
    split
    · exact askq_F
    split
    · exact askq_F
    split
    · exact askq_F
    · exact fun h => absurd h.2.2.1 (show ¬ true = false by decide)
  have hs : ∀ op, ¬ AskQ (sumS v true u ws op) := fun op => by
    unfold sumS
    split
    · exact hk _ _ _ _ _
    · exact hk _ _ _ _ _
  unfold otherS
  by_cases q0 : v = (⟨#[115, 101, 116]⟩ : ByteArray)
  · rw [if_pos q0]
    exact askq_stores (by decide)
  rw [if_neg q0]
  by_cases q1 : v = (⟨#[97, 100, 100]⟩ : ByteArray)
  · rw [if_pos q1]
    exact askq_stores (by decide)
  rw [if_neg q1]
  by_cases q2 : v = (⟨#[114, 101, 112, 108, 97, 99, 101]⟩ : ByteArray)
  · rw [if_pos q2]
    exact askq_stores (by decide)
  rw [if_neg q2]
  by_cases q3 : v = (⟨#[97, 112, 112, 101, 110, 100]⟩ : ByteArray)
  · rw [if_pos q3]
    exact askq_stores (by decide)
  rw [if_neg q3]
  by_cases q4 : v = (⟨#[112, 114, 101, 112, 101, 110, 100]⟩ : ByteArray)
  · rw [if_pos q4]
    exact askq_stores (by decide)
  rw [if_neg q4]
  by_cases q5 : v = (⟨#[99, 97, 115]⟩ : ByteArray)
  · rw [if_pos q5]
    exact askq_stores (by decide)
  rw [if_neg q5]
  by_cases q6 : v = (⟨#[100, 101, 108, 101, 116, 101]⟩ : ByteArray)
  · rw [if_pos q6]
    exact hk _ _ _ _ _
  rw [if_neg q6]
  by_cases q7 : v = (⟨#[105, 110, 99, 114]⟩ : ByteArray)
  · rw [if_pos q7]
    exact hs _
  rw [if_neg q7]
  by_cases q8 : v = (⟨#[100, 101, 99, 114]⟩ : ByteArray)
  · rw [if_pos q8]
    exact hs _
  rw [if_neg q8]
  by_cases q9 : v = (⟨#[116, 111, 117, 99, 104]⟩ : ByteArray)
  · rw [if_pos q9]
    unfold touchS
    split
    · exact hk _ _ _ _ _
    · exact hk _ _ _ _ _
  rw [if_neg q9]
  by_cases q10 : v = (⟨#[102, 108, 117, 115, 104, 95, 97, 108, 108]⟩ : ByteArray)
  · rw [if_pos q10]
    unfold flushS
    split
    · exact askq_F
    split
    · exact fun h => absurd h.2.2.1 (show ¬ true = false by decide)
    · exact askq_F
  rw [if_neg q10]
  exact askq_F
theorem other_quiet {v : ByteArray} {u : Int} {ws : List ByteArray} {r : List Int} (h : AskQ (otherS v false u ws r)) : hushB v (ws ++ [(⟨#[110, 111, 114, 101, 112, 108, 121]⟩ : ByteArray)]) = true ∧ otherS v true u ws r = setQ (otherS v false u ws r) := by
  unfold otherS at h ⊢
  by_cases q0 : v = (⟨#[115, 101, 116]⟩ : ByteArray)
  · rw [if_pos q0] at h; exact absurd h (askq_stores (by decide))
  by_cases q1 : v = (⟨#[97, 100, 100]⟩ : ByteArray)
  · rw [if_neg q0, if_pos q1] at h; exact absurd h (askq_stores (by decide))
  by_cases q2 : v = (⟨#[114, 101, 112, 108, 97, 99, 101]⟩ : ByteArray)
  · rw [if_neg q0, if_neg q1, if_pos q2] at h; exact absurd h (askq_stores (by decide))
  by_cases q3 : v = (⟨#[97, 112, 112, 101, 110, 100]⟩ : ByteArray)
  · rw [if_neg q0, if_neg q1, if_neg q2, if_pos q3] at h; exact absurd h (askq_stores (by decide))
  by_cases q4 : v = (⟨#[112, 114, 101, 112, 101, 110, 100]⟩ : ByteArray)
  · rw [if_neg q0, if_neg q1, if_neg q2, if_neg q3, if_pos q4] at h; exact absurd h (askq_stores (by decide))
  by_cases q5 : v = (⟨#[99, 97, 115]⟩ : ByteArray)
  · rw [if_neg q0, if_neg q1, if_neg q2, if_neg q3, if_neg q4, if_pos q5] at h; exact absurd h (askq_stores (by decide))
  simp only [if_neg q0, if_neg q1, if_neg q2, if_neg q3, if_neg q4, if_neg q5] at h ⊢
  by_cases q6 : v = (⟨#[100, 101, 108, 101, 116, 101]⟩ : ByteArray)
  · simp only [if_pos q6] at h ⊢
    refine ⟨hush_of (.inl ?_), (sq_del ..).symm⟩
    have := askq_keyed h
    subst q6
    rw [show asksL ((⟨#[100, 101, 108, 101, 116, 101]⟩ : ByteArray) : ByteArray).toList = 1 by rw [ByteArray.toList_eq]; rfl]
    omega
  simp only [if_neg q6] at h ⊢
  have hsum : ∀ op, AskQ (sumS v false u ws op) → ws.length = 2 := fun op h => by
    unfold sumS at h
    split at h
    · exact askq_keyed h
    · exact askq_keyed h
  by_cases q7 : v = (⟨#[105, 110, 99, 114]⟩ : ByteArray)
  · simp only [if_pos q7] at h ⊢
    refine ⟨hush_of (.inl ?_), (sq_sum ..).symm⟩
    have := hsum _ h
    subst q7
    rw [show asksL ((⟨#[105, 110, 99, 114]⟩ : ByteArray) : ByteArray).toList = 2 by rw [ByteArray.toList_eq]; rfl]
    omega
  simp only [if_neg q7] at h ⊢
  by_cases q8 : v = (⟨#[100, 101, 99, 114]⟩ : ByteArray)
  · simp only [if_pos q8] at h ⊢
    refine ⟨hush_of (.inl ?_), (sq_sum ..).symm⟩
    have := hsum _ h
    subst q8
    rw [show asksL ((⟨#[100, 101, 99, 114]⟩ : ByteArray) : ByteArray).toList = 2 by rw [ByteArray.toList_eq]; rfl]
    omega
  simp only [if_neg q8] at h ⊢
  by_cases q9 : v = (⟨#[116, 111, 117, 99, 104]⟩ : ByteArray)
  · simp only [if_pos q9] at h ⊢
    refine ⟨hush_of (.inl ?_), (sq_touch ..).symm⟩
    have : ws.length = 2 := by
      unfold touchS at h
      split at h
      · exact askq_keyed h
      · exact askq_keyed h
    subst q9
    rw [show asksL ((⟨#[116, 111, 117, 99, 104]⟩ : ByteArray) : ByteArray).toList = 2 by rw [ByteArray.toList_eq]; rfl]
    omega
  simp only [if_neg q9] at h ⊢
  by_cases q10 : v = (⟨#[102, 108, 117, 115, 104, 95, 97, 108, 108]⟩ : ByteArray)
  · simp only [if_pos q10] at h ⊢
    refine ⟨hush_of (.inr ⟨by rw [q10, ByteArray.toList_eq]; rfl, ?_⟩), (sq_flush ..).symm⟩
    unfold flushS at h
    by_cases hn : 1 < ws.length
    · rw [if_pos hn] at h
      exact absurd h askq_F
    · omega
  · simp only [if_neg q10] at h
    exact absurd h askq_F
theorem quiet_W {u : Int} {r : List Int} {ws : List ByteArray} (h : AskQ (parseW u r ws)) : parseW u r (ws ++ [(⟨#[110, 111, 114, 101, 112, 108, 121]⟩ : ByteArray)]) = setQ (parseW u r ws) := by
  cases ws with
  | nil => exact absurd h askq_F
  | cons v ws =>
    rw [List.cons_append]
    have hl : (loudS v u (ws ++ [(⟨#[110, 111, 114, 101, 112, 108, 121]⟩ : ByteArray)])).2 = (loudS v u ws).2 := by
      unfold loudS
      repeat' split
      all_goals rfl
    unfold parseW at h ⊢
    dsimp only at h ⊢
    rw [hl]
    by_cases hb : (loudS v u ws).2 = true
    · rw [if_pos hb] at h
      exact absurd h (askq_loud hb)
    rw [if_neg hb] at h
    rw [if_neg hb, if_neg hb]
    by_cases hh : hushB v ws = true
    · rw [if_pos hh] at h
      exact absurd h quiet_ne
    rw [if_neg hh] at h
    rw [if_neg hh]
    obtain ⟨h1, h2⟩ := other_quiet h
    rw [if_pos h1, List.length_append, List.length_singleton, Nat.add_sub_cancel, List.take_left' rfl, h2]
theorem quiet_law (l : List UInt8) (h : NoNl l) (hl : l.length ≤ 500) (ha : AskQ (parseS (numsL l ++ [13, 10]))) :
    parseS (numsL (l ++ [32, 110, 111, 114, 101, 112, 108, 121]) ++ [13, 10]) = shiftU 8 (setQ (parseS (numsL l ++ [13, 10]))) := by
  have hn : NoNl (l ++ [32, 110, 111, 114, 101, 112, 108, 121]) := fun b hb => by
    rcases List.mem_append.1 hb with hb | hb
    · exact h b hb
    · exact (show NoNl [32, 110, 111, 114, 101, 112, 108, 121] from by unfold NoNl; decide) b hb
  rw [parse_crlf l [] h (by omega)] at ha ⊢
  rw [parse_crlf _ [] hn (by rw [List.length_append]; simp only [List.length_cons, List.length_nil]; omega)]
  have hw : wordsL (l ++ [32, 110, 111, 114, 101, 112, 108, 121]) = wordsL l ++ [[110, 111, 114, 101, 112, 108, 121]] := by
    rw [wordsL_cat l [110, 111, 114, 101, 112, 108, 121], wordsL_one [110, 111, 114, 101, 112, 108, 121] ⟨by decide, by decide⟩]
  rw [hw, List.map_append, ← quiet_W ha, sh_W]
  congr 1
  rw [List.length_append]
  simp only [List.length_cons, List.length_nil]
  omega
end Go.Proofs.YtfljijpkeckeaaaGreatDoor.X
namespace Go.Proofs.YtfljijpkeckeaaaGreatDoor.X
open Go.RowKit Go.Proofs.YtfljijpkeckeaaaGreatDoorW.PrintWords Go.Proofs.YtfljijpkeckeaaaGreatDoorW.PrintMore
set_option linter.unusedVariables false
set_option linter.unusedSimpArgs false
instance (w : List UInt8) : Decidable (NoB w) := by unfold NoB; infer_instance
instance (w : List UInt8) : Decidable (NoNl w) := by unfold NoNl; infer_instance
theorem dec_show (u : Nat) (hu : u < 18446744073709551616) : decS (showI u) = (u, true) := by
  unfold decS showI
  rw [Int.toNat_natCast]
  have hl : (⟨(Lib.decDigits u).toArray⟩ : ByteArray).size = Lib.nDigits u := by
    rw [← Lib.decDigits_length]
    simp [ByteArray.size]
  have h1 : (⟨(Lib.decDigits u).toArray⟩ : ByteArray).data.toList = Lib.decDigits u := rfl
  have h0 : 1 ≤ (Lib.decDigits u).length := by
    have := decDigits_mono u 0 (by omega)
    rw [Lib.decDigits_one (show 0 < 10 by omega)] at this
    exact this
  have h2 : (Lib.decDigits u).length ≤ 20 := by
    have := decDigits_mono 18446744073709551615 u (by omega)
    have e : (Lib.decDigits 18446744073709551615).length = 20 := by decide +kernel
    omega
  rw [Lib.decDigits_length] at h0 h2
  rw [if_neg (by omega), h1, rDecL_dec u hu]
theorem dig_ok (u : Nat) : ∀ b ∈ Lib.decDigits u, 48 ≤ b.toNat ∧ b.toNat ≤ 57 := by
  induction u using Nat.strongRecOn with
  | _ u ih =>
    intro b hb
    rw [Lib.decDigits] at hb
    split at hb
    · obtain rfl := List.mem_singleton.1 hb
      rename_i h
      have : (UInt8.ofNat (48 + u)).toNat = 48 + u := by
        rw [UInt8.toNat_ofNat']
        omega
      first | omega | (simp; omega)
    · rename_i h
      rcases List.mem_append.1 hb with hb | hb
      · exact ih (u / 10) (by omega) b hb
      · obtain rfl := List.mem_singleton.1 hb
        have : (UInt8.ofNat (48 + u % 10)).toNat = 48 + u % 10 := by
          rw [UInt8.toNat_ofNat']
          omega
        first | omega | (simp; omega)
theorem dig_ne (u : Nat) : Lib.decDigits u ≠ [] := by
  intro h
  have := decDigits_mono u 0 (by omega)
  rw [Lib.decDigits_one (show 0 < 10 by omega), h] at this
  exact absurd this (by decide)
theorem dig_len (u : Nat) (hu : u < 18446744073709551616) : (Lib.decDigits u).length ≤ 20 := by
  have := decDigits_mono 18446744073709551615 u (by omega)
  have e : (Lib.decDigits 18446744073709551615).length = 20 := by decide +kernel
  omega
theorem dig_NoB (u : Nat) : NoB (Lib.decDigits u) := ⟨dig_ne u, fun b hb e => by
  have := dig_ok u b hb
  subst e
  exact absurd this.1 (by decide)⟩
theorem dig_NoNl (u : Nat) : NoNl (Lib.decDigits u) := fun b hb => by
  have := dig_ok u b hb
  constructor
  · intro e
    subst e
    exact absurd this.1 (by decide)
  · intro e
    subst e
    exact absurd this.1 (by decide)
theorem sgn_show (u : Nat) (hu : u ≤ 4294967295) : sgnS (showI u) = ((u : Int), true) := by
  have hp : isNeg (showI u) = false := by
    show Lib.hasPrefix (Lib.decDigits (Int.toNat (u : Int))) [45] = false
    rw [Int.toNat_natCast]
    have h0 := dig_ok u
    have h1 := dig_ne u
    generalize Lib.decDigits u = l at *
    cases l with
    | nil => exact absurd rfl h1
    | cons b l =>
      have := h0 b (by simp)
      have hb : b ≠ 45 := fun e => by subst e; exact absurd this.1 (by decide)
      rw [Bool.eq_false_iff]
      intro hp
      simp [Lib.hasPrefix] at hp
      exact hb hp.symm
  have hn : unsigned (showI u) = showI u := by
    unfold unsigned Lib.trimPrefix
    unfold isNeg at hp
    rw [hp]
    rfl
  unfold sgnS
  rw [hn, hp, dec_show u (by omega)]
  unfold sgnOf
  rw [if_pos ⟨rfl, by show u ≤ 1099511627776; omega⟩]
  rfl
theorem nonl_app {a b : List UInt8} (ha : NoNl a) (hb : NoNl b) : NoNl (a ++ b) := fun x hx => by
  rcases List.mem_append.1 hx with h | h
  · exact ha x h
  · exact hb x h
theorem words_incr (D : List UInt8) (h : NoB D) : wordsL ([105, 110, 99, 114, 32, 107, 32] ++ D) = [[105, 110, 99, 114], [107], D] := wordsL_jn [[105, 110, 99, 114], [107], D] (fun w hw => by
  simp only [List.mem_cons, List.not_mem_nil, or_false] at hw
  rcases hw with rfl | rfl | rfl
  · decide
  · decide
  · exact h)
theorem words_set (F E : List UInt8) (hF : NoB F) (hE : NoB E) : wordsL ([115, 101, 116, 32, 107, 32] ++ (F ++ 32 :: (E ++ [32, 48]))) = [[115, 101, 116], [107], F, E, [48]] := wordsL_jn [[115, 101, 116], [107], F, E, [48]] (fun w hw => by
  simp only [List.mem_cons, List.not_mem_nil, or_false] at hw
  rcases hw with rfl | rfl | rfl | rfl | rfl
  · decide
  · decide
  · exact hF
  · exact hE
  · decide)
theorem words_cas (D : List UInt8) (h : NoB D) : wordsL ([99, 97, 115, 32, 107, 32, 48, 32, 48, 32, 48, 32] ++ D) = [[99, 97, 115], [107], [48], [48], [48], D] := wordsL_jn [[99, 97, 115], [107], [48], [48], [48], D] (fun w hw => by
  simp only [List.mem_cons, List.not_mem_nil, or_false] at hw
  rcases hw with rfl | rfl | rfl | rfl | rfl | rfl
  · decide
  · decide
  · decide
  · decide
  · decide
  · exact h)
theorem more_lit {v : ByteArray} {n : Nat} {l : List UInt8} (hv : v.data.toList = l) {k : Nat} (hn : n = k) (h1 : ¬ (k : Int) = asksL l + 1) (h2 : l ≠ [102, 108, 117, 115, 104, 95, 97, 108, 108]) : moreB v n = false := by
  subst hn
  unfold moreB
  rw [ByteArray.toList_eq, hv, decide_eq_false h1, Bool.false_or, beq_eq_false_iff_ne.2 h2, Bool.false_and]
theorem W_loud {v : ByteArray} {u : Int} {r : List Int} {ws : List ByteArray} (h1 : ¬ (v = (⟨#[103, 101, 116]⟩ : ByteArray) ∨ v = (⟨#[103, 101, 116, 115]⟩ : ByteArray))) (h2 : ¬ (v = (⟨#[103, 97, 116]⟩ : ByteArray) ∨ v = (⟨#[103, 97, 116, 115]⟩ : ByteArray))) (h3 : v ≠ (⟨#[118, 101, 114, 115, 105, 111, 110]⟩ : ByteArray)) (h4 : v ≠ (⟨#[113, 117, 105, 116]⟩ : ByteArray)) (hh : moreB v ws.length = false) : parseW u r (v :: ws) = otherS v false u ws r := by
  have hb : (loudS v u ws).2 = false := by
    unfold loudS
    rw [if_neg h1, if_neg h2, if_neg h3, if_neg h4]
  have hu : hushB v ws = false := by
    unfold hushB
    rw [hh, Bool.false_and, Bool.and_false]
  unfold parseW
  dsimp only
  rw [hb, hu, if_neg (by decide), if_neg (by decide)]
theorem incr_law (d : Nat) (hd : d < 18446744073709551616) : parseS (numsL ([105, 110, 99, 114, 32, 107, 32] ++ Lib.decDigits d) ++ [13, 10]) = stepO ((([105, 110, 99, 114, 32, 107, 32] ++ Lib.decDigits d : List UInt8).length : Int) + 2) (formT (⟨#[105, 110, 99, 114]⟩ : ByteArray) false [(⟨#[107]⟩ : ByteArray)]) (cmdK 10 0 d (⟨#[107]⟩ : ByteArray)) := by
  rw [parse_crlf _ [] (nonl_app (by decide) (dig_NoNl d)) (by have := dig_len d hd; simp only [List.length_append, List.length_cons, List.length_nil]; omega), words_incr _ (dig_NoB d)]
  generalize (([105, 110, 99, 114, 32, 107, 32] ++ Lib.decDigits d : List UInt8).length : Int) + 2 = u
  show parseW u [] ((⟨#[105, 110, 99, 114]⟩ : ByteArray) :: [(⟨#[107]⟩ : ByteArray), baOf (Lib.decDigits d)]) = _
  rw [W_loud (by decide) (by decide) (by decide) (by decide) (more_lit rfl (k := 2) rfl (by decide) (by decide))]
  have hD : decS (baOf (Lib.decDigits d)) = (d, true) := dec_show d hd
  unfold otherS
  rw [if_neg (by decide), if_neg (by decide), if_neg (by decide), if_neg (by decide), if_neg (by decide), if_neg (by decide), if_neg (by decide), if_pos rfl]
  unfold sumS
  rw [show ([(⟨#[107]⟩ : ByteArray), baOf (Lib.decDigits d)] : List ByteArray).getD 1 ⟨#[]⟩ = baOf (Lib.decDigits d) from rfl, hD, if_pos rfl]
  exact kd_ok (words := [(⟨#[107]⟩ : ByteArray), baOf (Lib.decDigits d)]) (many := 2) rfl rfl (by decide)
theorem set_law (f e : Nat) (hf : f ≤ 4294967295) (he : e ≤ 4294967295) : ∃ u, parseS (numsL ([115, 101, 116, 32, 107, 32] ++ (Lib.decDigits f ++ 32 :: (Lib.decDigits e ++ [32, 48]))) ++ 13 :: 10 :: [13, 10]) = stepO u (formT (⟨#[115, 101, 116]⟩ : ByteArray) false [(⟨#[107]⟩ : ByteArray)]) (cmdS 3 (⟨#[107]⟩ : ByteArray) [] f e 0) := by
  have hl : NoNl ([115, 101, 116, 32, 107, 32] ++ (Lib.decDigits f ++ 32 :: (Lib.decDigits e ++ [32, 48]))) := nonl_app (by decide) (nonl_app (dig_NoNl f) (nonl_app (a := [32]) (by decide) (nonl_app (dig_NoNl e) (by decide))))
  rw [parse_crlf _ _ hl (by have := dig_len f (by omega); have := dig_len e (by omega); simp only [List.length_append, List.length_cons, List.length_nil]; omega), words_set _ _ (dig_NoB f) (dig_NoB e)]
  generalize (([115, 101, 116, 32, 107, 32] ++ (Lib.decDigits f ++ 32 :: (Lib.decDigits e ++ [32, 48])) : List UInt8).length : Int) + 2 = u
  refine ⟨u + 2, ?_⟩
  show parseW u _ ((⟨#[115, 101, 116]⟩ : ByteArray) :: [(⟨#[107]⟩ : ByteArray), baOf (Lib.decDigits f), baOf (Lib.decDigits e), (⟨#[48]⟩ : ByteArray)]) = _
  rw [W_loud (by decide) (by decide) (by decide) (by decide) (more_lit rfl (k := 4) rfl (by decide) (by decide))]
  have hF : decS (baOf (Lib.decDigits f)) = (f, true) := dec_show f (by omega)
  have hE : sgnS (baOf (Lib.decDigits e)) = ((e : Int), true) := sgn_show e he
  have h0 : decS (⟨#[48]⟩ : ByteArray) = (0, true) := by decide
  have hk : keyS (⟨#[107]⟩ : ByteArray) = true := by decide
  unfold otherS
  rw [if_pos rfl]
  unfold storesS
  rw [if_neg (fun h => h rfl)]
  show storesR (⟨#[115, 101, 116]⟩ : ByteArray) false u [13, 10] 3 (⟨#[107]⟩ : ByteArray) (baOf (Lib.decDigits f)) (baOf (Lib.decDigits e)) (⟨#[48]⟩ : ByteArray) (0, true) = _
  unfold storesR
  rw [hF, hE, h0, hk]
  have hb : badA true true f true true true = false := by
    unfold badA
    have : decide ((f : Int) > 4294967295) = false := decide_eq_false (by omega)
    rw [this]
    rfl
  rw [show badA true (f, true).2 (f, true).1 ((e : Int), true).2 ((0 : Nat), true).2 ((0 : Nat), true).2 = false from hb, if_neg (by decide), if_neg (by decide)]
  rfl
theorem cas_law (d : Nat) (hd : d < 18446744073709551616) : ∃ u, parseS (numsL ([99, 97, 115, 32, 107, 32, 48, 32, 48, 32, 48, 32] ++ Lib.decDigits d) ++ 13 :: 10 :: [13, 10]) = stepO u (formT (⟨#[99, 97, 115]⟩ : ByteArray) false [(⟨#[107]⟩ : ByteArray)]) (cmdS 3 (⟨#[107]⟩ : ByteArray) [] 0 0 d) := by
  rw [parse_crlf _ _ (nonl_app (by decide) (dig_NoNl d)) (by have := dig_len d hd; simp only [List.length_append, List.length_cons, List.length_nil]; omega), words_cas _ (dig_NoB d)]
  generalize (([99, 97, 115, 32, 107, 32, 48, 32, 48, 32, 48, 32] ++ Lib.decDigits d : List UInt8).length : Int) + 2 = u
  refine ⟨u + 2, ?_⟩
  show parseW u _ ((⟨#[99, 97, 115]⟩ : ByteArray) :: [(⟨#[107]⟩ : ByteArray), (⟨#[48]⟩ : ByteArray), (⟨#[48]⟩ : ByteArray), (⟨#[48]⟩ : ByteArray), baOf (Lib.decDigits d)]) = _
  rw [W_loud (by decide) (by decide) (by decide) (by decide) (more_lit rfl (k := 5) rfl (by decide) (by decide))]
  have hD : decS (baOf (Lib.decDigits d)) = (d, true) := dec_show d hd
  have h0 : decS (⟨#[48]⟩ : ByteArray) = (0, true) := by decide
  have hk : keyS (⟨#[107]⟩ : ByteArray) = true := by decide
  unfold otherS
  rw [if_neg (by decide), if_neg (by decide), if_neg (by decide), if_neg (by decide), if_neg (by decide), if_pos rfl]
  unfold storesS
  rw [if_neg (fun h => h rfl)]
  show storesR (⟨#[99, 97, 115]⟩ : ByteArray) false u [13, 10] 3 (⟨#[107]⟩ : ByteArray) (⟨#[48]⟩ : ByteArray) (⟨#[48]⟩ : ByteArray) (⟨#[48]⟩ : ByteArray) (decS (baOf (Lib.decDigits d))) = _
  unfold storesR
  rw [hD, sgn0, h0, hk]
  rw [show badA true ((0 : Nat), true).2 ((0 : Nat), true).1 ((0 : Int), true).2 ((0 : Nat), true).2 (d, true).2 = false from rfl, if_neg (by decide), if_neg (by decide)]
  rfl
/-! ### The chapter's examples -/
theorem ex_a : parseS (numsL [103, 101, 116, 32, 97, 32, 98, 13, 10]) = stepG 9 (⟨#[103, 101, 116]⟩ : ByteArray) 0 0 [(⟨#[97]⟩ : ByteArray), (⟨#[98]⟩ : ByteArray)] := by
  rw [show numsL [103, 101, 116, 32, 97, 32, 98, 13, 10] = numsL [103, 101, 116, 32, 97, 32, 98] ++ 13 :: 10 :: [] from rfl, parse_crlf _ [] (by decide) (by decide), show wordsL [103, 101, 116, 32, 97, 32, 98] = [[103, 101, 116], [97], [98]] from wordsL_jn [[103, 101, 116], [97], [98]] (by decide)]
  rfl
theorem ex_b : parseS (numsL [115, 101, 116, 32, 107, 32, 49, 32, 48, 32, 50, 13, 10, 120, 121, 13, 10]) = stepO 17 (formT (⟨#[115, 101, 116]⟩ : ByteArray) false [(⟨#[107]⟩ : ByteArray)]) (cmdS 3 (⟨#[107]⟩ : ByteArray) [120, 121] 1 0 0) := by
  rw [show numsL [115, 101, 116, 32, 107, 32, 49, 32, 48, 32, 50, 13, 10, 120, 121, 13, 10] = numsL [115, 101, 116, 32, 107, 32, 49, 32, 48, 32, 50] ++ 13 :: 10 :: [120, 121, 13, 10] from rfl, parse_crlf _ _ (by decide) (by decide), show wordsL [115, 101, 116, 32, 107, 32, 49, 32, 48, 32, 50] = [[115, 101, 116], [107], [49], [48], [50]] from wordsL_jn [[115, 101, 116], [107], [49], [48], [50]] (by decide)]
  show parseW _ _ ((⟨#[115, 101, 116]⟩ : ByteArray) :: [(⟨#[107]⟩ : ByteArray), (⟨#[49]⟩ : ByteArray), (⟨#[48]⟩ : ByteArray), (⟨#[50]⟩ : ByteArray)]) = _
  rw [W_loud (by decide) (by decide) (by decide) (by decide) (more_lit rfl (k := 4) rfl (by decide) (by decide))]
  unfold otherS
  rw [if_pos rfl]
  unfold storesS
  rw [if_neg (fun h => h rfl)]
  show storesR (⟨#[115, 101, 116]⟩ : ByteArray) false 13 [120, 121, 13, 10] 3 (⟨#[107]⟩ : ByteArray) (⟨#[49]⟩ : ByteArray) (⟨#[48]⟩ : ByteArray) (⟨#[50]⟩ : ByteArray) (0, true) = _
  unfold storesR
  rw [sgn0, show decS (⟨#[49]⟩ : ByteArray) = (1, true) by decide, show decS (⟨#[50]⟩ : ByteArray) = (2, true) by decide, show keyS (⟨#[107]⟩ : ByteArray) = true by decide, if_neg (by decide), if_neg (by decide)]
  rfl
theorem ex_c : parseS (numsL [103, 101, 116, 13, 10]) = stepF 5 (⟨#[69, 82, 82, 79, 82]⟩ : ByteArray) := by
  rw [show numsL [103, 101, 116, 13, 10] = numsL [103, 101, 116] ++ 13 :: 10 :: [] from rfl, parse_crlf _ [] (by decide) (by decide), show wordsL [103, 101, 116] = [[103, 101, 116]] from wordsL_jn [[103, 101, 116]] (by decide)]
  rfl
end Go.Proofs.YtfljijpkeckeaaaGreatDoor.X
namespace Go.Proofs.YtfljijpkeckeaaaGreatDoor.X
open Go.RowKit Go.Proofs.YtfljijpkeckeaaaGreatDoorW.PrintWords Go.Proofs.YtfljijpkeckeaaaGreatDoorW.PrintMore Go.Proofs.YtfljijpkeckeaaaGreatDoorW.PrintLast
set_option linter.unusedVariables false
set_option linter.unusedSimpArgs false
/-- A step as the laws read it: some of its cells, and that it is the step. -/
def PV (w : World) (st : Step) (n : Nat) (q : Bool) (r : ByteArray) (u k : Int) (b : Bool) (er : Int) (e : Ending) (w' : World) : Prop := ∃ (A0 : Option Addr) (c0 : Nat) (x1 : Int) (x2 : ByteArray) (x3 x4 : Int) (x6 : Bool) (x7 : ByteArray) (A8 : Option Addr) (n8 c8 : Nat) (A9 : Option Addr) (n9 c9 : Nat) (x10 : Bool), e = .returned (.agg ([.slice A0 n c0, .int .i64 x1, .string x2, .int .i64 x3, .int .u32 x4, .bool q, .bool x6, .string x7, .slice A8 n8 c8, .slice A9 n9 c9, .bool x10, .string r, .int .i64 u, .int .i64 k, .bool b, .int .i64 er] : List Value).toArray) ∧ kStep.K w' st [.slice A0 n c0, .int .i64 x1, .string x2, .int .i64 x3, .int .u32 x4, .bool q, .bool x6, .string x7, .slice A8 n8 c8, .slice A9 n9 c9, .bool x10, .string r, .int .i64 u, .int .i64 k, .bool b, .int .i64 er] ∧ Below w.heap.size w w'
theorem parse_v (l : List Int) (N : Nat) (hN : l.length = N) (st : Step) (hst : parseS l = st) (n : Nat) (q : Bool) (r : ByteArray) (u k : Int) (b : Bool) (er : Int) (hn : st.req.cmds.length = n) (hq : st.req.form.quiet = q) (hr : st.reply = r) (hu : st.used = u) (hk : st.skip = k) (hb : st.line = b) (he : st.e = er)
    (A : Option Addr) (c : Nat) (w : World) (hC : (Kd.int .u8).C w A l.length l) (hc : N ≤ c) (hl : l.length ≤ 1000000) (h8 : B8 l) (hT : Tabs w) : Calls Tryz.prog 12 #[.slice A N c] w (PV w st n q r u k b er) := by
  subst hN hst hn hq hr hu hk hb he
  refine (parse_calls l A c w hC hc hl h8 hT).mono ?_
  rintro e w' ⟨⟨cs, rfl, hk⟩, hb⟩
  have hK := hk.now
  obtain ⟨A0, c0, A8, c8, A9, c9, rfl, -⟩ := kStep_open hK
  exact ⟨A0, c0, _, _, _, _, _, _, A8, _, c8, A9, _, c9, _, rfl, hK, hb⟩
theorem step_C {w : World} {st : Step} {A0 : Option Addr} {n c0 : Nat} {cs : List Value} (h : kStep.K w st (.slice A0 n c0 :: cs)) : kCmd.C w A0 st.req.cmds.length st.req.cmds := by
  obtain ⟨A0', c0', A8, c8, A9, c9, e, h1, h2, -⟩ := kStep_open h
  obtain ⟨rfl, -, -⟩ := Value.slice.inj (List.cons.inj e).1
  exact h2
theorem step_set {w : World} {st : Step} {A0 : Option Addr} {n c0 : Nat} {x1 : Int} {x2 : ByteArray} {x3 x4 : Int} {x6 : Bool} {x7 : ByteArray} {A8 : Option Addr} {n8 c8 : Nat} {A9 : Option Addr} {n9 c9 : Nat} {x10 q : Bool} {r : ByteArray} {u k : Int} {b : Bool} {er : Int} (h : kStep.K w st [.slice A0 n c0, .int .i64 x1, .string x2, .int .i64 x3, .int .u32 x4, .bool q, .bool x6, .string x7, .slice A8 n8 c8, .slice A9 n9 c9, .bool x10, .string r, .int .i64 u, .int .i64 k, .bool b, .int .i64 er]) (u' : Int) (q' : Bool) :
    kStep.K w { st with used := u', req := { st.req with form := { st.req.form with quiet := q' } } } [.slice A0 n c0, .int .i64 x1, .string x2, .int .i64 x3, .int .u32 x4, .bool q', .bool x6, .string x7, .slice A8 n8 c8, .slice A9 n9 c9, .bool x10, .string r, .int .i64 u', .int .i64 k, .bool b, .int .i64 er] := by
  obtain ⟨A0', c0', A8', c8', A9', c9', e, l0, g0, l8, g8, l9, g9⟩ := kStep_open h
  simp only [List.cons.injEq, Value.slice.injEq, Value.int.injEq, Value.string.injEq, Value.bool.injEq, and_true, true_and] at e
  obtain ⟨⟨rfl, rfl, rfl⟩, rfl, rfl, rfl, rfl, rfl, rfl, rfl, ⟨rfl, rfl, rfl⟩, ⟨rfl, rfl, rfl⟩, rfl, rfl, rfl, rfl, rfl, rfl⟩ := e
  exact kStep_mk w { st with used := u', req := { st.req with form := { st.req.form with quiet := q' } } } l0 g0 l8 g8 l9 g9
def awA : List Int := numsL [103, 101, 116, 32, 97, 32, 98, 13, 10]
def awB : List Int := numsL [115, 101, 116, 32, 107, 32, 49, 32, 48, 32, 50, 13, 10, 120, 121, 13, 10]
def awC : List Int := numsL [103, 101, 116, 13, 10]
theorem awA_at {W : World} {b : Nat} {e : TypeId} {fr : Nat × Nat} (hb : W.heap[b]? = some (.cells #[.int .u8 103, .int .u8 101, .int .u8 116, .int .u8 32, .int .u8 97, .int .u8 32, .int .u8 98, .int .u8 13, .int .u8 10] e fr)) : Bytes W (some ⟨b, 0, none⟩) awA := Bytes_at hb awA (by decide) rfl
theorem awB_at {W : World} {b : Nat} {e : TypeId} {fr : Nat × Nat} (hb : W.heap[b]? = some (.cells #[.int .u8 115, .int .u8 101, .int .u8 116, .int .u8 32, .int .u8 107, .int .u8 32, .int .u8 49, .int .u8 32, .int .u8 48, .int .u8 32, .int .u8 50, .int .u8 13, .int .u8 10, .int .u8 120, .int .u8 121, .int .u8 13, .int .u8 10] e fr)) : Bytes W (some ⟨b, 0, none⟩) awB := Bytes_at hb awB (by decide) rfl
theorem awC_at {W : World} {b : Nat} {e : TypeId} {fr : Nat × Nat} (hb : W.heap[b]? = some (.cells #[.int .u8 103, .int .u8 101, .int .u8 116, .int .u8 13, .int .u8 10] e fr)) : Bytes W (some ⟨b, 0, none⟩) awC := Bytes_at hb awC (by decide) rfl
theorem xy_eq : (strOfNums [120, 121]).toList = [120, 121] := by
  rw [ByteArray.toList_eq]
  rfl
set_option maxRecDepth 100000 in
set_option maxHeartbeats 2000000 in
theorem awake_calls (w : World) (hT : Tabs w) : Calls Tryz.prog 10 #[] w fun e w' => e = .returned (.bool true) ∧ Below w.heap.size w w' := by
  have HB := Aside0.mk (Below.refl w.heap.size w)
  have HT := Aside0.mk hT
  have HPA := Aside0.mk (fun (A : Option Addr) (c : Nat) (w' : World) (hC : Bytes w' A awA) (hc : 9 ≤ c) (hT : Tabs w') => parse_v awA 9 rfl _ ex_a 2 false ⟨#[]⟩ 9 0 false 0 rfl rfl rfl rfl rfl rfl rfl A c w' hC hc (by decide) (B8_nums _) hT)
  have HPB := Aside0.mk (fun (A : Option Addr) (c : Nat) (w' : World) (hC : Bytes w' A awB) (hc : 17 ≤ c) (hT : Tabs w') => parse_v awB 17 rfl _ ex_b 1 false ⟨#[]⟩ 17 0 false 0 rfl rfl rfl rfl rfl rfl rfl A c w' hC hc (by decide) (B8_nums _) hT)
  have HPC := Aside0.mk (fun (A : Option Addr) (c : Nat) (w' : World) (hC : Bytes w' A awC) (hc : 5 ≤ c) (hT : Tabs w') => parse_v awC 5 rfl _ ex_c 0 false (⟨#[69, 82, 82, 79, 82, 13, 10]⟩ : ByteArray) 5 0 false 2 rfl rfl rfl rfl rfl rfl rfl A c w' hC hc (by decide) (B8_nums _) hT)
  clear hT
  go_enter Tryz.func10, Tryz.ntmps10
  go_wp2_with (first
    | ((with_reducible refine gate_dst (N := 6) rfl ?_); (first | (refine wp_const_drew rfl _ _ _ rfl _ _ _ _ rfl ?_ Tryz.underlying22 Tryz.underlying5 ?_) | (refine wp_const rfl _ _ _ rfl _ _ _ _ rfl ?_ Tryz.underlying22 Tryz.underlying5 ?_)); (case _ => simp)) | ((with_reducible refine gate_dst (N := 9) rfl ?_); (first | (refine wp_const_drew rfl _ _ _ rfl _ _ _ _ rfl ?_ Tryz.underlying22 Tryz.underlying5 ?_) | (refine wp_const rfl _ _ _ rfl _ _ _ _ rfl ?_ Tryz.underlying22 Tryz.underlying5 ?_)); (case _ => simp)) | ((with_reducible refine gate_dst (N := 12) rfl ?_); (first | (refine wp_const_drew rfl _ _ _ rfl _ _ _ _ rfl ?_ Tryz.underlying22 Tryz.underlying5 ?_) | (refine wp_const rfl _ _ _ rfl _ _ _ _ rfl ?_ Tryz.underlying22 Tryz.underlying5 ?_)); (case _ => simp))
    | (go_at_call 12; (with_reducible refine (HPA.out _ _ _ (awA_at (by repeat first | (apply ha_at; (simp; done)) | apply ha_old)) (by decide) (Tabs.below HT.out (by repeat (first | (with_reducible first | exact HB.out | apply below_alloc | apply pw_below_drewN | apply below_drew1) | exact HB.out)))).mono ?_); rintro e w1 ⟨A0, c0, x1, x2, x3, x4, x6, x7, A8, n8, c8, A9, n9, c9, x10, rfl, hk, hb⟩; have HBn := Aside0.mk (below_step (by repeat (first | (with_reducible first | exact HB.out | apply below_alloc | apply pw_below_drewN | apply below_drew1) | exact HB.out)) hb); clear HB; have HB := HBn; clear HBn; have HK1 := Aside0.mk hk; have HB1 := Aside0.mk (Below.refl w1.heap.size w1); clear hk hb)
    | (go_at_call 12; (with_reducible refine (HPB.out _ _ _ (awB_at (by repeat first | (apply ha_at; (simp; done)) | apply ha_old)) (by decide) (Tabs.below HT.out (by repeat (first | (with_reducible first | exact HB.out | apply below_alloc | apply pw_below_drewN | apply below_drew1) | exact HB.out)))).mono ?_); rintro e w2 ⟨B0, d0, y1, y2, y3, y4, y6, y7, B8, m8, d8, B9, m9, d9, y10, rfl, hk, hb⟩; have B1 := Aside0.mk (blk_below (g := w1.heap.size) (o := .cells #[.slice A0 2 c0, .int .i64 x1, .string x2, .int .i64 x3, .int .u32 x4, .bool false, .bool x6, .string x7, .slice A8 n8 c8, .slice A9 n9 c9, .bool x10, .string ⟨#[]⟩, .int .i64 9, .int .i64 0, .bool false, .int .i64 0] 34 (0, 0)) (by repeat (first | exact blk_at_new _ _ _ (by simp; done) | exact blk_at_new _ _ _ rfl | refine blk_alloc ?_ _ | refine blk_drew ?_ | refine blk_drewN ?_ _)) hb); have HB1n := Aside0.mk (below_step (by repeat (first | (with_reducible first | exact HB1.out | apply below_alloc | apply pw_below_drewN | apply below_drew1) | exact HB1.out)) hb); clear HB1; have HB1 := HB1n; clear HB1n; have HBn := Aside0.mk (below_step (by repeat (first | (with_reducible first | exact HB.out | apply below_alloc | apply pw_below_drewN | apply below_drew1) | exact HB.out)) hb); clear HB; have HB := HBn; clear HBn; have HK2 := Aside0.mk hk; have HB2 := Aside0.mk (Below.refl w2.heap.size w2); clear hk hb)
    | (go_at_call 12; (with_reducible refine (HPC.out _ _ _ (awC_at (by repeat first | (apply ha_at; (simp; done)) | apply ha_old)) (by decide) (Tabs.below HT.out (by repeat (first | (with_reducible first | exact HB.out | apply below_alloc | apply pw_below_drewN | apply below_drew1) | exact HB.out)))).mono ?_); rintro e w3 ⟨C0, e0, z1, z2, z3, z4, z6, z7, C8, k8, e8, C9, k9, e9, z10, rfl, hk, hb⟩; have B1n := Aside0.mk (blk_below (g := w1.heap.size) (o := .cells #[.slice A0 2 c0, .int .i64 x1, .string x2, .int .i64 x3, .int .u32 x4, .bool false, .bool x6, .string x7, .slice A8 n8 c8, .slice A9 n9 c9, .bool x10, .string ⟨#[]⟩, .int .i64 9, .int .i64 0, .bool false, .int .i64 0] 34 (0, 0)) (by repeat (first | exact B1.out | refine blk_alloc ?_ _ | refine blk_drew ?_ | refine blk_drewN ?_ _)) hb); have B2 := Aside0.mk (blk_below (g := w2.heap.size) (o := .cells #[.slice B0 1 d0, .int .i64 y1, .string y2, .int .i64 y3, .int .u32 y4, .bool false, .bool y6, .string y7, .slice B8 m8 d8, .slice B9 m9 d9, .bool y10, .string ⟨#[]⟩, .int .i64 17, .int .i64 0, .bool false, .int .i64 0] 34 (0, 0)) (by repeat (first | exact blk_at_new _ _ _ (by simp; done) | exact blk_at_new _ _ _ rfl | refine blk_alloc ?_ _ | refine blk_drew ?_ | refine blk_drewN ?_ _)) hb); have HB1n := Aside0.mk (below_step (by repeat (first | (with_reducible first | exact HB1.out | apply below_alloc | apply pw_below_drewN | apply below_drew1) | exact HB1.out)) hb); clear HB1; have HB1 := HB1n; clear HB1n; have HB2n := Aside0.mk (below_step (by repeat (first | (with_reducible first | exact HB2.out | apply below_alloc | apply pw_below_drewN | apply below_drew1) | exact HB2.out)) hb); clear HB2; have HB2 := HB2n; clear HB2n; have HBn := Aside0.mk (below_step (by repeat (first | (with_reducible first | exact HB.out | apply below_alloc | apply pw_below_drewN | apply below_drew1) | exact HB.out)) hb); clear HB; have HB := HBn; clear HBn; clear hk hb; (have l1 : w1.heap.size < w3.heap.size := blk_lt B1n.out; have l2 : w2.heap.size < w3.heap.size := blk_lt B2.out; obtain ⟨b1, o1, E1, f1, rfl, hb1, hr1, -, -⟩ := cmd_v (step_C HK1.out) 1 (cmdK 0 0 0 (⟨#[98]⟩ : ByteArray)) rfl; obtain ⟨b2, o2, E2, f2, rfl, hb2, hr2, hl2, hC2⟩ := cmd_v (step_C HK2.out) 0 (cmdS 3 (⟨#[107]⟩ : ByteArray) [120, 121] 1 0 0) rfl; have HR2 : Aside0 (w2.rangeAt b2 o2 [.int .i64 3, .string (⟨#[107]⟩ : ByteArray), .slice E2 2 f2, .int .u32 1, .int .i64 0, .int .u64 0, .int .u64 0, .int .u64 0, .bool false, .bool false]) := ⟨hr2⟩; have HC2 : Aside0 ((Kd.int .u8).C w2 E2 2 [120, 121]) := ⟨hC2⟩; have lb1 : b1 < w3.heap.size := Nat.lt_of_lt_of_le hb1 HB1.out.size; have lb2 : b2 < w3.heap.size := Nat.lt_of_lt_of_le hb2 HB2.out.size; have k1 : w3.cell? ⟨b1, o1 + 11, none⟩ = some (.string (⟨#[98]⟩ : ByteArray)) := (HB1.out.cell (p := ⟨b1, o1 + 11, none⟩) hb1).trans (hr1 1 _ rfl); have k2 : w3.cell? ⟨b1, o1 + 10 + 1, none⟩ = some (.string (⟨#[98]⟩ : ByteArray)) := k1; clear hr1 hr2 hC2 hl2; have a0 : w3.cell? ⟨w1.heap.size, 0, none⟩ = some (.slice (some ⟨b1, o1, none⟩) 2 c0) := (blk_cell B1n.out 0).trans rfl; have g0 : w3.cell? ⟨w2.heap.size, 0, none⟩ = some (.slice (some ⟨b2, o2, none⟩) 1 d0) := (blk_cell B2.out 0).trans rfl; have g12 : w3.cell? ⟨w2.heap.size, 12, none⟩ = some (.int .i64 17) := (blk_cell B2.out 12).trans rfl; have r2 : (convert 22 9 (.slice E2 2 f2)).run Tryz.prog ((w3.alloc (.cells #[.slice C0 0 e0, .int .i64 z1, .string z2, .int .i64 z3, .int .u32 z4, .bool false, .bool z6, .string z7, .slice C8 k8 e8, .slice C9 k9 e9, .bool z10, .string (⟨#[69, 82, 82, 79, 82, 13, 10]⟩ : ByteArray), .int .i64 5, .int .i64 0, .bool false, .int .i64 2] 34 (0, 0))).alloc (.cells #[.int .i64 3, .string (⟨#[107]⟩ : ByteArray), .slice E2 2 f2, .int .u32 1, .int .i64 0, .int .u64 0, .int .u64 0, .int .u64 0, .bool false, .bool false] 40 (0, 0))) = .ok (.string (strOfNums [120, 121])) ((w3.alloc (.cells #[.slice C0 0 e0, .int .i64 z1, .string z2, .int .i64 z3, .int .u32 z4, .bool false, .bool z6, .string z7, .slice C8 k8 e8, .slice C9 k9 e9, .bool z10, .string (⟨#[69, 82, 82, 79, 82, 13, 10]⟩ : ByteArray), .int .i64 5, .int .i64 0, .bool false, .int .i64 2] 34 (0, 0))).alloc (.cells #[.int .i64 3, .string (⟨#[107]⟩ : ByteArray), .slice E2 2 f2, .int .u32 1, .int .i64 0, .int .u64 0, .int .u64 0, .int .u64 0, .bool false, .bool false] 40 (0, 0))) := Kd.C_string Tryz.underlying22 Tryz.underlying5 Tryz.underlying9 (Kd.C_below HC2.out (by repeat (first | (with_reducible first | exact HB2.out | apply below_alloc | apply pw_below_drewN | apply below_drew1) | exact HB2.out))); have hxy : ((strOfNums [120, 121]).toList == [120, 121]) = true := beq_iff_eq.2 xy_eq))
    | (refine wpList_load_mid rfl 40 _ rfl b2 o2 rfl [.int .i64 3, .string (⟨#[107]⟩ : ByteArray), .slice E2 2 f2, .int .u32 1, .int .i64 0, .int .u64 0, .int .u64 0, .int .u64 0, .bool false, .bool false] _ (range_below HR2.out (by repeat (first | (with_reducible first | exact HB2.out | apply below_alloc | apply pw_below_drewN | apply below_drew1) | exact HB2.out)) hb2) Tryz.underlying40 rfl (by kernel_rfl) ?_))
  go_ret
  exact ⟨rfl, (by repeat (first | (with_reducible first | exact HB.out | apply below_alloc | apply pw_below_drewN | apply below_drew1) | exact HB.out))⟩
end Go.Proofs.YtfljijpkeckeaaaGreatDoor.X
namespace Go.Proofs.YtfljijpkeckeaaaGreatDoor.X
open Go.RowKit Go.Proofs.YtfljijpkeckeaaaGreatDoorW.PrintWords Go.Deep
set_option linter.unusedVariables false
set_option linter.unusedSimpArgs false

def OpensAt (P : Program) (t : TypeId) {α : Type} (d : Kd α) (wf : α → Prop) : Prop :=
  ∀ (H : Type) (enc : TypeId × Value → H) (W : World) (fuel : Nat) (cs : List Value) (x : DataW H × List MemPlace), DataW.trod enc P W 0 (fun _ => true) true fuel t cs = some x → ∃ y, d.K W y cs ∧ wf y
def OpensFs (P : Program) (fs : List Field) (o : Nat) {α : Type} (d : Kd α) (wf : α → Prop) : Prop :=
  ∀ (H : Type) (enc : TypeId × Value → H) (W : World) (n : Nat) (cs : List Value), cs.length = o + d.sz →
    (∀ (i : Nat) (f : Field), fs[i]? = some f → ∃ x : DataW H × List MemPlace, DataW.trod enc P W 0 (fun _ => true) true n f.type ((cs.drop f.offset).take (P.cellsOf f.type)) = some x) → ∃ y, d.K W y (cs.drop o) ∧ wf y
section
variable {P : Program} {α β : Type} {d : Kd α} {e : Kd β} {wf : α → Prop} {wg : β → Prop}
theorem opens_int {t : TypeId} {k : IntKind} (ht : P.underlying t = some (.int k)) : OpensAt P t (Kd.int k) (fun n => (Lit.int k n).wf = true) := fun H enc W fuel cs x h => by
  obtain ⟨n, rfl, _, hw⟩ := DataW.trod_int ht h
  exact ⟨n, rfl, hw⟩
theorem opens_bool {t : TypeId} (ht : P.underlying t = some .bool) : OpensAt P t Kd.bool (fun _ => True) := fun H enc W fuel cs x h => by
  obtain ⟨b, rfl, _⟩ := DataW.trod_bool ht h
  exact ⟨b, rfl, trivial⟩
theorem opens_string {t : TypeId} (ht : P.underlying t = some .string) : OpensAt P t Kd.string (fun s => s.size ≤ 9223372036854775807) := fun H enc W fuel cs x h => by
  obtain ⟨s, rfl, _, hw⟩ := DataW.trod_string ht h
  exact ⟨s, rfl, hw⟩
theorem cells_some {W : World} {a : Addr} {n : Nat} {cs : List Value} (h : W.cells? 0 a n = some cs) : cs.length = n ∧ ∀ i u, cs[i]? = some u → W.cell? (a.add i) = some u := by
  unfold World.cells? at h
  rw [if_pos (Nat.zero_le _)] at h
  have hl : cs.length = n := by simpa using mapM_some_length h
  refine ⟨hl, fun i u hu => ?_⟩
  have hi : i < n := by rw [← hl]; exact (List.getElem?_eq_some_iff.1 hu).1
  have := mapM_some_get h i i (by simp [hi])
  rw [this, hu]
theorem opens_slice {t et : TypeId} (ht : P.underlying t = some (.slice et)) (hs : P.cellsOf et = d.sz) (he : OpensAt P et d wf) : OpensAt P t (Kd.slice et d) (fun l => l.length ≤ 9223372036854775807 ∧ ∀ y ∈ l, wf y) := fun H enc W fuel cs x h => by
  rcases open_slice ht h with ⟨rfl, _⟩ | ⟨a, len, cap, m, n, D, Pl, rfl, _, hl, hm, hmm, hxx, hel⟩
  · exact ⟨[], ⟨none, 0, rfl, Nat.le_refl _, ⟨rfl, Nat.zero_le _, fun h => absurd h (Nat.lt_irrefl _)⟩⟩, Nat.zero_le _, fun y hy => by cases hy⟩
  · have hmc : m = cap := by simpa using hmm
    have hex : ∀ i, i < len → ∃ y, (∃ cs', (cs'.length = d.sz ∧ ∀ j u, cs'[j]? = some u → W.cell? ((a.add (i * d.sz)).add j) = some u) ∧ d.K W y cs') ∧ wf y := fun i hi => by
      obtain ⟨cs', h1, h2⟩ := hel i (by omega)
      obtain ⟨y, hK, hw⟩ := he H enc W n cs' _ h2
      rw [hs] at h1
      exact ⟨y, ⟨cs', cells_some h1, hK⟩, hw⟩
    have hch : ∃ l : List α, l.length = len ∧ ∀ i y, l[i]? = some y → (∃ cs', (cs'.length = d.sz ∧ ∀ j u, cs'[j]? = some u → W.cell? ((a.add (i * d.sz)).add j) = some u) ∧ d.K W y cs') ∧ wf y := by
      clear hel h hmm hl hm hxx
      induction len with
      | zero => exact ⟨[], rfl, fun i y h => by simp at h⟩
      | succ k ih =>
        obtain ⟨l, hll, hl2⟩ := ih (fun i hi => hex i (by omega))
        obtain ⟨y, hy⟩ := hex k (by omega)
        refine ⟨l ++ [y], by simp [hll], fun i z hz => ?_⟩
        rcases Nat.lt_or_ge i l.length with hi | hi
        · rw [List.getElem?_append_left hi] at hz
          exact hl2 i z hz
        · have : i = k := by
            have := (List.getElem?_eq_some_iff.1 hz).1
            rw [List.length_append, List.length_singleton] at this
            omega
          subst this
          rw [List.getElem?_append_right hi, show i - l.length = 0 by omega] at hz
          obtain rfl := Option.some.inj hz
          exact hy
    obtain ⟨l, rfl, hl2⟩ := hch
    have hmx : l.length ≤ 9223372036854775807 := Nat.le_trans hl hm
    refine ⟨l, ⟨some a, cap, rfl, hl, rfl, hmx, fun _ => ⟨a, rfl, fun j p hj => ?_⟩⟩, hmx, fun y hy => ?_⟩
    · obtain ⟨⟨cs', ⟨hcl, hcc⟩, hK⟩, _⟩ := hl2 j p hj
      refine ⟨cs', hcl, hK, fun i u hu => ?_⟩
      have := hcc i u hu
      rwa [Go.Deep.add_add] at this
    · obtain ⟨i, hi, rfl⟩ := List.mem_iff_getElem.1 hy
      exact (hl2 i _ (List.getElem?_eq_getElem hi)).2
theorem opens_one {f : Field} {o : Nat} (ho : f.offset = o) (hs : P.cellsOf f.type = d.sz) (h : OpensAt P f.type d wf) : OpensFs P [f] o d wf := fun H enc W n cs hl hx => by
  obtain ⟨x, hx⟩ := hx 0 f rfl
  rw [ho, hs, List.take_of_length_le (by rw [List.length_drop]; omega)] at hx
  exact h H enc W n _ x hx
theorem opens_cons {f : Field} {fs : List Field} {o : Nat} (ho : f.offset = o) (hs : P.cellsOf f.type = d.sz) (h : OpensAt P f.type d wf) (hr : OpensFs P fs (o + d.sz) e wg) : OpensFs P (f :: fs) o (Kd.pair d e) (fun p => wf p.1 ∧ wg p.2) := fun H enc W n cs hl hx => by
  have hl' : cs.length = o + (d.sz + e.sz) := hl
  obtain ⟨x, h0⟩ := hx 0 f rfl
  rw [ho, hs] at h0
  obtain ⟨y, hK, hw⟩ := h H enc W n _ x h0
  obtain ⟨z, hKz, hwz⟩ := hr H enc W n cs (by omega) (fun i g hg => hx (i + 1) g hg)
  refine ⟨(y, z), ⟨_, _, ?_, hK, hKz⟩, hw, hwz⟩
  rw [← List.drop_drop, List.take_append_drop]
theorem opens_struct {t : TypeId} {fs : Array Field} (ht : P.underlying t = some (.struct fs)) (hs : P.cellsOf t = d.sz) (h : OpensFs P fs.toList 0 d wf) : OpensAt P t d wf := fun H enc W fuel cs x hx => by
  obtain ⟨xs, n, rfl, _, hl, hxl, hf⟩ := DataW.trod_struct ht hx
  have := h H enc W n cs (by omega) (fun i f hi => by
    have hi2 : fs[i]? = some f := by simpa using hi
    have hil : i < fs.size := (Array.getElem?_eq_some_iff.1 hi2).1
    rw [hf i f hi2]
    exact ⟨_, List.getElem?_eq_getElem (by omega)⟩)
  simpa using this
theorem opens_iso {t : TypeId} (h : OpensAt P t d wf) (f : β → α) (g : α → β) (hfg : ∀ y, f (g y) = y) : OpensAt P t (Kd.iso d f) (fun x => wf (f x)) := fun H enc W fuel cs x hx => by
  obtain ⟨y, hK, hw⟩ := h H enc W fuel cs x hx
  exact ⟨g y, by show d.K W (f (g y)) cs; rw [hfg]; exact hK, by show wf (f (g y)); rw [hfg]; exact hw⟩
theorem OpensAt.imp {t : TypeId} (h : OpensAt P t d wf) {wf' : α → Prop} (hi : ∀ x, wf x → wf' x) : OpensAt P t d wf' := fun H enc W fuel cs x hx => by
  obtain ⟨y, hK, hw⟩ := h H enc W fuel cs x hx
  exact ⟨y, hK, hi y hw⟩
end
theorem u64_lo {n : Int} (h : (Lit.int .u64 n).wf = true) : 0 ≤ n := by
  have e1 : IntKind.u64.min = 0 := rfl
  simp [Lit.wf, e1] at h
  omega
theorem u64_hi {n : Int} (h : (Lit.int .u64 n).wf = true) : n ≤ 18446744073709551615 := by
  have e1 : IntKind.u64.max = 18446744073709551615 := rfl
  simp [Lit.wf, e1] at h
  omega
theorem i64_lo {n : Int} (h : (Lit.int .i64 n).wf = true) : -9223372036854775808 ≤ n := by
  have e1 : IntKind.i64.min = -9223372036854775808 := rfl
  simp [Lit.wf, e1] at h
  omega
theorem i64_hi {n : Int} (h : (Lit.int .i64 n).wf = true) : n ≤ 9223372036854775807 := by
  have e1 : IntKind.i64.max = 9223372036854775807 := rfl
  simp [Lit.wf, e1] at h
  omega
theorem u8_lo {n : Int} (h : (Lit.int .u8 n).wf = true) : 0 ≤ n ∧ n < 256 := by
  have e1 : IntKind.u8.max = 255 := rfl
  have e0 : IntKind.u8.min = 0 := rfl
  simp [Lit.wf, e1, e0] at h
  omega
end Go.Proofs.YtfljijpkeckeaaaGreatDoor.X
namespace Go.Proofs.YtfljijpkeckeaaaGreatDoor.X
open Go.RowKit Go.Proofs.YtfljijpkeckeaaaGreatDoorW.PrintWords Go.Deep
set_option linter.unusedVariables false
theorem u32_lo {n : Int} (h : (Lit.int .u32 n).wf = true) : 0 ≤ n := by
  have e1 : IntKind.u32.min = 0 := rfl
  simp [Lit.wf, e1] at h
  omega
theorem u32_hi {n : Int} (h : (Lit.int .u32 n).wf = true) : n ≤ 4294967295 := by
  have e1 : IntKind.u32.max = 4294967295 := rfl
  simp [Lit.wf, e1] at h
  omega
end Go.Proofs.YtfljijpkeckeaaaGreatDoor.X
