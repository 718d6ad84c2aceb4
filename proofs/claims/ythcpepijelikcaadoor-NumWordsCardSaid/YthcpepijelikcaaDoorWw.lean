/- The law's words: at most so many of a line's words. -/
import Derived.Test.YthcpepijelikcaaDoorWi
namespace Go.Proofs.YthcpepijelikcaaDoor.X
open Go.RowKit Go.Shelf Go.Proofs.YthcpepijelikcaaDoorW.PrintWords
set_option linter.unusedVariables false
set_option linter.unusedSimpArgs false
attribute [local go_sem] Oper.semAt_some

set_option maxHeartbeats 1000000 in
theorem mkWords_in (n : Nat) (s : ByteArray) (w : World) :
    CallsIn Fence.wide n Tryd.prog 27 #[.string s] w fun e w' => e = .returned (.func (.func 33) #[] #[.pointer (some ⟨w.heap.size, 0, none⟩)]) ∧ w' = w.alloc (.cells #[.string s] 9) := by
  refine callsIn_of_wp Tryd.func27 rfl trivial ?_ rfl
  simp only [Tryd.ntmps27, List.size_toArray, List.length_cons, List.length_nil, Nat.reduceAdd, Nat.reduceSub, Array.replicate_succ, Array.replicate_zero, List.push_toArray, List.append_toArray, List.nil_append, List.cons_append]
  gi_wp2
  go_ret
  exact ⟨rfl, rfl⟩
theorem words_stops (n : Nat) (hn : 1 ≤ n) (Bn n₀ : Nat) (s : ByteArray) (hs : s.size ≤ 9223372036854775807) (w : World) (hBn : Bn < w.heap.size) (hc : w.cell? ⟨Bn, 0, none⟩ = some (.string s)) :
    SeqStopsK Fence.wide n Tryd.prog 33 #[.pointer (some ⟨Bn, 0, none⟩)] (fun x : ByteArray => #[Value.string x]) (Below n₀) (fun ys => ys = wordsB s) (fun pre => pre <+: wordsB s) (wordsB s).length w := fun l J Jx W hW hJ _ hY h0 =>
  words1_in n hn l Bn n₀ s hs J Jx hY W hJ ((hW.cell (p := ⟨Bn, 0, none⟩) hBn).trans hc) h0
theorem info9 : (Tryd.prog.info? 9).map (fun i => (i.zero, i.size, i.bytes)) = some (some (.string ⟨#[]⟩), 1, 16) := by kernel_rfl
theorem words_lenL (l : List UInt8) : (wordsL l).length ≤ l.length := by
  induction h : l.length using Nat.strongRecOn generalizing l with
  | _ n ih =>
    by_cases h0 : trimL l = []
    · rw [wordsL_nil _ h0]; simp
    · rw [wordsL_cons _ h0, List.length_cons]
      have h1 := tailW_lt l h0
      have h2 := ih _ (by omega) (tailW (trimL l)) rfl
      omega
theorem words_len (s : ByteArray) : (wordsB s).length ≤ s.size := by
  unfold wordsB
  rw [List.length_map]
  exact words_lenL _
set_option maxRecDepth 100000 in
set_option maxHeartbeats 2000000 in
theorem lwords_in (n : Nat) (hn : 3 ≤ n) (s : ByteArray) (hs : s.size ≤ 10000) (most : Int) (hm : 1 ≤ most) (hm2 : most ≤ 9223372036854775807) (w : World) :
    CallsIn Fence.wide n Tryd.prog 26 #[.string s, .int .i64 most] w fun e W' => ∃ v, e = .returned v ∧ W'.ownsRow w.heap.size 9 1 v ((wordsB s).take most.toNat).length (((wordsB s).take most.toNat).map Value.string) ∧ Below w.heap.size w W' := by
  have h1 : 1 ≤ n := by omega
  obtain ⟨i0, hi, hz0, hz1, hz2⟩ := info_parts info9
  have hlt : decide (most < 1) = false := by simp; omega
  have hlen := words_len s
  refine callsIn_of_wp_marks Tryd.func26 rfl trivial ?_ rfl
  simp only [Tryd.ntmps26, List.size_toArray, List.length_cons, List.length_nil, Nat.reduceAdd, Nat.reduceSub, Array.replicate_succ, Array.replicate_zero, List.push_toArray, List.append_toArray, List.nil_append, List.cons_append]
  gi_wp2_with (refine ⟨trivial, ?_⟩; gi_at_call 27; refine (mkWords_in _ _ _).mono ?_; rintro e w' ⟨rfl, rfl⟩)
  have bM := (((Boxed.new w 3 (.int .i64 most)).alloc (.cells #[.slice none 0 0] 43)).alloc (.cells #[.string s] 9))
  have bL := Boxed.new (w.alloc (.cells #[.int .i64 most] 3)) 43 (.slice none 0 0)
  rw [World.size_alloc] at bL
  have bS := Boxed.new ((w.alloc (.cells #[.int .i64 most] 3)).alloc (.cells #[.slice none 0 0] 43)) 9 (.string s)
  rw [World.size_alloc, World.size_alloc] at bS
  have hB0 : Below w.heap.size w (((w.alloc (.cells #[.int .i64 most] 3)).alloc (.cells #[.slice none 0 0] 43)).alloc (.cells #[.string s] 9)) := (((Below.refl _ w).alloc (Nat.le_refl _) _).alloc (by simp) _).alloc (by simp; omega) _
  refine wpIn_rangeFunc_ownG rfl h1 (gf := 33) (lb := #[.pointer (some ⟨w.heap.size + 1 + 1, 0, none⟩)]) rfl trivial (enters_of Tryd.func33 (by kernel_rfl) rfl)
    (words_stops (n - 1) (by omega) (w.heap.size + 1 + 1) w.heap.size s (by omega) _ (by simp) bS.cell) belowK_t (belowK_b (by simp; omega)) (Below.refl _ _) (fun _ => rfl)
    (fun pre W => ((∃ v, Boxed W (w.heap.size + 1) 43 v ∧ W.ownsRow w.heap.size 9 1 v pre.length (pre.map Value.string) ∧ (pre.length : Int) < most) ∧ Boxed W w.heap.size 3 (.int .i64 most)) ∧ Below w.heap.size w W)
    (fun c pre W => (((∃ v, Boxed W (w.heap.size + 1) 43 v ∧ W.ownsRow w.heap.size 9 1 v pre.length (pre.map Value.string) ∧ (pre.length : Int) = most) ∧ Boxed W w.heap.size 3 (.int .i64 most)) ∧ Below w.heap.size w W) ∧ c = Code.exit 0)
    (OwnFrom.and (OwnFrom.and (Own.from (holdsRow_own w.heap.size (w.heap.size + 1) 43 9 1 (fun (pre : List ByteArray) => pre.length) (fun pre => pre.map Value.string) (fun pre v => (pre.length : Int) < most)) _) (Own.from (boxed_own _ _ (fun (_ : List ByteArray) => .int .i64 most)) _)) (ownFrom_below (Nat.le_refl _) (by simp; omega)))
    (fun c => OwnFrom.and (OwnFrom.and (OwnFrom.and (Own.from (holdsRow_own w.heap.size (w.heap.size + 1) 43 9 1 (fun (pre : List ByteArray) => pre.length) (fun pre => pre.map Value.string) (fun pre v => (pre.length : Int) = most)) _) (Own.from (boxed_own _ _ (fun (_ : List ByteArray) => .int .i64 most)) _)) (ownFrom_below (Nat.le_refl _) (by simp; omega))) (fun _ _ _ _ hs _ _ => hs))
    ⟨⟨⟨_, bL.alloc _, World.ownsRow_nil _ _ _ _, by simp; omega⟩, bM⟩, hB0⟩
    (fun x => { tmps := #[.string s, .int .i64 most, undef, .pointer (some ⟨w.heap.size, 0, none⟩), .slice none 0 0, .pointer (some ⟨w.heap.size + 1, 0, none⟩), .string x, .int .i64 most, .bool false, .string s, .func (.func 33) #[] #[.pointer (some ⟨w.heap.size + 1 + 1, 0, none⟩)], .string x, undef, undef, undef, undef, undef, undef, undef, undef, undef], defers := [] }) ?assign ?body ?done ?stop
  case assign =>
    intro l x W K hK
    gi_wp2
    exact hK
  case body =>
    rintro l pre x W ⟨⟨⟨v, hv, hrow, hpm⟩, hbm⟩, hB⟩ hlt2
    have hc := hv.cell
    have hcm := hbm.cell
    have hbnd : pre.length ≤ 10000 := by omega
    have hne := hbm.not_row (by decide : (3 : Nat) ≠ 9) hrow
    by_cases hmm : (pre.length : Int) + 1 = most
    · have hmb : ((pre.length : Int) + 1 == most) = true := beq_iff_eq.2 hmm
      gi_wp2_with (gi_at_builtin; refine wpListIn_append_own _ rfl _ _ 43 rfl w.heap.size 9 i0 (.string ⟨#[]⟩) 1 16 Tryd.underlying43 hi hz0 hz1 hz2 rfl (by decide) _ _ _ rfl (hrow.alloc _) ⟨W.heap.size, 0, none⟩ 1 1 [.string x] rfl rfl (cell_one_new _ _ _) (by simp [Value.oneCell']) (by unfold maxLen; omega) (by omega) (by have := hB.size; simp; omega) ?_; intro v' w1 hown' hgrow _; obtain ⟨g', cap', rfl⟩ := ownsRow_succ hown'; obtain ⟨hv1, hv2, hr2, hk2, hb2⟩ := hv.appended (by decide) hrow hB.size (by omega) hown' hgrow; have hbm2 := ((hbm.alloc _).kept hgrow hne).other (show w.heap.size ≠ w.heap.size + 1 by omega) (.slice (some ⟨g', 0, none⟩) (pre.length + 1) cap'); have hc1 := hv1.cell; have hf1 := hv1.frozen; have hcm2 := hbm2.cell)
      exact ⟨hk2.from _, ⟨⟨⟨_, hv2, by simpa using hr2, by simp; omega⟩, hbm2⟩, hB.trans hb2⟩, rfl⟩
    · have hmb : ((pre.length : Int) + 1 == most) = false := beq_eq_false_iff_ne.2 hmm
      gi_wp2_with (gi_at_builtin; refine wpListIn_append_own _ rfl _ _ 43 rfl w.heap.size 9 i0 (.string ⟨#[]⟩) 1 16 Tryd.underlying43 hi hz0 hz1 hz2 rfl (by decide) _ _ _ rfl (hrow.alloc _) ⟨W.heap.size, 0, none⟩ 1 1 [.string x] rfl rfl (cell_one_new _ _ _) (by simp [Value.oneCell']) (by unfold maxLen; omega) (by omega) (by have := hB.size; simp; omega) ?_; intro v' w1 hown' hgrow _; obtain ⟨g', cap', rfl⟩ := ownsRow_succ hown'; obtain ⟨hv1, hv2, hr2, hk2, hb2⟩ := hv.appended (by decide) hrow hB.size (by omega) hown' hgrow; have hbm2 := ((hbm.alloc _).kept hgrow hne).other (show w.heap.size ≠ w.heap.size + 1 by omega) (.slice (some ⟨g', 0, none⟩) (pre.length + 1) cap'); have hc1 := hv1.cell; have hf1 := hv1.frozen; have hcm2 := hbm2.cell)
      exact ⟨hk2.from _, hb2, ⟨⟨_, hv2, by simpa using hr2, by simp; omega⟩, hbm2⟩, hB.trans hb2⟩
  case done =>
    rintro D ys W hD rfl ⟨⟨⟨v, hv, hrow, hpm⟩, hbm⟩, hB⟩ hK
    have hc := hv.cell
    gi_wp2
    refine ⟨by simp, .inl ⟨_, _, rfl, run_takeDeferred hK, ?_⟩⟩
    refine ⟨_, results_tmp rfl _ _ _, v, rfl, ?_, hB.trans (belowK_b (w := w) (Nat.le_refl _) W D _ _ (by simp at hD; omega) hK rfl rfl)⟩
    rw [List.take_of_length_le (by omega)]
    exact ownsRow_putObj hrow _ hK rfl
  case stop =>
    rintro D c pre W hD hpre ⟨⟨⟨⟨v, hv, hrow, hpm⟩, hbm⟩, hB⟩, rfl⟩ hK
    have hc := hv.cell
    gi_wp2
    refine ⟨by simp, .inl ⟨_, _, rfl, run_takeDeferred hK, ?_⟩⟩
    refine ⟨_, results_tmp rfl _ _ _, v, rfl, ?_, hB.trans (belowK_b (w := w) (Nat.le_refl _) W D _ _ (by simp at hD; omega) hK rfl rfl)⟩
    have he : (wordsB s).take most.toNat = pre := by
      obtain ⟨r, hr⟩ := hpre
      rw [← hr, show most.toNat = pre.length by omega, List.take_left' rfl]
    rw [he]
    exact ownsRow_putObj hrow _ hK rfl
end Go.Proofs.YthcpepijelikcaaDoor.X
