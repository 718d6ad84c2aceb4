/- NumJoins: plain Lean on the printed law. -/
import Derived.Test.YthcpepijelikcaaDoorLJoins
import Derived.Test.YthcpepijelikcaaDoorPaw
namespace Go.Proofs.YthcpepijelikcaaDoor.X
open Go.RowKit Go.Proofs.YthcpepijelikcaaDoorW.PrintWords Go.Proofs.YthcpepijelikcaaDoorW.PrintMore
set_option linter.unusedVariables false
set_option linter.unusedSimpArgs false

theorem Ev.pos {α : Type} {c : Prop} [Decidable c] {f g : Nat → Option α} {r : α} (h : c) (k : Ev f r) : Ev (fun n => if c then f n else g n) r := by
  obtain ⟨K, hK⟩ := k
  exact ⟨K, fun n hn => by simp only [if_pos h]; exact hK n hn⟩
theorem Ev.neg {α : Type} {c : Prop} [Decidable c] {f g : Nat → Option α} {r : α} (h : ¬ c) (k : Ev g r) : Ev (fun n => if c then f n else g n) r := by
  obtain ⟨K, hK⟩ := k
  exact ⟨K, fun n hn => by simp only [if_neg h]; exact hK n hn⟩
theorem ev_to {α : Type} {g : Nat → Option α} {r s : α} (h : Ev g r) (e : r = s) : Ev g s := e ▸ h
theorem ev_some {α : Type} {o : Option α} {r : α} (h : o = some r) : Ev (fun _ => o) r := ⟨0, fun _ _ => h⟩
theorem w64j (n : Int) (h0 : -9223372036854775808 ≤ n) (h1 : n ≤ 9223372036854775807) : wrap64 n = n := by unfold wrap64; omega
def NoB (w : List UInt8) : Prop := w ≠ [] ∧ ∀ b ∈ w, b ≠ 32
def jn : List (List UInt8) → List UInt8
  | [] => []
  | [w] => w
  | w :: v :: r => w ++ 32 :: jn (v :: r)
theorem jn_snoc : ∀ (p : List (List UInt8)) (w : List UInt8), p ≠ [] → jn (p ++ [w]) = jn p ++ 32 :: w
  | [], _, h => absurd rfl h
  | [v], w, _ => rfl
  | v :: u :: r, w, _ => by
    have ih := jn_snoc (u :: r) w (by simp)
    show v ++ 32 :: jn ((u :: r) ++ [w]) = (v ++ 32 :: jn (u :: r)) ++ 32 :: w
    rw [ih]
    simp
theorem trimL_head (b : UInt8) (l : List UInt8) (h : b ≠ 32) : trimL (b :: l) = b :: l := by
  unfold trimL Lib.trimLeftB
  simp [List.dropWhile_cons, h]
theorem headW_app (w r : List UInt8) (h : ∀ b ∈ w, b ≠ 32) : headW (w ++ 32 :: r) = w := by
  induction w with
  | nil => simp [headW]
  | cons b w ih =>
    have hb := h b (by simp)
    have := ih (fun c hc => h c (by simp [hc]))
    unfold headW at this ⊢
    simp [hb, this]
theorem headW_all (w : List UInt8) (h : ∀ b ∈ w, b ≠ 32) : headW w = w := by
  induction w with
  | nil => rfl
  | cons b w ih =>
    have hb := h b (by simp)
    have := ih (fun c hc => h c (by simp [hc]))
    unfold headW at this ⊢
    simp [hb, this]
theorem wordsL_jn : ∀ (ws : List (List UInt8)), (∀ w ∈ ws, NoB w) → wordsL (jn ws) = ws
  | [], _ => wordsL_nil _ rfl
  | [w], h => by
    obtain ⟨h1, h2⟩ := h w (by simp)
    obtain ⟨b, r, rfl⟩ := List.exists_cons_of_ne_nil h1
    show wordsL (b :: r) = _
    have ht := trimL_head b r (h2 b (by simp))
    rw [wordsL_cons _ (by rw [ht]; simp), ht, headW_all _ h2]
    have : tailW (b :: r) = [] := by
      unfold tailW
      rw [headW_all _ h2]
      exact List.drop_eq_nil_of_le (by omega)
    rw [this, wordsL_nil _ rfl]
  | w :: v :: rs, h => by
    have ih := wordsL_jn (v :: rs) (fun x hx => h x (by simp at hx ⊢; right; exact hx))
    obtain ⟨h1, h2⟩ := h w (by simp)
    obtain ⟨b, r, rfl⟩ := List.exists_cons_of_ne_nil h1
    show wordsL ((b :: r) ++ 32 :: jn (v :: rs)) = _
    have ht : trimL ((b :: r) ++ 32 :: jn (v :: rs)) = (b :: r) ++ 32 :: jn (v :: rs) := trimL_head b _ (h2 b (by simp))
    rw [wordsL_cons _ (by rw [ht]; simp), ht, headW_app _ _ h2]
    have : tailW ((b :: r) ++ 32 :: jn (v :: rs)) = jn (v :: rs) := by
      unfold tailW
      rw [headW_app _ _ h2, show (b :: r) ++ 32 :: jn (v :: rs) = ((b :: r) ++ [32]) ++ jn (v :: rs) by simp, List.drop_left' (by simp)]
    rw [this, ih]
theorem trimL_first (l : List UInt8) (b : UInt8) (r : List UInt8) (h : trimL l = b :: r) : b ≠ 32 := by
  intro e
  have := List.head?_dropWhile_not (fun x : UInt8 => x == 32) l
  unfold trimL Lib.trimLeftB at h
  rw [h] at this
  simp [e] at this
theorem headW_ne (l : List UInt8) : ∀ c ∈ headW l, c ≠ 32 := by
  induction l with
  | nil => intro c hc; simp [headW] at hc
  | cons b l ih =>
    intro c hc
    unfold headW at hc ih
    by_cases hb : b = 32
    · simp [hb] at hc
    · have hb2 : (b != 32) = true := by simp [hb]
      rw [List.takeWhile_cons, hb2] at hc
      rcases List.mem_cons.1 hc with rfl | hc
      · exact hb
      · exact ih c hc
theorem wordsL_ok (l : List UInt8) : ∀ w ∈ wordsL l, NoB w := by
  induction h : l.length using Nat.strongRecOn generalizing l with
  | _ n ih =>
    by_cases h0 : trimL l = []
    · rw [wordsL_nil _ h0]; simp
    · rw [wordsL_cons _ h0]
      intro w hw
      rcases List.mem_cons.1 hw with rfl | hw
      · obtain ⟨b, r, hb⟩ := List.exists_cons_of_ne_nil h0
        have hb2 := trimL_first l b r hb
        refine ⟨?_, fun c hc => ?_⟩
        · rw [hb]
          unfold headW
          simp [hb2]
        · exact headW_ne _ c hc
      · exact ih _ (by have := tailW_lt l h0; omega) _ rfl w hw
theorem jn_len (l : List UInt8) : (jn (wordsL l)).length ≤ l.length := by
  induction h : l.length using Nat.strongRecOn generalizing l with
  | _ n ih =>
    by_cases h0 : trimL l = []
    · rw [wordsL_nil _ h0]; simp [jn]
    · have h1 := tailW_lt l h0
      have h2 := ih _ (by omega) (tailW (trimL l)) rfl
      have h3 := trimL_len l
      have h4 := headW_len (trimL l)
      rw [wordsL_cons _ h0]
      cases hw : wordsL (tailW (trimL l)) with
      | nil =>
        show (headW (trimL l)).length ≤ n
        omega
      | cons v r =>
        rw [hw] at h2
        show (headW (trimL l) ++ 32 :: jn (v :: r)).length ≤ n
        rw [List.length_append, List.length_cons]
        have h5 : tailW (trimL l) ≠ [] := fun e => by
          rw [e, wordsL_nil _ rfl] at hw
          cases hw
        have h6 : 0 < (tailW (trimL l)).length := List.length_pos_iff.2 h5
        unfold tailW at h6 h2
        rw [List.length_drop] at h6 h2
        omega
theorem same_l0 (a b : List ByteArray) (hl : a.length = b.length) (hm : a.length ≤ 100000) (hab : a = b) : ∀ (d i : Nat), i + d = a.length → Ev (fun k => butterylaw01_same.l0 k a b i) true
  | 0, i, hd => by
    refine Ev.step (fun k => by rw [butterylaw01_same.l0]) ?_
    exact Ev.neg (by omega) (Ev.now _)
  | d + 1, i, hd => by
    refine Ev.step (fun k => by rw [butterylaw01_same.l0]) ?_
    refine Ev.pos (by omega) (Ev.pos (by omega) (Ev.pos (by omega) (Ev.pos (by rw [hab]) ?_)))
    rw [w64j _ (by omega) (by omega)]
    exact same_l0 a b hl hm hab d (i + 1) (by omega)
theorem same_ev (a : List ByteArray) (hm : a.length ≤ 100000) : Ev (fun k => butterylaw01_same.f k a a) true := by
  unfold butterylaw01_same.f
  exact Ev.pos rfl (same_l0 a a rfl hm rfl a.length 0 (by omega))
theorem words_ev (s : ByteArray) (hs : s.size ≤ 5000) : Ev (fun _ : Nat => butterylaw01_words.f s 5001) (wordsB s) := by
  refine ev_some ?_
  unfold butterylaw01_words.f
  have := words_len s
  rw [if_pos ⟨by omega, by omega⟩, List.take_of_length_le (by omega)]
theorem rd_at (L : List (List UInt8)) (i : Nat) (h : i < L.length) : rdOf ByteArray.empty (L.map baOf) (i : Nat) = baOf L[i] := by
  unfold rdOf
  rw [Int.toNat_natCast, List.getD_eq_getElem?_getD, List.getElem?_eq_getElem (by simpa using h)]
  simp
theorem ba_app (a b : List UInt8) : baOf a ++ baOf b = baOf (a ++ b) := by
  apply ByteArray.ext
  simp [baOf, ByteArray.data_append]
theorem ba_size (a : List UInt8) : (baOf a).size = a.length := by simp [baOf, ByteArray.size]
theorem jn_take_le : ∀ (L : List (List UInt8)) (i : Nat), (jn (L.take i)).length ≤ (jn L).length
  | [], i => by simp
  | [w], 0 => by simp [jn]
  | [w], i + 1 => by simp
  | w :: v :: r, 0 => by simp [jn]
  | w :: v :: r, 1 => by simp [jn]
  | w :: v :: r, i + 2 => by
    have ih := jn_take_le (v :: r) (i + 1)
    have e : (w :: v :: r).take (i + 2) = w :: v :: r.take i := rfl
    rw [e]
    show (w ++ 32 :: jn (v :: r.take i)).length ≤ (w ++ 32 :: jn (v :: r)).length
    have e2 : (v :: r).take (i + 1) = v :: r.take i := rfl
    rw [e2] at ih
    simp only [List.length_append, List.length_cons]
    omega
theorem joins_l0 (s : ByteArray) (hs : s.size ≤ 5000) (L : List (List UInt8)) (hL : wordsL s.data.toList = L) : ∀ (d i : Nat), i + d = L.length →
    Ev (fun k => butterylaw01_NumJoins.l0 k s (L.map baOf) (baOf (jn (L.take i))) i) true
  | 0, i, hd => by
    have hj := jn_len s.data.toList
    rw [hL] at hj
    have hss : s.data.toList.length = s.size := rfl
    have hlen := words_len s
    unfold wordsB at hlen
    rw [List.length_map, hL] at hlen
    refine Ev.step (fun k => by rw [butterylaw01_NumJoins.l0]) ?_
    refine Ev.neg (by rw [List.length_map]; omega) ?_
    rw [List.take_of_length_le (by omega)]
    refine Ev.bind (words_ev (baOf (jn L)) (by rw [ba_size]; omega)) ?_
    have e : wordsB (baOf (jn L)) = L.map baOf := by
      show (wordsL (jn L)).map baOf = _
      rw [wordsL_jn L (by rw [← hL]; exact wordsL_ok _)]
    rw [e]
    refine Ev.bind (same_ev _ (by rw [List.length_map]; omega)) ?_
    refine Ev.pos rfl (ev_to (Ev.now _) (decide_eq_true ?_))
    rw [ba_size]
    omega
  | d + 1, i, hd => by
    have hj := jn_len s.data.toList
    rw [hL] at hj
    have hss : s.data.toList.length = s.size := rfl
    have hlen := words_len s
    unfold wordsB at hlen
    rw [List.length_map, hL] at hlen
    have hi : i < L.length := by omega
    have ih := joins_l0 s hs L hL d (i + 1) (by omega)
    have ht : L.take (i + 1) = L.take i ++ [L[i]] := by rw [List.take_succ_eq_append_getElem hi]
    have hb := jn_take_le L (i + 1)
    refine Ev.step (fun k => by rw [butterylaw01_NumJoins.l0]) ?_
    refine Ev.pos (by rw [List.length_map]; omega) ?_
    rw [rd_at L i hi, w64j _ (by omega) (by omega)]
    by_cases h0 : i = 0
    · subst h0
      refine Ev.neg (by omega) (Ev.pos (by omega) ?_)
      rw [ht] at ih hb
      rw [List.take_zero] at ih hb ⊢
      rw [ba_app, ba_size, ba_size]
      refine Ev.pos (by simp [jn] at hb ⊢; omega) ?_
      exact ih
    · have hne : L.take i ≠ [] := fun e => by
        have h9 : (L.take i).length = i := by rw [List.length_take]; omega
        rw [e, List.length_nil] at h9
        exact h0 h9.symm
      rw [ht, jn_snoc _ _ hne] at ih hb
      rw [List.length_append, List.length_cons] at hb
      have e32 : (⟨#[32]⟩ : ByteArray) = baOf [32] := rfl
      refine Ev.pos (by omega) ?_
      rw [ba_size]
      refine Ev.pos (by omega) (Ev.pos (by omega) ?_)
      rw [e32, ba_app, ba_app, ba_size, ba_size, List.length_append]
      refine Ev.pos (by simp only [List.length_cons, List.length_nil]; omega) ?_
      rw [List.append_assoc]
      exact ih
theorem joins_f (s : ByteArray) : Ev (fun k => butterylaw01_NumJoins.f k s) true := by
  unfold butterylaw01_NumJoins.f
  refine Ev.bind awake_f (Ev.pos rfl ?_)
  refine Ev.step (fun k => by rw [butterylaw01_NumJoins.j0]) ?_
  by_cases h : (s.size : Int) > 5000
  · exact Ev.pos (decide_eq_true h) (Ev.now _)
  · refine Ev.neg (by rw [decide_eq_false h]; decide) ?_
    refine Ev.bind (words_ev s (by omega)) ?_
    exact joins_l0 s (by omega) (wordsL s.data.toList) rfl (wordsL s.data.toList).length 0 (by omega)
theorem joins_calls (s : ByteArray) (w : World) (hT : Tabs w) :
    Calls Tryd.prog 10 #[.string s] w fun e w' => e = .returned (.bool true) ∧ Below w.heap.size w w' :=
  bool_calls (joins_f s) (fun k r h => butterylaw01_NumJoins.calls k s r w hT h)
end Go.Proofs.YthcpepijelikcaaDoor.X
