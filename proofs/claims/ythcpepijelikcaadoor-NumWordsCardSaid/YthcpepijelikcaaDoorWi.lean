/- num.Words: the iterator's contract: the words of a line come one by one, in order. -/
import Derived.RangeFuncNested
import Derived.RangeFuncBound
import Derived.RangeFuncCalls
import Derived.RangeFuncLeaves
import Derived.RangeFuncBox
import Derived.Shelf.Abstract
import Derived.Shelf.RegionOpen
import Derived.WalkKit
import Derived.OwnWalkIn
import Derived.TacticsInMore
import Derived.LoopNIn
import Derived.LoopIn
import Derived.Maps.AppendAt
import Derived.Test.YthcpepijelikcaaDoorWd
import Derived.Outline
namespace Go.Proofs.YthcpepijelikcaaDoor.X
open Go.RowKit Go.Shelf Go.Proofs.YthcpepijelikcaaDoorW.PrintWords
set_option linter.unusedVariables false
set_option linter.unusedSimpArgs false
attribute [local go_sem] Oper.semAt_some

def strSz : Value → Nat
  | .string t => t.size
  | _ => 0
theorem grown_drewN (w : World) (n : Nat) : w.grownBy (w.drewN n) none := ⟨rfl, rfl, rfl, Nat.le_refl _, fun _ _ _ => rfl⟩
theorem wordsB_nil {t T : ByteArray} (hT : baOf (trimL t.data.toList) = T) (h : T.toList.isEmpty = true) : wordsB t = [] := by
  have h1 : trimL t.data.toList = [] := by
    rw [← hT, ByteArray.toList_eq] at h
    simpa [baOf] using h
  unfold wordsB
  rw [wordsL_nil _ h1]
  rfl
theorem wordsB_cons {t T : ByteArray} (hT : baOf (trimL t.data.toList) = T) (h : T.toList.isEmpty = false) : wordsB t = baOf (headW T.data.toList) :: wordsB (baOf (tailW T.data.toList)) ∧ (baOf (tailW T.data.toList)).size < t.size ∧ T.size ≤ t.size := by
  have h1 : trimL t.data.toList ≠ [] := fun e => by
    rw [← hT, e] at h
    rw [ByteArray.toList_eq] at h
    simp [baOf] at h
  have e : T.data.toList = trimL t.data.toList := by rw [← hT]; rfl
  rw [e]
  refine ⟨?_, tailW_lt _ h1, ?_⟩
  · unfold wordsB
    rw [wordsL_cons _ h1]
    rfl
  · have h2 := trimL_len t.data.toList
    rw [← e] at h2
    exact h2
set_option maxRecDepth 100000 in
set_option maxHeartbeats 2000000 in
theorem words1_in (n : Nat) (hn : 1 ≤ n) (l Bn n₀ : Nat) (s : ByteArray) (hs : s.size ≤ 9223372036854775807) (J Jx : List ByteArray → World → Prop)
    (hY : ∀ pre x W, J pre W → pre.length < (wordsB s).length → YieldAt Fence.wide (n - 1) Tryd.prog l #[.string x] W fun e W' =>
      (e = .returned (.bool true) ∧ J (pre ++ [x]) W' ∧ Below n₀ W W') ∨ (e = .returned (.bool false) ∧ Jx (pre ++ [x]) W'))
    (W : World) (hJ : AbidesFrom W.heap.size J) (hBn : W.cell? ⟨Bn, 0, none⟩ = some (.string s)) (h0 : J [] W) :
    CallsIn Fence.wide n Tryd.prog 33 #[.func (.yield l) #[] #[], .pointer (some ⟨Bn, 0, none⟩)] W fun e W' => (∃ v, e = .returned v) ∧
      ((∃ ys, ys = wordsB s ∧ J ys W') ∨ (∃ pre, pre <+: wordsB s ∧ Jx pre W')) := by
  refine callsIn_of_wp Tryd.func33 rfl trivial ?_ rfl
  simp only [Tryd.ntmps33, List.size_toArray, List.length_cons, List.length_nil, Nat.reduceAdd, Nat.reduceSub, Array.replicate_succ, Array.replicate_zero, List.push_toArray, List.append_toArray, List.nil_append, List.cons_append]
  gi_wp2
  gi_loopw [3] (fun v wr => ∃ (pre : List ByteArray) (t : ByteArray), v = .string t ∧ Aside0 (wordsB s = pre ++ wordsB t) ∧ t.size ≤ 9223372036854775807 ∧ J pre wr)
    (fun v wr => strSz v)
  case atStart => exact ⟨[], s, rfl, ⟨rfl⟩, hs, h0⟩
  case round =>
    obtain ⟨pre, t, rfl, hx, ht, hJs⟩ := hrel
    obtain ⟨T, hT⟩ : ∃ T, baOf (trimL t.data.toList) = T := ⟨_, rfl⟩
    have HT := Aside0.mk hT
    by_cases he : T.toList.isEmpty = true
    · have hfin := wordsB_nil hT he
      have HF := Aside0.mk hfin
      clear hfin hT
      gi_wp2_with (refine ⟨trivial, ?_⟩; gi_at_call 34; refine (callsIn_wide.2 (Tryd.strings_TrimLeft_one t 32 (by decide) _)).mono ?_; rintro e w' ⟨rfl, hw'⟩; obtain rfl := hw'.symm; rw [show (⟨(Lib.trimLeftB t.data.toList 32).toArray⟩ : ByteArray) = T from HT.out])
      refine bodyPost_ret (results_none rfl _ _ _) rfl ?_
      exact ⟨⟨_, rfl⟩, .inl ⟨pre, by rw [hx.out, HF.out, List.append_nil], hJs⟩⟩
    · have he2 : T.toList.isEmpty = false := Bool.eq_false_iff.2 he
      obtain ⟨h1, h2, h3⟩ := wordsB_cons hT he2
      have HC := Aside0.mk h1
      have hTs : T.size ≤ 9223372036854775807 := by omega
      have hlt : pre.length < (wordsB s).length := by rw [hx.out, h1]; simp
      obtain ⟨X, hX⟩ : ∃ X, baOf (headW T.data.toList) = X := ⟨_, rfl⟩
      obtain ⟨R, hR⟩ : ∃ R, baOf (tailW T.data.toList) = R := ⟨_, rfl⟩
      have HX := Aside0.mk hX; have HR := Aside0.mk hR
      rw [hR] at h2
      clear h1 hT he hX hR
      gi_wp2_with (first
        | (refine ⟨trivial, ?_⟩; gi_at_call 34; refine (callsIn_wide.2 (Tryd.strings_TrimLeft_one t 32 (by decide) _)).mono ?_; rintro e w' ⟨rfl, hw'⟩; obtain rfl := hw'.symm; rw [show (⟨(Lib.trimLeftB t.data.toList 32).toArray⟩ : ByteArray) = T from HT.out])
        | (refine ⟨trivial, ?_⟩; gi_at_call 35; refine (callsIn_wide.2 (cut_calls T _ hTs)).mono ?_; rintro e w' ⟨⟨b, rfl⟩, ⟨nd, rfl⟩⟩; rw [HX.out, HR.out]))
      have hJ2 : J pre (wr.drewN nd) := hJ pre wr _ none hJs (grown_drewN wr nd) (fun r e => by cases e)
      obtain ⟨fn, tmps, assign, body, hy, hRR⟩ := hY pre X (wr.drewN nd) hJ2 hlt
      rw [hy]
      go_simp
      refine hRR.mono ?_
      rintro e W3 (⟨rfl, hJ3, hk3⟩ | ⟨rfl, hJx3⟩)
      · gi_wp2
        go_roundw
        case rel => exact ⟨pre ++ [X], R, rfl, ⟨by rw [hx.out, HC.out, HX.out, HR.out, List.append_assoc]; rfl⟩, by omega, hJ3⟩
        case measure => simp [strSz]; exact h2
      · gi_wp2
        refine bodyPost_ret (results_none rfl _ _ _) rfl ?_
        exact ⟨⟨_, rfl⟩, .inr ⟨pre ++ [X], ⟨wordsB R, by rw [hx.out, HC.out, HX.out, HR.out]; simp⟩, hJx3⟩⟩
end Go.Proofs.YthcpepijelikcaaDoor.X
