/- strings.Cut at a blank. -/
import Derived.Test.YthcpepijelikcaaDoorWdL
import Derived.Test.YthcpepijelikcaaDoorB
import Derived.Test.YthcpepijelikcaaDoorShelf
import Derived.Deep.QuietTactic
import Derived.BigQuiet
import Derived.WalkKit
import Derived.IntWalk
namespace Go.Proofs.YthcpepijelikcaaDoor.X
open Go.RowKit Go.Proofs.YthcpepijelikcaaDoorW.PrintWords
set_option linter.unusedVariables false
set_option linter.unusedSimpArgs false

theorem ext_pre (s : ByteArray) (k : Nat) : s.extract 0 k = baOf (s.data.toList.take k) := by
  obtain ⟨⟨l⟩⟩ := s
  apply ByteArray.ext
  simp [ByteArray.data_extract, baOf]
theorem ext_suf (s : ByteArray) (k : Nat) : s.extract k s.size = baOf (s.data.toList.drop k) := by
  obtain ⟨⟨l⟩⟩ := s
  apply ByteArray.ext
  have e2 : (⟨⟨l⟩⟩ : ByteArray).size = l.length := by simp [ByteArray.size]
  simp [ByteArray.data_extract, baOf, e2]
  rw [List.take_of_length_le (by simp)]
set_option maxRecDepth 100000 in
set_option maxHeartbeats 1000000 in
theorem lcut_calls (s : ByteArray) (w : World) (hs : s.size ≤ 9223372036854775807) : Calls Tryd.prog 45 #[.string s, .string ⟨#[32]⟩] w fun e w' => (∃ b, e = .returned (.tuple #[.string (baOf (headW s.data.toList)), .string (baOf (tailW s.data.toList)), .bool b])) ∧ Drawn0 w w' := by
  by_cases h : Lib.indexByte s.data.toList 32 = -1
  · obtain ⟨e1, e2⟩ := idx_none _ h
    have e3 : baOf s.data.toList = s := rfl
    rw [e1, e2, e3]
    have H := Aside0.mk h
    clear h e1 e2 e3
    go_enter Tryd.func45, Tryd.ntmps45
    go_wp2_with (go_at_call 59; (with_reducible refine (Tryd.stringslite_Index_one s 32 _).mono ?_); rintro e w' ⟨rfl, rfl⟩; rw [H.out])
    go_ret3
    exact ⟨⟨_, rfl⟩, Drawn0.refl _⟩
  · obtain ⟨h1, h2⟩ := idx_some _ h
    obtain ⟨k, hk⟩ : ∃ k, (headW s.data.toList).length = k := ⟨_, rfl⟩
    rw [hk] at h1 h2
    have hlt : k < s.size := by have : s.data.toList.length = s.size := rfl; omega
    have e1 : baOf (headW s.data.toList) = s.extract 0 k := by rw [← headW_take, hk]; exact (ext_pre s k).symm
    have e2 : baOf (tailW s.data.toList) = s.extract (k + 1) s.size := by unfold tailW; rw [hk]; exact (ext_suf s (k + 1)).symm
    rw [e1, e2]
    have H1 := Aside0.mk h1
    clear h h1 e1 e2 hk h2
    go_enter Tryd.func45, Tryd.ntmps45
    go_upto_region 3 with (go_at_call 59; (with_reducible refine (Tryd.stringslite_Index_one s 32 _).mono ?_); rintro e w' ⟨rfl, rfl⟩; rw [H1.out])
    have hw1 : IntKind.i64.wrap ((k : Int) + 1) = (k : Int) + 1 := IntWalk.i64_in _ (by omega)
    have hp1 : (0 : Int) ≤ (k : Int) + 1 := by omega
    have hn1 : ((k : Int) + 1).toNat = k + 1 := by omega
    have hk1 : (k : Int) + 1 ≤ s.size := by omega
    have hk2 : (k : Int) ≤ s.size := by omega
    go_quiet (fail)
    go_wp2
    go_ret3
    exact ⟨⟨_, rfl⟩, ⟨⟨_, rfl⟩⟩⟩
set_option maxRecDepth 100000 in
theorem cut_calls (s : ByteArray) (w : World) (hs : s.size ≤ 9223372036854775807) : Calls Tryd.prog 35 #[.string s, .string ⟨#[32]⟩] w fun e w' => (∃ b, e = .returned (.tuple #[.string (baOf (headW s.data.toList)), .string (baOf (tailW s.data.toList)), .bool b])) ∧ Drawn0 w w' := by
  go_enter Tryd.func35, Tryd.ntmps35
  go_wp2_with (go_at_call 45; (with_reducible refine (lcut_calls s _ hs).mono ?_); rintro e w' ⟨⟨b, rfl⟩, ⟨nd, rfl⟩⟩)
  go_ret3
  exact ⟨⟨b, rfl⟩, ⟨⟨_, rfl⟩⟩⟩
end Go.Proofs.YthcpepijelikcaaDoor.X
