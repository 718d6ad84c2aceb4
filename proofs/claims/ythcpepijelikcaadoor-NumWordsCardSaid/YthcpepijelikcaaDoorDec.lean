/- What num.Decimal tells of a text, and strings.CutPrefix, as the printed contracts take them. -/
import Derived.Test.YthcpepijelikcaaDoorShow
import Derived.Test.YthcpepijelikcaaDoorNum
namespace Go.Proofs.YthcpepijelikcaaDoor.X
open Go.RowKit Go.Proofs.YthcpepijelikcaaDoorW.PrintWords
set_option linter.unusedVariables false
set_option linter.unusedSimpArgs false

theorem decS_plus (s : ByteArray) (h : Lib.hasPrefix s.data.toList [43] = true) : decS s = (0, false) := by
  obtain ⟨⟨l⟩⟩ := s
  cases l with
  | nil => exact absurd h (by decide)
  | cons c r =>
    have hc : c = 43 := by
      simp [Lib.hasPrefix] at h
      exact h.symm
    subst hc
    unfold decS
    split
    · rfl
    · show (match rDecL 0 (43 :: r) with | some u => (u, true) | none => (0, false)) = _
      rw [rDecL, if_pos (by decide)]
theorem decS_parse (s : ByteArray) (h : ¬ 40 < s.size) : decS s = match Lib.parseUintB 64 s.data.toList with | .ok u => (u, true) | _ => (0, false) := by
  rw [Lib.parseUintB_64]
  unfold decS Lib.parseMag
  by_cases h0 : s.size = 0
  · have hn : s.data.toList = [] := by
      have : s.data.toList.length = 0 := by rw [Array.length_toList]; exact h0
      exact List.eq_nil_of_length_eq_zero this
    rw [if_pos (Or.inl h0), if_pos hn]
  · have hn : ¬ s.data.toList = [] := fun e => h0 (by
      have : s.data.toList.length = 0 := by rw [e]; rfl
      rw [Array.length_toList] at this; exact this)
    rw [if_neg (by omega), if_neg hn, rDecL_parse _ _ (by omega)]
    cases Lib.parseUint10 0 s.data.toList <;> rfl
def num_Decimal.f (s : ByteArray) : Option (Int × Bool) := some ((decS s).1, (decS s).2)
theorem pu_none (s : ByteArray) (hlim : s.size ≤ 281474976710656) {r : Lib.NumEnd Nat} (h : Lib.parseUintB 64 s.data.toList = r) (h1 : ∀ u, r ≠ .ok u) (h2 : r ≠ .range) (ev : Value) (w : World) (hv : w.cell? ⟨1, 0, none⟩ = some ev) (hev : ev = .nilIface ∨ ∃ te pe, ev = .iface te pe) :
    Calls Tryd.prog 31 #[.string s, .int .i64 10, .int .i64 64] w fun e w' => ∃ N, e = .returned (.tuple #[.int .u64 0, .iface 80 (.pointer (some ⟨N, 0, none⟩))]) ∧ w.heap.size ≤ N ∧ w'.heap[N]? = some (.cells #[.string ⟨#[80, 97, 114, 115, 101, 85, 105, 110, 116]⟩, .string s, ev] 96 (0, 0)) ∧ Below w.heap.size w w' := by
  cases r
  · exact absurd rfl (h1 _)
  · exact Any.strconv_ParseUint_10_at64_syntax Tryd.laysPu14 s hlim h ev w hv hev
  · exact absurd rfl h2
set_option maxRecDepth 100000 in
theorem num_Decimal.calls (s : ByteArray) (r1 : Int) (r2 : Bool) (w : World) (hT : Tabs w) (h : num_Decimal.f s = some (r1, r2)) :
    Calls Tryd.prog 19 #[.string s] w fun e w' => e = .returned (.tuple #[.int .u64 r1, .bool r2]) ∧ Below w.heap.size w w' := by
  obtain ⟨rfl, rfl⟩ : ((decS s).1 : Int) = r1 ∧ (decS s).2 = r2 := by
    unfold num_Decimal.f at h
    simpa using h
  have HT := Aside0.mk hT
  clear hT h
  have HB := Aside0.mk (Below.refl w.heap.size w)
  by_cases h40 : (40 : Int) < s.size
  · have hd : decS s = (0, false) := by unfold decS; rw [if_pos (Or.inr (by omega))]
    rw [hd]
    go_enter Tryd.func19, Tryd.ntmps19
    go_wp2
    go_ret2
    exact ⟨rfl, Below.refl _ _⟩
  · cases hp : Lib.hasPrefix s.data.toList [43]
    · have hd := decS_parse s (by omega)
      have HP := Aside0.mk hp
      obtain ⟨tp1, p1, e1⟩ := HT.out.syn
      obtain ⟨tp2, p2, e2⟩ := HT.out.rng
      cases hu : Lib.parseUintB 64 s.data.toList
      · next u =>
        rw [hu] at hd
        rw [hd]
        have HU := Aside0.mk hu
        clear hu hd hp e1 e2
        go_enter Tryd.func19, Tryd.ntmps19
        go_wp2_with (first
          | (go_at_call 30; (with_reducible refine (Tryd.strings_HasPrefix _ _ _).mono ?_); rintro e w1 ⟨rfl, rfl⟩; rw [HP.out])
          | (go_at_call 31; (with_reducible refine (Tryd.strconv_ParseUint_10_at64_ok s (by omega) u HU.out _).mono ?_); rintro e w1 ⟨rfl, hw⟩))
        go_ret2
        refine ⟨rfl, ?_⟩
        rcases hw with rfl | rfl
        · exact (by repeat (first | exact Below.refl _ _ | apply below_drew1 | apply pw_below_drewN | apply below_alloc))
        · exact bytesWorld_below _ _ _
      · rw [hu] at hd
        rw [hd]
        have HU := Aside0.mk hu
        have HE := Aside0.mk e1
        clear hu hd hp e1 e2
        go_enter Tryd.func19, Tryd.ntmps19
        go_wp2_with (first
          | (go_at_call 30; (with_reducible refine (Tryd.strings_HasPrefix _ _ _).mono ?_); rintro e w1 ⟨rfl, rfl⟩; rw [HP.out])
          | (go_at_call 31; (with_reducible refine (pu_none s (by omega) HU.out (fun _ h => by cases h) (fun h => by cases h) _ _ HE.out (Or.inr ⟨_, _, rfl⟩)).mono ?_); rintro e w1 ⟨N, rfl, _, _, hb⟩))
        go_ret2
        exact ⟨rfl, by assumption⟩
      · rw [hu] at hd
        rw [hd]
        have HU := Aside0.mk hu
        have HE := Aside0.mk e2
        clear hu hd hp e1 e2
        go_enter Tryd.func19, Tryd.ntmps19
        go_wp2_with (first
          | (go_at_call 30; (with_reducible refine (Tryd.strings_HasPrefix _ _ _).mono ?_); rintro e w1 ⟨rfl, rfl⟩; rw [HP.out])
          | (go_at_call 31; (with_reducible refine (Tryd.strconv_ParseUint_10_at64_range s (by omega) HU.out _ _ HE.out (Or.inr ⟨_, _, rfl⟩)).mono ?_); rintro e w1 ⟨N, rfl, _, _, hb⟩))
        go_ret2
        exact ⟨rfl, by assumption⟩
    · have hd := decS_plus s hp
      rw [hd]
      have HP := Aside0.mk hp
      clear hp
      go_enter Tryd.func19, Tryd.ntmps19
      go_wp2_with (go_at_call 30; (with_reducible refine (Tryd.strings_HasPrefix _ _ _).mono ?_); rintro e w1 ⟨rfl, rfl⟩; rw [HP.out])
      go_ret2
      exact ⟨rfl, (by repeat (first | exact Below.refl _ _ | apply below_drew1 | apply pw_below_drewN | apply below_alloc))⟩
def strings_CutPrefix.f (s p : ByteArray) : Option (ByteArray × Bool) := some (⟨(Lib.trimPrefix s.data.toList p.data.toList).toArray⟩, Lib.hasPrefix s.data.toList p.data.toList)
theorem strings_CutPrefix.calls (s p : ByteArray) (r1 : ByteArray) (r2 : Bool) (w : World) (h : strings_CutPrefix.f s p = some (r1, r2)) :
    Calls Tryd.prog 32 #[.string s, .string p] w fun e w' => e = .returned (.tuple #[.string r1, .bool r2]) ∧ Drawn0 w w' := by
  obtain ⟨rfl, rfl⟩ : (⟨(Lib.trimPrefix s.data.toList p.data.toList).toArray⟩ : ByteArray) = r1 ∧ Lib.hasPrefix s.data.toList p.data.toList = r2 := by
    unfold strings_CutPrefix.f at h
    simpa using h
  refine (Tryd.strings_CutPrefix s p w).mono ?_
  rintro e w' ⟨rfl, rfl⟩
  exact ⟨rfl, Drawn0.refl _⟩
end Go.Proofs.YthcpepijelikcaaDoor.X
