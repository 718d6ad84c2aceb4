/- MetainOrder: its walk. -/
import Derived.Test.YtdgeiadlijlkmaaGreatDoorZLawOf
import Derived.Test.YtdgeiadlijlkmaaGreatDoorZLawOt
namespace Go.Proofs.YtdgeiadlijlkmaaGreatDoor.X
open Go.RowKit Go.Proofs.YtdgeiadlijlkmaaGreatDoorW.PrintWords Go.Proofs.YtdgeiadlijlkmaaGreatDoorW.PrintMore Go.Proofs.YtdgeiadlijlkmaaGreatDoorW.PrintLast
set_option linter.unusedVariables false
set_option linter.unusedSimpArgs false
theorem order_walk (k : ByteArray) (u : Nat) (t : Bool) (w : World) (hT : Tabs w) (hk0 : 1 ≤ k.size) (hk3 : k.size ≤ 300) (hu : u ≤ 1000000000) :
    Calls Tryz.prog 6 #[.string k, .int .u32 (u : Int), .bool t] w fun e w' => e = .returned (.bool true) ∧ Below w.heap.size w w' := by
  cases hq : keyS k
  · cases t
    · exact order_fbad k u w hT hk0 hk3 hu hq
    · exact order_tbad k u w hT hk0 hk3 hu hq
  · cases t
    · exact order_fok k u w hT hk0 hk3 hu hq
    · exact order_tok k u w hT hk0 hk3 hu hq
set_option maxRecDepth 100000 in
set_option maxHeartbeats 1000000 in
theorem order_big (k : ByteArray) (u : Int) (t : Bool) (w : World) (hT : Tabs w) (h : k.size < 1 ∨ (1 ≤ k.size ∧ 300 < k.size) ∨ (1 ≤ k.size ∧ k.size ≤ 300 ∧ 1000000000 < u)) :
    Calls Tryz.prog 6 #[.string k, .int .u32 u, .bool t] w fun e w' => e = .returned (.bool true) ∧ Below w.heap.size w w' := by
  have HB := Aside0.mk (Below.refl w.heap.size w)
  have HT := Aside0.mk hT
  clear hT
  rcases h with h | ⟨h, h1⟩ | ⟨h, h1, h2⟩
  · have hi : (k.size : Int) < 1 := by omega
    clear h
    go_enter Tryz.func6, Tryz.ntmps6
    go_wp2_with (first | (go_at_call 9; (with_reducible refine (awake_calls _ (Tabs.below HT.out (by repeat (first | (with_reducible first | exact HB.out | apply below_alloc | apply pw_below_drewN | apply below_drew1) | exact HB.out)))).mono ?_); rintro e w0 ⟨rfl, hb⟩; have HBn := Aside0.mk (below_step (by repeat (first | (with_reducible first | exact HB.out | apply below_alloc | apply pw_below_drewN | apply below_drew1) | exact HB.out)) hb); clear HB; have HB := HBn; clear HBn; clear hb))
    go_ret
    exact ⟨rfl, (by repeat (first | (with_reducible first | exact HB.out | apply below_alloc | apply pw_below_drewN | apply below_drew1) | exact HB.out))⟩
  · have hi : ¬ (k.size : Int) < 1 := by omega
    have h3 : (300 : Int) < ↑k.size := by omega
    clear h h1
    go_enter Tryz.func6, Tryz.ntmps6
    go_wp2_with (first | (go_at_call 9; (with_reducible refine (awake_calls _ (Tabs.below HT.out (by repeat (first | (with_reducible first | exact HB.out | apply below_alloc | apply pw_below_drewN | apply below_drew1) | exact HB.out)))).mono ?_); rintro e w0 ⟨rfl, hb⟩; have HBn := Aside0.mk (below_step (by repeat (first | (with_reducible first | exact HB.out | apply below_alloc | apply pw_below_drewN | apply below_drew1) | exact HB.out)) hb); clear HB; have HB := HBn; clear HBn; clear hb))
    go_ret
    exact ⟨rfl, (by repeat (first | (with_reducible first | exact HB.out | apply below_alloc | apply pw_below_drewN | apply below_drew1) | exact HB.out))⟩
  · have hi : ¬ (k.size : Int) < 1 := by omega
    have h3 : ¬ (300 : Int) < ↑k.size := by omega
    clear h h1
    go_enter Tryz.func6, Tryz.ntmps6
    go_wp2_with (first | (go_at_call 9; (with_reducible refine (awake_calls _ (Tabs.below HT.out (by repeat (first | (with_reducible first | exact HB.out | apply below_alloc | apply pw_below_drewN | apply below_drew1) | exact HB.out)))).mono ?_); rintro e w0 ⟨rfl, hb⟩; have HBn := Aside0.mk (below_step (by repeat (first | (with_reducible first | exact HB.out | apply below_alloc | apply pw_below_drewN | apply below_drew1) | exact HB.out)) hb); clear HB; have HB := HBn; clear HBn; clear hb))
    go_ret
    exact ⟨rfl, (by repeat (first | (with_reducible first | exact HB.out | apply below_alloc | apply pw_below_drewN | apply below_drew1) | exact HB.out))⟩
theorem order_calls (k : ByteArray) (u : Int) (t : Bool) (w : World) (hT : Tabs w) (hk : k.size ≤ 9223372036854775807) (h0 : 0 ≤ u) (h1 : u < 4294967296) :
    Calls Tryz.prog 6 #[.string k, .int .u32 u, .bool t] w fun e w' => e = .returned (.bool true) ∧ Below w.heap.size w w' := by
  by_cases a : k.size < 1
  · exact order_big k u t w hT (.inl a)
  by_cases b : 300 < k.size
  · exact order_big k u t w hT (.inr (.inl ⟨by omega, b⟩))
  by_cases c : 1000000000 < u
  · exact order_big k u t w hT (.inr (.inr ⟨by omega, by omega, c⟩))
  obtain ⟨n, rfl⟩ : ∃ n : Nat, u = n := ⟨u.toNat, by omega⟩
  exact order_walk k n t w hT (by omega) (by omega) (by omega)
end Go.Proofs.YtdgeiadlijlkmaaGreatDoor.X
