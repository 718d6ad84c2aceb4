/- NumBytes: the walk. -/
import Derived.Test.YthcpepijelikcaaDoorPPieces
import Derived.Test.YthcpepijelikcaaDoorPf1
import Derived.Deep.RegionHeld3
namespace Go.Proofs.YthcpepijelikcaaDoor.X
open Go.RowKit Go.Proofs.YthcpepijelikcaaDoorW.PrintWords Go.Proofs.YthcpepijelikcaaDoorW.PrintMore
set_option linter.unusedVariables false
set_option linter.unusedSimpArgs false

theorem upon_strof {P : Program} {o : Oper} {a : Act} {K : Act → World → Prop} {Q : Exit → Act → World → Prop} {W : World} (src dst e : TypeId) (A : Option Addr) (n c : Nat) (xs : List Int)
    (hs : P.underlying src = some (.slice e)) (he : P.underlying e = some (.int .u8)) (hd : P.underlying dst = some .string) (hC : (Kd.int .u8).C W A n xs)
    (h : K (a.put o.dst (.string (strOfNums xs))) W) : Oper.upon P o a K Q (((convert src dst (.slice A n c)).run P W).andThen fun v w' => .ok (.value v) w') := by
  rw [Kd.C_string (c := c) hs he hd hC]
  exact h
theorem retb {w w' : World} {base : Nat} {v : Value} {l : List Int} (h : (Kd.int .u8).R 5 w' base (fun _ => True) v l) (hb : Below w.heap.size w w') : RetBytes l w (.returned v) w' := by
  obtain ⟨A, c, rfl, hl, hC⟩ := Kd.R_reads h
  exact ⟨A, c, rfl, hl, hC, hb⟩
theorem pI_mod2 (n : Nat) : pI (n % 65536) 2 = pI n 2 := by
  show [] ++ [((n % 65536 / 256 % 256 : Nat) : Int)] ++ [((n % 65536 % 256 : Nat) : Int)] = [] ++ [((n / 256 % 256 : Nat) : Int)] ++ [((n % 256 : Nat) : Int)]
  rw [show n % 65536 / 256 % 256 = n / 256 % 256 by omega, show n % 65536 % 256 = n % 256 by omega]
theorem pI_mod4 (n : Nat) : pI (n % 4294967296) 4 = pI n 4 := by
  show [] ++ [((n % 4294967296 / 256 / 256 / 256 % 256 : Nat) : Int)] ++ [((n % 4294967296 / 256 / 256 % 256 : Nat) : Int)] ++ [((n % 4294967296 / 256 % 256 : Nat) : Int)] ++ [((n % 4294967296 % 256 : Nat) : Int)] = [] ++ [((n / 256 / 256 / 256 % 256 : Nat) : Int)] ++ [((n / 256 / 256 % 256 : Nat) : Int)] ++ [((n / 256 % 256 : Nat) : Int)] ++ [((n % 256 : Nat) : Int)]
  rw [show n % 4294967296 / 256 / 256 / 256 % 256 = n / 256 / 256 / 256 % 256 by omega, show n % 4294967296 / 256 / 256 % 256 = n / 256 / 256 % 256 by omega, show n % 4294967296 / 256 % 256 = n / 256 % 256 by omega, show n % 4294967296 % 256 = n % 256 by omega]
theorem put64b_calls (n : Int) (u : Nat) (w : World) (hu : u < 18446744073709551616) (h : n = u) : Calls Tryd.prog 12 #[.int .u64 n] w (RetBytes (pI u 8) w) := by
  subst h
  obtain ⟨K, hK⟩ := put64_f u
  refine (num_Put64.calls K u _ w (hK K (Nat.le_refl _))).mono ?_
  rintro e w' ⟨v, rfl, hR, hb⟩
  exact retb hR hb
theorem put32b_calls (n : Int) (u : Nat) (w : World) (hu : u < 18446744073709551616) (h : n = ((u % 4294967296 : Nat) : Int)) : Calls Tryd.prog 16 #[.int .u32 n] w (RetBytes (pI u 4) w) := by
  subst h
  obtain ⟨K, hK⟩ := put32_f (u % 4294967296) (by omega)
  refine (num_Put32.calls K _ _ w (hK K (Nat.le_refl _))).mono ?_
  rintro e w' ⟨v, rfl, hR, hb⟩
  rw [pI_mod4] at hR
  exact retb hR hb
theorem put16b_calls (n : Int) (u : Nat) (w : World) (hu : u < 18446744073709551616) (h : n = ((u % 65536 : Nat) : Int)) : Calls Tryd.prog 17 #[.int .u16 n] w (RetBytes (pI u 2) w) := by
  subst h
  obtain ⟨K, hK⟩ := put16_f (u % 65536) (by omega)
  refine (num_Put16.calls K _ _ w (hK K (Nat.le_refl _))).mono ?_
  rintro e w' ⟨v, rfl, hR, hb⟩
  rw [pI_mod2] at hR
  exact retb hR hb
theorem rputb_calls (u k : Nat) (ki : Int) (w : World) (hki : ki = k) (hk : k ≤ 8) (hu : u < 18446744073709551616) : Calls Tryd.prog 15 #[.int .u64 u, .int .i64 ki] w (RetBytes (pI u k) w) := by
  subst hki
  obtain ⟨K, hK⟩ := rput_f u k hk hu
  refine (butteryref01_Put.calls K u k _ w (hK K (Nat.le_refl _))).mono ?_
  rintro e w' ⟨v, rfl, hR, hb⟩
  exact retb hR hb
theorem rgetb_calls (A : Option Addr) (c : Nat) (l : List Int) (w : World) (hC : Bytes w A l) (hc : l.length ≤ c) (hl : l.length ≤ 9223372036854775806) (hb : ∀ z ∈ l, 0 ≤ z ∧ z < 256) :
    Calls Tryd.prog 18 #[.slice A l.length c] w fun e w' => e = .returned (.int .u64 (raw 0 l % 18446744073709551616)) ∧ Below w.heap.size w w' := by
  obtain ⟨K, hK⟩ := rget_f l hl hb
  refine (butteryref01_Get.calls K A c l _ w hC hc (hK K (Nat.le_refl _))).mono ?_
  rintro e w' ⟨rfl, hd⟩
  exact ⟨rfl, hd.below⟩
theorem wpAnyH_imp {P : Program} {md : Region.Mode} {ops : Array Oper} {Q : Exit → Act → World → Prop} {S S' : World → Prop} (h : ∀ w, S' w → S w) : ∀ (fuel : Nat) (listed : Array Bool) (a : Act) (w : World), wpAnyH P md ops Q S' fuel listed a w → wpAnyH P md ops Q S fuel listed a w
  | 0, _, _, _, h0 => h0
  | fuel + 1, _, _, _, h0 => ⟨h0.1, fun i hi => wpOp_mono (fun a' w' h' => ⟨h _ h'.1, wpAnyH_imp h fuel _ a' w' h'.2⟩) (h0.2 i hi)⟩
theorem sb_below {w W W2 : World} (hb : Below W.heap.size W W2) (h : Aside0 (Below w.heap.size w W)) : Aside0 (Below w.heap.size w W2) := ⟨below_step h.out hb⟩
theorem sb_drew {w W : World} (h : Aside0 (Below w.heap.size w W)) : Aside0 (Below w.heap.size w W.drew) := ⟨below_drew1 h.out⟩
theorem sb_b {w W : World} (h : Aside0 (Below w.heap.size w W)) : Below w.heap.size w W := h.out
set_option maxHeartbeats 8000000 in
set_option maxRecDepth 100000 in
theorem bytes_calls (u : Nat) (b : List Int) (A1 : Option Addr) (c1 : Nat) (w : World) (hu : u < 18446744073709551616) (h1 : Bytes w A1 b) (hc1 : b.length ≤ c1) (hb : ∀ z ∈ b, 0 ≤ z ∧ z < 256) (hT : Tabs w) :
    Calls Tryd.prog 5 #[.int .u64 u, .slice A1 b.length c1] w fun e w' => e = .returned (.bool true) ∧ Below w.heap.size w w' := by
  have HT := Aside0.mk hT; have HBB := Aside0.mk hb; have H1 := Aside0.mk h1
  have HB := Aside0.mk (Below.refl w.heap.size w)
  clear hT hb h1
  by_cases hbig : (1000 : Int) < b.length
  · go_enter Tryd.func5, Tryd.ntmps5
    go_wp2_with (go_at_call 11; (with_reducible refine (awake_calls _ (Tabs.below HT.out (by repeat (first | (with_reducible first | exact HB.out | apply below_alloc | apply pw_below_drewN | apply below_drew1) | exact HB.out)))).mono ?_); rintro e w1 ⟨rfl, hb⟩; have HBn := Aside0.mk (below_step (by repeat (first | (with_reducible first | exact HB.out | apply below_alloc | apply pw_below_drewN | apply below_drew1) | exact HB.out)) hb); clear HB; have HB := HBn; clear HBn; clear hb)
    go_ret
    exact ⟨rfl, HB.out.trans (Below.refl _ _)⟩
  · have hbl : b.length ≤ 9223372036854775806 := by omega
    have hw32 : IntKind.u32.wrap (u : Int) = ((u % 4294967296 : Nat) : Int) := by rw [IntKind.wrap_u32]; omega
    have hw16 : IntKind.u16.wrap (u : Int) = ((u % 65536 : Nat) : Int) := by
      have : IntKind.u16.wrap (u : Int) = (u : Int) % 65536 := by simp [IntKind.wrap, IntKind.bits, IntKind.signed]
      omega
    have hw64 : (u : Int) = u := rfl
    go_enter Tryd.func5, Tryd.ntmps5
    go_upto_region 4 with (go_at_call 11; (with_reducible refine (awake_calls _ (Tabs.below HT.out (by repeat (first | (with_reducible first | exact HB.out | apply below_alloc | apply pw_below_drewN | apply below_drew1) | exact HB.out)))).mono ?_); rintro e w1 ⟨rfl, hb⟩; have HBn := Aside0.mk (below_step (by repeat (first | (with_reducible first | exact HB.out | apply below_alloc | apply pw_below_drewN | apply below_drew1) | exact HB.out)) hb); clear HB; have HB := HBn; clear HBn; clear hb)
    have hS : Aside0 (Below w.heap.size w w1) := HB
    (refine wp_region_noPanic ?_; refine wp_region_held_drew (S := (fun w' => Aside0 (Below w.heap.size w w'))) (by kernel_rfl) (by (try dsimp only); (first | assumption | exact sb_drew hS | exact sb_below hb (by assumption))) ?_; intro hHeld)
    (refine wpAnyH_take (i := 0) (v := ?_) (by simp only [List.getElem?_toArray, List.getElem?_cons_succ, List.getElem?_cons_zero]; rfl) (by kernel_rfl) (by kernel_rfl) (by kernel_rfl) (fun _ _ _ h => h) (Or.inl ⟨by rfl, ?_⟩) (by assumption) ?_; rotate_left; (focus (intro w hSw; (try dsimp only at hSw); go_simp; (try with_reducible rfl); done)); (try simp only [Act.put, List.setIfInBounds_toArray, List.set_cons_zero, List.set_cons_succ]))
    (refine wpAnyH_take (i := 1) (v := ?_) (by simp only [List.getElem?_toArray, List.getElem?_cons_succ, List.getElem?_cons_zero]; rfl) (by kernel_rfl) (by kernel_rfl) (by kernel_rfl) (fun _ _ _ h => h) (Or.inl ⟨by rfl, ?_⟩) (by assumption) ?_; rotate_left; (focus (intro w hSw; (try dsimp only at hSw); go_simp; (try with_reducible rfl); done)); (try simp only [Act.put, List.setIfInBounds_toArray, List.set_cons_zero, List.set_cons_succ]))
    (refine wpAnyH_take (i := 2) (v := ?_) (by simp only [List.getElem?_toArray, List.getElem?_cons_succ, List.getElem?_cons_zero]; rfl) (by kernel_rfl) (by kernel_rfl) (by kernel_rfl) (fun _ _ _ h => h) (Or.inl ⟨by rfl, ?_⟩) (by assumption) ?_; rotate_left; (focus (intro w hSw; (try dsimp only at hSw); go_simp; (try with_reducible rfl); done)); (try simp only [Act.put, List.setIfInBounds_toArray, List.set_cons_zero, List.set_cons_succ]))
    (refine wpAnyH_take (i := 5) (v := ?_) (by simp only [List.getElem?_toArray, List.getElem?_cons_succ, List.getElem?_cons_zero]; rfl) (by kernel_rfl) (by kernel_rfl) (by kernel_rfl) (fun _ _ _ h => h) (Or.inl ⟨by rfl, ?_⟩) (by assumption) ?_; rotate_left; (focus (intro w hSw; (try dsimp only at hSw); go_simp; (try with_reducible rfl); done)); (try simp only [Act.put, List.setIfInBounds_toArray, List.set_cons_zero, List.set_cons_succ]))
    refine wpAnyH_ready (rs := [3]) (by kernel_rfl) (by simp) ?_
    refine (AllReadyH.cons (by simp only [List.getElem?_toArray, List.getElem?_cons_succ, List.getElem?_cons_zero]; rfl) (fun K hK => ?_) AllReadyH.nil)
    (go_simp; (go_at_call 12; (with_reducible refine (put64b_calls _ _ _ hu (by first | rfl | omega)).mono ?_); rintro e v0a ⟨E0, k0, rfl, hk0, hbs, hb⟩; have HP0 := Aside0.mk hbs; clear hbs); refine hK.out _ _ (by (try dsimp only); exact sb_below hb (hHeld)) ?_; clear hK K hHeld; intro hHeld; (try simp only [Act.put, List.setIfInBounds_toArray, List.set_cons_zero, List.set_cons_succ]))
    refine wpAnyH_imp (S' := (fun w' => Bytes w' E0 (pI u 8) ∧ Aside0 (Below w.heap.size w w'))) (fun _ h => h.2) _ _ _ _ ?_
    have hHeld := And.intro HP0.out hHeld
    (refine wpAnyH_take (i := 4) (v := ?_) (by simp only [List.getElem?_toArray, List.getElem?_cons_succ, List.getElem?_cons_zero]; rfl) (by kernel_rfl) (by kernel_rfl) (by kernel_rfl) (fun _ _ _ h => h) (Or.inl ⟨by rfl, ?_⟩) (by exact hHeld) ?_; rotate_left; (focus (intro w hSw; (try dsimp only at hSw); go_simp; rw [Kd.C_string Tryd.underlying24 Tryd.underlying5 Tryd.underlying9 hSw.1]; (try simp only [Result.andThen]); (try rfl); done)); (try simp only [Act.put, List.setIfInBounds_toArray, List.set_cons_zero, List.set_cons_succ]))
    refine wpAnyH_ready (rs := [6]) (by kernel_rfl) (by simp) ?_
    refine (AllReadyH.cons (by simp only [List.getElem?_toArray, List.getElem?_cons_succ, List.getElem?_cons_zero]; rfl) (fun K hK => ?_) AllReadyH.nil)
    (go_simp; (go_at_call 15; (with_reducible refine (rputb_calls u 8 8 _ rfl (by omega) hu).mono ?_); rintro e v0b ⟨F0, m0, rfl, hm0, hbs, hb⟩; have HR0 := Aside0.mk hbs; clear hbs); refine hK.out _ _ (by (try dsimp only); exact ⟨Kd.C_below (hHeld.1) hb, sb_below hb (hHeld.2)⟩) ?_; clear hK K hHeld; intro hHeld; (try simp only [Act.put, List.setIfInBounds_toArray, List.set_cons_zero, List.set_cons_succ]))
    refine wpAnyH_imp (S' := (fun w' => Bytes w' F0 (pI u 8) ∧ Bytes w' E0 (pI u 8) ∧ Aside0 (Below w.heap.size w w'))) (fun _ h => h.2) _ _ _ _ ?_
    have hHeld := And.intro HR0.out hHeld
    (refine wpAnyH_take (i := 7) (v := ?_) (by simp only [List.getElem?_toArray, List.getElem?_cons_succ, List.getElem?_cons_zero]; rfl) (by kernel_rfl) (by kernel_rfl) (by kernel_rfl) (fun _ _ _ h => h) (Or.inl ⟨by rfl, ?_⟩) (by exact hHeld) ?_; rotate_left; (focus (intro w hSw; (try dsimp only at hSw); go_simp; rw [Kd.C_string Tryd.underlying24 Tryd.underlying5 Tryd.underlying9 hSw.1]; (try simp only [Result.andThen]); (try rfl); done)); (try simp only [Act.put, List.setIfInBounds_toArray, List.set_cons_zero, List.set_cons_succ]))
    (refine wpAnyH_take (i := 8) (v := ?_) (by simp only [List.getElem?_toArray, List.getElem?_cons_succ, List.getElem?_cons_zero]; rfl) (by kernel_rfl) (by kernel_rfl) (by kernel_rfl) (fun _ _ _ h => h) (Or.inl ⟨by rfl, ?_⟩) (by assumption) ?_; rotate_left; (focus (intro w hSw; (try dsimp only at hSw); go_simp; (try with_reducible rfl); done)); (try simp only [Act.put, List.setIfInBounds_toArray, List.set_cons_zero, List.set_cons_succ]))
    (refine wpAnyH_take (i := 9) (v := ?_) (by simp only [List.getElem?_toArray, List.getElem?_cons_succ, List.getElem?_cons_zero]; rfl) (by kernel_rfl) (by kernel_rfl) (by kernel_rfl) (fun _ _ _ h => h) (Or.inl ⟨by rfl, ?_⟩) (by assumption) ?_; rotate_left; (focus (intro w hSw; (try dsimp only at hSw); go_simp; (try with_reducible rfl); done)); (try simp only [Act.put, List.setIfInBounds_toArray, List.set_cons_zero, List.set_cons_succ]))
    (refine wpAnyH_take (i := 10) (v := ?_) (by simp only [List.getElem?_toArray, List.getElem?_cons_succ, List.getElem?_cons_zero]; rfl) (by kernel_rfl) (by kernel_rfl) (by kernel_rfl) (fun _ _ _ h => h) (Or.inl ⟨by rfl, ?_⟩) (by assumption) ?_; rotate_left; (focus (intro w hSw; (try dsimp only at hSw); go_simp; (try with_reducible rfl); done)); (try simp only [Act.put, List.setIfInBounds_toArray, List.set_cons_zero, List.set_cons_succ]))
    (refine wpAnyH_take (i := 11) (v := ?_) (by simp only [List.getElem?_toArray, List.getElem?_cons_succ, List.getElem?_cons_zero]; rfl) (by kernel_rfl) (by kernel_rfl) (by kernel_rfl) (fun _ _ _ h => h) (Or.inl ⟨by rfl, ?_⟩) (by assumption) ?_; rotate_left; (focus (intro w hSw; (try dsimp only at hSw); go_simp; (try with_reducible rfl); done)); (try simp only [Act.put, List.setIfInBounds_toArray, List.set_cons_zero, List.set_cons_succ]))
    (refine wpAnyH_take (i := 12) (v := ?_) (by simp only [List.getElem?_toArray, List.getElem?_cons_succ, List.getElem?_cons_zero]; rfl) (by kernel_rfl) (by kernel_rfl) (by kernel_rfl) (fun _ _ _ h => h) (Or.inl ⟨by rfl, ?_⟩) (by assumption) ?_; rotate_left; (focus (intro w hSw; (try dsimp only at hSw); go_simp; (try with_reducible rfl); done)); (try simp only [Act.put, List.setIfInBounds_toArray, List.set_cons_zero, List.set_cons_succ]))
    (refine wpAnyH_take (i := 15) (v := ?_) (by simp only [List.getElem?_toArray, List.getElem?_cons_succ, List.getElem?_cons_zero]; rfl) (by kernel_rfl) (by kernel_rfl) (by kernel_rfl) (fun _ _ _ h => h) (Or.inl ⟨by rfl, ?_⟩) (by assumption) ?_; rotate_left; (focus (intro w hSw; (try dsimp only at hSw); go_simp; (try with_reducible rfl); done)); (try simp only [Act.put, List.setIfInBounds_toArray, List.set_cons_zero, List.set_cons_succ]))
    refine wpAnyH_ready (rs := [13]) (by kernel_rfl) (by simp) ?_
    refine (AllReadyH.cons (by simp only [List.getElem?_toArray, List.getElem?_cons_succ, List.getElem?_cons_zero]; rfl) (fun K hK => ?_) AllReadyH.nil)
    (go_simp; (go_at_call 16; (with_reducible refine (put32b_calls _ _ _ hu (by first | rfl | omega)).mono ?_); rintro e v1a ⟨E1, k1, rfl, hk1, hbs, hb⟩; have HP1 := Aside0.mk hbs; clear hbs); refine hK.out _ _ (by (try dsimp only); exact ⟨Kd.C_below (hHeld.1) hb, ⟨Kd.C_below (hHeld.2.1) hb, sb_below hb (hHeld.2.2)⟩⟩) ?_; clear hK K hHeld; intro hHeld; (try simp only [Act.put, List.setIfInBounds_toArray, List.set_cons_zero, List.set_cons_succ]))
    refine wpAnyH_imp (S' := (fun w' => Bytes w' E1 (pI u 4) ∧ Bytes w' F0 (pI u 8) ∧ Bytes w' E0 (pI u 8) ∧ Aside0 (Below w.heap.size w w'))) (fun _ h => h.2) _ _ _ _ ?_
    have hHeld := And.intro HP1.out hHeld
    (refine wpAnyH_take (i := 14) (v := ?_) (by simp only [List.getElem?_toArray, List.getElem?_cons_succ, List.getElem?_cons_zero]; rfl) (by kernel_rfl) (by kernel_rfl) (by kernel_rfl) (fun _ _ _ h => h) (Or.inl ⟨by rfl, ?_⟩) (by exact hHeld) ?_; rotate_left; (focus (intro w hSw; (try dsimp only at hSw); go_simp; rw [Kd.C_string Tryd.underlying24 Tryd.underlying5 Tryd.underlying9 hSw.1]; (try simp only [Result.andThen]); (try rfl); done)); (try simp only [Act.put, List.setIfInBounds_toArray, List.set_cons_zero, List.set_cons_succ]))
    refine wpAnyH_ready (rs := [16]) (by kernel_rfl) (by simp) ?_
    refine (AllReadyH.cons (by simp only [List.getElem?_toArray, List.getElem?_cons_succ, List.getElem?_cons_zero]; rfl) (fun K hK => ?_) AllReadyH.nil)
    (go_simp; (go_at_call 15; (with_reducible refine (rputb_calls u 4 4 _ rfl (by omega) hu).mono ?_); rintro e v1b ⟨F1, m1, rfl, hm1, hbs, hb⟩; have HR1 := Aside0.mk hbs; clear hbs); refine hK.out _ _ (by (try dsimp only); exact ⟨Kd.C_below (hHeld.1) hb, ⟨Kd.C_below (hHeld.2.1) hb, ⟨Kd.C_below (hHeld.2.2.1) hb, sb_below hb (hHeld.2.2.2)⟩⟩⟩) ?_; clear hK K hHeld; intro hHeld; (try simp only [Act.put, List.setIfInBounds_toArray, List.set_cons_zero, List.set_cons_succ]))
    refine wpAnyH_imp (S' := (fun w' => Bytes w' F1 (pI u 4) ∧ Bytes w' E1 (pI u 4) ∧ Bytes w' F0 (pI u 8) ∧ Bytes w' E0 (pI u 8) ∧ Aside0 (Below w.heap.size w w'))) (fun _ h => h.2) _ _ _ _ ?_
    have hHeld := And.intro HR1.out hHeld
    (refine wpAnyH_take (i := 17) (v := ?_) (by simp only [List.getElem?_toArray, List.getElem?_cons_succ, List.getElem?_cons_zero]; rfl) (by kernel_rfl) (by kernel_rfl) (by kernel_rfl) (fun _ _ _ h => h) (Or.inl ⟨by rfl, ?_⟩) (by exact hHeld) ?_; rotate_left; (focus (intro w hSw; (try dsimp only at hSw); go_simp; rw [Kd.C_string Tryd.underlying24 Tryd.underlying5 Tryd.underlying9 hSw.1]; (try simp only [Result.andThen]); (try rfl); done)); (try simp only [Act.put, List.setIfInBounds_toArray, List.set_cons_zero, List.set_cons_succ]))
    (refine wpAnyH_take (i := 18) (v := ?_) (by simp only [List.getElem?_toArray, List.getElem?_cons_succ, List.getElem?_cons_zero]; rfl) (by kernel_rfl) (by kernel_rfl) (by kernel_rfl) (fun _ _ _ h => h) (Or.inl ⟨by rfl, ?_⟩) (by assumption) ?_; rotate_left; (focus (intro w hSw; (try dsimp only at hSw); go_simp; (try with_reducible rfl); done)); (try simp only [Act.put, List.setIfInBounds_toArray, List.set_cons_zero, List.set_cons_succ]))
    (refine wpAnyH_take (i := 19) (v := ?_) (by simp only [List.getElem?_toArray, List.getElem?_cons_succ, List.getElem?_cons_zero]; rfl) (by kernel_rfl) (by kernel_rfl) (by kernel_rfl) (fun _ _ _ h => h) (Or.inl ⟨by rfl, ?_⟩) (by assumption) ?_; rotate_left; (focus (intro w hSw; (try dsimp only at hSw); go_simp; (try with_reducible rfl); done)); (try simp only [Act.put, List.setIfInBounds_toArray, List.set_cons_zero, List.set_cons_succ]))
    (refine wpAnyH_take (i := 20) (v := ?_) (by simp only [List.getElem?_toArray, List.getElem?_cons_succ, List.getElem?_cons_zero]; rfl) (by kernel_rfl) (by kernel_rfl) (by kernel_rfl) (fun _ _ _ h => h) (Or.inl ⟨by rfl, ?_⟩) (by assumption) ?_; rotate_left; (focus (intro w hSw; (try dsimp only at hSw); go_simp; (try with_reducible rfl); done)); (try simp only [Act.put, List.setIfInBounds_toArray, List.set_cons_zero, List.set_cons_succ]))
    (refine wpAnyH_take (i := 21) (v := ?_) (by simp only [List.getElem?_toArray, List.getElem?_cons_succ, List.getElem?_cons_zero]; rfl) (by kernel_rfl) (by kernel_rfl) (by kernel_rfl) (fun _ _ _ h => h) (Or.inl ⟨by rfl, ?_⟩) (by assumption) ?_; rotate_left; (focus (intro w hSw; (try dsimp only at hSw); go_simp; (try with_reducible rfl); done)); (try simp only [Act.put, List.setIfInBounds_toArray, List.set_cons_zero, List.set_cons_succ]))
    (refine wpAnyH_take (i := 22) (v := ?_) (by simp only [List.getElem?_toArray, List.getElem?_cons_succ, List.getElem?_cons_zero]; rfl) (by kernel_rfl) (by kernel_rfl) (by kernel_rfl) (fun _ _ _ h => h) (Or.inl ⟨by rfl, ?_⟩) (by assumption) ?_; rotate_left; (focus (intro w hSw; (try dsimp only at hSw); go_simp; (try with_reducible rfl); done)); (try simp only [Act.put, List.setIfInBounds_toArray, List.set_cons_zero, List.set_cons_succ]))
    (refine wpAnyH_take (i := 25) (v := ?_) (by simp only [List.getElem?_toArray, List.getElem?_cons_succ, List.getElem?_cons_zero]; rfl) (by kernel_rfl) (by kernel_rfl) (by kernel_rfl) (fun _ _ _ h => h) (Or.inl ⟨by rfl, ?_⟩) (by assumption) ?_; rotate_left; (focus (intro w hSw; (try dsimp only at hSw); go_simp; (try with_reducible rfl); done)); (try simp only [Act.put, List.setIfInBounds_toArray, List.set_cons_zero, List.set_cons_succ]))
    refine wpAnyH_ready (rs := [23]) (by kernel_rfl) (by simp) ?_
    refine (AllReadyH.cons (by simp only [List.getElem?_toArray, List.getElem?_cons_succ, List.getElem?_cons_zero]; rfl) (fun K hK => ?_) AllReadyH.nil)
    (go_simp; (go_at_call 17; (with_reducible refine (put16b_calls _ _ _ hu (by first | rfl | omega)).mono ?_); rintro e v2a ⟨E2, k2, rfl, hk2, hbs, hb⟩; have HP2 := Aside0.mk hbs; clear hbs); refine hK.out _ _ (by (try dsimp only); exact ⟨Kd.C_below (hHeld.1) hb, ⟨Kd.C_below (hHeld.2.1) hb, ⟨Kd.C_below (hHeld.2.2.1) hb, ⟨Kd.C_below (hHeld.2.2.2.1) hb, sb_below hb (hHeld.2.2.2.2)⟩⟩⟩⟩) ?_; clear hK K hHeld; intro hHeld; (try simp only [Act.put, List.setIfInBounds_toArray, List.set_cons_zero, List.set_cons_succ]))
    refine wpAnyH_imp (S' := (fun w' => Bytes w' E2 (pI u 2) ∧ Bytes w' F1 (pI u 4) ∧ Bytes w' E1 (pI u 4) ∧ Bytes w' F0 (pI u 8) ∧ Bytes w' E0 (pI u 8) ∧ Aside0 (Below w.heap.size w w'))) (fun _ h => h.2) _ _ _ _ ?_
    have hHeld := And.intro HP2.out hHeld
    (refine wpAnyH_take (i := 24) (v := ?_) (by simp only [List.getElem?_toArray, List.getElem?_cons_succ, List.getElem?_cons_zero]; rfl) (by kernel_rfl) (by kernel_rfl) (by kernel_rfl) (fun _ _ _ h => h) (Or.inl ⟨by rfl, ?_⟩) (by exact hHeld) ?_; rotate_left; (focus (intro w hSw; (try dsimp only at hSw); go_simp; rw [Kd.C_string Tryd.underlying24 Tryd.underlying5 Tryd.underlying9 hSw.1]; (try simp only [Result.andThen]); (try rfl); done)); (try simp only [Act.put, List.setIfInBounds_toArray, List.set_cons_zero, List.set_cons_succ]))
    refine wpAnyH_ready (rs := [26]) (by kernel_rfl) (by simp) ?_
    refine (AllReadyH.cons (by simp only [List.getElem?_toArray, List.getElem?_cons_succ, List.getElem?_cons_zero]; rfl) (fun K hK => ?_) AllReadyH.nil)
    (go_simp; (go_at_call 15; (with_reducible refine (rputb_calls u 2 2 _ rfl (by omega) hu).mono ?_); rintro e v2b ⟨F2, m2, rfl, hm2, hbs, hb⟩; have HR2 := Aside0.mk hbs; clear hbs); refine hK.out _ _ (by (try dsimp only); exact ⟨Kd.C_below (hHeld.1) hb, ⟨Kd.C_below (hHeld.2.1) hb, ⟨Kd.C_below (hHeld.2.2.1) hb, ⟨Kd.C_below (hHeld.2.2.2.1) hb, ⟨Kd.C_below (hHeld.2.2.2.2.1) hb, sb_below hb (hHeld.2.2.2.2.2)⟩⟩⟩⟩⟩) ?_; clear hK K hHeld; intro hHeld; (try simp only [Act.put, List.setIfInBounds_toArray, List.set_cons_zero, List.set_cons_succ]))
    refine wpAnyH_imp (S' := (fun w' => Bytes w' F2 (pI u 2) ∧ Bytes w' E2 (pI u 2) ∧ Bytes w' F1 (pI u 4) ∧ Bytes w' E1 (pI u 4) ∧ Bytes w' F0 (pI u 8) ∧ Bytes w' E0 (pI u 8) ∧ Aside0 (Below w.heap.size w w'))) (fun _ h => h.2) _ _ _ _ ?_
    have hHeld := And.intro HR2.out hHeld
    (refine wpAnyH_take (i := 27) (v := ?_) (by simp only [List.getElem?_toArray, List.getElem?_cons_succ, List.getElem?_cons_zero]; rfl) (by kernel_rfl) (by kernel_rfl) (by kernel_rfl) (fun _ _ _ h => h) (Or.inl ⟨by rfl, ?_⟩) (by exact hHeld) ?_; rotate_left; (focus (intro w hSw; (try dsimp only at hSw); go_simp; rw [Kd.C_string Tryd.underlying24 Tryd.underlying5 Tryd.underlying9 hSw.1]; (try simp only [Result.andThen]); (try rfl); done)); (try simp only [Act.put, List.setIfInBounds_toArray, List.set_cons_zero, List.set_cons_succ]))
    (refine wpAnyH_take (i := 28) (v := ?_) (by simp only [List.getElem?_toArray, List.getElem?_cons_succ, List.getElem?_cons_zero]; rfl) (by kernel_rfl) (by kernel_rfl) (by kernel_rfl) (fun _ _ _ h => h) (Or.inl ⟨by rfl, ?_⟩) (by assumption) ?_; rotate_left; (focus (intro w hSw; (try dsimp only at hSw); go_simp; (try with_reducible rfl); done)); (try simp only [Act.put, List.setIfInBounds_toArray, List.set_cons_zero, List.set_cons_succ]))
    (refine wpAnyH_take (i := 29) (v := ?_) (by simp only [List.getElem?_toArray, List.getElem?_cons_succ, List.getElem?_cons_zero]; rfl) (by kernel_rfl) (by kernel_rfl) (by kernel_rfl) (fun _ _ _ h => h) (Or.inl ⟨by rfl, ?_⟩) (by assumption) ?_; rotate_left; (focus (intro w hSw; (try dsimp only at hSw); go_simp; (try with_reducible rfl); done)); (try simp only [Act.put, List.setIfInBounds_toArray, List.set_cons_zero, List.set_cons_succ]))
    (refine wpAnyH_take (i := 30) (v := ?_) (by simp only [List.getElem?_toArray, List.getElem?_cons_succ, List.getElem?_cons_zero]; rfl) (by kernel_rfl) (by kernel_rfl) (by kernel_rfl) (fun _ _ _ h => h) (Or.inl ⟨by rfl, ?_⟩) (by assumption) ?_; rotate_left; (focus (intro w hSw; (try dsimp only at hSw); go_simp; (try with_reducible rfl); done)); (try simp only [Act.put, List.setIfInBounds_toArray, List.set_cons_zero, List.set_cons_succ]))
    (refine wpAnyH_take (i := 31) (v := ?_) (by simp only [List.getElem?_toArray, List.getElem?_cons_succ, List.getElem?_cons_zero]; rfl) (by kernel_rfl) (by kernel_rfl) (by kernel_rfl) (fun _ _ _ h => h) (Or.inl ⟨by rfl, ?_⟩) (by assumption) ?_; rotate_left; (focus (intro w hSw; (try dsimp only at hSw); go_simp; (try with_reducible rfl); done)); (try simp only [Act.put, List.setIfInBounds_toArray, List.set_cons_zero, List.set_cons_succ]))
    (refine wpAnyH_take (i := 33) (v := ?_) (by simp only [List.getElem?_toArray, List.getElem?_cons_succ, List.getElem?_cons_zero]; rfl) (by kernel_rfl) (by kernel_rfl) (by kernel_rfl) (fun _ _ _ h => h) (Or.inl ⟨by rfl, ?_⟩) (by assumption) ?_; rotate_left; (focus (intro w hSw; (try dsimp only at hSw); go_simp; (try with_reducible rfl); done)); (try simp only [Act.put, List.setIfInBounds_toArray, List.set_cons_zero, List.set_cons_succ]))
    refine wpAnyH_ready (rs := [32]) (by kernel_rfl) (by simp) ?_
    refine (AllReadyH.cons (by simp only [List.getElem?_toArray, List.getElem?_cons_succ, List.getElem?_cons_zero]; rfl) (fun K hK => ?_) AllReadyH.nil)
    (go_simp; (go_at_call 14; (with_reducible refine (getb_calls _ _ b _ (Kd.C_below H1.out (sb_b (hHeld.2.2.2.2.2.2))) hc1 hbl HBB.out).mono ?_); rintro e v3a ⟨rfl, hb⟩); refine hK.out _ _ (by (try dsimp only); exact ⟨Kd.C_below (hHeld.1) hb, ⟨Kd.C_below (hHeld.2.1) hb, ⟨Kd.C_below (hHeld.2.2.1) hb, ⟨Kd.C_below (hHeld.2.2.2.1) hb, ⟨Kd.C_below (hHeld.2.2.2.2.1) hb, ⟨Kd.C_below (hHeld.2.2.2.2.2.1) hb, sb_below hb (hHeld.2.2.2.2.2.2)⟩⟩⟩⟩⟩⟩) ?_; clear hK K hHeld; intro hHeld; (try simp only [Act.put, List.setIfInBounds_toArray, List.set_cons_zero, List.set_cons_succ]))
    refine wpAnyH_ready (rs := [34]) (by kernel_rfl) (by simp) ?_
    refine (AllReadyH.cons (by simp only [List.getElem?_toArray, List.getElem?_cons_succ, List.getElem?_cons_zero]; rfl) (fun K hK => ?_) AllReadyH.nil)
    (go_simp; (go_at_call 18; (with_reducible refine (rgetb_calls _ _ b _ (Kd.C_below H1.out (sb_b (hHeld.2.2.2.2.2.2))) hc1 hbl HBB.out).mono ?_); rintro e v3b ⟨rfl, hb⟩); refine hK.out _ _ (by (try dsimp only); exact ⟨Kd.C_below (hHeld.1) hb, ⟨Kd.C_below (hHeld.2.1) hb, ⟨Kd.C_below (hHeld.2.2.1) hb, ⟨Kd.C_below (hHeld.2.2.2.1) hb, ⟨Kd.C_below (hHeld.2.2.2.2.1) hb, ⟨Kd.C_below (hHeld.2.2.2.2.2.1) hb, sb_below hb (hHeld.2.2.2.2.2.2)⟩⟩⟩⟩⟩⟩) ?_; clear hK K hHeld; intro hHeld; (try simp only [Act.put, List.setIfInBounds_toArray, List.set_cons_zero, List.set_cons_succ]))
    (refine wpAnyH_take (i := 35) (v := ?_) (by simp only [List.getElem?_toArray, List.getElem?_cons_succ, List.getElem?_cons_zero]; rfl) (by kernel_rfl) (by kernel_rfl) (by kernel_rfl) (fun _ _ _ h => h) (Or.inl ⟨by rfl, ?_⟩) (by assumption) ?_; rotate_left; (focus (intro w hSw; (try dsimp only at hSw); go_simp; (try with_reducible rfl); done)); (try simp only [Act.put, List.setIfInBounds_toArray, List.set_cons_zero, List.set_cons_succ]))
    (refine wpAnyH_take (i := 36) (v := ?_) (by simp only [List.getElem?_toArray, List.getElem?_cons_succ, List.getElem?_cons_zero]; rfl) (by kernel_rfl) (by kernel_rfl) (by kernel_rfl) (fun _ _ _ h => h) (Or.inl ⟨by rfl, ?_⟩) (by assumption) ?_; rotate_left; (focus (intro w hSw; (try dsimp only at hSw); go_simp; (try with_reducible rfl); done)); (try simp only [Act.put, List.setIfInBounds_toArray, List.set_cons_zero, List.set_cons_succ]))
    (refine wpAnyH_take (i := 37) (v := ?_) (by simp only [List.getElem?_toArray, List.getElem?_cons_succ, List.getElem?_cons_zero]; rfl) (by kernel_rfl) (by kernel_rfl) (by kernel_rfl) (fun _ _ _ h => h) (Or.inl ⟨by rfl, ?_⟩) (by assumption) ?_; rotate_left; (focus (intro w hSw; (try dsimp only at hSw); go_simp; (try with_reducible rfl); done)); (try simp only [Act.put, List.setIfInBounds_toArray, List.set_cons_zero, List.set_cons_succ]))
    (refine wpAnyH_done (by kernel_rfl) ?_ _; refine NoPanic.normal ?_)
    go_wp2
    go_ret
    exact ⟨rfl, (sb_b (hHeld.2.2.2.2.2.2)).trans (Below.refl _ _)⟩
theorem bytes_calls' (n : Int) (b : List Int) (A1 : Option Addr) (c1 : Nat) (w : World) (h0 : 0 ≤ n) (hn : n ≤ 18446744073709551615) (h1 : Bytes w A1 b) (hc1 : b.length ≤ c1) (hb : ∀ z ∈ b, 0 ≤ z ∧ z < 256) (hT : Tabs w) :
    Calls Tryd.prog 5 #[.int .u64 n, .slice A1 b.length c1] w fun e w' => e = .returned (.bool true) ∧ Below w.heap.size w w' := by
  obtain ⟨u, rfl⟩ : ∃ u : Nat, n = u := ⟨n.toNat, by omega⟩
  exact bytes_calls u b A1 c1 w (by omega) h1 hc1 hb hT
end Go.Proofs.YthcpepijelikcaaDoor.X
