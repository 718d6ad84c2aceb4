/- MetainMore: its walk, put together. -/
import Derived.Test.YtdgeiadlijlkmaaGreatDoorZLawM
namespace Go.Proofs.YtdgeiadlijlkmaaGreatDoor.X
open Go.RowKit Go.Proofs.YtdgeiadlijlkmaaGreatDoorW.PrintWords Go.Proofs.YtdgeiadlijlkmaaGreatDoorW.PrintMore Go.Proofs.YtdgeiadlijlkmaaGreatDoorW.PrintLast
set_option linter.unusedVariables false
set_option linter.unusedSimpArgs false
theorem app_row {P : Program} {ops : Array Oper} {rest : List Oper} {o : Oper} {a : Act} {Q : Exit → Act → World → Prop} {w0 W : World} (base : Nat) (hgd : o.guard = none) (s x : Operand) (t e : TypeId)
    (ho : o.op = .call { callee := .builtin .append, args := #[s, x], argTypes := #[t, t] })
    (ht : P.underlying t = some (.slice e)) (hinfo : (P.info? e).map (fun i => (i.zero, i.size, i.bytes)) = some (some (.int .u8 0), 1, 1))
    (v : Value) (xs ys : List Int) (A : Option Addr) (c : Nat) (hs : a.eval s = v) (hx : a.eval x = .slice A ys.length c)
    (HO : W.ownsRow base e 1 v xs.length (encs (Value.int .u8) xs)) (HR : (Kd.int .u8).C W A ys.length ys) (HB : Below base w0 W) (hbase : base ≤ W.heap.size) (hl : xs.length + ys.length ≤ 1000000)
    (h : ∀ v1 w1, w1.ownsRow base e 1 v1 (xs ++ ys).length (encs (Value.int .u8) (xs ++ ys)) → Below base w0 w1 → wpList P ops Q rest (a.put o.dst v1) w1) :
    wpList P ops Q (o :: rest) a W := by
  obtain ⟨i0, hi, hzz⟩ := Option.map_eq_some_iff.1 hinfo
  simp only [Prod.mk.injEq] at hzz
  obtain ⟨hz0, hz1, hz2⟩ := hzz
  have hrun : ∃ v1 w1, (Builtin.append_ #[t, t] o.type #[v, .slice A ys.length c]).run P W = .ok v1 w1 ∧ w1.ownsRow base e 1 v1 (xs ++ ys).length (encs (Value.int .u8) (xs ++ ys)) ∧ W.grownBy w1 v.ownBlock := by
    rcases A with _ | ad
    · have h0 : ys.length = 0 := by
        rcases Nat.eq_zero_or_pos ys.length with h0 | h0
        · exact h0
        · obtain ⟨ad, h, _⟩ := HR.2.2 h0
          cases h
      obtain rfl : ys = [] := List.eq_nil_of_length_eq_zero h0
      refine ⟨v, W, ?_, by simpa using HO, World.grownBy.refl W _⟩
      rcases HO.2 with ⟨rfl, hn⟩ | ⟨g, cap, cur, rfl, _, _, hnc, _⟩
      · simp [Builtin.append_, run_underlying ht, sizeOf, typeInfo, hi, Builtin.lenOf, Builtin.firstCells]
      · simp [Builtin.append_, run_underlying ht, sizeOf, typeInfo, hi, Builtin.lenOf, Builtin.firstCells, hnc, storeCells]
    · have hcells : ∀ j u, (encs (Value.int .u8) ys)[j]? = some u → W.cell? (ad.add j) = some u := by
        intro j u hu
        have hj : j < ys.length := by
          rcases Nat.lt_or_ge j ys.length with h | h
          · exact h
          · simp [encs, List.getElem?_eq_none h] at hu
        obtain ⟨ad', h', hc⟩ := HR.2.2 (by omega)
        injection h' with h'
        subst h'
        obtain ⟨cs, hlen, hK, hcell⟩ := hc j _ (List.getElem?_eq_getElem hj)
        obtain rfl : cs = [Value.int .u8 ys[j]] := hK
        have := hcell 0 _ rfl
        simp [encs, List.getElem?_eq_getElem hj] at hu
        subst hu
        rw [← this]
        congr 2
        show j = j * 1 + 0
        omega
      obtain ⟨v1, w1, hr, h2, h3, _, h5⟩ := run_append_own_at (P := P) W base t o.type e i0 (.int .u8 0) 1 1 ht hi hz0 hz1 hz2 rfl (by omega) v xs.length (encs (Value.int .u8) xs) HO ad ys.length c (encs (Value.int .u8) ys) (by simp [encs]) hcells
        (by intro u hu; simp only [encs, List.mem_map] at hu; obtain ⟨q, _, rfl⟩ := hu; rfl) (by simp only [maxLen]; omega) (by omega) hbase
      exact ⟨v1, w1, hr, by simpa [encs] using h2, h3⟩
  obtain ⟨v1, w1, hr, hown, hg⟩ := hrun
  refine wpList_plain hgd fun K hK => ?_
  unfold Oper.wp execOp
  simp only [ho, resolve, invoke, builtin, Sem.run_bind, Sem.run_pure, Result.andThen_ok, List.map_toArray, List.map_cons, List.map_nil, hs, hx, hr]
  exact hK _ _ (h v1 w1 hown (HB.grown hg hbase (own_base HO)))
theorem own_rd {W : World} {base : Nat} {v : Value} {l : List Int} (h : W.ownsRow base 5 1 v l.length (encs (Value.int .u8) l)) : ∃ A c, v = .slice A l.length c ∧ l.length ≤ c ∧ (Kd.int .u8).C W A l.length l := Kd.R_reads (Kd.R_of_own (h1 := fun _ => rfl) (ok := fun _ => True) h (fun _ _ => trivial))
set_option maxRecDepth 100000 in
set_option maxHeartbeats 2000000 in
theorem more_walk (l m : List Int) (A : Option Addr) (c : Nat) (B : Option Addr) (d : Nat) (w : World) (hT : Tabs w) (hC : (Kd.int .u8).C w A l.length l) (hc : l.length ≤ c) (hD : (Kd.int .u8).C w B m.length m) (hd : m.length ≤ d) (h8 : B8 l) (h9 : B8 m) (hl : l.length ≤ 5000) (hm : m.length ≤ 1000)
    (p1 p2 : Step) (hp1 : parseMP l = p1) (hp2 : parseMP (l ++ m) = p2) (G : Bool → Prop) (q3 q2 ln us lg r2 rp : Bool) (h3 : (p1.e == 3) = q3) (h2 : (p1.e == 2) = q2) (hln : p1.line = ln) (hus : (p1.used == (l.length : Int)) = us) (hlg : (q2 && (ln && us)) = lg) (hr2 : (p2.e == 2) = r2) (hrp : (p2.reply.toList == p1.reply.toList) = rp)
    (hG : ∀ b0, G b0 → q3 = true ∨ b0 = true ∨ lg = true ∧ r2 = true ∧ rp = true)
    (hS : ∀ (cx cy : List Value) (w' : World), kStep.K w' p1 cx → kStep.K w' p2 cy → Calls Tryz.prog 10 #[.agg cx.toArray, .agg cy.toArray] w' fun e w'' => (∃ b0, e = .returned (.bool b0) ∧ G b0) ∧ Below w'.heap.size w' w'') :
    Calls Tryz.prog 5 #[.slice A l.length c, .slice B m.length d] w fun e w' => e = .returned (.bool true) ∧ Below w.heap.size w w' := by
  have HB := Aside0.mk (Below.refl w.heap.size w)
  subst hln
  have HT := Aside0.mk hT
  have HC := Aside0.mk hC
  have HD := Aside0.mk hD
  have HP1 := Aside0.mk (fun (w' : World) (hC : (Kd.int .u8).C w' A l.length l) (hT : Tabs w') => parse_v l _ rfl p1 hp1 _ _ _ _ _ _ _ rfl rfl rfl rfl rfl rfl rfl A c w' hC hc (by omega) h8 hT)
  have HP2 := Aside0.mk (fun (A' : Option Addr) (c' : Nat) (w' : World) (hC : (Kd.int .u8).C w' A' (l ++ m).length (l ++ m)) (hc : l.length + m.length ≤ c') (hT : Tabs w') => parse_v (l ++ m) (l.length + m.length) List.length_append p2 hp2 _ _ _ _ _ _ _ rfl rfl rfl rfl rfl rfl rfl A' c' w' hC hc (by rw [List.length_append]; omega) (fun z hz => by
    rcases List.mem_append.1 hz with hz | hz
    · exact h8 z hz
    · exact h9 z hz) hT)
  have HSS := Aside0.mk hS
  have HGG := Aside0.mk hG
  have HLG := Aside0.mk hlg
  have h5i : ¬ (5000 : Int) < ↑l.length := by omega
  have h1i : ¬ (1000 : Int) < ↑m.length := by omega
  clear hT hC hD hS hG hlg hp1 hp2 h8 h9 hc hd
  go_enter Tryz.func5, Tryz.ntmps5
  go_upto_region 7 with (first
    | (go_at_call 9; (with_reducible refine (awake_calls _ (Tabs.below HT.out (by repeat (first | (with_reducible first | exact HB.out | apply below_alloc | apply pw_below_drewN | apply below_drew1) | exact HB.out)))).mono ?_); rintro e w0 ⟨rfl, hb⟩; have HBn := Aside0.mk (below_step (by repeat (first | (with_reducible first | exact HB.out | apply below_alloc | apply pw_below_drewN | apply below_drew1) | exact HB.out)) hb); clear HB; have HB := HBn; clear HBn; clear hb) | (go_at_call 11; (with_reducible refine (HP1.out _ (Kd.C_below HC.out (by repeat (first | (with_reducible first | exact HB.out | apply below_alloc | apply pw_below_drewN | apply below_drew1) | exact HB.out))) (Tabs.below HT.out (by repeat (first | (with_reducible first | exact HB.out | apply below_alloc | apply pw_below_drewN | apply below_drew1) | exact HB.out)))).mono ?_); rintro e w1 ⟨A0, c0, x1, x2, x3, x4, x6, x7, A8, n8, c8, A9, n9, c9, x10, rfl, hk, hb⟩; have HBn := Aside0.mk (below_step (by repeat (first | (with_reducible first | exact HB.out | apply below_alloc | apply pw_below_drewN | apply below_drew1) | exact HB.out)) hb); clear HB; have HB := HBn; clear HBn; have HW1 := Aside0.mk HB.out.size; have HBW1 := HB; have HK1 := Aside0.mk hk; have HB1 := Aside0.mk (Below.refl w1.heap.size w1); clear hk hb) | ((with_reducible refine gate_dst (N := 23) rfl ?_); at_builtin; refine app_row (w0 := (w1.alloc (.cells #[.slice A0 p1.req.cmds.length c0, .int .i64 x1, .string x2, .int .i64 x3, .int .u32 x4, .bool p1.req.form.quiet, .bool x6, .string x7, .slice A8 n8 c8, .slice A9 n9 c9, .bool x10, .string p1.reply, .int .i64 p1.used, .int .i64 p1.skip, .bool p1.line, .int .i64 p1.e] 34 (0, 0)))) (w1.heap.size + 1) rfl _ _ 22 5 rfl Tryz.underlying22 (by kernel_rfl) (.slice none 0 0) [] l A c rfl rfl (own_nil _ _ _ _) (Kd.C_below HC.out (by repeat (first | (with_reducible first | exact HB.out | apply below_alloc | apply pw_below_drewN | apply below_drew1) | exact HB.out))) (Below.refl _ _) (by simp) (by simp; omega) ?_; intro v1 wa hown hB; have HO1 : Aside0 (wa.ownsRow (w1.heap.size + 1) 5 1 v1 l.length (encs (Value.int .u8) l)) := ⟨hown⟩; have HBA := Aside0.mk hB; have HBn : Aside0 (Below w.heap.size w wa) := ⟨Below.trans (by repeat (first | (with_reducible first | exact HB.out | apply below_alloc | apply pw_below_drewN | apply below_drew1) | exact HB.out)) (hB.mono (by have := HW1.out; omega))⟩; have HB1n : Aside0 (Below w1.heap.size w1 wa) := ⟨Below.trans (below_alloc HB1.out _) (hB.mono (Nat.le_succ _))⟩; have B1 : Aside0 (wa.heap[w1.heap.size]? = some (.cells #[.slice A0 p1.req.cmds.length c0, .int .i64 x1, .string x2, .int .i64 x3, .int .u32 x4, .bool p1.req.form.quiet, .bool x6, .string x7, .slice A8 n8 c8, .slice A9 n9 c9, .bool x10, .string p1.reply, .int .i64 p1.used, .int .i64 p1.skip, .bool p1.line, .int .i64 p1.e] 34 (0, 0))) := ⟨(hB.block w1.heap.size (Nat.lt_succ_self _)).trans (blk_at_new _ _ _ rfl)⟩; clear HB HB1 hown hB; have HB := HBn; have HB1 := HB1n; clear HBn HB1n) | ((with_reducible refine gate_dst (N := 25) rfl ?_); at_builtin; refine app_row (w0 := (w1.alloc (.cells #[.slice A0 p1.req.cmds.length c0, .int .i64 x1, .string x2, .int .i64 x3, .int .u32 x4, .bool p1.req.form.quiet, .bool x6, .string x7, .slice A8 n8 c8, .slice A9 n9 c9, .bool x10, .string p1.reply, .int .i64 p1.used, .int .i64 p1.skip, .bool p1.line, .int .i64 p1.e] 34 (0, 0)))) (w1.heap.size + 1) rfl _ _ 22 5 rfl Tryz.underlying22 (by kernel_rfl) v1 l m B d rfl rfl HO1.out (Kd.C_below HD.out HB.out) HBA.out (by have := blk_lt B1.out; omega) (by omega) ?_; intro v2 wb hown hB; have HBn : Aside0 (Below w.heap.size w wb) := ⟨Below.trans (below_alloc HBW1.out _) (hB.mono (by have := HW1.out; omega))⟩; have HB1n : Aside0 (Below w1.heap.size w1 wb) := ⟨Below.trans (below_alloc (Below.refl _ _) _) (hB.mono (Nat.le_succ _))⟩; have B1n : Aside0 (wb.heap[w1.heap.size]? = some (.cells #[.slice A0 p1.req.cmds.length c0, .int .i64 x1, .string x2, .int .i64 x3, .int .u32 x4, .bool p1.req.form.quiet, .bool x6, .string x7, .slice A8 n8 c8, .slice A9 n9 c9, .bool x10, .string p1.reply, .int .i64 p1.used, .int .i64 p1.skip, .bool p1.line, .int .i64 p1.e] 34 (0, 0))) := ⟨(hB.block w1.heap.size (Nat.lt_succ_self _)).trans (blk_at_new _ _ _ rfl)⟩; obtain ⟨A2, cc, rfl, hcc, hC2⟩ := own_rd hown; have HC2 := Aside0.mk hC2; have HCC : Aside0 (l.length + m.length ≤ cc) := ⟨by rw [List.length_append] at hcc; exact hcc⟩; clear HB HB1 B1 hown hB hC2 hcc HO1 HBA; have HB := HBn; have HB1 := HB1n; have B1 := B1n; clear HBn HB1n B1n) | (go_at_call 11; (with_reducible refine (HP2.out _ _ _ HC2.out HCC.out (Tabs.below HT.out (by repeat (first | (with_reducible first | exact HB.out | apply below_alloc | apply pw_below_drewN | apply below_drew1) | exact HB.out)))).mono ?_); rintro e w2 ⟨B0, d0, y1, y2, y3, y4, y6, y7, B8, m8, d8, B9, m9, d9, y10, rfl, hk, hb⟩; have B1n := Aside0.mk (blk_below B1.out hb); have HB1n := Aside0.mk (below_step (by repeat (first | (with_reducible first | exact HB1.out | apply below_alloc | apply pw_below_drewN | apply below_drew1) | exact HB1.out)) hb); clear HB1; have HB1 := HB1n; clear HB1n; have HBn := Aside0.mk (below_step (by repeat (first | (with_reducible first | exact HB.out | apply below_alloc | apply pw_below_drewN | apply below_drew1) | exact HB.out)) hb); clear HB; have HB := HBn; clear HBn; clear B1; have B1 := B1n; clear B1n; have HK2 := Aside0.mk hk; have HB2 := Aside0.mk (Below.refl w2.heap.size w2); have l1 : w1.heap.size < w2.heap.size := blk_lt B1.out; clear hk hb; have HST : Aside0 (∀ w', Below w1.heap.size w1 w' → Below w2.heap.size w2 w' → Calls Tryz.prog 10 #[.agg #[.slice A0 p1.req.cmds.length c0, .int .i64 x1, .string x2, .int .i64 x3, .int .u32 x4, .bool p1.req.form.quiet, .bool x6, .string x7, .slice A8 n8 c8, .slice A9 n9 c9, .bool x10, .string p1.reply, .int .i64 p1.used, .int .i64 p1.skip, .bool p1.line, .int .i64 p1.e], .agg #[.slice B0 p2.req.cmds.length d0, .int .i64 y1, .string y2, .int .i64 y3, .int .u32 y4, .bool p2.req.form.quiet, .bool y6, .string y7, .slice B8 m8 d8, .slice B9 m9 d9, .bool y10, .string p2.reply, .int .i64 p2.used, .int .i64 p2.skip, .bool p2.line, .int .i64 p2.e]] w' fun e w'' => (∃ b0, e = .returned (.bool b0) ∧ G b0) ∧ Below w'.heap.size w' w'') := ⟨fun w' g1 g2 => HSS.out _ _ w' (kStep.K_below g1 HK1.out) (kStep.K_below g2 HK2.out)⟩) | (refine wpList_load_row rfl 34 _ rfl (w1.heap.size) rfl 34 _ (0, 0) _ (blk_alloc B1.out _) Tryz.underlying34 rfl (by kernel_rfl) ?_) | (go_at_call 10; (with_reducible refine (HST.out _ (by repeat (first | (with_reducible first | exact HB1.out | apply below_alloc | apply pw_below_drewN | apply below_drew1) | exact HB1.out)) (by repeat (first | (with_reducible first | exact HB2.out | apply below_alloc | apply pw_below_drewN | apply below_drew1) | exact HB2.out))).mono ?_); rintro e w5 ⟨⟨b0, rfl, hG⟩, hb⟩; have B1n := Aside0.mk (blk_below (blk_alloc B1.out _) hb); have B2 := Aside0.mk (blk_below (g := w2.heap.size) (o := .cells #[.slice B0 p2.req.cmds.length d0, .int .i64 y1, .string y2, .int .i64 y3, .int .u32 y4, .bool p2.req.form.quiet, .bool y6, .string y7, .slice B8 m8 d8, .slice B9 m9 d9, .bool y10, .string p2.reply, .int .i64 p2.used, .int .i64 p2.skip, .bool p2.line, .int .i64 p2.e] 34 (0, 0)) (blk_at_new _ _ _ rfl) hb); have HBn := Aside0.mk (below_step (by repeat (first | (with_reducible first | exact HB.out | apply below_alloc | apply pw_below_drewN | apply below_drew1) | exact HB.out)) hb); clear HB; have HB := HBn; clear HBn; clear hb B1 l1; have B1 := B1n; clear B1n; have HG := Aside0.mk hG; clear hG; have a11 : w5.cell? ⟨w1.heap.size, 11, none⟩ = some (.string p1.reply) := (blk_cell B1.out 11).trans rfl; have a12 : w5.cell? ⟨w1.heap.size, 12, none⟩ = some (.int .i64 p1.used) := (blk_cell B1.out 12).trans rfl; have a14 : w5.cell? ⟨w1.heap.size, 14, none⟩ = some (.bool p1.line) := (blk_cell B1.out 14).trans rfl; have a15 : w5.cell? ⟨w1.heap.size, 15, none⟩ = some (.int .i64 p1.e) := (blk_cell B1.out 15).trans rfl; have d11 : w5.cell? ⟨w2.heap.size, 11, none⟩ = some (.string p2.reply) := (blk_cell B2.out 11).trans rfl; have d15 : w5.cell? ⟨w2.heap.size, 15, none⟩ = some (.int .i64 p2.e) := (blk_cell B2.out 15).trans rfl))
  go_cut [9] (fun sv wx => sv = .bool lg ∧ wx = w5)
  case first =>
    cases q2
    · (go_wp2; go_meet; case rel => exact ⟨by rw [← HLG.out]; rfl, rfl⟩)
    by_cases hln : p1.line = true
    · rw [hln] at a14 HLG
      clear hln
      cases us
      · (go_wp2; go_meet; case rel => exact ⟨by rw [← HLG.out]; rfl, rfl⟩)
      · (go_wp2; go_meet; case rel => exact ⟨by rw [← HLG.out]; rfl, rfl⟩)
    · have hln : p1.line = false := by revert hln; cases p1.line <;> simp
      rw [hln] at a14 HLG
      clear hln
      (go_wp2; go_meet; case rel => exact ⟨by rw [← HLG.out]; rfl, rfl⟩)
  case rest =>
  obtain ⟨rfl, rfl⟩ := hcut
  have hg := HGG.out b0 HG.out
  clear HLG hus
  cases q3
  · cases b0
    · obtain ⟨rfl, rfl, rfl⟩ : lg = true ∧ r2 = true ∧ rp = true := by
        rcases hg with h | h | h
        · cases h
        · cases h
        · exact h
      clear hg
      go_wp2
      go_ret
      exact ⟨rfl, (by repeat (first | (with_reducible first | exact HB.out | apply below_alloc | apply pw_below_drewN | apply below_drew1) | exact HB.out))⟩
    · clear hg
      go_wp2
      go_ret
      exact ⟨rfl, (by repeat (first | (with_reducible first | exact HB.out | apply below_alloc | apply pw_below_drewN | apply below_drew1) | exact HB.out))⟩
  · clear hg
    go_wp2
    go_ret
    exact ⟨rfl, (by repeat (first | (with_reducible first | exact HB.out | apply below_alloc | apply pw_below_drewN | apply below_drew1) | exact HB.out))⟩
theorem more_calls (l m : List Int) (A : Option Addr) (c : Nat) (B : Option Addr) (d : Nat) (w : World) (hT : Tabs w) (hC : (Kd.int .u8).C w A l.length l) (hc : l.length ≤ c) (hD : (Kd.int .u8).C w B m.length m) (hd : m.length ≤ d) (h8 : B8 l) (h9 : B8 m) (hl : l.length ≤ 5000) (hm : m.length ≤ 1000) :
    Calls Tryz.prog 5 #[.slice A l.length c, .slice B m.length d] w fun e w' => e = .returned (.bool true) ∧ Below w.heap.size w w' := by
  have hlaw := more_law l m
  have hg1 := good_parse l
  have hg2 := good_parse (l ++ m)
  obtain ⟨p1, hp1⟩ : ∃ p, parseMP l = p := ⟨_, rfl⟩
  obtain ⟨p2, hp2⟩ : ∃ p, parseMP (l ++ m) = p := ⟨_, rfl⟩
  rw [hp1] at hlaw hg1
  rw [hp2] at hlaw hg2
  have hreq : ∀ s : Step, s = stepM ∨ (∃ u r k b, s = stepFS u r k b) → s.req = ⟨[], zForm⟩ := fun s h => by
    rcases h with rfl | ⟨u, r, k, b, rfl⟩
    · rfl
    · rfl
  have hany : ∀ (cx cy : List Value) (w' : World), p1.req = ⟨[], zForm⟩ → kStep.K w' p1 cx → kStep.K w' p2 cy → Calls Tryz.prog 10 #[.agg cx.toArray, .agg cy.toArray] w' fun e w'' => (∃ b0, e = .returned (.bool b0)) ∧ Below w'.heap.size w' w'' := fun cx cy w' h1 hx hy => by
    by_cases h2 : p2.req = ⟨[], zForm⟩
    · exact steps_req p1 p2 cx cy w' hx hy (h1.trans h2.symm)
    · refine steps_diff p1 p2 cx cy w' hx hy ?_
      rw [h1]
      rcases hg2 with h | ⟨u, r, k, b, h, -⟩ | ⟨u, f, c, h, -⟩
      · exact absurd (hreq p2 (.inl h)) h2
      · exact absurd (hreq p2 (.inr ⟨u, r, k, b, h⟩)) h2
      · rw [h]
        show ([] : List Cmd).length ≠ [c].length
        exact (by decide : (0 : Nat) ≠ 1)
  rcases hlaw with h3 | h | ⟨u, b, h1, h2⟩
  · have hr1 : p1.req = ⟨[], zForm⟩ := by
      rcases hg1 with h | ⟨u, r, k, b, h, -⟩ | ⟨u, f, cs, h, -⟩
      · exact hreq p1 (.inl h)
      · exact hreq p1 (.inr ⟨u, r, k, b, h⟩)
      · rw [h] at h3
        exact absurd h3 (show ¬ (0 : Int) = 3 by decide)
    refine more_walk l m A c B d w hT hC hc hD hd h8 h9 hl hm p1 p2 hp1 hp2 (fun _ => True) true _ _ _ _ _ _ (beq_iff_eq.2 h3) rfl rfl rfl rfl rfl rfl (fun _ _ => .inl rfl) ?_
    intro cx cy w' hx hy
    exact (hany cx cy w' hr1 hx hy).mono fun e w'' ⟨⟨b0, he⟩, hb⟩ => ⟨⟨b0, he, trivial⟩, hb⟩
  · refine more_walk l m A c B d w hT hC hc hD hd h8 h9 hl hm p1 p2 hp1 hp2 (fun b0 => b0 = true) _ _ _ _ _ _ _ rfl rfl rfl rfl rfl rfl rfl (fun _ h => .inr (.inl h)) ?_
    intro cx cy w' hx hy
    rw [h] at hy
    exact (steps_same p1 cx cy w' hx hy).mono fun e w'' ⟨he, hb⟩ => ⟨⟨true, he, rfl⟩, hb⟩
  · have hr1 : p1.req = ⟨[], zForm⟩ := hreq p1 (.inr ⟨_, _, _, _, h1⟩)
    refine more_walk l m A c B d w hT hC hc hD hd h8 h9 hl hm p1 p2 hp1 hp2 (fun _ => True) _ _ _ _ true true true rfl rfl rfl rfl ?_ ?_ ?_ (fun _ _ => .inr (.inr ⟨rfl, rfl, rfl⟩)) ?_
    · rw [h1]
      show ((2 : Int) == 2 && (true && ((l.length : Int) == (l.length : Int)))) = true
      simp
    · rw [h2]
      rfl
    · rw [h1, h2]
      exact beq_self_eq_true _
    · intro cx cy w' hx hy
      exact (hany cx cy w' hr1 hx hy).mono fun e w'' ⟨⟨b0, he⟩, hb⟩ => ⟨⟨b0, he, trivial⟩, hb⟩
set_option maxRecDepth 100000 in
set_option maxHeartbeats 1000000 in
theorem more_big (l m : List Int) (A : Option Addr) (c : Nat) (B : Option Addr) (d : Nat) (w : World) (hT : Tabs w) (hl : 5000 < l.length ∨ l.length ≤ 5000 ∧ 1000 < m.length) :
    Calls Tryz.prog 5 #[.slice A l.length c, .slice B m.length d] w fun e w' => e = .returned (.bool true) ∧ Below w.heap.size w w' := by
  have HB := Aside0.mk (Below.refl w.heap.size w)
  have HT := Aside0.mk hT
  clear hT
  rcases hl with h5 | ⟨h5, h1⟩
  · have h5i : (5000 : Int) < ↑l.length := by omega
    clear h5
    go_enter Tryz.func5, Tryz.ntmps5
    go_wp2_with (first | (go_at_call 9; (with_reducible refine (awake_calls _ (Tabs.below HT.out (by repeat (first | (with_reducible first | exact HB.out | apply below_alloc | apply pw_below_drewN | apply below_drew1) | exact HB.out)))).mono ?_); rintro e w0 ⟨rfl, hb⟩; have HBn := Aside0.mk (below_step (by repeat (first | (with_reducible first | exact HB.out | apply below_alloc | apply pw_below_drewN | apply below_drew1) | exact HB.out)) hb); clear HB; have HB := HBn; clear HBn; clear hb))
    go_ret
    exact ⟨rfl, (by repeat (first | (with_reducible first | exact HB.out | apply below_alloc | apply pw_below_drewN | apply below_drew1) | exact HB.out))⟩
  · have h5i : ¬ (5000 : Int) < ↑l.length := by omega
    have h1i : (1000 : Int) < ↑m.length := by omega
    clear h5 h1
    go_enter Tryz.func5, Tryz.ntmps5
    go_wp2_with (first | (go_at_call 9; (with_reducible refine (awake_calls _ (Tabs.below HT.out (by repeat (first | (with_reducible first | exact HB.out | apply below_alloc | apply pw_below_drewN | apply below_drew1) | exact HB.out)))).mono ?_); rintro e w0 ⟨rfl, hb⟩; have HBn := Aside0.mk (below_step (by repeat (first | (with_reducible first | exact HB.out | apply below_alloc | apply pw_below_drewN | apply below_drew1) | exact HB.out)) hb); clear HB; have HB := HBn; clear HBn; clear hb))
    go_ret
    exact ⟨rfl, (by repeat (first | (with_reducible first | exact HB.out | apply below_alloc | apply pw_below_drewN | apply below_drew1) | exact HB.out))⟩
theorem more_w (l m : List Int) (A B : Option Addr) (c d : Nat) (w : World) (hT : Tabs w) (hC : (Kd.int .u8).C w A l.length l) (hc : l.length ≤ c) (hw : l.length ≤ 9223372036854775807 ∧ ∀ y ∈ l, 0 ≤ y ∧ y < 256) (hD : (Kd.int .u8).C w B m.length m) (hd : m.length ≤ d) (hv : m.length ≤ 9223372036854775807 ∧ ∀ y ∈ m, 0 ≤ y ∧ y < 256) :
    Calls Tryz.prog 5 #[.slice A l.length c, .slice B m.length d] w fun e w' => e = .returned (.bool true) ∧ Below w.heap.size w w' := by
  by_cases h5 : 5000 < l.length
  · exact more_big l m A c B d w hT (.inl h5)
  by_cases h1 : 1000 < m.length
  · exact more_big l m A c B d w hT (.inr ⟨by omega, h1⟩)
  exact more_calls l m A c B d w hT hC hc hD hd hw.2 hv.2 (by omega) (by omega)
end Go.Proofs.YtdgeiadlijlkmaaGreatDoor.X
