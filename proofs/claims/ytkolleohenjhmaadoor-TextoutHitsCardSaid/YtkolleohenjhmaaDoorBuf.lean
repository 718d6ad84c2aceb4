/- bytes.Buffer at this program: Write, for any slice of bytes that is read. -/
import Derived.Test.YtkolleohenjhmaaDoorLine
namespace Go.Proofs.YtkolleohenjhmaaDoor.X
open Go.RowKit Go.Proofs.YtkolleohenjhmaaDoorW.PrintWords Go.Proofs.YtkolleohenjhmaaDoorW.PrintMore
set_option linter.unusedVariables false
set_option linter.unusedSimpArgs false

abbrev IsBuf (B b : Nat) (l : List Int) (w : World) : Prop := Lib.IsBuffer 49 5 B b (l.map (Value.int .u8)) w
abbrev Oth (b : Nat) (w w' : World) : Prop := Lib.OthersKept 5 (some b) w w'
theorem ownsRow_far {w : World} {base : Nat} {e : TypeId} {v : Value} {n : Nat} {xs : List Value} (h : w.ownsRow base e 1 v n xs) {b : Nat} (hne : v.ownBlock ≠ some b) (j : Nat) (u : Value) : (w.setCell ⟨b, j, none⟩ u).ownsRow base e 1 v n xs := by
  refine ⟨h.1, ?_⟩
  rcases h.2 with hn | ⟨g, cap, cur, rfl, hb, hg, r⟩
  · exact Or.inl hn
  · refine Or.inr ⟨g, cap, cur, rfl, hb, ?_, r⟩
    rw [heap_setCell_other w ⟨b, j, none⟩ g u (fun e => hne (show (some g : Option Nat) = some b from congrArg some e))]
    exact hg
theorem oth_set (w : World) (b j : Nat) (u : Value) : Oth b w (w.setCell ⟨b, j, none⟩ u) := fun k o hk hb _ => by
  rw [heap_setCell_other w ⟨b, j, none⟩ k u (fun e => hb (by rw [e]))]
  exact hk
set_option maxRecDepth 100000 in
theorem write_none (A : Option Addr) (B b c : Nat) (bs : List Value) (w : World) (h : Lib.IsBuffer 49 5 B b bs w) :
    Calls Tryd.prog 21 #[.pointer (some ⟨b, 0, none⟩), .slice A 0 c] w fun e w' => e = .returned (.tuple #[.int .i64 0, .nilIface]) ∧ Lib.IsBuffer 49 5 B b bs w' ∧ Below B w w' ∧ Oth b w w' := by
  obtain ⟨hB, v, lr, hbk, hown, hne⟩ := h
  have h1 := heap_setCell_same w b 2 _ _ (.int .i8 0) hbk
  have hown1 := ownsRow_far hown hne 2 (.int .i8 0)
  have hb1 := (Below.refl B w).setCell (p := ⟨b, 2, none⟩) hB (.int .i8 0)
  have ho1 := oth_set w b 2 (.int .i8 0)
  have f0 := blk_free hbk 2
  have s2 := blk_cells hbk 2 _ rfl
  have key : ∀ (ao : Option Addr) (l cap : Nat), v = .slice ao l cap → l ≤ cap → cap ≤ maxLen → Calls Tryd.prog 21 #[.pointer (some ⟨b, 0, none⟩), .slice A 0 c] w fun e w' => e = .returned (.tuple #[.int .i64 0, .nilIface]) ∧ Lib.IsBuffer 49 5 B b bs w' ∧ Below B w w' ∧ Oth b w w' := by
    rintro ao l cap rfl hl hcap
    have h2 := heap_setCell_same (w.setCell ⟨b, 2, none⟩ (.int .i8 0)) b 0 _ _ (.slice ao l cap) h1
    have hown2 := ownsRow_far hown1 hne 0 (.slice ao l cap)
    have HO := Aside0.mk hown2
    have H2 := Aside0.mk h2
    have HBB := Aside0.mk (hb1.setCell (p := ⟨b, 0, none⟩) hB (.slice ao l cap))
    have HOT := Aside0.mk (ho1.trans (oth_set _ b 0 (.slice ao l cap)))
    have c0 := blk_cells h1 0 _ rfl
    have g0 := blk_free h1 0
    have HC0 := Aside0.mk c0
    have HG0 := Aside0.mk g0
    have d0 := blk_cells h2 0 _ rfl
    have hcap' : cap ≤ 9223372036854775807 := by unfold maxLen at hcap; omega
    clear h1 h2 hown hown1 hown2 hb1 ho1 c0 g0
    go_enter Tryd.func21, Tryd.ntmps21
    have hcp := fun ty d => run_copy_none (P := Tryd.prog) ((w.setCell ⟨b, 2, none⟩ (.int .i8 0)).setCell ⟨b, 0, none⟩ (.slice ao l cap)) 32 32 ty 5 d A 0 (cap - l) 0 c Tryd.underlying32 (by kernel_rfl) rfl
    go_wp2_with (first
      | (go_at_call 24; (refine (Tryd.Buffer_tryGrow_room b ao l cap 0 _ HC0.out HG0.out hl hcap (Nat.zero_le _)).mono ?_); rintro e w1 ⟨rfl, rfl⟩)
      | ((with_reducible refine gate_dst (N := 31) rfl ?_); (refine Kd.event_run rfl (v := goInt 0) (w1 := (w.setCell ⟨b, 2, none⟩ (.int .i8 0)).setCell ⟨b, 0, none⟩ (.slice ao l cap)) (by have h := hcp 3; simp [execOp, resolve, invoke, builtin, Act.eval, h]) ?_)))
    all_goals
      go_ret2
      try (have hcl : cap = l := by assumption
           subst hcl)
      exact ⟨rfl, ⟨hB, _, 0, H2.out, HO.out, hne⟩, HBB.out, HOT.out⟩
  rcases hown.2 with ⟨rfl, hz⟩ | ⟨g, cap, cur, rfl, _, _, hn, hm, _⟩
  · exact key none 0 0 rfl (Nat.le_refl _) (Nat.zero_le _)
  · exact key _ _ _ rfl hn hm
theorem buf_cells (l : List Int) (s : ByteArray) : (l ++ bytesOf s).map (Value.int .u8) = l.map (Value.int .u8) ++ Lib.byteCells s.data.toList := by
  unfold bytesOf Lib.byteCells
  rw [List.map_append, List.map_map]
  rfl
theorem buf_one (l : List Int) : ∀ v ∈ l.map (Value.int .u8), v.oneCell' = true := fun v hv => by
  obtain ⟨z, _, rfl⟩ := List.mem_map.1 hv
  rfl
theorem writes_calls (B b : Nat) (l : List Int) (s : ByteArray) (w : World) (h : IsBuf B b l w) (hBw : B ≤ w.heap.size) (hlim : l.length + s.size ≤ 140737488355328) :
    Calls Tryd.prog 19 #[.pointer (some ⟨b, 0, none⟩), .string s] w fun e w' => e = .returned (.tuple #[.int .i64 s.size, .nilIface]) ∧ IsBuf B b (l ++ bytesOf s) w' ∧ Below B w w' ∧ Oth b w w' := by
  refine (Tryd.Buffer_WriteString_k B b _ s w h hBw (buf_one l) (by rw [List.length_map]; exact hlim)).mono ?_
  rintro e w' ⟨rfl, h1, h2, h3⟩
  refine ⟨rfl, ?_, h2, h3⟩
  unfold IsBuf
  rw [buf_cells]
  exact h1
theorem write_calls (B b : Nat) (l : List Int) (A : Option Addr) (c : Nat) (xs : List Int) (w : World) (h : IsBuf B b l w) (hC : Bytes w A xs) (hBw : B ≤ w.heap.size) (hA : xs ≠ [] → ∀ a, A = some a → a.block < B) (hlim : l.length + xs.length ≤ 140737488355328) :
    Calls Tryd.prog 21 #[.pointer (some ⟨b, 0, none⟩), .slice A xs.length c] w fun e w' => ∃ n, e = .returned (.tuple #[.int .i64 n, .nilIface]) ∧ IsBuf B b (l ++ xs) w' ∧ Below B w w' ∧ Oth b w w' := by
  by_cases hx : xs = []
  · subst hx
    refine (write_none A B b c _ w h).mono ?_
    rintro e w' ⟨rfl, h1, h2, h3⟩
    exact ⟨0, rfl, by rw [List.append_nil]; exact h1, h2, h3⟩
  · have h00 : 0 < xs.length := List.length_pos_iff.2 hx
    obtain ⟨a, rfl, _⟩ := hC.2.2 h00
    refine (Tryd.Buffer_Write_k B b _ (xs.map (Value.int .u8)) a xs.length c w h hBw (buf_one l) (by simp) (hA hx a rfl) (fun j v hj => ?_) (buf_one xs) (by rw [List.length_map]; exact hlim)).mono ?_
    · rw [List.getElem?_map] at hj
      obtain ⟨z, hz, rfl⟩ := Option.map_eq_some_iff.1 hj
      have h0 : 0 < xs.length := Nat.lt_of_le_of_lt (Nat.zero_le _) (List.getElem?_eq_some_iff.1 hz).1
      obtain ⟨ad, e, hc⟩ := hC.2.2 h0
      obtain rfl := Option.some.inj e
      obtain ⟨cs, _, hK, hcell⟩ := hc j z hz
      obtain rfl := hK
      have := hcell 0 _ rfl
      rwa [show (Kd.int .u8).sz = 1 from rfl, Nat.mul_one, Nat.add_zero] at this
    · rintro e w' ⟨rfl, h1, h2, h3⟩
      refine ⟨_, rfl, ?_, h2, h3⟩
      unfold IsBuf
      rw [List.map_append]
      exact h1
theorem isbuf_below {B b : Nat} {l : List Int} {W W' : World} (h : IsBuf B b l W) (hb : Below W.heap.size W W') : IsBuf B b l W' := by
  obtain ⟨hB, v, lr, hbk, hown, hne⟩ := h
  refine ⟨hB, v, lr, (hb.block b (Array.getElem?_eq_some_iff.1 hbk).1).trans hbk, ⟨hown.1, ?_⟩, hne⟩
  rcases hown.2 with hn | ⟨g, cap, cur, rfl, hbg, hg, r⟩
  · exact Or.inl hn
  · exact Or.inr ⟨g, cap, cur, rfl, hbg, (hb.block g (Array.getElem?_eq_some_iff.1 hg).1).trans hg, r⟩
theorem Strs_at {W : World} {b : Nat} {e : TypeId} {fr : Nat × Nat} {cells : Array Value} (hb : W.heap[b]? = some (.cells cells e fr)) (xs : List ByteArray) (hn : xs.length ≤ 9223372036854775807) (hc : cells = (xs.map Value.string).toArray) : Kd.string.C W (some ⟨b, 0, none⟩) xs.length xs := by
  subst hc
  refine C_at_blk Kd.string hb xs hn ⟨by simp [Kd.string, Kd.scalar], fun j p hj => ?_⟩
  show ((xs.map Value.string).drop (j * 1)).take 1 = [Value.string p]
  rw [Nat.mul_one]
  obtain ⟨hl, hp⟩ := List.getElem?_eq_some_iff.1 hj
  rw [List.drop_eq_getElem_cons (by simpa using hl)]
  simp [hp]
theorem bytes_calls (B b : Nat) (l : List Int) (w : World) (h : IsBuf B b l w) :
    Calls Tryd.prog 22 #[.pointer (some ⟨b, 0, none⟩)] w fun e w' => ∃ v, e = .returned v ∧ Kd.V (Kd.int .u8) 5 w' B (fun k_ => B ≤ k_) v l ∧ Below w.heap.size w w' := by
  refine (Tryd.Buffer_Bytes B b _ w h).mono ?_
  rintro e w' ⟨v, rfl, hown, n, rfl⟩
  refine ⟨v, rfl, ?_, (Drawn0.mk ⟨n, rfl⟩).below⟩
  have hR : (Kd.int .u8).R 5 (w.drewN n) B (fun k_ => B ≤ k_) v l := by
    refine Kd.R_of_own ?_ (fun k hk => (hown.lt k hk).1)
    rw [List.length_map] at hown
    exact hown
  exact Kd.R_V hR
end Go.Proofs.YtkolleohenjhmaaDoor.X
