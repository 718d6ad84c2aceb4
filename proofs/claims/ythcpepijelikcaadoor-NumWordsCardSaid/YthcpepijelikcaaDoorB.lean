/- Words of this seat: what the laid table holds; conversions between strings and bytes; what is kept behind a call. -/
import Derived.Test.YthcpepijelikcaaDoorWWords
import Derived.Test.YthcpepijelikcaaDoorProg
import Derived.Lib.LaidTab
import Derived.Lib.AppendIntMem
import Derived.Lib.ConvBytes
import Derived.Lib.SlBytesConst
import Derived.Laws.IdiomStrings
namespace Go.Proofs.YthcpepijelikcaaDoor.X
open Go.RowKit Go.Proofs.YthcpepijelikcaaDoorW.PrintWords
set_option linter.unusedVariables false

/-- What the laid variables hold: the table by which digits are reckoned, and strconv's two errors. -/
structure Tabs (w : World) : Prop where
  tab : Lib.TabIs Tryd.prog w "internal/strconv.uint64pow10" .u64 Lib.pow10Tab
  syn : ∃ tp p, w.cell? ⟨1, 0, none⟩ = some (.iface tp p)
  rng : ∃ tp p, w.cell? ⟨2, 0, none⟩ = some (.iface tp p)
theorem Tabs.below {w w' : World} (h : Tabs w) (hb : Below w.heap.size w w') : Tabs w' :=
  ⟨(Lib.tabBelow_of_tabIs h.tab) w' hb, by
    obtain ⟨tp, p, e⟩ := h.syn
    exact ⟨tp, p, (hb.cell (World.block_lt_of_cell? _ _ e)).trans e⟩, by
    obtain ⟨tp, p, e⟩ := h.rng
    exact ⟨tp, p, (hb.cell (World.block_lt_of_cell? _ _ e)).trans e⟩⟩

theorem bcell {W w1 : World} (hb : Below W.heap.size W w1) : (∀ b o, b < W.heap.size → w1.cell? ⟨b, o, none⟩ = W.cell? ⟨b, o, none⟩) ∧ (∀ b o, b < W.heap.size → w1.frozen? ⟨b, o, none⟩ = W.frozen? ⟨b, o, none⟩) :=
  ⟨fun b o h => hb.cell (p := ⟨b, o, none⟩) h, fun b o h => hb.frozen (p := ⟨b, o, none⟩) h⟩

theorem ha_at {W : World} {o : Obj} {i : Nat} (h : W.heap.size = i) : (W.alloc o).heap[i]? = some o := by
  subst h
  show (W.heap.push o)[W.heap.size]? = some o
  simp
theorem ha_old {W : World} {o v : Obj} {i : Nat} (h : W.heap[i]? = some v) : (W.alloc o).heap[i]? = some v := by
  show (W.heap.push o)[i]? = some v
  have hi := (Array.getElem?_eq_some_iff.1 h).1
  rw [Array.getElem?_push, if_neg (by omega)]
  exact h
theorem blk_cells {w : World} {g : Nat} {cs : Array Value} {t : TypeId} (h : w.heap[g]? = some (.cells cs t (0, 0))) (j : Nat) (v : Value) (hv : cs[j]? = some v) : w.cell? ⟨g, j, none⟩ = some v := by
  simp [World.cell?, h, hv]
theorem blk_free {w : World} {g : Nat} {cs : Array Value} {t : TypeId} (h : w.heap[g]? = some (.cells cs t (0, 0))) (j : Nat) : w.frozen? ⟨g, j, none⟩ = false := by
  simp [World.frozen?, h]
theorem addr_plain {w : World} {a : Addr} {v : Value} (h : w.cell? a = some v) : ∃ b o, a = ⟨b, o, none⟩ ∧ b < w.heap.size := by
  have hb := World.block_lt_of_cell? _ _ h
  obtain ⟨b, o, s⟩ := a
  refine ⟨b, o, ?_, hb⟩
  cases s with
  | none => rfl
  | some z =>
    exfalso
    unfold World.cell? at h
    split at h <;> simp at h
theorem iter_pos {w : World} {k : Nat} {s : ByteArray} {pos : Nat} (h : w.heap[k]? = some (.stringIter s pos)) : w.iterPos k = pos := by simp [World.iterPos, h]
/-- A slice of bytes that is read. -/
abbrev Bytes (w : World) (A : Option Addr) (l : List Int) : Prop := (Kd.int .u8).C w A l.length l
/-- What a call hands back: a slice of bytes. -/
def RetBytes (l : List Int) (w : World) (e : Ending) (w' : World) : Prop := ∃ A c, e = .returned (.slice A l.length c) ∧ l.length ≤ c ∧ Bytes w' A l ∧ Below w.heap.size w w'

theorem bytesWorld_below (W : World) (e : TypeId) (s : ByteArray) : Below W.heap.size W (Lib.bytesWorld W e s) := by
  refine ⟨rfl, rfl, rfl, ?_, fun j hj => Lib.bytesWorld_at_old W e s j hj⟩
  rw [Lib.bytesWorld_size]; omega
theorem bytesWorld_C (W : World) (e : TypeId) (s : ByteArray) (hs : s.size ≤ 9223372036854775807) : Bytes (Lib.bytesWorld W e s) (some ⟨W.heap.size, 0, none⟩) (bytesOf s) := by
  refine ⟨rfl, by rw [bytesOf_length]; exact hs, fun _ => ⟨_, rfl, fun j p hj => ⟨[.int .u8 p], rfl, rfl, fun i u hu => ?_⟩⟩⟩
  have hjl : j < s.size := by
    have := (List.getElem?_eq_some_iff.1 hj).1
    rwa [bytesOf_length] at this
  match i, hu with
  | 0, hu =>
    have hu' : Value.int .u8 p = u := by simpa using hu
    have hc := Lib.bytesWorld_cell W e s j hjl
    have ha : (⟨W.heap.size, 0, none⟩ : Addr).add (j * (Kd.int .u8).sz + 0) = ⟨W.heap.size, j, none⟩ := by
      show (⟨W.heap.size, 0, none⟩ : Addr).add (j * 1 + 0) = _
      unfold Addr.add
      split <;> simp_all
    rw [ha, ← hu']
    have hp : ((s.data.toList.getD j 0).toNat : Int) = p := by
      have h2 : bytesOf s = s.data.toList.map fun b => (b.toNat : Int) := rfl
      rw [h2, List.getElem?_map] at hj
      obtain ⟨b, hb, hb2⟩ := Option.map_eq_some_iff.1 hj
      rw [← hb2, List.getD_eq_getElem?_getD, hb]
      rfl
    rw [← hp, ← hc]

/-- A block's cells, as a row that is read. -/
theorem C_at_blk {α : Type} (d : Kd α) {W : World} {b : Nat} {e : TypeId} {fr : Nat × Nat} {cells : Array Value} (hb : W.heap[b]? = some (.cells cells e fr)) (xs : List α) (hn : xs.length ≤ 9223372036854775807) (hr : Reps (d.K W) d.sz xs cells.toList) :
    d.C W (some ⟨b, 0, none⟩) xs.length xs := by
  refine ⟨rfl, hn, fun _ => ⟨_, rfl, fun j p hj => ?_⟩⟩
  have hp := hr.2 j p hj
  refine ⟨_, d.K_len hp, hp, fun i u hu => ?_⟩
  have ha : (⟨b, 0, none⟩ : Addr).add (j * d.sz + i) = ⟨b, j * d.sz + i, none⟩ := by
    unfold Addr.add
    split <;> simp_all
  have hc : W.cell? ⟨b, j * d.sz + i, none⟩ = cells[j * d.sz + i]? := by simp [World.cell?, hb]
  rw [ha, hc]
  rw [List.getElem?_take] at hu
  split at hu
  · rw [List.getElem?_drop] at hu
    simpa using hu
  · cases hu
theorem Bytes_at {W : World} {b : Nat} {e : TypeId} {fr : Nat × Nat} {cells : Array Value} (hb : W.heap[b]? = some (.cells cells e fr)) (xs : List Int) (hn : xs.length ≤ 9223372036854775807) (hc : cells = (xs.map (Value.int .u8)).toArray) : Bytes W (some ⟨b, 0, none⟩) xs := by
  subst hc
  refine C_at_blk (Kd.int .u8) hb xs hn ⟨by simp [Kd.int, Kd.scalar], fun j p hj => ?_⟩
  show ((xs.map (Value.int .u8)).drop (j * 1)).take 1 = [Value.int .u8 p]
  rw [Nat.mul_one]
  obtain ⟨hl, hp⟩ := List.getElem?_eq_some_iff.1 hj
  rw [List.drop_eq_getElem_cons (by simpa using hl)]
  simp [hp]
section
variable {P : Program} {ops : Array Oper} {rest : List Oper} {o : Oper} {a : Act} {Q : Exit → Act → World → Prop} {W : World}
/-- An arm: 'string(b)' of a slice that is read. -/
theorem wp_strof (hgd : o.guard = none) (src dst e : TypeId) (x : Operand) (ho : o.op = .convert src dst x) (A : Option Addr) (n c : Nat) (xs : List Int) (hx : a.eval x = .slice A n c)
    (hs : P.underlying src = some (.slice e)) (he : P.underlying e = some (.int .u8)) (hd : P.underlying dst = some .string) (hC : (Kd.int .u8).C W A n xs)
    (h : wpList P ops Q rest (a.put o.dst (.string (strOfNums xs))) W) : wpList P ops Q (o :: rest) a W := by
  refine Kd.event_run hgd (v := .string (strOfNums xs)) (w1 := W) ?_ h
  have hr := Kd.C_string (c := c) hs he hd hC
  simp [execOp, ho, hx, hr]
/-- An arm: '[]byte' of a constant: the row that was just laid gets its mark. -/
theorem wp_const (hgd : o.guard = none) (t e : TypeId) (x : Operand) (ho : o.op = .convert t t x) (b n c : Nat) (C : Array Value) (hx : a.eval x = .slice (some ⟨b, 0, none⟩) n c)
    (hb : b = W.heap.size) (ht : P.underlying t = some (.slice e)) (he : P.underlying e = some (.int .u8))
    (h : wpList P ops Q rest (a.put o.dst (.slice (some ⟨b, 0, none⟩) n c)) (W.alloc (.cells C e (C.size, C.size + 1)))) : wpList P ops Q (o :: rest) a (W.alloc (.cells C e)) := by
  subst hb
  refine Kd.event_run hgd (v := .slice (some ⟨W.heap.size, 0, none⟩) n c) (w1 := W.alloc (.cells C e (C.size, C.size + 1))) ?_ h
  have hr := Lib.run_convert_bytes_const (P := P) W t e C n c ht he
  simp [execOp, ho, hx, hr]
theorem wp_const_drew (hgd : o.guard = none) (t e : TypeId) (x : Operand) (ho : o.op = .convert t t x) (b n c : Nat) (C : Array Value) (hx : a.eval x = .slice (some ⟨b, 0, none⟩) n c)
    (hb : b = W.heap.size) (ht : P.underlying t = some (.slice e)) (he : P.underlying e = some (.int .u8))
    (h : wpList P ops Q rest (a.put o.dst (.slice (some ⟨b, 0, none⟩) n c)) ((W.alloc (.cells C e (C.size, C.size + 1))).drew)) : wpList P ops Q (o :: rest) a ((W.alloc (.cells C e)).drew) :=
  wp_const (W := W.drew) hgd t e x ho b n c C hx hb ht he h
/-- An arm: '[]byte(s)'. -/
theorem wp_bytes (hgd : o.guard = none) (src dst e : TypeId) (x : Operand) (ho : o.op = .convert src dst x) (s : ByteArray) (hx : a.eval x = .string s)
    (hs : P.underlying src = some .string) (hdt : P.underlying dst = some (.slice e)) (he : P.underlying e = some (.int .u8)) (hl : s.size ≤ 9223372036854775807)
    (h : ∀ A c w1, (bytesOf s).length ≤ c → Bytes w1 A (bytesOf s) → Below W.heap.size W w1 → wpList P ops Q rest (a.put o.dst (.slice A (bytesOf s).length c)) w1) : wpList P ops Q (o :: rest) a W := by
  refine Kd.event_run hgd (v := .slice (some ⟨W.heap.size, 0, none⟩) (bytesOf s).length (grownCap W s.size 0 e)) (w1 := Lib.bytesWorld W e s) ?_ (h _ _ _ (by rw [bytesOf_length]; exact grownCap_ge _ _ _ _) (bytesWorld_C W e s hl) (bytesWorld_below W e s))
  have hr := Lib.run_convert_string_bytes (P := P) W src dst e s hs hdt he
  simp [execOp, ho, hx, hr, bytesOf_length]
/-- '[]byte(s)' in a region that draws its order. -/
theorem step_bytes {K : Act → World → Prop} {E : Prop} (hgd : o.guard = none) (src dst e : TypeId) (x : Operand) (ho : o.op = .convert src dst x) (s : ByteArray) (hx : a.eval x = .string s)
    (hs : P.underlying src = some .string) (hdt : P.underlying dst = some (.slice e)) (he : P.underlying e = some (.int .u8)) (hl : s.size ≤ 9223372036854775807)
    (h : ∀ A c w1, (bytesOf s).length ≤ c → Bytes w1 A (bytesOf s) → Below W.heap.size W w1 → K (a.put o.dst (.slice A (bytesOf s).length c)) w1) : if Region.wanted o (yielded ops a.tmps) = true then Oper.wp P o a W K Q else E := by
  have hw : Region.wanted o (yielded ops a.tmps) = true := by simp [Region.wanted, hgd]
  rw [if_pos hw]
  have hr := Lib.run_convert_string_bytes (P := P) W src dst e s hs hdt he
  have hrun : (execOp a.eval o).run P W = .ok (.value (.slice (some ⟨W.heap.size, 0, none⟩) (bytesOf s).length (grownCap W s.size 0 e))) (Lib.bytesWorld W e s) := by simp [execOp, ho, hx, hr, bytesOf_length]
  unfold Oper.wp
  rw [hrun]
  exact h _ _ _ (by rw [bytesOf_length]; exact grownCap_ge _ _ _ _) (bytesWorld_C W e s hl) (bytesWorld_below W e s)
end
theorem upon_bytes {P : Program} {o : Oper} {a : Act} {K : Act → World → Prop} {Q : Exit → Act → World → Prop} {W : World} (src dst e : TypeId) (s : ByteArray)
    (hs : P.underlying src = some .string) (hdt : P.underlying dst = some (.slice e)) (he : P.underlying e = some (.int .u8)) (hl : s.size ≤ 9223372036854775807)
    (h : ∀ A c w1, (bytesOf s).length ≤ c → Bytes w1 A (bytesOf s) → Below W.heap.size W w1 → K (a.put o.dst (.slice A (bytesOf s).length c)) w1) : Oper.upon P o a K Q (((convert src dst (.string s)).run P W).andThen fun v w' => .ok (.value v) w') := by
  rw [Lib.run_convert_string_bytes (P := P) W src dst e s hs hdt he]
  have := h _ _ _ (by rw [bytesOf_length]; exact grownCap_ge W s.size 0 e) (bytesWorld_C W e s hl) (bytesWorld_below W e s)
  rw [bytesOf_length] at this
  exact this
theorem bs_beq (a b : ByteArray) : (a == b) = true ↔ a = b := by
  rcases a with ⟨a⟩; rcases b with ⟨b⟩
  have h : ((⟨a⟩ : ByteArray) == ⟨b⟩) = (a == b) := rfl
  rw [h]
  simp
theorem bs_nil (a : ByteArray) : a.toList.isEmpty = true ↔ a = ⟨#[]⟩ := by
  rw [ByteArray.toList_eq]
  rcases a with ⟨⟨l⟩⟩
  cases l <;> simp
end Go.Proofs.YthcpepijelikcaaDoor.X
