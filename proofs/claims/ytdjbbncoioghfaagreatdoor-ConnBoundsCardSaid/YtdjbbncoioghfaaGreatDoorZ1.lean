/- Texts of this work, merged in build order: B, Shelf, Show, Num, Dec, Pf1, Inf, FnF, FrL, WdL, Wd, Fr, Fr2, Key, Key2. -/
import Derived.Test.YtdjbbncoioghfaaGreatDoorZ0
import Derived.Test.YtdjbbncoioghfaaGreatDoorProg
import Derived.Lib.LaidTab
import Derived.Lib.AppendIntMem
import Derived.Lib.ConvBytes
import Derived.Lib.SlBytesConst
import Derived.Laws.IdiomStrings
import Derived.Shelf.Strings.Builder1
import Derived.Shelf.Strings.Builder2
import Derived.Shelf.Strings.Trim
import Derived.Shelf.Small.Utf8
import Derived.Shelf.Small.Strs
import Derived.Shelf.Small.Wraps
import Derived.Shelf.Strings.BuilderF
import Derived.Shelf.Strings.BuilderK
import Derived.Shelf.Strings.Builder2Cap
import Derived.Shelf.Strconv.Itoa0
import Derived.Shelf.Strconv.Itoa1
import Derived.Shelf.LaysM
import Derived.Shelf.Strconv.Itoa2
import Derived.Shelf.Strconv.Itoa3
import Derived.Shelf.Strconv.Clone
import Derived.Shelf.Strconv.SyntaxError
import Derived.Shelf.LaysC
import Derived.Shelf.Strconv.ToError
import Derived.Shelf.Strconv.Lower
import Derived.Shelf.Strconv.ParseUint10
import Derived.Shelf.Strconv.ParseUint10Empty
import Derived.Shelf.Strconv.ParseUint10Any
import Derived.Shelf.Strconv.RangeError
import Derived.Shelf.Strconv.ToErrorRange
import Derived.Shelf.Strconv.ParseUintEmpty
import Derived.Shelf.Strconv.ParseUint10b64
import Derived.Shelf.Strconv.ParseUint10b32
import Derived.Shelf.Strconv.ParseUint10b16
import Derived.Shelf.Strconv.ParseUint10b8
import Derived.Shelf.Strconv.ParseUint10At
import Derived.Ground.MpProg
import Derived.Shelf.Pu.ParseUintPublic10
import Derived.Shelf.Pu.ErrVarParseUint
import Derived.Shelf.Strings.Search1
import Derived.Shelf.Strings.Search2
import Derived.Shelf.Strings.Cut
import Derived.Shelf.Strings.Shaped
import Derived.Shelf.Strings.Prefix
import Derived.Shelf.Unicode.Decode
import Derived.Shelf.Strings.Runes
import Derived.Shelf.Strings.AsciiSet
import Derived.Shelf.Bits.Mul64
import Derived.Shelf.Unicode.DecodeSlow
import Derived.Shelf.Unicode.DecodeAny
import Derived.Shelf.Unicode.DecodeLast
import Derived.Shelf.Strings.BuilderCap
import Derived.Shelf.Bytes.SlIndexSmall
import Derived.Shelf.Bytes.SlIndexAt
import Derived.Shelf.Bytes.SlSearch0
import Derived.Shelf.Bytes.SlSearch1
import Derived.Shelf.Bytes.SlSearch2
import Derived.Shelf.Bytes.SlIndexWhole
import Derived.Shelf.Bytes.SlSmallAll
import Derived.Shelf.Bytes.SlEqualAll
import Derived.Ground.SlbtProg
import Derived.Shelf.Bytes.SlCut
import Derived.Shelf.Bytes.Small
import Derived.Shelf.Bytes.IndexByte
import Derived.Lib.ItoaMem
import Derived.Lib.Walk
import Derived.BigCall
import Derived.BigGuard
import Derived.Lib.ParseIntBCases
import Derived.Lib.AtoiAll
import Derived.Lib.ItoaNum
import Derived.Laws.Strings
import Derived.Sort.Walk0
import Derived.Laws.BitsLemmas
import Derived.Laws.Bits64
import Derived.Below
import Derived.Deep.Draws
import Derived.Deep.AppendLies
import Derived.Maps.AppendAt
import Derived.OwnWalk
import Derived.Laws.BytesArg
import Derived.Laws.MakeOwn
import Derived.Laws.OwnMore
import Derived.Deep.OwnRows
import Derived.Tactics
import Derived.Laws.Slices
import Derived.WalkKit
import Derived.KernelRfl
import Derived.RowKit3
import Derived.Deep.LoopGhost
import Derived.Deep.QuietTactic
import Derived.BigQuiet
import Derived.WideLaws
import Derived.Deep.DeepCutAuto
import Derived.Deep.CutBlock
import Derived.Deep.RegionHeld3
import Derived.Laws.Rows
import Derived.Lib.AppendStr
import Derived.ArgAppend
import Derived.Laws.IdiomCopy
import Derived.OrdersHeld
import Derived.RowKit
import Derived.Lib.TrimByte
import Derived.Lib.Bytealg
import Derived.IntWalk
import Derived.Outline
namespace Go.Proofs.YtdjbbncoioghfaaGreatDoor.X
open Go.RowKit Go.Proofs.YtdjbbncoioghfaaGreatDoorW.PrintWords
set_option linter.unusedVariables false

/-- What the laid variables hold: the table by which digits are reckoned, and strconv's two errors. -/
structure Tabs (w : World) : Prop where
  tab : Lib.TabIs Tryz.prog w "internal/strconv.uint64pow10" .u64 Lib.pow10Tab
  syn : ∃ tp p, w.cell? ⟨3, 0, none⟩ = some (.iface tp p)
  rng : ∃ tp p, w.cell? ⟨4, 0, none⟩ = some (.iface tp p)
theorem Tabs.below {w w' : World} (h : Tabs w) (hb : Below w.heap.size w w') : Tabs w' :=
  ⟨(Lib.tabBelow_of_tabIs h.tab) w' hb, by
    obtain ⟨tp, p, e⟩ := h.syn
    exact ⟨tp, p, (hb.cell (World.block_lt_of_cell? _ _ e)).trans e⟩, by
    obtain ⟨tp, p, e⟩ := h.rng
    exact ⟨tp, p, (hb.cell (World.block_lt_of_cell? _ _ e)).trans e⟩⟩

theorem bcell {W w1 : World} (hb : Below W.heap.size W w1) : (∀ b o, b < W.heap.size → w1.cell? ⟨b, o, none⟩ = W.cell? ⟨b, o, none⟩) ∧ (∀ b o, b < W.heap.size → w1.frozen? ⟨b, o, none⟩ = W.frozen? ⟨b, o, none⟩) :=
  ⟨fun b o h => hb.cell (p := ⟨b, o, none⟩) h, fun b o h => hb.frozen (p := ⟨b, o, none⟩) h⟩

theorem ha_at {W : World} {o : Obj} {i : Nat} (h : W.heap.size = i) : (W.alloc o).heap[i]? = some o := by
  subst h
  show (W.heap.push o)[W.heap.size]? = some o
  simp
theorem ha_old {W : World} {o v : Obj} {i : Nat} (h : W.heap[i]? = some v) : (W.alloc o).heap[i]? = some v := by
  show (W.heap.push o)[i]? = some v
  have hi := (Array.getElem?_eq_some_iff.1 h).1
  rw [Array.getElem?_push, if_neg (by omega)]
  exact h
theorem blk_cells {w : World} {g : Nat} {cs : Array Value} {t : TypeId} (h : w.heap[g]? = some (.cells cs t (0, 0))) (j : Nat) (v : Value) (hv : cs[j]? = some v) : w.cell? ⟨g, j, none⟩ = some v := by
  simp [World.cell?, h, hv]
theorem blk_free {w : World} {g : Nat} {cs : Array Value} {t : TypeId} (h : w.heap[g]? = some (.cells cs t (0, 0))) (j : Nat) : w.frozen? ⟨g, j, none⟩ = false := by
  simp [World.frozen?, h]
theorem addr_plain {w : World} {a : Addr} {v : Value} (h : w.cell? a = some v) : ∃ b o, a = ⟨b, o, none⟩ ∧ b < w.heap.size := by
  have hb := World.block_lt_of_cell? _ _ h
  obtain ⟨b, o, s⟩ := a
  refine ⟨b, o, ?_, hb⟩
  cases s with
  | none => rfl
  | some z =>
    exfalso
    unfold World.cell? at h
    split at h <;> simp at h
theorem iter_pos {w : World} {k : Nat} {s : ByteArray} {pos : Nat} (h : w.heap[k]? = some (.stringIter s pos)) : w.iterPos k = pos := by simp [World.iterPos, h]
/-- A slice of bytes that is read. -/
abbrev Bytes (w : World) (A : Option Addr) (l : List Int) : Prop := (Kd.int .u8).C w A l.length l
/-- What a call hands back: a slice of bytes. -/
def RetBytes (l : List Int) (w : World) (e : Ending) (w' : World) : Prop := ∃ A c, e = .returned (.slice A l.length c) ∧ l.length ≤ c ∧ Bytes w' A l ∧ Below w.heap.size w w'

theorem bytesWorld_below (W : World) (e : TypeId) (s : ByteArray) : Below W.heap.size W (Lib.bytesWorld W e s) := by
  refine ⟨rfl, rfl, rfl, ?_, fun j hj => Lib.bytesWorld_at_old W e s j hj⟩
  rw [Lib.bytesWorld_size]; omega
theorem bytesWorld_C (W : World) (e : TypeId) (s : ByteArray) (hs : s.size ≤ 9223372036854775807) : Bytes (Lib.bytesWorld W e s) (some ⟨W.heap.size, 0, none⟩) (bytesOf s) := by
  refine ⟨rfl, by rw [bytesOf_length]; exact hs, fun _ => ⟨_, rfl, fun j p hj => ⟨[.int .u8 p], rfl, rfl, fun i u hu => ?_⟩⟩⟩
  have hjl : j < s.size := by
    have := (List.getElem?_eq_some_iff.1 hj).1
    rwa [bytesOf_length] at this
  match i, hu with
  | 0, hu =>
    have hu' : Value.int .u8 p = u := by simpa using hu
    have hc := Lib.bytesWorld_cell W e s j hjl
    have ha : (⟨W.heap.size, 0, none⟩ : Addr).add (j * (Kd.int .u8).sz + 0) = ⟨W.heap.size, j, none⟩ := by
      show (⟨W.heap.size, 0, none⟩ : Addr).add (j * 1 + 0) = _
      unfold Addr.add
      split <;> simp_all
    rw [ha, ← hu']
    have hp : ((s.data.toList.getD j 0).toNat : Int) = p := by
      have h2 : bytesOf s = s.data.toList.map fun b => (b.toNat : Int) := rfl
      rw [h2, List.getElem?_map] at hj
      obtain ⟨b, hb, hb2⟩ := Option.map_eq_some_iff.1 hj
      rw [← hb2, List.getD_eq_getElem?_getD, hb]
      rfl
    rw [← hp, ← hc]

/-- A block's cells, as a row that is read. -/
theorem C_at_blk {α : Type} (d : Kd α) {W : World} {b : Nat} {e : TypeId} {fr : Nat × Nat} {cells : Array Value} (hb : W.heap[b]? = some (.cells cells e fr)) (xs : List α) (hn : xs.length ≤ 9223372036854775807) (hr : Reps (d.K W) d.sz xs cells.toList) :
    d.C W (some ⟨b, 0, none⟩) xs.length xs := by
  refine ⟨rfl, hn, fun _ => ⟨_, rfl, fun j p hj => ?_⟩⟩
  have hp := hr.2 j p hj
  refine ⟨_, d.K_len hp, hp, fun i u hu => ?_⟩
  have ha : (⟨b, 0, none⟩ : Addr).add (j * d.sz + i) = ⟨b, j * d.sz + i, none⟩ := by
    unfold Addr.add
    split <;> simp_all
  have hc : W.cell? ⟨b, j * d.sz + i, none⟩ = cells[j * d.sz + i]? := by simp [World.cell?, hb]
  rw [ha, hc]
  rw [List.getElem?_take] at hu
  split at hu
  · rw [List.getElem?_drop] at hu
    simpa using hu
  · cases hu
theorem Bytes_at {W : World} {b : Nat} {e : TypeId} {fr : Nat × Nat} {cells : Array Value} (hb : W.heap[b]? = some (.cells cells e fr)) (xs : List Int) (hn : xs.length ≤ 9223372036854775807) (hc : cells = (xs.map (Value.int .u8)).toArray) : Bytes W (some ⟨b, 0, none⟩) xs := by
  subst hc
  refine C_at_blk (Kd.int .u8) hb xs hn ⟨by simp [Kd.int, Kd.scalar], fun j p hj => ?_⟩
  show ((xs.map (Value.int .u8)).drop (j * 1)).take 1 = [Value.int .u8 p]
  rw [Nat.mul_one]
  obtain ⟨hl, hp⟩ := List.getElem?_eq_some_iff.1 hj
  rw [List.drop_eq_getElem_cons (by simpa using hl)]
  simp [hp]
section
variable {P : Program} {ops : Array Oper} {rest : List Oper} {o : Oper} {a : Act} {Q : Exit → Act → World → Prop} {W : World}
/-- An arm: 'string(b)' of a slice that is read. -/
theorem wp_strof (hgd : o.guard = none) (src dst e : TypeId) (x : Operand) (ho : o.op = .convert src dst x) (A : Option Addr) (n c : Nat) (xs : List Int) (hx : a.eval x = .slice A n c)
    (hs : P.underlying src = some (.slice e)) (he : P.underlying e = some (.int .u8)) (hd : P.underlying dst = some .string) (hC : (Kd.int .u8).C W A n xs)
    (h : wpList P ops Q rest (a.put o.dst (.string (strOfNums xs))) W) : wpList P ops Q (o :: rest) a W := by
  refine Kd.event_run hgd (v := .string (strOfNums xs)) (w1 := W) ?_ h
  have hr := Kd.C_string (c := c) hs he hd hC
  simp [execOp, ho, hx, hr]
/-- An arm: '[]byte' of a constant: the row that was just laid gets its mark. -/
theorem wp_const (hgd : o.guard = none) (t e : TypeId) (x : Operand) (ho : o.op = .convert t t x) (b n c : Nat) (C : Array Value) (hx : a.eval x = .slice (some ⟨b, 0, none⟩) n c)
    (hb : b = W.heap.size) (ht : P.underlying t = some (.slice e)) (he : P.underlying e = some (.int .u8))
    (h : wpList P ops Q rest (a.put o.dst (.slice (some ⟨b, 0, none⟩) n c)) (W.alloc (.cells C e (C.size, C.size + 1)))) : wpList P ops Q (o :: rest) a (W.alloc (.cells C e)) := by
  subst hb
  refine Kd.event_run hgd (v := .slice (some ⟨W.heap.size, 0, none⟩) n c) (w1 := W.alloc (.cells C e (C.size, C.size + 1))) ?_ h
  have hr := Lib.run_convert_bytes_const (P := P) W t e C n c ht he
  simp [execOp, ho, hx, hr]
theorem wp_const_drew (hgd : o.guard = none) (t e : TypeId) (x : Operand) (ho : o.op = .convert t t x) (b n c : Nat) (C : Array Value) (hx : a.eval x = .slice (some ⟨b, 0, none⟩) n c)
    (hb : b = W.heap.size) (ht : P.underlying t = some (.slice e)) (he : P.underlying e = some (.int .u8))
    (h : wpList P ops Q rest (a.put o.dst (.slice (some ⟨b, 0, none⟩) n c)) ((W.alloc (.cells C e (C.size, C.size + 1))).drew)) : wpList P ops Q (o :: rest) a ((W.alloc (.cells C e)).drew) :=
  wp_const (W := W.drew) hgd t e x ho b n c C hx hb ht he h
/-- An arm: '[]byte(s)'. -/
theorem wp_bytes (hgd : o.guard = none) (src dst e : TypeId) (x : Operand) (ho : o.op = .convert src dst x) (s : ByteArray) (hx : a.eval x = .string s)
    (hs : P.underlying src = some .string) (hdt : P.underlying dst = some (.slice e)) (he : P.underlying e = some (.int .u8)) (hl : s.size ≤ 9223372036854775807)
    (h : ∀ A c w1, (bytesOf s).length ≤ c → Bytes w1 A (bytesOf s) → Below W.heap.size W w1 → wpList P ops Q rest (a.put o.dst (.slice A (bytesOf s).length c)) w1) : wpList P ops Q (o :: rest) a W := by
  refine Kd.event_run hgd (v := .slice (some ⟨W.heap.size, 0, none⟩) (bytesOf s).length (grownCap W s.size 0 e)) (w1 := Lib.bytesWorld W e s) ?_ (h _ _ _ (by rw [bytesOf_length]; exact grownCap_ge _ _ _ _) (bytesWorld_C W e s hl) (bytesWorld_below W e s))
  have hr := Lib.run_convert_string_bytes (P := P) W src dst e s hs hdt he
  simp [execOp, ho, hx, hr, bytesOf_length]
/-- '[]byte(s)' in a region that draws its order. -/
theorem step_bytes {K : Act → World → Prop} {E : Prop} (hgd : o.guard = none) (src dst e : TypeId) (x : Operand) (ho : o.op = .convert src dst x) (s : ByteArray) (hx : a.eval x = .string s)
    (hs : P.underlying src = some .string) (hdt : P.underlying dst = some (.slice e)) (he : P.underlying e = some (.int .u8)) (hl : s.size ≤ 9223372036854775807)
    (h : ∀ A c w1, (bytesOf s).length ≤ c → Bytes w1 A (bytesOf s) → Below W.heap.size W w1 → K (a.put o.dst (.slice A (bytesOf s).length c)) w1) : if Region.wanted o (yielded ops a.tmps) = true then Oper.wp P o a W K Q else E := by
  have hw : Region.wanted o (yielded ops a.tmps) = true := by simp [Region.wanted, hgd]
  rw [if_pos hw]
  have hr := Lib.run_convert_string_bytes (P := P) W src dst e s hs hdt he
  have hrun : (execOp a.eval o).run P W = .ok (.value (.slice (some ⟨W.heap.size, 0, none⟩) (bytesOf s).length (grownCap W s.size 0 e))) (Lib.bytesWorld W e s) := by simp [execOp, ho, hx, hr, bytesOf_length]
  unfold Oper.wp
  rw [hrun]
  exact h _ _ _ (by rw [bytesOf_length]; exact grownCap_ge _ _ _ _) (bytesWorld_C W e s hl) (bytesWorld_below W e s)
end
theorem upon_bytes {P : Program} {o : Oper} {a : Act} {K : Act → World → Prop} {Q : Exit → Act → World → Prop} {W : World} (src dst e : TypeId) (s : ByteArray)
    (hs : P.underlying src = some .string) (hdt : P.underlying dst = some (.slice e)) (he : P.underlying e = some (.int .u8)) (hl : s.size ≤ 9223372036854775807)
    (h : ∀ A c w1, (bytesOf s).length ≤ c → Bytes w1 A (bytesOf s) → Below W.heap.size W w1 → K (a.put o.dst (.slice A (bytesOf s).length c)) w1) : Oper.upon P o a K Q (((convert src dst (.string s)).run P W).andThen fun v w' => .ok (.value v) w') := by
  rw [Lib.run_convert_string_bytes (P := P) W src dst e s hs hdt he]
  have := h _ _ _ (by rw [bytesOf_length]; exact grownCap_ge W s.size 0 e) (bytesWorld_C W e s hl) (bytesWorld_below W e s)
  rw [bytesOf_length] at this
  exact this
theorem bs_beq (a b : ByteArray) : (a == b) = true ↔ a = b := by
  rcases a with ⟨a⟩; rcases b with ⟨b⟩
  have h : ((⟨a⟩ : ByteArray) == ⟨b⟩) = (a == b) := rfl
  rw [h]
  simp
theorem bs_nil (a : ByteArray) : a.toList.isEmpty = true ↔ a = ⟨#[]⟩ := by
  rw [ByteArray.toList_eq]
  rcases a with ⟨⟨l⟩⟩
  cases l <;> simp
end Go.Proofs.YtdjbbncoioghfaaGreatDoor.X
namespace Go.Proofs
open Go.Shelf
def Tryz.lays170_ren : Go.Shelf.Ren := ⟨fun | 170 => 197 | n => n, fun | 70 => 215 | 3 => 3 | 0 => 0 | 72 => 217 | 37 => 22 | 5 => 5 | n => n, fun | n => n⟩
open Go.RowKit in
def Tryz.lays169_ren : Go.Shelf.Ren := ⟨fun | 169 => 198 | n => n, fun | 70 => 215 | 9 => 9 | 0 => 0 | 72 => 217 | 37 => 22 | 127 => 209 | 3 => 3 | 5 => 5 | n => n, fun | n => n⟩
open Go.RowKit in
open Go.RowKit in
open Go.RowKit in
def Tryz.lays241_ren : Go.Shelf.Ren := ⟨fun | 241 => 204 | 277 => 210 | n => n, fun | 70 => 215 | 3 => 3 | 0 => 0 | 72 => 217 | 37 => 22 | 5 => 5 | n => n, fun | n => n⟩
open Go.RowKit in
def Tryz.lays165_ren : Go.Shelf.Ren := ⟨fun | 165 => 195 | 240 => 203 | 241 => 204 | 276 => 209 | 277 => 210 | n => n, fun | 70 => 215 | 3 => 3 | 0 => 0 | 4 => 4 | 9 => 9 | 20 => 20 | 72 => 217 | 37 => 22 | 164 => 230 | 5 => 5 | n => n, fun | n => n⟩
open Go.RowKit in
def Tryz.lays231_ren : Go.Shelf.Ren := ⟨fun | 231 => 120 | n => n, fun | 9 => 9 | 5 => 5 | 3 => 3 | 4 => 4 | n => n, fun | n => n⟩
open Go.RowKit in
def Tryz.lays232_ren : Go.Shelf.Ren := ⟨fun | 232 => 188 | n => n, fun | 9 => 9 | 5 => 5 | 3 => 3 | 4 => 4 | n => n, fun | n => n⟩
open Go.RowKit in
def Tryz.lays161_ren : Go.Shelf.Ren := ⟨fun | 161 => 82 | 231 => 120 | 227 => 121 | 233 => 122 | 235 => 123 | 228 => 147 | 197 => 148 | 151 => 149 | 260 => 167 | 152 => 168 | 137 => 127 | 119 => 183 | 224 => 114 | 225 => 169 | 217 => 154 | 266 => 177 | n => n, fun | 9 => 9 | 4 => 4 | 3 => 3 | 5 => 5 | 117 => 151 | 116 => 150 | 0 => 0 | 124 => 154 | 105 => 175 | 21 => 21 | 119 => 197 | 46 => 110 | 139 => 200 | 138 => 199 | n => n, fun | 3 => 1 | 4 => 2 | n => n⟩
theorem Tryz.lays161 : Go.Proofs.Lays.n161 Tryz.prog Tryz.lays161_ren := {
  mixed := by kernel_rfl
  f119 := Tryz.func183.trans (congrArg some (by kernel_rfl))
  f137 := Tryz.func127.trans (congrArg some (by kernel_rfl))
  f151 := Tryz.func149.trans (congrArg some (by kernel_rfl))
  f152 := Tryz.func168.trans (congrArg some (by kernel_rfl))
  f161 := Tryz.func82.trans (congrArg some (by kernel_rfl))
  f197 := Tryz.func148.trans (congrArg some (by kernel_rfl))
  f217 := Tryz.func154.trans (congrArg some (by kernel_rfl))
  f224 := Tryz.func114.trans (congrArg some (by kernel_rfl))
  f225 := Tryz.func169.trans (congrArg some (by kernel_rfl))
  f227 := Tryz.func121.trans (congrArg some (by kernel_rfl))
  f228 := Tryz.func147.trans (congrArg some (by kernel_rfl))
  f231 := Tryz.func120.trans (congrArg some (by kernel_rfl))
  f233 := Tryz.func122.trans (congrArg some (by kernel_rfl))
  f235 := Tryz.func123.trans (congrArg some (by kernel_rfl))
  f260 := Tryz.func167.trans (congrArg some (by kernel_rfl))
  f266 := Tryz.func177.trans (congrArg some (by kernel_rfl))
  t0 := Tryz.underlying0
  a0 := Tryz.isAgg0
  z0 := Tryz.sizeOf0
  v0 := Tryz.zeroValue0
  t3 := Tryz.underlying3
  a3 := Tryz.isAgg3
  z3 := Tryz.sizeOf3
  v3 := Tryz.zeroValue3
  t4 := Tryz.underlying4
  a4 := Tryz.isAgg4
  z4 := Tryz.sizeOf4
  v4 := Tryz.zeroValue4
  t5 := Tryz.underlying5
  a5 := Tryz.isAgg5
  z5 := Tryz.sizeOf5
  v5 := Tryz.zeroValue5
  t9 := Tryz.underlying9
  a9 := Tryz.isAgg9
  z9 := Tryz.sizeOf9
  v9 := Tryz.zeroValue9
  t21 := Tryz.underlying21
  a21 := Tryz.isAgg21
  z21 := Tryz.sizeOf21
  v21 := Tryz.zeroValue21
  t46 := Tryz.underlying110
  a46 := Tryz.isAgg110
  z46 := Tryz.sizeOf110
  v46 := Tryz.zeroValue110
  t105 := Tryz.underlying175
  a105 := Tryz.isAgg175
  z105 := Tryz.sizeOf175
  v105 := Tryz.zeroValue175
  t116 := Tryz.underlying150
  a116 := Tryz.isAgg150
  z116 := Tryz.sizeOf150
  t117 := Tryz.underlying151
  a117 := Tryz.isAgg151
  z117 := Tryz.sizeOf151
  v117 := Tryz.zeroValue151
  t119 := Tryz.underlying197
  a119 := Tryz.isAgg197
  z119 := Tryz.sizeOf197
  t124 := Tryz.underlying154
  a124 := Tryz.isAgg154
  z124 := Tryz.sizeOf154
  v124 := Tryz.zeroValue154
  t138 := Tryz.underlying199
  a138 := Tryz.isAgg199
  z138 := Tryz.sizeOf199
  v138 := Tryz.zeroValue199
  t139 := Tryz.underlying200
  a139 := Tryz.isAgg200
  z139 := Tryz.sizeOf200
  v139 := Tryz.zeroValue200
  g3 := by kernel_rfl
  g4 := by kernel_rfl }
open Go.RowKit in
/-- strings.TrimLeft: "TrimLeft returns a slice of the string s with all leading Unicode code points contained in cutset removed.": AT A cutset OF ONE ASCII BYTE. The world is as it was. (LAID: no walk: one application.) -/
theorem Tryz.strings_TrimLeft_one (s : ByteArray) (c : UInt8) (hc : c.toNat < 128) (w : World) :
    Calls Tryz.prog 82 #[.string s, .string ⟨#[c]⟩] w fun e w' => e = .returned (.string ⟨(Lib.trimLeftB s.data.toList c).toArray⟩) ∧ w' = w := Any.strings_TrimLeft_one Tryz.lays161 s c hc w
def Tryz.lays162_ren : Go.Shelf.Ren := ⟨fun | 162 => 179 | 232 => 188 | 227 => 121 | 234 => 189 | 236 => 190 | 228 => 147 | 271 => 193 | 151 => 149 | 120 => 200 | 197 => 148 | 152 => 168 | 260 => 167 | 137 => 127 | 119 => 183 | 224 => 114 | 225 => 169 | 217 => 154 | 266 => 177 | n => n, fun | 9 => 9 | 4 => 4 | 3 => 3 | 5 => 5 | 117 => 151 | 116 => 150 | 0 => 0 | 124 => 154 | 21 => 21 | 105 => 175 | 46 => 110 | 119 => 197 | 139 => 200 | 138 => 199 | n => n, fun | 3 => 1 | 4 => 2 | n => n⟩
open Go.RowKit in
def Tryz.lays119_ren : Go.Shelf.Ren := ⟨fun | 119 => 183 | n => n, fun | 21 => 21 | 4 => 4 | n => n, fun | n => n⟩
def Tryz.lays120_ren : Go.Shelf.Ren := ⟨fun | 120 => 200 | n => n, fun | 5 => 5 | 4 => 4 | n => n, fun | n => n⟩
def Tryz.lays137_ren : Go.Shelf.Ren := ⟨fun | 137 => 127 | 217 => 154 | 266 => 177 | n => n, fun | 9 => 9 | 5 => 5 | 3 => 3 | n => n, fun | n => n⟩
open Go.RowKit in
def Tryz.lays210_ren : Go.Shelf.Ren := ⟨fun | 210 => 181 | 206 => 151 | n => n, fun | 9 => 9 | 4 => 4 | 3 => 3 | n => n, fun | n => n⟩
open Go.RowKit in
def Tryz.lays103_ren : Go.Shelf.Ren := ⟨fun | 103 => 162 | 210 => 181 | 206 => 151 | n => n, fun | 9 => 9 | 4 => 4 | 24 => 184 | 3 => 3 | n => n, fun | n => n⟩
theorem Tryz.lays103 : Go.Proofs.Lays.n103 Tryz.prog Tryz.lays103_ren := {
  mixed := by kernel_rfl
  f103 := Tryz.func162.trans (congrArg some (by kernel_rfl))
  f206 := Tryz.func151.trans (congrArg some (by kernel_rfl))
  f210 := Tryz.func181.trans (congrArg some (by kernel_rfl))
  t3 := Tryz.underlying3
  a3 := Tryz.isAgg3
  z3 := Tryz.sizeOf3
  v3 := Tryz.zeroValue3
  t4 := Tryz.underlying4
  a4 := Tryz.isAgg4
  z4 := Tryz.sizeOf4
  v4 := Tryz.zeroValue4
  t9 := Tryz.underlying9
  a9 := Tryz.isAgg9
  z9 := Tryz.sizeOf9
  v9 := Tryz.zeroValue9
  t24 := Tryz.underlying184
  a24 := Tryz.isAgg184
  z24 := Tryz.sizeOf184
  v24 := Tryz.zeroValue184 }
open Go.RowKit in
/-- strings.CutPrefix: "CutPrefix returns s without the provided leading prefix string and reports whether it found the prefix. If s doesn't start with prefix, CutPrefix returns s, false. If prefix is the empty string, CutPrefix returns s, true.": IT RETURNS '(Lib.trimPrefix s p, Lib.hasPrefix s p)'; the world is as it was. (LAID: no walk: one application.) -/
theorem Tryz.strings_CutPrefix (s p : ByteArray) (w : World) :
    Calls Tryz.prog 162 #[.string s, .string p] w fun e w' => e = .returned (.tuple #[.string ⟨(Lib.trimPrefix s.data.toList p.data.toList).toArray⟩, .bool (Lib.hasPrefix s.data.toList p.data.toList)]) ∧ w' = w := Any.strings_CutPrefix Tryz.lays103 s p w
open Go.RowKit in
open Go.RowKit in
open Go.RowKit in
open Go.RowKit in
open Go.RowKit in
open Go.RowKit in
open Go.RowKit in
open Go.RowKit in
open Go.RowKit in
def Tryz.lays129_ren : Go.Shelf.Ren := ⟨fun | 129 => 212 | n => n, fun | 53 => 55 | 3 => 3 | 4 => 4 | 46 => 110 | 5 => 5 | 9 => 9 | n => n, fun | n => n⟩
def Tryz.lays317_ren : Go.Shelf.Ren := ⟨fun | 317 => 211 | n => n, fun | 3 => 3 | 46 => 110 | n => n, fun | n => n⟩
open Go.Lib in
def Tryz.lays318_ren : Go.Shelf.Ren := ⟨fun | 318 => 213 | n => n, fun | 3 => 3 | 4 => 4 | n => n, fun | n => n⟩
open Go.Lib in
def Tryz.lays283_ren : Go.Shelf.Ren := ⟨fun | 283 => 205 | n => n, fun | 3 => 3 | 9 => 9 | 4 => 4 | n => n, fun | n => n⟩
open Go.Lib in
def Tryz.laysM284_ren : Go.Shelf.Ren := ⟨fun | 284 => 206 | 129 => 212 | 317 => 211 | 318 => 213 | n => n, fun | 53 => 55 | 3 => 3 | 212 => 234 | 0 => 0 | 4 => 4 | 46 => 110 | 5 => 5 | 9 => 9 | n => n, fun | 17 => 5 | n => n⟩
open Go.Lib in
def Tryz.lays285_ren : Go.Shelf.Ren := ⟨fun | 285 => 207 | n => n, fun | 37 => 22 | 53 => 55 | 3 => 3 | 4 => 4 | 51 => 29 | 9 => 9 | 5 => 5 | 0 => 0 | n => n, fun | n => n⟩
open Go.RowKit Go.Sort Go.Lib in
def Tryz.laysM246_ren : Go.Shelf.Ren := ⟨fun | 246 => 199 | 283 => 205 | 284 => 206 | 285 => 207 | 286 => 208 | 129 => 212 | 317 => 211 | 318 => 213 | 319 => 214 | 320 => 215 | 337 => 216 | 338 => 217 | n => n, fun | 2 => 2 | 3 => 3 | 9 => 9 | 4 => 4 | 171 => 225 | 0 => 0 | 53 => 55 | 37 => 22 | 5 => 5 | 173 => 228 | 212 => 234 | 51 => 29 | 20 => 20 | 213 => 235 | 46 => 110 | 232 => 239 | 233 => 240 | n => n, fun | 17 => 5 | 18 => 6 | 19 => 7 | n => n⟩
open Go.RowKit Go.Sort Go.Lib in
def Tryz.lays246_ren : Go.Shelf.Ren := ⟨fun | 246 => 199 | 283 => 205 | 284 => 206 | 285 => 207 | 286 => 208 | 129 => 212 | 317 => 211 | 318 => 213 | 319 => 214 | 320 => 215 | 337 => 216 | 338 => 217 | n => n, fun | 2 => 2 | 3 => 3 | 9 => 9 | 4 => 4 | 171 => 225 | 0 => 0 | 53 => 55 | 37 => 22 | 5 => 5 | 173 => 228 | 212 => 234 | 51 => 29 | 20 => 20 | 213 => 235 | 46 => 110 | 232 => 239 | 233 => 240 | n => n, fun | 17 => 5 | 18 => 6 | 19 => 7 | n => n⟩
open Go.RowKit Go.Sort Go.Lib in
def Tryz.laysM243_ren : Go.Shelf.Ren := ⟨fun | 243 => 192 | 246 => 199 | 283 => 205 | 284 => 206 | 285 => 207 | 286 => 208 | 129 => 212 | 317 => 211 | 318 => 213 | 319 => 214 | 320 => 215 | 337 => 216 | 338 => 217 | n => n, fun | 3 => 3 | 9 => 9 | 2 => 2 | 4 => 4 | 171 => 225 | 0 => 0 | 53 => 55 | 37 => 22 | 5 => 5 | 173 => 228 | 212 => 234 | 51 => 29 | 20 => 20 | 213 => 235 | 46 => 110 | 232 => 239 | 233 => 240 | n => n, fun | 17 => 5 | 18 => 6 | 19 => 7 | n => n⟩
open Go.RowKit Go.Sort Go.Lib in
def Tryz.lays243_ren : Go.Shelf.Ren := ⟨fun | 243 => 192 | 246 => 199 | 283 => 205 | 284 => 206 | 285 => 207 | 286 => 208 | 129 => 212 | 317 => 211 | 318 => 213 | 319 => 214 | 320 => 215 | 337 => 216 | 338 => 217 | n => n, fun | 3 => 3 | 9 => 9 | 2 => 2 | 4 => 4 | 171 => 225 | 0 => 0 | 53 => 55 | 37 => 22 | 5 => 5 | 173 => 228 | 212 => 234 | 51 => 29 | 20 => 20 | 213 => 235 | 46 => 110 | 232 => 239 | 233 => 240 | n => n, fun | 17 => 5 | 18 => 6 | 19 => 7 | n => n⟩
open Go.RowKit Go.Sort Go.Lib in
def Tryz.laysM171_ren : Go.Shelf.Ren := ⟨fun | 171 => 187 | 243 => 192 | 246 => 199 | 283 => 205 | 284 => 206 | 285 => 207 | 286 => 208 | 129 => 212 | 317 => 211 | 318 => 213 | 319 => 214 | 320 => 215 | 337 => 216 | 338 => 217 | n => n, fun | 3 => 3 | 9 => 9 | 2 => 2 | 4 => 4 | 171 => 225 | 0 => 0 | 53 => 55 | 37 => 22 | 5 => 5 | 173 => 228 | 212 => 234 | 51 => 29 | 20 => 20 | 213 => 235 | 46 => 110 | 232 => 239 | 233 => 240 | n => n, fun | 17 => 5 | 18 => 6 | 19 => 7 | n => n⟩
open Go.RowKit Go.Sort Go.Lib in
def Tryz.lays171_ren : Go.Shelf.Ren := ⟨fun | 171 => 187 | 243 => 192 | 246 => 199 | 283 => 205 | 284 => 206 | 285 => 207 | 286 => 208 | 129 => 212 | 317 => 211 | 318 => 213 | 319 => 214 | 320 => 215 | 337 => 216 | 338 => 217 | n => n, fun | 3 => 3 | 9 => 9 | 2 => 2 | 4 => 4 | 171 => 225 | 0 => 0 | 53 => 55 | 37 => 22 | 5 => 5 | 173 => 228 | 212 => 234 | 51 => 29 | 20 => 20 | 213 => 235 | 46 => 110 | 232 => 239 | 233 => 240 | n => n, fun | 17 => 5 | 18 => 6 | 19 => 7 | n => n⟩
open Go.RowKit Go.Sort Go.Lib in
def Tryz.laysM316_ren : Go.Shelf.Ren := ⟨fun | 316 => 185 | n => n, fun | 9 => 9 | 3 => 3 | 4 => 4 | 37 => 22 | 0 => 0 | 127 => 209 | 5 => 5 | n => n, fun | n => n⟩
open Go.RowKit in
def Tryz.laysM279_ren : Go.Shelf.Ren := ⟨fun | 279 => 173 | 316 => 185 | n => n, fun | 9 => 9 | 168 => 192 | 75 => 157 | 210 => 204 | 3 => 3 | 4 => 4 | 37 => 22 | 0 => 0 | 127 => 209 | 80 => 137 | 5 => 5 | n => n, fun | 15 => 3 | n => n⟩
def Tryz.laysC245_ren : Go.Shelf.Ren := ⟨fun | 245 => 153 | 279 => 173 | 280 => 174 | 281 => 175 | 282 => 176 | 316 => 185 | 171 => 187 | 205 => 186 | 243 => 192 | 246 => 199 | 283 => 205 | 284 => 206 | 285 => 207 | 286 => 208 | 129 => 212 | 317 => 211 | 318 => 213 | 319 => 214 | 320 => 215 | 337 => 216 | 338 => 217 | n => n, fun | 9 => 9 | 3 => 3 | 75 => 157 | 167 => 190 | 4 => 4 | 168 => 192 | 210 => 204 | 37 => 22 | 0 => 0 | 127 => 209 | 145 => 212 | 143 => 210 | 2 => 2 | 171 => 225 | 53 => 55 | 5 => 5 | 173 => 228 | 212 => 234 | 51 => 29 | 20 => 20 | 213 => 235 | 46 => 110 | 232 => 239 | 233 => 240 | 80 => 137 | n => n, fun | 15 => 3 | 16 => 4 | 17 => 5 | 18 => 6 | 19 => 7 | n => n⟩
def Tryz.lays321_ren : Go.Shelf.Ren := ⟨fun | 321 => 171 | n => n, fun | 5 => 5 | n => n, fun | n => n⟩
open Go.RowKit in
def Tryz.lays287_ren : Go.Shelf.Ren := ⟨fun | 287 => 152 | 321 => 171 | 322 => 172 | n => n, fun | 9 => 9 | 3 => 3 | 53 => 55 | 75 => 157 | 4 => 4 | 167 => 190 | 5 => 5 | 46 => 110 | 37 => 22 | 0 => 0 | 21 => 21 | 80 => 137 | n => n, fun | n => n⟩
open Go.RowKit in
def Tryz.laysM280_ren : Go.Shelf.Ren := ⟨fun | 280 => 174 | 316 => 185 | n => n, fun | 9 => 9 | 168 => 192 | 75 => 157 | 210 => 204 | 3 => 3 | 4 => 4 | 37 => 22 | 0 => 0 | 127 => 209 | 80 => 137 | 5 => 5 | n => n, fun | 16 => 4 | n => n⟩
open Go.RowKit in
open Go.RowKit in
open Go.RowKit in
open Go.RowKit in
open Go.RowKit in
open Go.RowKit in
open Go.RowKit in
def Tryz.laysPu14_ren : Go.Shelf.Ren := ⟨fun | 14 => 126 | 16 => 152 | 17 => 153 | 19 => 171 | 20 => 172 | 21 => 173 | 22 => 174 | 23 => 175 | 24 => 176 | 25 => 185 | 27 => 187 | 26 => 186 | 28 => 192 | 29 => 199 | 30 => 205 | 31 => 206 | 32 => 207 | 33 => 208 | 35 => 212 | 34 => 211 | 36 => 213 | 37 => 214 | 38 => 215 | 39 => 216 | 40 => 217 | n => n, fun | 9 => 9 | 3 => 3 | 22 => 55 | 24 => 157 | 25 => 158 | 4 => 4 | 34 => 190 | 5 => 5 | 36 => 110 | 37 => 22 | 0 => 0 | 39 => 192 | 21 => 21 | 44 => 204 | 47 => 209 | 50 => 212 | 48 => 210 | 2 => 2 | 52 => 225 | 55 => 228 | 59 => 234 | 60 => 29 | 20 => 20 | 61 => 235 | 65 => 239 | 66 => 240 | 67 => 137 | n => n, fun | 0 => 3 | 1 => 4 | 2 => 5 | 3 => 6 | 4 => 7 | n => n⟩
theorem Tryz.laysPu14 : Go.Proofs.LaysPu.n14 Tryz.prog Tryz.laysPu14_ren := {
  mixed := by kernel_rfl
  f14 := Tryz.func126.trans (congrArg some (by kernel_rfl))
  f16 := Tryz.func152.trans (congrArg some (by kernel_rfl))
  f17 := Tryz.func153.trans (congrArg some (by kernel_rfl))
  f19 := Tryz.func171.trans (congrArg some (by kernel_rfl))
  f20 := Tryz.func172.trans (congrArg some (by kernel_rfl))
  f21 := Tryz.func173.trans (congrArg some (by kernel_rfl))
  f22 := Tryz.func174.trans (congrArg some (by kernel_rfl))
  f23 := Tryz.func175.trans (congrArg some (by kernel_rfl))
  f24 := Tryz.func176.trans (congrArg some (by kernel_rfl))
  f25 := Tryz.func185.trans (congrArg some (by kernel_rfl))
  f26 := Tryz.func186.trans (congrArg some (by kernel_rfl))
  f27 := Tryz.func187.trans (congrArg some (by kernel_rfl))
  f28 := Tryz.func192.trans (congrArg some (by kernel_rfl))
  f29 := Tryz.func199.trans (congrArg some (by kernel_rfl))
  f30 := Tryz.func205.trans (congrArg some (by kernel_rfl))
  f31 := Tryz.func206.trans (congrArg some (by kernel_rfl))
  f32 := Tryz.func207.trans (congrArg some (by kernel_rfl))
  f33 := Tryz.func208.trans (congrArg some (by kernel_rfl))
  f34 := Tryz.func211.trans (congrArg some (by kernel_rfl))
  f35 := Tryz.func212.trans (congrArg some (by kernel_rfl))
  f36 := Tryz.func213.trans (congrArg some (by kernel_rfl))
  f37 := Tryz.func214.trans (congrArg some (by kernel_rfl))
  f38 := Tryz.func215.trans (congrArg some (by kernel_rfl))
  f39 := Tryz.func216.trans (congrArg some (by kernel_rfl))
  f40 := Tryz.func217.trans (congrArg some (by kernel_rfl))
  t0 := Tryz.underlying0
  a0 := Tryz.isAgg0
  z0 := Tryz.sizeOf0
  v0 := Tryz.zeroValue0
  i0 := by kernel_rfl
  t2 := Tryz.underlying2
  a2 := Tryz.isAgg2
  z2 := Tryz.sizeOf2
  v2 := Tryz.zeroValue2
  i2 := by kernel_rfl
  t3 := Tryz.underlying3
  a3 := Tryz.isAgg3
  z3 := Tryz.sizeOf3
  v3 := Tryz.zeroValue3
  i3 := by kernel_rfl
  t4 := Tryz.underlying4
  a4 := Tryz.isAgg4
  z4 := Tryz.sizeOf4
  v4 := Tryz.zeroValue4
  i4 := by kernel_rfl
  t5 := Tryz.underlying5
  a5 := Tryz.isAgg5
  z5 := Tryz.sizeOf5
  v5 := Tryz.zeroValue5
  i5 := by kernel_rfl
  t9 := Tryz.underlying9
  a9 := Tryz.isAgg9
  z9 := Tryz.sizeOf9
  v9 := Tryz.zeroValue9
  i9 := by kernel_rfl
  t20 := Tryz.underlying20
  a20 := Tryz.isAgg20
  z20 := Tryz.sizeOf20
  v20 := Tryz.zeroValue20
  i20 := by kernel_rfl
  t21 := Tryz.underlying21
  a21 := Tryz.isAgg21
  z21 := Tryz.sizeOf21
  v21 := Tryz.zeroValue21
  i21 := by kernel_rfl
  t22 := Tryz.underlying55
  a22 := Tryz.isAgg55
  z22 := Tryz.sizeOf55
  v22 := Tryz.zeroValue55
  i22 := by kernel_rfl
  t24 := Tryz.underlying157
  a24 := Tryz.isAgg157
  z24 := Tryz.sizeOf157
  v24 := Tryz.zeroValue157
  i24 := by kernel_rfl
  t25 := Tryz.underlying158
  a25 := Tryz.isAgg158
  z25 := Tryz.sizeOf158
  v25 := Tryz.zeroValue158
  i25 := by kernel_rfl
  t34 := Tryz.underlying190
  a34 := Tryz.isAgg190
  z34 := Tryz.sizeOf190
  v34 := Tryz.zeroValue190
  i34 := by kernel_rfl
  c34 := by kernel_rfl
  t36 := Tryz.underlying110
  a36 := Tryz.isAgg110
  z36 := Tryz.sizeOf110
  v36 := Tryz.zeroValue110
  i36 := by kernel_rfl
  t37 := Tryz.underlying22
  a37 := Tryz.isAgg22
  z37 := Tryz.sizeOf22
  v37 := Tryz.zeroValue22
  i37 := by kernel_rfl
  t39 := Tryz.underlying192
  a39 := Tryz.isAgg192
  z39 := Tryz.sizeOf192
  v39 := Tryz.zeroValue192
  i39 := by kernel_rfl
  t44 := Tryz.underlying204
  a44 := Tryz.isAgg204
  z44 := Tryz.sizeOf204
  v44 := Tryz.zeroValue204
  i44 := by kernel_rfl
  t47 := Tryz.underlying209
  a47 := Tryz.isAgg209
  z47 := Tryz.sizeOf209
  v47 := Tryz.zeroValue209
  i47 := by kernel_rfl
  t48 := Tryz.underlying210
  a48 := Tryz.isAgg210
  z48 := Tryz.sizeOf210
  v48 := Tryz.zeroValue210
  i48 := by kernel_rfl
  t50 := Tryz.underlying212
  a50 := Tryz.isAgg212
  z50 := Tryz.sizeOf212
  v50 := Tryz.zeroValue212
  i50 := by kernel_rfl
  t52 := Tryz.underlying225
  a52 := Tryz.isAgg225
  z52 := Tryz.sizeOf225
  v52 := Tryz.zeroValue225
  i52 := by kernel_rfl
  t55 := Tryz.underlying228
  a55 := Tryz.isAgg228
  z55 := Tryz.sizeOf228
  v55 := Tryz.zeroValue228
  i55 := by kernel_rfl
  t59 := Tryz.underlying234
  a59 := Tryz.isAgg234
  z59 := Tryz.sizeOf234
  v59 := Tryz.zeroValue234
  i59 := by kernel_rfl
  t60 := Tryz.underlying29
  a60 := Tryz.isAgg29
  z60 := Tryz.sizeOf29
  v60 := Tryz.zeroValue29
  i60 := by kernel_rfl
  t61 := Tryz.underlying235
  a61 := Tryz.isAgg235
  z61 := Tryz.sizeOf235
  t65 := Tryz.underlying239
  a65 := Tryz.isAgg239
  z65 := Tryz.sizeOf239
  v65 := Tryz.zeroValue239
  i65 := by kernel_rfl
  t66 := Tryz.underlying240
  a66 := Tryz.isAgg240
  z66 := Tryz.sizeOf240
  v66 := Tryz.zeroValue240
  i66 := by kernel_rfl
  t67 := Tryz.underlying137
  a67 := Tryz.isAgg137
  z67 := Tryz.sizeOf137
  v67 := Tryz.zeroValue137
  i67 := by kernel_rfl
  g0 := by kernel_rfl
  m0 := by kernel_rfl
  g1 := by kernel_rfl
  m1 := by kernel_rfl
  g2 := by kernel_rfl
  m2 := by kernel_rfl
  g3 := by kernel_rfl
  m3 := by kernel_rfl
  g4 := by kernel_rfl
  m4 := by kernel_rfl }
open Go.RowKit in
open Go.RowKit in
open Go.RowKit in
/-- strconv.ParseUint(s, 10, 64), AT EVERY STRING THAT SPELLS A uint64 ('Lib.parseUintB 64 s.data.toList = .ok u'): u, AND NO ERROR. (LAID: no walk: one application.) -/
theorem Tryz.strconv_ParseUint_10_at64_ok (s : ByteArray) (hmax : s.size ≤ 9223372036854775806) (u : Nat) (h : Lib.parseUintB 64 s.data.toList = .ok u) (w : World) :
    Calls Tryz.prog 126 #[.string s, .int .i64 10, .int .i64 64] w fun e w' => e = .returned (.tuple #[.int .u64 u, .nilIface]) ∧ (w' = w ∨ w' = Lib.bytesWorld w 5 s) := Any.strconv_ParseUint_10_at64_ok Tryz.laysPu14 s hmax u h w
open Go.RowKit in
/-- strconv.ParseUint(s, 10, 64), AT EVERY NUMERAL THAT NO uint64 HOLDS: THE GREATEST uint64, AND AN ERROR THAT IS NOT nil: a *NumError in a new block N: {Func: "ParseUint", Num: s's bytes, Err: what the variable ErrRange holds}. Of what was there nothing has turned. (LAID: no walk: one application.) -/
theorem Tryz.strconv_ParseUint_10_at64_range (s : ByteArray) (hlim : s.size ≤ 281474976710656) (h : Lib.parseUintB 64 s.data.toList = .range) (ev : Value) (w : World) (hv : w.cell? ⟨4, 0, none⟩ = some ev) (hev : ev = .nilIface ∨ ∃ te pe, ev = .iface te pe) :
    Calls Tryz.prog 126 #[.string s, .int .i64 10, .int .i64 64] w fun e w' => ∃ N, e = .returned (.tuple #[.int .u64 18446744073709551615, .iface 192 (.pointer (some ⟨N, 0, none⟩))]) ∧ w.heap.size ≤ N ∧ w'.heap[N]? = some (.cells #[.string ⟨#[80, 97, 114, 115, 101, 85, 105, 110, 116]⟩, .string s, ev] 204 (0, 0)) ∧ Below w.heap.size w w' := Any.strconv_ParseUint_10_at64_range Tryz.laysPu14 s hlim h ev w hv hev
open Go.RowKit in
open Go.RowKit in
open Go.RowKit in
open Go.RowKit in
open Go.RowKit in
open Go.RowKit in
open Go.RowKit in
open Go.RowKit in
open Go.RowKit in
open Go.RowKit in
open Go.RowKit in
def Tryz.lays217_ren : Go.Shelf.Ren := ⟨fun | 217 => 154 | 266 => 177 | n => n, fun | 9 => 9 | 5 => 5 | 3 => 3 | n => n, fun | n => n⟩
open Go.RowKit Go.Lib in
def Tryz.lays224_ren : Go.Shelf.Ren := ⟨fun | 224 => 114 | n => n, fun | 3 => 3 | n => n, fun | n => n⟩
open Go.RowKit Go.Lib in
def Tryz.lays314_ren : Go.Shelf.Ren := ⟨fun | 314 => 184 | n => n, fun | 9 => 9 | 51 => 29 | 3 => 3 | 4 => 4 | 5 => 5 | 46 => 110 | n => n, fun | n => n⟩
open Go.RowKit Go.Lib in
def Tryz.lays267_ren : Go.Shelf.Ren := ⟨fun | 267 => 170 | 314 => 184 | n => n, fun | 9 => 9 | 3 => 3 | 146 => 170 | 51 => 29 | 4 => 4 | 5 => 5 | 46 => 110 | n => n, fun | n => n⟩
open Go.RowKit Go.Lib in
def Tryz.lays219_ren : Go.Shelf.Ren := ⟨fun | 219 => 150 | 217 => 154 | 225 => 169 | 224 => 114 | 267 => 170 | 266 => 177 | 314 => 184 | n => n, fun | 9 => 9 | 3 => 3 | 4 => 4 | 5 => 5 | 46 => 110 | 146 => 170 | 51 => 29 | n => n, fun | 1 => 0 | n => n⟩
theorem Tryz.lays219 : Go.Proofs.Lays.n219 Tryz.prog Tryz.lays219_ren := {
  mixed := by kernel_rfl
  f217 := Tryz.func154.trans (congrArg some (by kernel_rfl))
  f219 := Tryz.func150.trans (congrArg some (by kernel_rfl))
  f224 := Tryz.func114.trans (congrArg some (by kernel_rfl))
  f225 := Tryz.func169.trans (congrArg some (by kernel_rfl))
  f266 := Tryz.func177.trans (congrArg some (by kernel_rfl))
  f267 := Tryz.func170.trans (congrArg some (by kernel_rfl))
  f314 := Tryz.func184.trans (congrArg some (by kernel_rfl))
  t3 := Tryz.underlying3
  a3 := Tryz.isAgg3
  z3 := Tryz.sizeOf3
  v3 := Tryz.zeroValue3
  t4 := Tryz.underlying4
  a4 := Tryz.isAgg4
  z4 := Tryz.sizeOf4
  v4 := Tryz.zeroValue4
  t5 := Tryz.underlying5
  a5 := Tryz.isAgg5
  z5 := Tryz.sizeOf5
  v5 := Tryz.zeroValue5
  t9 := Tryz.underlying9
  a9 := Tryz.isAgg9
  z9 := Tryz.sizeOf9
  v9 := Tryz.zeroValue9
  t46 := Tryz.underlying110
  a46 := Tryz.isAgg110
  z46 := Tryz.sizeOf110
  v46 := Tryz.zeroValue110
  t51 := Tryz.underlying29
  a51 := Tryz.isAgg29
  z51 := Tryz.sizeOf29
  v51 := Tryz.zeroValue29
  t146 := Tryz.underlying170
  a146 := Tryz.isAgg170
  z146 := Tryz.sizeOf170
  v146 := Tryz.zeroValue170
  g1 := by kernel_rfl }
open Go.RowKit Go.Lib in
/-- internal/stringslite.Index (what strings.Index calls) AT A substr OF ONE BYTE c: IT RETURNS 'Lib.indexByte s c'; the world is as it was. (LAID: no walk: one application.) -/
theorem Tryz.stringslite_Index_one (s : ByteArray) (c : UInt8) (w : World) :
    Calls Tryz.prog 150 #[.string s, .string ⟨#[c]⟩] w fun e w' => e = .returned (.int .i64 (Lib.indexByte s.data.toList c)) ∧ w' = w := Any.stringslite_Index_one Tryz.lays219 s c w
open Go.RowKit Go.Lib in
def Tryz.lays220_ren : Go.Shelf.Ren := ⟨fun | 220 => 124 | 219 => 150 | 217 => 154 | 225 => 169 | 224 => 114 | 267 => 170 | 266 => 177 | 314 => 184 | n => n, fun | 9 => 9 | 4 => 4 | 3 => 3 | 5 => 5 | 46 => 110 | 146 => 170 | 51 => 29 | n => n, fun | 1 => 0 | n => n⟩
open Go.RowKit Go.Lib in
def Tryz.lays145_ren : Go.Shelf.Ren := ⟨fun | 145 => 83 | 220 => 124 | 219 => 150 | 217 => 154 | 225 => 169 | 224 => 114 | 267 => 170 | 266 => 177 | 314 => 184 | n => n, fun | 9 => 9 | 4 => 4 | 59 => 83 | 3 => 3 | 5 => 5 | 46 => 110 | 146 => 170 | 51 => 29 | n => n, fun | 1 => 0 | n => n⟩
open Go.RowKit Go.Lib in
def Tryz.laysM219_ren : Go.Shelf.Ren := ⟨fun | 219 => 150 | 217 => 154 | 225 => 169 | 224 => 114 | 267 => 170 | 266 => 177 | 314 => 184 | n => n, fun | 9 => 9 | 3 => 3 | 4 => 4 | 5 => 5 | 46 => 110 | 146 => 170 | 51 => 29 | n => n, fun | 1 => 0 | n => n⟩
open Go.RowKit Go.Lib in
def Tryz.laysM220_ren : Go.Shelf.Ren := ⟨fun | 220 => 124 | 219 => 150 | 217 => 154 | 225 => 169 | 224 => 114 | 267 => 170 | 266 => 177 | 314 => 184 | n => n, fun | 9 => 9 | 4 => 4 | 3 => 3 | 5 => 5 | 46 => 110 | 146 => 170 | 51 => 29 | n => n, fun | 1 => 0 | n => n⟩
open Go.RowKit Go.Lib in
def Tryz.laysM145_ren : Go.Shelf.Ren := ⟨fun | 145 => 83 | 220 => 124 | 219 => 150 | 217 => 154 | 225 => 169 | 224 => 114 | 267 => 170 | 266 => 177 | 314 => 184 | n => n, fun | 9 => 9 | 4 => 4 | 59 => 83 | 3 => 3 | 5 => 5 | 46 => 110 | 146 => 170 | 51 => 29 | n => n, fun | 1 => 0 | n => n⟩
open Go.RowKit Go.Lib in
def Tryz.lays206_ren : Go.Shelf.Ren := ⟨fun | 206 => 151 | n => n, fun | 9 => 9 | 4 => 4 | 3 => 3 | n => n, fun | n => n⟩
open Go.RowKit Go.Lib in
def Tryz.lays99_ren : Go.Shelf.Ren := ⟨fun | 99 => 125 | 206 => 151 | n => n, fun | 9 => 9 | 4 => 4 | 3 => 3 | n => n, fun | n => n⟩
theorem Tryz.lays99 : Go.Proofs.Lays.n99 Tryz.prog Tryz.lays99_ren := {
  mixed := by kernel_rfl
  f99 := Tryz.func125.trans (congrArg some (by kernel_rfl))
  f206 := Tryz.func151.trans (congrArg some (by kernel_rfl))
  t3 := Tryz.underlying3
  a3 := Tryz.isAgg3
  z3 := Tryz.sizeOf3
  v3 := Tryz.zeroValue3
  t4 := Tryz.underlying4
  a4 := Tryz.isAgg4
  z4 := Tryz.sizeOf4
  v4 := Tryz.zeroValue4
  t9 := Tryz.underlying9
  a9 := Tryz.isAgg9
  z9 := Tryz.sizeOf9
  v9 := Tryz.zeroValue9 }
open Go.RowKit Go.Lib in
/-- strings.HasPrefix: "HasPrefix reports whether the string s begins with prefix.": IT RETURNS 'Lib.hasPrefix s prefix'; the world is as it was. (LAID: no walk: one application.) -/
theorem Tryz.strings_HasPrefix (s p : ByteArray) (w : World) :
    Calls Tryz.prog 125 #[.string s, .string p] w fun e w' => e = .returned (.bool (Lib.hasPrefix s.data.toList p.data.toList)) ∧ w' = w := Any.strings_HasPrefix Tryz.lays99 s p w
def Tryz.lays207_ren : Go.Shelf.Ren := ⟨fun | 207 => 161 | n => n, fun | 9 => 9 | 4 => 4 | 3 => 3 | n => n, fun | n => n⟩
open Go.RowKit Go.Lib in
def Tryz.lays100_ren : Go.Shelf.Ren := ⟨fun | 100 => 133 | 207 => 161 | n => n, fun | 9 => 9 | 4 => 4 | 3 => 3 | n => n, fun | n => n⟩
theorem Tryz.lays100 : Go.Proofs.Lays.n100 Tryz.prog Tryz.lays100_ren := {
  mixed := by kernel_rfl
  f100 := Tryz.func133.trans (congrArg some (by kernel_rfl))
  f207 := Tryz.func161.trans (congrArg some (by kernel_rfl))
  t3 := Tryz.underlying3
  a3 := Tryz.isAgg3
  z3 := Tryz.sizeOf3
  v3 := Tryz.zeroValue3
  t4 := Tryz.underlying4
  a4 := Tryz.isAgg4
  z4 := Tryz.sizeOf4
  v4 := Tryz.zeroValue4
  t9 := Tryz.underlying9
  a9 := Tryz.isAgg9
  z9 := Tryz.sizeOf9
  v9 := Tryz.zeroValue9 }
open Go.RowKit Go.Lib in
/-- strings.HasSuffix: "HasSuffix reports whether the string s ends with suffix.": IT RETURNS 'Lib.hasSuffix s suffix'; the world is as it was. ('hs': no Go string is longer: a caller has it of every string that it was handed.) (LAID: no walk: one application.) -/
theorem Tryz.strings_HasSuffix (s p : ByteArray) (w : World) (hs : s.size ≤ 9223372036854775807) :
    Calls Tryz.prog 133 #[.string s, .string p] w fun e w' => e = .returned (.bool (Lib.hasSuffix s.data.toList p.data.toList)) ∧ w' = w := Any.strings_HasSuffix Tryz.lays100 s p w hs
def Tryz.lays197_ren : Go.Shelf.Ren := ⟨fun | 197 => 148 | 260 => 167 | n => n, fun | 9 => 9 | 21 => 21 | 3 => 3 | 4 => 4 | 5 => 5 | 105 => 175 | 119 => 197 | 0 => 0 | 46 => 110 | 139 => 200 | 138 => 199 | n => n, fun | 3 => 1 | 4 => 2 | n => n⟩
open Go.RowKit Go.Lib in
def Tryz.lays152_ren : Go.Shelf.Ren := ⟨fun | 152 => 168 | 137 => 127 | 119 => 183 | 224 => 114 | 225 => 169 | 217 => 154 | 266 => 177 | n => n, fun | 9 => 9 | 21 => 21 | 3 => 3 | 4 => 4 | 5 => 5 | 0 => 0 | 46 => 110 | n => n, fun | n => n⟩
open Go.RowKit Go.Lib in
def Tryz.lays151_ren : Go.Shelf.Ren := ⟨fun | 151 => 149 | 152 => 168 | 137 => 127 | 119 => 183 | 224 => 114 | 225 => 169 | 217 => 154 | 266 => 177 | n => n, fun | 9 => 9 | 21 => 21 | 4 => 4 | 3 => 3 | 5 => 5 | 0 => 0 | 46 => 110 | n => n, fun | n => n⟩
open Go.RowKit Go.Lib in
def Tryz.lays227_ren : Go.Shelf.Ren := ⟨fun | 227 => 121 | n => n, fun | 9 => 9 | 116 => 150 | 4 => 4 | 0 => 0 | 3 => 3 | 5 => 5 | n => n, fun | n => n⟩
open Go.RowKit Go.Lib in
def Tryz.lays228_ren : Go.Shelf.Ren := ⟨fun | 228 => 147 | n => n, fun | 124 => 154 | 5 => 5 | 4 => 4 | 0 => 0 | 116 => 150 | n => n, fun | n => n⟩
open Go.RowKit Go.Lib in
def Tryz.lays264_ren : Go.Shelf.Ren := ⟨fun | 264 => 202 | n => n, fun | 53 => 55 | 46 => 110 | n => n, fun | n => n⟩
open Go.RowKit Go.Lib in
def Tryz.lays212_ren : Go.Shelf.Ren := ⟨fun | 212 => 194 | 263 => 201 | 264 => 202 | n => n, fun | 46 => 110 | 51 => 29 | 146 => 170 | 53 => 55 | 148 => 223 | n => n, fun | n => n⟩
open Go.RowKit Go.Lib in
def Tryz.lays260_ren : Go.Shelf.Ren := ⟨fun | 260 => 167 | n => n, fun | 9 => 9 | 21 => 21 | 3 => 3 | 4 => 4 | 5 => 5 | 119 => 197 | 0 => 0 | 46 => 110 | 139 => 200 | 138 => 199 | n => n, fun | 3 => 1 | 4 => 2 | n => n⟩
open Go.RowKit Go.Lib in
open Go.RowKit Go.Lib in
def Tryz.lays271_ren : Go.Shelf.Ren := ⟨fun | 271 => 193 | 120 => 200 | 197 => 148 | 260 => 167 | n => n, fun | 9 => 9 | 21 => 21 | 3 => 3 | 4 => 4 | 5 => 5 | 105 => 175 | 119 => 197 | 0 => 0 | 46 => 110 | 139 => 200 | 138 => 199 | n => n, fun | 3 => 1 | 4 => 2 | n => n⟩
open Go.RowKit Go.Lib in
def Tryz.lays185_ren : Go.Shelf.Ren := ⟨fun | 185 => 72 | 187 => 111 | 115 => 112 | 253 => 113 | 224 => 114 | 254 => 115 | 255 => 143 | 291 => 144 | n => n, fun | 37 => 22 | 3 => 3 | 4 => 4 | 0 => 0 | 5 => 5 | 46 => 110 | 9 => 9 | 146 => 170 | 51 => 29 | n => n, fun | 1 => 0 | n => n⟩
theorem Tryz.lays185 : Go.Proofs.Lays.n185 Tryz.prog Tryz.lays185_ren := {
  mixed := by kernel_rfl
  f115 := Tryz.func112.trans (congrArg some (by kernel_rfl))
  f185 := Tryz.func72.trans (congrArg some (by kernel_rfl))
  f187 := Tryz.func111.trans (congrArg some (by kernel_rfl))
  f224 := Tryz.func114.trans (congrArg some (by kernel_rfl))
  f253 := Tryz.func113.trans (congrArg some (by kernel_rfl))
  f254 := Tryz.func115.trans (congrArg some (by kernel_rfl))
  f255 := Tryz.func143.trans (congrArg some (by kernel_rfl))
  f291 := Tryz.func144.trans (congrArg some (by kernel_rfl))
  t0 := Tryz.underlying0
  a0 := Tryz.isAgg0
  z0 := Tryz.sizeOf0
  v0 := Tryz.zeroValue0
  t3 := Tryz.underlying3
  a3 := Tryz.isAgg3
  z3 := Tryz.sizeOf3
  v3 := Tryz.zeroValue3
  t4 := Tryz.underlying4
  a4 := Tryz.isAgg4
  z4 := Tryz.sizeOf4
  v4 := Tryz.zeroValue4
  t5 := Tryz.underlying5
  a5 := Tryz.isAgg5
  z5 := Tryz.sizeOf5
  v5 := Tryz.zeroValue5
  t9 := Tryz.underlying9
  a9 := Tryz.isAgg9
  z9 := Tryz.sizeOf9
  v9 := Tryz.zeroValue9
  t37 := Tryz.underlying22
  a37 := Tryz.isAgg22
  z37 := Tryz.sizeOf22
  v37 := Tryz.zeroValue22
  t46 := Tryz.underlying110
  a46 := Tryz.isAgg110
  z46 := Tryz.sizeOf110
  v46 := Tryz.zeroValue110
  t51 := Tryz.underlying29
  a51 := Tryz.isAgg29
  z51 := Tryz.sizeOf29
  v51 := Tryz.zeroValue29
  t146 := Tryz.underlying170
  a146 := Tryz.isAgg170
  z146 := Tryz.sizeOf170
  v146 := Tryz.zeroValue170
  g1 := by kernel_rfl }
open Go.RowKit Go.Lib in
/-- bytes.Index at a separator of one byte: "Index returns the index of the first instance of sep in s, or -1 if sep is not present in s.": 'Lib.indexByte' of s's bytes and that byte; the world is as it was. 'xs': s's elements; 'cv': the separator's one byte. (LAID: no walk: one application.) -/
theorem Tryz.bytes_Index_one (b o n c b2 o2 d : Nat) (xs : List Int) (cv : Int) (w : World) (hx : xs.length = n) (hc : ∀ i, i < n → w.cell? ⟨b, o + i, none⟩ = some (.int .u8 (xs.getD i 0))) (hc2 : w.cell? ⟨b2, o2, none⟩ = some (.int .u8 cv)) :
    Calls Tryz.prog 72 #[.slice (some ⟨b, o, none⟩) n c, .slice (some ⟨b2, o2, none⟩) 1 d] w fun e w' => e = .returned (.int .i64 (Lib.indexByte (Lib.bytesOf xs) cv.toNat.toUInt8)) ∧ w' = w := Any.bytes_Index_one Tryz.lays185 b o n c b2 o2 d xs cv w hx hc hc2
open Go.RowKit Go.Lib in
open Go.RowKit Go.Lib in
open Go.RowKit Go.Lib in
open Go.RowKit Go.Lib in
def Tryz.lays187_ren : Go.Shelf.Ren := ⟨fun | 187 => 111 | 255 => 143 | n => n, fun | 37 => 22 | 5 => 5 | 3 => 3 | n => n, fun | n => n⟩
theorem Tryz.lays187 : Go.Proofs.Lays.n187 Tryz.prog Tryz.lays187_ren := {
  mixed := by kernel_rfl
  f187 := Tryz.func111.trans (congrArg some (by kernel_rfl))
  f255 := Tryz.func143.trans (congrArg some (by kernel_rfl))
  t3 := Tryz.underlying3
  a3 := Tryz.isAgg3
  z3 := Tryz.sizeOf3
  v3 := Tryz.zeroValue3
  t5 := Tryz.underlying5
  a5 := Tryz.isAgg5
  z5 := Tryz.sizeOf5
  v5 := Tryz.zeroValue5
  t37 := Tryz.underlying22
  a37 := Tryz.isAgg22
  z37 := Tryz.sizeOf22
  v37 := Tryz.zeroValue22 }
open Go.RowKit Go.Lib in
/-- bytes.IndexByte, b at whatever address: "IndexByte returns the index of the first instance of c in b, or -1 if c is not present in b." (LAID: no walk: one application.) -/
theorem Tryz.bytes_IndexByte_at (a : Addr) (n c : Nat) (xs : List Int) (cv : Int) (w : World) (hx : xs.length = n) (hc : ∀ i, i < n → w.cell? (a.add i) = some (.int .u8 (xs.getD i 0))) :
    Calls Tryz.prog 111 #[.slice (some a) n c, .int .u8 cv] w fun e w' => e = .returned (.int .i64 (Lib.indexByte (Lib.bytesOf xs) cv.toNat.toUInt8)) ∧ w' = w := Any.bytes_IndexByte_at Tryz.lays187 a n c xs cv w hx hc
open Go.RowKit Go.Lib in
open Go.Proofs Go.RowKit Go.Lib in
def Tryz.lays115_ren : Go.Shelf.Ren := ⟨fun | 115 => 112 | n => n, fun | 37 => 22 | 4 => 4 | 9 => 9 | 5 => 5 | n => n, fun | n => n⟩
open Go.Proofs Go.RowKit Go.Lib in
def Tryz.lays291_ren : Go.Shelf.Ren := ⟨fun | 291 => 144 | n => n, fun | 37 => 22 | 51 => 29 | 3 => 3 | 4 => 4 | 0 => 0 | 5 => 5 | 46 => 110 | n => n, fun | n => n⟩
open Go.RowKit Go.Lib in
def Tryz.lays254_ren : Go.Shelf.Ren := ⟨fun | 254 => 115 | 291 => 144 | n => n, fun | 37 => 22 | 3 => 3 | 146 => 170 | 51 => 29 | 4 => 4 | 0 => 0 | 5 => 5 | 9 => 9 | 46 => 110 | n => n, fun | n => n⟩
open Go.RowKit Go.Lib in
open Go.RowKit Go.Lib in
open Go.Proofs Go.RowKit Go.Lib in
open Go.Proofs Go.RowKit Go.Lib in
def Tryz.laysM185_ren : Go.Shelf.Ren := ⟨fun | 185 => 72 | 187 => 111 | 115 => 112 | 253 => 113 | 224 => 114 | 254 => 115 | 255 => 143 | 291 => 144 | n => n, fun | 37 => 22 | 3 => 3 | 4 => 4 | 0 => 0 | 5 => 5 | 46 => 110 | 9 => 9 | 146 => 170 | 51 => 29 | n => n, fun | 1 => 0 | n => n⟩
open Go.Proofs Go.RowKit Go.Lib in
def Tryz.laysnb117_ren : Go.Shelf.Ren := ⟨fun | 117 => 119 | 115 => 112 | n => n, fun | 37 => 22 | 4 => 4 | 3 => 3 | 9 => 9 | 5 => 5 | n => n, fun | n => n⟩
theorem Tryz.laysnb117 : Go.Proofs.Lays.nb117 Tryz.prog Tryz.laysnb117_ren := {
  mixed := by kernel_rfl
  f115 := Tryz.func112.trans (congrArg some (by kernel_rfl))
  f117 := Tryz.func119.trans (congrArg some (by kernel_rfl))
  t3 := Tryz.underlying3
  a3 := Tryz.isAgg3
  z3 := Tryz.sizeOf3
  v3 := Tryz.zeroValue3
  t4 := Tryz.underlying4
  a4 := Tryz.isAgg4
  z4 := Tryz.sizeOf4
  v4 := Tryz.zeroValue4
  t9 := Tryz.underlying9
  a9 := Tryz.isAgg9
  z9 := Tryz.sizeOf9
  v9 := Tryz.zeroValue9
  t37 := Tryz.underlying22
  a37 := Tryz.isAgg22
  z37 := Tryz.sizeOf22
  v37 := Tryz.zeroValue22
  t5 := Tryz.underlying5
  a5 := Tryz.isAgg5
  z5 := Tryz.sizeOf5
  v5 := Tryz.zeroValue5 }
theorem Tryz.bytes_HasSuffix_e1 (p1 p2 : Option Addr) (c m d : Nat) (hm : 0 < m) (w : World) :
    Calls Tryz.prog 119 #[.slice p1 0 c, .slice p2 m d] w fun e w' => e = .returned (.bool false) ∧ w' = w := Any.bytes_HasSuffix_e1 Tryz.laysnb117 p1 p2 c m d hm w
def Tryz.laysnb140_ren : Go.Shelf.Ren := ⟨fun | 140 => 80 | 117 => 119 | 115 => 112 | n => n, fun | 37 => 22 | 4 => 4 | 3 => 3 | 9 => 9 | 5 => 5 | n => n, fun | n => n⟩
def Tryz.laysnb115_ren : Go.Shelf.Ren := ⟨fun | 115 => 112 | n => n, fun | 37 => 22 | 4 => 4 | 9 => 9 | 5 => 5 | n => n, fun | n => n⟩
def Tryz.laysSlT4_ren : Go.Shelf.Ren := ⟨fun | 4 => 40 | 5 => 72 | 6 => 111 | 7 => 112 | 8 => 113 | 9 => 114 | 10 => 115 | 11 => 143 | 12 => 144 | n => n, fun | 22 => 22 | 4 => 4 | 3 => 3 | 0 => 0 | 5 => 5 | 29 => 110 | 9 => 9 | 31 => 170 | 30 => 29 | n => n, fun | 0 => 0 | n => n⟩
/-- bytes.HasSuffix: "HasSuffix reports whether the byte slice s ends with suffix.": IT RETURNS 'Lib.hasSuffix (the bytes of s) (the bytes of suffix)'; the world is as it was. ITS CALLEE bytes.Equal IS MET BY ITS OWN CONTRACT OFF THE SHELF (lay that first). (An empty suffix too: there the model's slicing may keep the slice's address, where the cut falls at its very capacity: the value bears an 'if': 'gA' pays both arms.) (LAID: no walk: one application.) -/
theorem Tryz.bytes_HasSuffix (b1 o1 n c b2 o2 m d : Nat) (xs ys : List Int) (w : World) (hx : xs.length = n) (hy : ys.length = m) (hnc : n ≤ c) (hbig : n ≤ 9223372036854775807) (hc1 : ∀ i, i < n → w.cell? ⟨b1, o1 + i, none⟩ = some (.int .u8 (xs.getD i 0))) (hc2 : ∀ i, i < m → w.cell? ⟨b2, o2 + i, none⟩ = some (.int .u8 (ys.getD i 0))) :
    Calls Tryz.prog 119 #[.slice (some ⟨b1, o1, none⟩) n c, .slice (some ⟨b2, o2, none⟩) m d] w fun e w' => e = .returned (.bool (Lib.hasSuffix (Lib.bytesOf xs) (Lib.bytesOf ys))) ∧ w' = w := Any.bytes_HasSuffix Tryz.laysnb117 b1 o1 n c b2 o2 m d xs ys w hx hy hnc hbig hc1 hc2
end Go.Proofs
namespace Go.Proofs.YtdjbbncoioghfaaGreatDoor.X
def showI (n : Int) : ByteArray := ⟨(Lib.decDigits n.toNat).toArray⟩
end Go.Proofs.YtdjbbncoioghfaaGreatDoor.X
namespace Go.Proofs.YtdjbbncoioghfaaGreatDoor.X
open Go Go.Lib
set_option linter.unusedVariables false
set_option linter.unusedSimpArgs false

def rDecL : Nat → List UInt8 → Option Nat
  | n, [] => some n
  | n, c :: r => if c.toNat < 48 ∨ 57 < c.toNat then none else if (18446744073709551615 - (c.toNat - 48)) / 10 < n then none else rDecL (10 * n + (c.toNat - 48)) r
def okOf : NumEnd Nat → Option Nat
  | .ok u => some u
  | _ => none
theorem rDecL_parse : ∀ (l : List UInt8) (n : Nat), n < 18446744073709551616 → rDecL n l = okOf (parseUint10 n l)
  | [], n, _ => rfl
  | c :: r, n, hn => by
    unfold rDecL parseUint10
    by_cases h : 48 ≤ c.toNat ∧ c.toNat ≤ 57
    · rw [if_neg (by omega), if_pos h]
      by_cases h1 : 1844674407370955162 ≤ n
      · rw [if_pos (by omega), if_pos h1]; rfl
      · rw [if_neg h1]
        by_cases h2 : 18446744073709551616 ≤ n * 10 + (c.toNat - 48)
        · rw [if_pos (by omega), if_pos h2]; rfl
        · rw [if_neg (by omega), if_neg h2, rDecL_parse r _ (by omega), Nat.mul_comm]
    · rw [if_pos (by omega), if_neg h]; rfl
/-- The digits of a text as a number, as num.Decimal and the document say. -/
def decS (s : ByteArray) : Nat × Bool :=
  if s.size = 0 ∨ 40 < s.size then (0, false) else match rDecL 0 s.data.toList with
    | some u => (u, true)
    | none => (0, false)
/-- Digits come back: what decDigits lists is the number. -/
theorem rDecL_append : ∀ (l r : List UInt8) (n : Nat), rDecL n (l ++ r) = (rDecL n l).bind fun m => rDecL m r
  | [], r, n => rfl
  | c :: l, r, n => by
    have ih := rDecL_append l r (10 * n + (c.toNat - 48))
    rw [List.cons_append, rDecL, rDecL]
    split
    · rfl
    · split
      · rfl
      · exact ih
theorem rDecL_dec : ∀ (n : Nat), n < 18446744073709551616 → rDecL 0 (decDigits n) = some n := by
  intro n
  induction n using Nat.strongRecOn with
  | _ n ih =>
    intro hn
    rw [decDigits]
    split
    · have e : (UInt8.ofNat (48 + n)).toNat = 48 + n := by simp; omega
      unfold rDecL
      rw [e, if_neg (by omega), if_neg (by omega)]
      unfold rDecL
      congr 1; omega
    · rw [rDecL_append, ih (n / 10) (by omega) (by omega)]
      have e : (UInt8.ofNat (48 + n % 10)).toNat = 48 + n % 10 := by simp; omega
      show rDecL (n / 10) [_] = _
      unfold rDecL
      rw [e, if_neg (by omega), if_neg (by omega)]
      unfold rDecL
      congr 1; omega
theorem rDecL_zeros : ∀ (k : Nat) (l : List UInt8), rDecL 0 (List.replicate k 48 ++ l) = rDecL 0 l
  | 0, l => rfl
  | k + 1, l => by
    show rDecL 0 (48 :: (List.replicate k 48 ++ l)) = _
    rw [rDecL, if_neg (by decide), if_neg (by decide)]
    exact rDecL_zeros k l
/-- Bytes. -/
def getN (n : Nat) (l : List Nat) : Nat := l.foldl (fun n c => (n * 256 + c) % 18446744073709551616) n
theorem getN_append (n : Nat) (a b : List Nat) : getN n (a ++ b) = getN (getN n a) b := by unfold getN; rw [List.foldl_append]
def putN (n : Nat) : Nat → List Nat
  | 0 => []
  | k + 1 => putN (n / 256) k ++ [n % 256]
theorem putN_length (n : Nat) : ∀ k, (putN n k).length = k := by
  intro k; induction k generalizing n with
  | zero => rfl
  | succ k ih => simp [putN, ih]
theorem getN_putN : ∀ (k n : Nat), n < 256 ^ k → k ≤ 8 → getN 0 (putN n k) = n
  | 0, n, h, _ => by simp at h; subst h; rfl
  | k + 1, n, h, hk => by
    have hp : n / 256 < 256 ^ k := by rw [Nat.pow_succ] at h; omega
    have h8 : 256 ^ (k + 1) ≤ 256 ^ 8 := Nat.pow_le_pow_right (by omega) hk
    have e8 : 256 ^ 8 = 18446744073709551616 := by decide
    rw [putN, getN_append, getN_putN k _ hp (by omega)]
    show (n / 256 * 256 + n % 256) % 18446744073709551616 = n
    omega
theorem getN_lin : ∀ (b : List Nat) (n : Nat), getN n b = (n * 256 ^ b.length + getN 0 b) % 18446744073709551616 ∨ b = []
  | [], n => Or.inr rfl
  | c :: b, n => by
    left
    show getN ((n * 256 + c) % 18446744073709551616) b = (n * 256 ^ (b.length + 1) + getN ((0 * 256 + c) % 18446744073709551616) b) % 18446744073709551616
    rcases getN_lin b ((n * 256 + c) % 18446744073709551616) with h | h
    · rcases getN_lin b ((0 * 256 + c) % 18446744073709551616) with h2 | h2
      · rw [h, h2, Nat.pow_succ]
        rw [Nat.add_mod, Nat.mul_mod, Nat.mod_mod, ← Nat.mul_mod, ← Nat.add_mod]
        conv => rhs; rw [Nat.add_mod, Nat.mod_mod, ← Nat.add_mod, Nat.add_mod, Nat.add_mod (((0 * 256 + c) % 18446744073709551616) * 256 ^ b.length), Nat.mul_mod ((0 * 256 + c) % 18446744073709551616), Nat.mod_mod, ← Nat.mul_mod, ← Nat.add_mod (((0 * 256 + c)) * 256 ^ b.length), ← Nat.add_mod]
        congr 1
        rw [Nat.zero_mul, Nat.zero_add, Nat.add_mul, Nat.mul_assoc, Nat.mul_comm 256, Nat.add_assoc]
      · subst h2; simp [getN]
    · subst h; simp [getN]
theorem decDigits_mono : ∀ (b a : Nat), a ≤ b → (decDigits a).length ≤ (decDigits b).length := by
  intro b
  induction b using Nat.strongRecOn with
  | _ b ih =>
    intro a h
    by_cases ha : a < 10
    · rw [decDigits_one ha]
      rw [decDigits_length]
      show 1 ≤ _
      rcases Nat.lt_or_ge b 10 with hb | hb
      · rw [nDigits_small hb]; exact Nat.le_refl _
      · rw [nDigits_big (by omega)]; omega
    · have e1 := nDigits_big ha
      have e2 := nDigits_big (show ¬ b < 10 by omega)
      have := ih (b / 10) (by omega) (a / 10) (by omega)
      rw [decDigits_length, decDigits_length] at this ⊢
      omega
theorem lt_snoc : ∀ (x y : List UInt8) (a b : UInt8), x.length = y.length → ((x ++ [a] < y ++ [b]) ↔ (x < y ∨ (x = y ∧ a < b)))
  | [], [], a, b, _ => by simp [List.cons_lt_cons_iff]
  | c :: x, d :: y, a, b, hl => by
    have ih := lt_snoc x y a b (by simpa using hl)
    clear hl
    simp only [List.cons_append, List.cons_lt_cons_iff, ih, List.cons.injEq]
    constructor
    · rintro (h | ⟨rfl, h | ⟨rfl, h⟩⟩)
      · exact Or.inl (Or.inl h)
      · exact Or.inl (Or.inr ⟨rfl, h⟩)
      · exact Or.inr ⟨⟨rfl, rfl⟩, h⟩
    · rintro ((h | ⟨rfl, h⟩) | ⟨⟨rfl, rfl⟩, h⟩)
      · exact Or.inl h
      · exact Or.inr ⟨rfl, Or.inl h⟩
      · exact Or.inr ⟨rfl, Or.inr ⟨rfl, h⟩⟩
  | [], _ :: _, _, _, h => by simp at h
  | _ :: _, [], _, _, h => by simp at h
def putB (n : Nat) : Nat → List UInt8
  | 0 => []
  | k + 1 => putB (n / 256) k ++ [UInt8.ofNat (n % 256)]
theorem putB_length (k : Nat) : ∀ n, (putB n k).length = k := by
  induction k with
  | zero => intro n; rfl
  | succ k ih => intro n; simp [putB, ih]
theorem ofNat_lt {a b : Nat} (ha : a < 256) (hb : b < 256) : UInt8.ofNat a < UInt8.ofNat b ↔ a < b := by
  rw [UInt8.lt_iff_toNat_lt]
  simp
  omega
theorem putB_inj : ∀ (k a b : Nat), a < 256 ^ k → b < 256 ^ k → (putB a k = putB b k ↔ a = b)
  | 0, a, b, ha, hb => by simp at ha hb; subst ha; subst hb; simp
  | k + 1, a, b, ha, hb => by
    have ih := putB_inj k (a / 256) (b / 256) (by rw [Nat.pow_succ] at ha; omega) (by rw [Nat.pow_succ] at hb; omega)
    constructor
    · intro h
      obtain ⟨h1, h2⟩ := List.append_inj' h rfl
      have h3 := ih.1 h1
      have h4 : UInt8.ofNat (a % 256) = UInt8.ofNat (b % 256) := by simpa using h2
      have h5 := congrArg UInt8.toNat h4
      simp at h5
      omega
    · rintro rfl; rfl
theorem putB_lt : ∀ (k a b : Nat), a < 256 ^ k → b < 256 ^ k → (putB a k < putB b k ↔ a < b)
  | 0, a, b, ha, hb => by simp at ha hb; subst ha; subst hb; simp [putB]
  | k + 1, a, b, ha, hb => by
    have ha' : a / 256 < 256 ^ k := by rw [Nat.pow_succ] at ha; omega
    have hb' : b / 256 < 256 ^ k := by rw [Nat.pow_succ] at hb; omega
    show (putB (a / 256) k ++ [_] < putB (b / 256) k ++ [_]) ↔ _
    rw [lt_snoc _ _ _ _ (by rw [putB_length, putB_length]), putB_lt k _ _ ha' hb', putB_inj k _ _ ha' hb', ofNat_lt (Nat.mod_lt _ (by omega)) (Nat.mod_lt _ (by omega))]
    omega
end Go.Proofs.YtdjbbncoioghfaaGreatDoor.X
namespace Go.Proofs.YtdjbbncoioghfaaGreatDoor.X
open Go.RowKit Go.Proofs.YtdjbbncoioghfaaGreatDoorW.PrintWords
set_option linter.unusedVariables false
set_option linter.unusedSimpArgs false

theorem decS_plus (s : ByteArray) (h : Lib.hasPrefix s.data.toList [43] = true) : decS s = (0, false) := by
  obtain ⟨⟨l⟩⟩ := s
  cases l with
  | nil => exact absurd h (by decide)
  | cons c r =>
    have hc : c = 43 := by
      simp [Lib.hasPrefix] at h
      exact h.symm
    subst hc
    unfold decS
    split
    · rfl
    · show (match rDecL 0 (43 :: r) with | some u => (u, true) | none => (0, false)) = _
      rw [rDecL, if_pos (by decide)]
theorem decS_parse (s : ByteArray) (h : ¬ 40 < s.size) : decS s = match Lib.parseUintB 64 s.data.toList with | .ok u => (u, true) | _ => (0, false) := by
  rw [Lib.parseUintB_64]
  unfold decS Lib.parseMag
  by_cases h0 : s.size = 0
  · have hn : s.data.toList = [] := by
      have : s.data.toList.length = 0 := by rw [Array.length_toList]; exact h0
      exact List.eq_nil_of_length_eq_zero this
    rw [if_pos (Or.inl h0), if_pos hn]
  · have hn : ¬ s.data.toList = [] := fun e => h0 (by
      have : s.data.toList.length = 0 := by rw [e]; rfl
      rw [Array.length_toList] at this; exact this)
    rw [if_neg (by omega), if_neg hn, rDecL_parse _ _ (by omega)]
    cases Lib.parseUint10 0 s.data.toList <;> rfl
def num_Decimal.f (s : ByteArray) : Option (Int × Bool) := some ((decS s).1, (decS s).2)
theorem pu_none (s : ByteArray) (hlim : s.size ≤ 281474976710656) {r : Lib.NumEnd Nat} (h : Lib.parseUintB 64 s.data.toList = r) (h1 : ∀ u, r ≠ .ok u) (h2 : r ≠ .range) (ev : Value) (w : World) (hv : w.cell? ⟨3, 0, none⟩ = some ev) (hev : ev = .nilIface ∨ ∃ te pe, ev = .iface te pe) :
    Calls Tryz.prog 126 #[.string s, .int .i64 10, .int .i64 64] w fun e w' => ∃ N, e = .returned (.tuple #[.int .u64 0, .iface 192 (.pointer (some ⟨N, 0, none⟩))]) ∧ w.heap.size ≤ N ∧ w'.heap[N]? = some (.cells #[.string ⟨#[80, 97, 114, 115, 101, 85, 105, 110, 116]⟩, .string s, ev] 204 (0, 0)) ∧ Below w.heap.size w w' := by
  cases r
  · exact absurd rfl (h1 _)
  · exact Any.strconv_ParseUint_10_at64_syntax Tryz.laysPu14 s hlim h ev w hv hev
  · exact absurd rfl h2
set_option maxRecDepth 100000 in
theorem num_Decimal.calls (s : ByteArray) (r1 : Int) (r2 : Bool) (w : World) (hT : Tabs w) (h : num_Decimal.f s = some (r1, r2)) :
    Calls Tryz.prog 84 #[.string s] w fun e w' => e = .returned (.tuple #[.int .u64 r1, .bool r2]) ∧ Below w.heap.size w w' := by
  obtain ⟨rfl, rfl⟩ : ((decS s).1 : Int) = r1 ∧ (decS s).2 = r2 := by
    unfold num_Decimal.f at h
    simpa using h
  have HT := Aside0.mk hT
  clear hT h
  have HB := Aside0.mk (Below.refl w.heap.size w)
  by_cases h40 : (40 : Int) < s.size
  · have hd : decS s = (0, false) := by unfold decS; rw [if_pos (Or.inr (by omega))]
    rw [hd]
    go_enter Tryz.func84, Tryz.ntmps84
    go_wp2
    go_ret2
    exact ⟨rfl, Below.refl _ _⟩
  · cases hp : Lib.hasPrefix s.data.toList [43]
    · have hd := decS_parse s (by omega)
      have HP := Aside0.mk hp
      obtain ⟨tp1, p1, e1⟩ := HT.out.syn
      obtain ⟨tp2, p2, e2⟩ := HT.out.rng
      cases hu : Lib.parseUintB 64 s.data.toList
      · next u =>
        rw [hu] at hd
        rw [hd]
        have HU := Aside0.mk hu
        clear hu hd hp e1 e2
        go_enter Tryz.func84, Tryz.ntmps84
        go_wp2_with (first
          | (go_at_call 125; (with_reducible refine (Tryz.strings_HasPrefix _ _ _).mono ?_); rintro e w1 ⟨rfl, rfl⟩; rw [HP.out])
          | (go_at_call 126; (with_reducible refine (Tryz.strconv_ParseUint_10_at64_ok s (by omega) u HU.out _).mono ?_); rintro e w1 ⟨rfl, hw⟩))
        go_ret2
        refine ⟨rfl, ?_⟩
        rcases hw with rfl | rfl
        · exact (by repeat (first | exact Below.refl _ _ | apply below_drew1 | apply pw_below_drewN | apply below_alloc))
        · exact bytesWorld_below _ _ _
      · rw [hu] at hd
        rw [hd]
        have HU := Aside0.mk hu
        have HE := Aside0.mk e1
        clear hu hd hp e1 e2
        go_enter Tryz.func84, Tryz.ntmps84
        go_wp2_with (first
          | (go_at_call 125; (with_reducible refine (Tryz.strings_HasPrefix _ _ _).mono ?_); rintro e w1 ⟨rfl, rfl⟩; rw [HP.out])
          | (go_at_call 126; (with_reducible refine (pu_none s (by omega) HU.out (fun _ h => by cases h) (fun h => by cases h) _ _ HE.out (Or.inr ⟨_, _, rfl⟩)).mono ?_); rintro e w1 ⟨N, rfl, _, _, hb⟩))
        go_ret2
        exact ⟨rfl, by assumption⟩
      · rw [hu] at hd
        rw [hd]
        have HU := Aside0.mk hu
        have HE := Aside0.mk e2
        clear hu hd hp e1 e2
        go_enter Tryz.func84, Tryz.ntmps84
        go_wp2_with (first
          | (go_at_call 125; (with_reducible refine (Tryz.strings_HasPrefix _ _ _).mono ?_); rintro e w1 ⟨rfl, rfl⟩; rw [HP.out])
          | (go_at_call 126; (with_reducible refine (Tryz.strconv_ParseUint_10_at64_range s (by omega) HU.out _ _ HE.out (Or.inr ⟨_, _, rfl⟩)).mono ?_); rintro e w1 ⟨N, rfl, _, _, hb⟩))
        go_ret2
        exact ⟨rfl, by assumption⟩
    · have hd := decS_plus s hp
      rw [hd]
      have HP := Aside0.mk hp
      clear hp
      go_enter Tryz.func84, Tryz.ntmps84
      go_wp2_with (go_at_call 125; (with_reducible refine (Tryz.strings_HasPrefix _ _ _).mono ?_); rintro e w1 ⟨rfl, rfl⟩; rw [HP.out])
      go_ret2
      exact ⟨rfl, (by repeat (first | exact Below.refl _ _ | apply below_drew1 | apply pw_below_drewN | apply below_alloc))⟩
def strings_CutPrefix.f (s p : ByteArray) : Option (ByteArray × Bool) := some (⟨(Lib.trimPrefix s.data.toList p.data.toList).toArray⟩, Lib.hasPrefix s.data.toList p.data.toList)
theorem strings_CutPrefix.calls (s p : ByteArray) (r1 : ByteArray) (r2 : Bool) (w : World) (h : strings_CutPrefix.f s p = some (r1, r2)) :
    Calls Tryz.prog 162 #[.string s, .string p] w fun e w' => e = .returned (.tuple #[.string r1, .bool r2]) ∧ Drawn0 w w' := by
  obtain ⟨rfl, rfl⟩ : (⟨(Lib.trimPrefix s.data.toList p.data.toList).toArray⟩ : ByteArray) = r1 ∧ Lib.hasPrefix s.data.toList p.data.toList = r2 := by
    unfold strings_CutPrefix.f at h
    simpa using h
  refine (Tryz.strings_CutPrefix s p w).mono ?_
  rintro e w' ⟨rfl, rfl⟩
  exact ⟨rfl, Drawn0.refl _⟩
end Go.Proofs.YtdjbbncoioghfaaGreatDoor.X
namespace Go.Proofs.YtdjbbncoioghfaaGreatDoor.X
open Go.RowKit Go.Proofs.YtdjbbncoioghfaaGreatDoorW.PrintWords
set_option linter.unusedVariables false
theorem w64 (n : Int) (h0 : -9223372036854775808 ≤ n) (h1 : n ≤ 9223372036854775807) : wrap64 n = n := by unfold wrap64; omega
theorem Ev.pos {α : Type} {c : Prop} [Decidable c] {f g : Nat → Option α} {r : α} (h : c) (k : Ev f r) : Ev (fun n => if c then f n else g n) r := by
  obtain ⟨K, hK⟩ := k
  exact ⟨K, fun n hn => by simp only [if_pos h]; exact hK n hn⟩
theorem Ev.neg {α : Type} {c : Prop} [Decidable c] {f g : Nat → Option α} {r : α} (h : ¬ c) (k : Ev g r) : Ev (fun n => if c then f n else g n) r := by
  obtain ⟨K, hK⟩ := k
  exact ⟨K, fun n hn => by simp only [if_neg h]; exact hK n hn⟩
theorem ev_to {α : Type} {g : Nat → Option α} {r s : α} (h : Ev g r) (e : r = s) : Ev g s := e ▸ h
theorem ev_some {α : Type} {o : Option α} {r : α} (h : o = some r) : Ev (fun _ => o) r := ⟨0, fun _ _ => h⟩
theorem Ev.bind {α β : Type} {g : Nat → Option α} {f : Nat → α → Option β} {r : α} {q : β} (h : Ev g r) (h2 : Ev (fun k => f k r) q) : Ev (fun k => (g k).bind (f k)) q := by
  obtain ⟨K, hK⟩ := h
  obtain ⟨K2, hK2⟩ := h2
  refine ⟨K + K2, fun k hk => ?_⟩
  show (g k).bind (f k) = _
  rw [hK k (by omega)]
  exact hK2 k (by omega)
theorem Ev.pure {α : Type} {r : α} : Ev (fun _ => some r) r := ⟨0, fun _ _ => rfl⟩
theorem Ev.some {α : Type} {o : Option α} {r : α} (h : o = some r) : Ev (fun _ => o) r := ⟨0, fun _ _ => h⟩
theorem u64_id (u : Nat) (hu : u < 18446744073709551616) : IntKind.u64.wrap (u : Int) = u := by rw [IntKind.wrap_u64]; omega
end Go.Proofs.YtdjbbncoioghfaaGreatDoor.X
namespace Go.Proofs.YtdjbbncoioghfaaGreatDoor.X
open Go.RowKit Go.Proofs.YtdjbbncoioghfaaGreatDoorW.PrintWords Go.Proofs.YtdjbbncoioghfaaGreatDoorW.PrintLast Go.Proofs.YtdjbbncoioghfaaGreatDoorW.PrintMore
attribute [local go_sem] max2_int min2_int max_two min_two max_three min_three max_four min_four
set_option linter.unusedVariables false
set_option linter.unusedSimpArgs false

theorem info5 : (Tryz.prog.info? 5).map (fun i => (i.zero, i.size, i.bytes)) = some (some (.int .u8 0), 1, 1) := by kernel_rfl
theorem info9 : (Tryz.prog.info? 9).map (fun i => (i.zero, i.size, i.bytes)) = some (some (.string ⟨#[]⟩), 1, 16) := by kernel_rfl
theorem info57 : (Tryz.prog.info? 57).map (fun i => (i.zero, i.size, i.bytes)) = some (some (.agg #[(.int .i64 0), (.string ⟨#[]⟩), (.slice none 0 0), (.int .u32 0), (.int .i64 0), (.int .u64 0), (.int .u64 0), (.int .u64 0), (.bool false), (.bool false)]), 10, 96) := by kernel_rfl
end Go.Proofs.YtdjbbncoioghfaaGreatDoor.X
namespace Go.Proofs.YtdjbbncoioghfaaGreatDoor.X
open Go.RowKit Go.Proofs.YtdjbbncoioghfaaGreatDoorW.PrintWords Go.Proofs.YtdjbbncoioghfaaGreatDoorW.PrintLast Go.Proofs.YtdjbbncoioghfaaGreatDoorW.PrintMore
attribute [local go_sem] max2_int min2_int max_two min_two max_three min_three max_four min_four
set_option linter.unusedVariables false
set_option linter.unusedSimpArgs false

/-! ### butteryref13_feed -/
def butteryref13_feed.l0 : Nat → List Int → Int → Option (Int)
  | 0, _, _ => none
  | k + 1, x0, x3 => if x3 < (x0.length : Int) then (if 0 ≤ x3 then (if (rd x0 x3) = 10 then (some x3) else (butteryref13_feed.l0 k x0 (wrap64 (x3 + 1)))) else (none)) else (some (-1))
def butteryref13_feed.f (k : Nat) (l0 : List Int) : Option (Int) := butteryref13_feed.l0 k l0 0
theorem butteryref13_feed.mono_l : ∀ k, (∀ y0 y1, LeO (butteryref13_feed.l0 k y0 y1) (butteryref13_feed.l0 (k + 1) y0 y1))
  | 0 => fun _ _ r h => by simp [butteryref13_feed.l0] at h
  | k + 1 => by
    have ih0 := butteryref13_feed.mono_l k
    · intro y0 y1
      unfold butteryref13_feed.l0
      repeat' first
      | (with_reducible exact ih0 _ _)
      | (with_reducible exact LeO.refl _)
      | (with_reducible exact LeO.none _)
      | (with_reducible refine LeO.ite ?_ ?_)
      | (with_reducible refine LeO.bind ?_ (fun _ => ?_))
      | exact ih0 _ _
      | exact LeO.none _
      | refine LeO.ite ?_ ?_
      | refine LeO.bind ?_ (fun _ => ?_)
theorem butteryref13_feed.mono : ∀ a0 k, LeO (butteryref13_feed.f k a0) (butteryref13_feed.f (k + 1) a0) := by
  intro a0 k
  have ih0 := butteryref13_feed.mono_l k
  unfold butteryref13_feed.f
  repeat' first
      | (with_reducible exact ih0 _ _)
      | (with_reducible exact LeO.refl _)
      | (with_reducible exact LeO.none _)
      | (with_reducible refine LeO.ite ?_ ?_)
      | (with_reducible refine LeO.bind ?_ (fun _ => ?_))
      | exact ih0 _ _
      | exact LeO.none _
      | refine LeO.ite ?_ ?_
      | refine LeO.bind ?_ (fun _ => ?_)
set_option maxHeartbeats 8000000 in
set_option maxRecDepth 100000 in
theorem butteryref13_feed.calls (k : Nat) (A0 : Option Addr) (c0 : Nat) (l0 : List Int) (r : Int) (w : World) (hr0 : Kd.C (Kd.int .u8) w A0 l0.length l0) (hc0 : l0.length ≤ c0) (h : butteryref13_feed.f k l0 = some r) :
    Calls Tryz.prog 36 #[.slice A0 l0.length c0] w fun e w' => e = .returned (.int .i64 r) ∧ Drawn0 w w' := by
  have HR0 := Aside0.mk hr0
  have HC0 := Aside0.mk hc0
  clear hr0 hc0
  have H : (butteryref13_feed.l0 k l0 0) = some r := h
  clear h
  have H' := Aside0.mk H
  clear H
  go_enter Tryz.func36, Tryz.ntmps36
  go_wp2
  go_loopg [3] k (fun kq v3 w' => ∃ (x3_1 : Int), v3 = .int .i64 x3_1 ∧ Aside0 (butteryref13_feed.l0 kq l0 x3_1 = some r) ∧ Aside0 (kq ≤ k) ∧ Drawn0 w w')
  case atStart => exact ⟨(0), (by first | rfl | (simp; done) | (simp [*]; done)), H', ⟨Nat.le_refl _⟩, by repeat (first | exact Drawn0.refl _ | apply Drawn0.step)⟩
  case round =>
    clear H'
    obtain ⟨x3_1, rfl, HA, HK1, ⟨m1, rfl⟩⟩ := hrel
    cases gk with
    | zero => exact absurd HA.out (by simp [butteryref13_feed.l0])
    | succ k1 =>
      have H := HA.out
      clear HA
      simp only [butteryref13_feed.l0] at H
      by_cases c2 : x3_1 < (l0.length : Int)
      · rw [if_pos c2] at H
        have c2b0 : decide (x3_1 < (l0.length : Int)) = true := decide_eq_true c2
        clear c2
        by_cases c3 : 0 ≤ x3_1
        · rw [if_pos c3] at H
          have c3b0 : decide (0 ≤ x3_1) = true := decide_eq_true c3
          clear c3
          by_cases c4 : (rd l0 x3_1) = 10
          · rw [if_pos c4] at H
            have c4b0 : ((rd l0 x3_1) == 10) = true := beq_iff_eq.mpr c4
            have c4b1 : ((rd l0 x3_1) != 10) = false := bne_eq_false_iff_eq.mpr c4
            clear c4
            obtain rfl := Option.some.inj H
            have p552 : 0 ≤ (x3_1 : Int) := of_decide_eq_true (by first | (with_reducible assumption) | assumption)
            have q552 : x3_1 < (l0.length : Int) := of_decide_eq_true (by first | (with_reducible assumption) | assumption)
            obtain ⟨ad552, e552, hx552_0⟩ := Kd.at_int HR0.out x3_1 p552 q552
            cases e552
            replace p552 := eq_true p552
            replace q552 := eq_true q552
            go_wp2
            go_ret
            exact ⟨by first | rfl | (simp; done) | (simp [*]; done), by repeat (first | exact Drawn0.refl _ | apply Drawn0.step)⟩
          · rw [if_neg c4] at H
            have c4b0 : ((rd l0 x3_1) == 10) = false := beq_eq_false_iff_ne.mpr c4
            have c4b1 : ((rd l0 x3_1) != 10) = true := bne_iff_ne.mpr c4
            have H' := Aside0.mk H
            clear H
            have p552 : 0 ≤ (x3_1 : Int) := of_decide_eq_true (by first | (with_reducible assumption) | assumption)
            have q552 : x3_1 < (l0.length : Int) := of_decide_eq_true (by first | (with_reducible assumption) | assumption)
            obtain ⟨ad552, e552, hx552_0⟩ := Kd.at_int HR0.out x3_1 p552 q552
            cases e552
            replace p552 := eq_true p552
            replace q552 := eq_true q552
            go_wp2
            go_roundg k1
            case measure => have := HK1.out; omega
            case rel => exact ⟨(wrap64 (x3_1 + 1)), (by first | rfl | (simp; done) | (simp [*]; done)), H', ⟨by have := HK1.out; omega⟩, by repeat (first | exact Drawn0.refl _ | apply Drawn0.step)⟩
        · rw [if_neg c3] at H
          exact absurd H (by simp)
      · rw [if_neg c2] at H
        have c2b0 : decide (x3_1 < (l0.length : Int)) = false := decide_eq_false c2
        clear c2
        obtain rfl := Option.some.inj H
        go_wp2
        go_ret
        exact ⟨by first | rfl | (simp; done) | (simp [*]; done), by repeat (first | exact Drawn0.refl _ | apply Drawn0.step)⟩

/-! ### butteryref13_Key -/
mutual
def butteryref13_Key.j0 : Nat → ByteArray → Bool → Option (Bool)
  | 0, _, _ => none
  | k + 1, x0, x11 => if x11 = true then (some false) else (butteryref13_Key.l0 k x0 0)
def butteryref13_Key.l0 : Nat → ByteArray → Int → Option (Bool)
  | 0, _, _ => none
  | k + 1, x0, x3 => if x3 < (x0.size : Int) then (if 0 ≤ x3 then (if (bt x0 x3) ≤ 32 then (some false) else (if (bt x0 x3) = 127 then (some false) else (butteryref13_Key.l0 k x0 (wrap64 (x3 + 1))))) else (none)) else (some true)
end
def butteryref13_Key.f (k : Nat) (a0 : ByteArray) : Option (Bool) := if (a0.size : Int) < 1 then (butteryref13_Key.j0 k a0 true) else (butteryref13_Key.j0 k a0 (decide ((a0.size : Int) > 250)))
theorem butteryref13_Key.mono_l : ∀ k, (∀ y0 y1, LeO (butteryref13_Key.j0 k y0 y1) (butteryref13_Key.j0 (k + 1) y0 y1)) ∧ (∀ y0 y1, LeO (butteryref13_Key.l0 k y0 y1) (butteryref13_Key.l0 (k + 1) y0 y1))
  | 0 => ⟨fun _ _ r h => by simp [butteryref13_Key.j0] at h, fun _ _ r h => by simp [butteryref13_Key.l0] at h⟩
  | k + 1 => by
    obtain ⟨ih0, ih1⟩ := butteryref13_Key.mono_l k
    refine ⟨?_, ?_⟩
    · intro y0 y1
      unfold butteryref13_Key.j0
      repeat' first
      | (with_reducible exact ih0 _ _)
      | (with_reducible exact ih1 _ _)
      | (with_reducible exact LeO.refl _)
      | (with_reducible exact LeO.none _)
      | (with_reducible refine LeO.ite ?_ ?_)
      | (with_reducible refine LeO.bind ?_ (fun _ => ?_))
      | exact ih0 _ _
      | exact ih1 _ _
      | exact LeO.none _
      | refine LeO.ite ?_ ?_
      | refine LeO.bind ?_ (fun _ => ?_)
    · intro y0 y1
      unfold butteryref13_Key.l0
      repeat' first
      | (with_reducible exact ih0 _ _)
      | (with_reducible exact ih1 _ _)
      | (with_reducible exact LeO.refl _)
      | (with_reducible exact LeO.none _)
      | (with_reducible refine LeO.ite ?_ ?_)
      | (with_reducible refine LeO.bind ?_ (fun _ => ?_))
      | exact ih0 _ _
      | exact ih1 _ _
      | exact LeO.none _
      | refine LeO.ite ?_ ?_
      | refine LeO.bind ?_ (fun _ => ?_)
theorem butteryref13_Key.mono : ∀ a0 k, LeO (butteryref13_Key.f k a0) (butteryref13_Key.f (k + 1) a0) := by
  intro a0 k
  obtain ⟨ih0, ih1⟩ := butteryref13_Key.mono_l k
  unfold butteryref13_Key.f
  repeat' first
      | (with_reducible exact ih0 _ _)
      | (with_reducible exact ih1 _ _)
      | (with_reducible exact LeO.refl _)
      | (with_reducible exact LeO.none _)
      | (with_reducible refine LeO.ite ?_ ?_)
      | (with_reducible refine LeO.bind ?_ (fun _ => ?_))
      | exact ih0 _ _
      | exact ih1 _ _
      | exact LeO.none _
      | refine LeO.ite ?_ ?_
      | refine LeO.bind ?_ (fun _ => ?_)
set_option maxHeartbeats 8000000 in
set_option maxRecDepth 100000 in
theorem butteryref13_Key.calls (k : Nat) (a0 : ByteArray) (r : Bool) (w : World) (h : butteryref13_Key.f k a0 = some r) :
    Calls Tryz.prog 110 #[.string a0] w fun e w' => e = .returned (.bool r) ∧ Drawn0 w w' := by
  have H : (if (a0.size : Int) < 1 then (butteryref13_Key.j0 k a0 true) else (butteryref13_Key.j0 k a0 (decide ((a0.size : Int) > 250)))) = some r := h
  clear h
  have HC2 := Aside0.mk H
  clear H
  go_enter Tryz.func110, Tryz.ntmps110
  go_upto_region 1 with (fail)
  go_cut [11] (fun v11 wc => ∃ (kq : Nat) (x11_1 : Bool), v11 = .bool x11_1 ∧ Aside0 (butteryref13_Key.j0 kq a0 x11_1 = some r) ∧ Aside0 (kq ≤ k) ∧ Drawn0 w wc)
  case first =>
    have H := HC2.out
    clear HC2
    by_cases c3 : (a0.size : Int) < 1
    · rw [if_pos c3] at H
      have c3b0 : decide ((a0.size : Int) < 1) = true := decide_eq_true c3
      have c3b1 : decide (a0.size < 1) = true := decide_eq_true (by omega)
      clear c3
      (first | rw [c3b0] | (simp only [i64_w, i32_w]; rw [c3b0]) | skip)
      have H' := Aside0.mk H
      clear H
      go_wp2
      go_meet
      case rel => exact ⟨_, (true), (by first | rfl | (simp; done) | (simp [*]; done)), H', ⟨by first | omega | exact Nat.le_refl _⟩, by repeat (first | exact Drawn0.refl _ | apply Drawn0.step)⟩
    · rw [if_neg c3] at H
      have c3b0 : decide ((a0.size : Int) < 1) = false := decide_eq_false c3
      have c3b1 : decide (a0.size < 1) = false := decide_eq_false (by omega)
      clear c3
      (first | rw [c3b0] | (simp only [i64_w, i32_w]; rw [c3b0]) | skip)
      have H' := Aside0.mk H
      clear H
      go_wp2
      go_meet
      case rel => exact ⟨_, (decide ((a0.size : Int) > 250)), (by first | rfl | (simp; done) | (simp [*]; done)), H', ⟨by first | omega | exact Nat.le_refl _⟩, by repeat (first | exact Drawn0.refl _ | apply Drawn0.step)⟩
  case rest =>
    clear HC2
    try clear c1
    try clear p2
    try clear c3
    try clear c3b0
    try clear c3b1
    obtain ⟨kq, x11_1, rfl, HA, HJ1, ⟨mc1, rfl⟩⟩ := hcut
    cases kq with
    | zero => exact absurd HA.out (by simp [butteryref13_Key.j0])
    | succ kj1 =>
      have H := HA.out
      clear HA
      simp only [butteryref13_Key.j0] at H
      by_cases c4 : x11_1 = true
      · subst c4
        have H1 : (some false) = some r := by rw [if_pos rfl] at H; exact H
        clear H
        have H := H1
        clear H1
        obtain rfl := Option.some.inj H
        go_wp2
        go_ret
        exact ⟨by first | rfl | (simp; done) | (simp [*]; done), by repeat (first | exact Drawn0.refl _ | apply Drawn0.step)⟩
      · replace c4 := Bool.eq_false_iff.mpr c4
        subst c4
        have H1 : (butteryref13_Key.l0 kj1 a0 0) = some r := by rw [if_neg (show ¬ (false = true) by decide)] at H; exact H
        clear H
        have H := H1
        clear H1
        have H' := Aside0.mk H
        clear H
        go_wp2
        go_loopg [3] kj1 (fun kq v3 w' => ∃ (x3_2 : Int), v3 = .int .i64 x3_2 ∧ Aside0 (butteryref13_Key.l0 kq a0 x3_2 = some r) ∧ Aside0 (kq ≤ kj1) ∧ Drawn0 w w')
        case atStart => exact ⟨(0), (by first | rfl | (simp; done) | (simp [*]; done)), H', ⟨Nat.le_refl _⟩, by repeat (first | exact Drawn0.refl _ | apply Drawn0.step)⟩
        case round =>
          clear H'
          try clear c1
          try clear p2
          try clear c3
          try clear c3b0
          try clear c3b1
          try clear c4
          try clear p2
          obtain ⟨x3_2, rfl, HA, HK2, ⟨m2, rfl⟩⟩ := hrel
          cases gk with
          | zero => exact absurd HA.out (by simp [butteryref13_Key.l0])
          | succ k2 =>
            have H := HA.out
            clear HA
            simp only [butteryref13_Key.l0] at H
            by_cases c5 : x3_2 < (a0.size : Int)
            · rw [if_pos c5] at H
              have c5b0 : decide (x3_2 < (a0.size : Int)) = true := decide_eq_true c5
              clear c5
              by_cases c6 : 0 ≤ x3_2
              · rw [if_pos c6] at H
                have c6b0 : decide (0 ≤ x3_2) = true := decide_eq_true c6
                clear c6
                by_cases c8 : (bt a0 x3_2) ≤ 32
                · rw [if_pos c8] at H
                  have c8b0 : decide ((bt a0 x3_2) ≤ 32) = true := decide_eq_true c8
                  clear c8
                  obtain rfl := Option.some.inj H
                  have p7 : 0 ≤ (x3_2 : Int) := of_decide_eq_true (by first | (with_reducible assumption) | assumption)
                  have q7 : x3_2 < (a0.size : Int) := of_decide_eq_true (by first | (with_reducible assumption) | assumption)
                  have hx7 := bt_at a0 x3_2
                  replace p7 := eq_true p7
                  replace q7 := eq_true q7
                  go_wp2
                  go_ret
                  exact ⟨by first | rfl | (simp; done) | (simp [*]; done), by repeat (first | exact Drawn0.refl _ | apply Drawn0.step)⟩
                · rw [if_neg c8] at H
                  have c8b0 : decide ((bt a0 x3_2) ≤ 32) = false := decide_eq_false c8
                  clear c8
                  by_cases c10 : (bt a0 x3_2) = 127
                  · rw [if_pos c10] at H
                    have c10b0 : ((bt a0 x3_2) == 127) = true := beq_iff_eq.mpr c10
                    have c10b1 : ((bt a0 x3_2) != 127) = false := bne_eq_false_iff_eq.mpr c10
                    clear c10
                    obtain rfl := Option.some.inj H
                    have p7 : 0 ≤ (x3_2 : Int) := of_decide_eq_true (by first | (with_reducible assumption) | assumption)
                    have q7 : x3_2 < (a0.size : Int) := of_decide_eq_true (by first | (with_reducible assumption) | assumption)
                    have hx7 := bt_at a0 x3_2
                    replace p7 := eq_true p7
                    replace q7 := eq_true q7
                    have p9 : 0 ≤ (x3_2 : Int) := of_decide_eq_true (by first | (with_reducible assumption) | assumption)
                    have q9 : x3_2 < (a0.size : Int) := of_decide_eq_true (by first | (with_reducible assumption) | assumption)
                    have hx9 := bt_at a0 x3_2
                    replace p9 := eq_true p9
                    replace q9 := eq_true q9
                    go_wp2
                    go_ret
                    exact ⟨by first | rfl | (simp; done) | (simp [*]; done), by repeat (first | exact Drawn0.refl _ | apply Drawn0.step)⟩
                  · rw [if_neg c10] at H
                    have c10b0 : ((bt a0 x3_2) == 127) = false := beq_eq_false_iff_ne.mpr c10
                    have c10b1 : ((bt a0 x3_2) != 127) = true := bne_iff_ne.mpr c10
                    have H' := Aside0.mk H
                    clear H
                    have p7 : 0 ≤ (x3_2 : Int) := of_decide_eq_true (by first | (with_reducible assumption) | assumption)
                    have q7 : x3_2 < (a0.size : Int) := of_decide_eq_true (by first | (with_reducible assumption) | assumption)
                    have hx7 := bt_at a0 x3_2
                    replace p7 := eq_true p7
                    replace q7 := eq_true q7
                    have p9 : 0 ≤ (x3_2 : Int) := of_decide_eq_true (by first | (with_reducible assumption) | assumption)
                    have q9 : x3_2 < (a0.size : Int) := of_decide_eq_true (by first | (with_reducible assumption) | assumption)
                    have hx9 := bt_at a0 x3_2
                    replace p9 := eq_true p9
                    replace q9 := eq_true q9
                    go_wp2
                    go_roundg k2
                    case measure => have := HJ1.out; have := HK2.out; omega
                    case rel => exact ⟨(wrap64 (x3_2 + 1)), (by first | rfl | (simp; done) | (simp [*]; done)), H', ⟨by have := HJ1.out; have := HK2.out; omega⟩, by repeat (first | exact Drawn0.refl _ | apply Drawn0.step)⟩
              · rw [if_neg c6] at H
                exact absurd H (by simp)
            · rw [if_neg c5] at H
              have c5b0 : decide (x3_2 < (a0.size : Int)) = false := decide_eq_false c5
              clear c5
              obtain rfl := Option.some.inj H
              go_wp2
              go_ret
              exact ⟨by first | rfl | (simp; done) | (simp [*]; done), by repeat (first | exact Drawn0.refl _ | apply Drawn0.step)⟩

/-! ### butteryref13_Keyed -/
def butteryref13_Keyed.f (a0 : ByteArray) : Option (Bool) := if (a0.size : Int) ≥ 1 then (some (decide ((a0.size : Int) ≤ 250))) else (some false)
set_option maxHeartbeats 8000000 in
set_option maxRecDepth 100000 in
theorem butteryref13_Keyed.calls (a0 : ByteArray) (r : Bool) (w : World) (h : butteryref13_Keyed.f a0 = some r) :
    Calls Tryz.prog 59 #[.string a0] w fun e w' => e = .returned (.bool r) ∧ Drawn0 w w' := by
  have H : (if (a0.size : Int) ≥ 1 then (some (decide ((a0.size : Int) ≤ 250))) else (some false)) = some r := h
  clear h
  by_cases c2 : (a0.size : Int) ≥ 1
  · rw [if_pos c2] at H
    have c2b0 : decide (1 ≤ (a0.size : Int)) = true := decide_eq_true c2
    have c2b1 : decide (1 ≤ a0.size) = true := decide_eq_true (by omega)
    clear c2
    obtain rfl := Option.some.inj H
    go_enter Tryz.func59, Tryz.ntmps59
    go_wp2
    go_ret
    exact ⟨by first | rfl | (simp; done) | (simp [*]; done), by repeat (first | exact Drawn0.refl _ | apply Drawn0.step)⟩
  · rw [if_neg c2] at H
    have c2b0 : decide (1 ≤ (a0.size : Int)) = false := decide_eq_false c2
    have c2b1 : decide (1 ≤ a0.size) = false := decide_eq_false (by omega)
    clear c2
    obtain rfl := Option.some.inj H
    go_enter Tryz.func59, Tryz.ntmps59
    go_wp2
    go_ret
    exact ⟨by first | rfl | (simp; done) | (simp [*]; done), by repeat (first | exact Drawn0.refl _ | apply Drawn0.step)⟩

-- NOT PRINTED: function 37 (butteryref16_Parse)

/-! ### frame_Keyed -/
def frame_Keyed.f (a0 : ByteArray) : Option (Bool) := if a0.toList = ([] : List UInt8) then (some false) else (some (decide ((a0.size : Int) ≤ 250)))
set_option maxHeartbeats 8000000 in
set_option maxRecDepth 100000 in
theorem frame_Keyed.calls (a0 : ByteArray) (r : Bool) (w : World) (h : frame_Keyed.f a0 = some r) :
    Calls Tryz.prog 77 #[.string a0] w fun e w' => e = .returned (.bool r) ∧ Drawn0 w w' := by
  have H : (if a0.toList = ([] : List UInt8) then (some false) else (some (decide ((a0.size : Int) ≤ 250)))) = some r := h
  clear h
  by_cases c2 : a0.toList = ([] : List UInt8)
  · rw [if_pos c2] at H
    have c2b0 : (a0.toList == ([] : List UInt8)) = true := beq_iff_eq.mpr c2
    have c2b1 : (a0.toList != ([] : List UInt8)) = false := bne_eq_false_iff_eq.mpr c2
    clear c2
    obtain rfl := Option.some.inj H
    go_enter Tryz.func77, Tryz.ntmps77
    go_wp2
    go_ret
    exact ⟨by first | rfl | (simp; done) | (simp [*]; done), by repeat (first | exact Drawn0.refl _ | apply Drawn0.step)⟩
  · rw [if_neg c2] at H
    have c2b0 : (a0.toList == ([] : List UInt8)) = false := beq_eq_false_iff_ne.mpr c2
    have c2b1 : (a0.toList != ([] : List UInt8)) = true := bne_iff_ne.mpr c2
    obtain rfl := Option.some.inj H
    go_enter Tryz.func77, Tryz.ntmps77
    go_wp2
    go_ret
    exact ⟨by first | rfl | (simp; done) | (simp [*]; done), by repeat (first | exact Drawn0.refl _ | apply Drawn0.step)⟩

/-! ### textin_asks -/
def textin_asks.j0 : Nat → ByteArray → Bool → Option (Int)
  | 0, _, _ => none
  | k + 1, x3, x4 => if x4 = true then (some 4) else (if x3.toList = ([99, 97, 115] : List UInt8) then (some 5) else (if x3.toList = ([100, 101, 108, 101, 116, 101] : List UInt8) then (some 1) else (if x3.toList = ([105, 110, 99, 114] : List UInt8) then (some 2) else (if x3.toList = ([100, 101, 99, 114] : List UInt8) then (some 2) else (if x3.toList = ([116, 111, 117, 99, 104] : List UInt8) then (some 2) else (some (-1)))))))
def textin_asks.f (k : Nat) (a0 : ByteArray) : Option (Int) := if a0.toList = ([115, 101, 116] : List UInt8) then (textin_asks.j0 k a0 (a0.toList == ([115, 101, 116] : List UInt8))) else (if a0.toList = ([97, 100, 100] : List UInt8) then (textin_asks.j0 k a0 (a0.toList == ([97, 100, 100] : List UInt8))) else (if a0.toList = ([114, 101, 112, 108, 97, 99, 101] : List UInt8) then (textin_asks.j0 k a0 (a0.toList == ([114, 101, 112, 108, 97, 99, 101] : List UInt8))) else (if a0.toList = ([97, 112, 112, 101, 110, 100] : List UInt8) then (textin_asks.j0 k a0 (a0.toList == ([97, 112, 112, 101, 110, 100] : List UInt8))) else (textin_asks.j0 k a0 (a0.toList == ([112, 114, 101, 112, 101, 110, 100] : List UInt8))))))
theorem textin_asks.mono_l : ∀ k, (∀ y0 y1, LeO (textin_asks.j0 k y0 y1) (textin_asks.j0 (k + 1) y0 y1))
  | 0 => fun _ _ r h => by simp [textin_asks.j0] at h
  | k + 1 => by
    have ih0 := textin_asks.mono_l k
    · intro y0 y1
      unfold textin_asks.j0
      repeat' first
      | (with_reducible exact ih0 _ _)
      | (with_reducible exact LeO.refl _)
      | (with_reducible exact LeO.none _)
      | (with_reducible refine LeO.ite ?_ ?_)
      | (with_reducible refine LeO.bind ?_ (fun _ => ?_))
      | exact ih0 _ _
      | exact LeO.none _
      | refine LeO.ite ?_ ?_
      | refine LeO.bind ?_ (fun _ => ?_)
theorem textin_asks.mono : ∀ a0 k, LeO (textin_asks.f k a0) (textin_asks.f (k + 1) a0) := by
  intro a0 k
  have ih0 := textin_asks.mono_l k
  unfold textin_asks.f
  repeat' first
      | (with_reducible exact ih0 _ _)
      | (with_reducible exact LeO.refl _)
      | (with_reducible exact LeO.none _)
      | (with_reducible refine LeO.ite ?_ ?_)
      | (with_reducible refine LeO.bind ?_ (fun _ => ?_))
      | exact ih0 _ _
      | exact LeO.none _
      | refine LeO.ite ?_ ?_
      | refine LeO.bind ?_ (fun _ => ?_)
set_option maxHeartbeats 8000000 in
set_option maxRecDepth 100000 in
theorem textin_asks.calls (k : Nat) (a0 : ByteArray) (r : Int) (w : World) (h : textin_asks.f k a0 = some r) :
    Calls Tryz.prog 92 #[.string a0] w fun e w' => e = .returned (.int .i64 r) ∧ Drawn0 w w' := by
  have H : (if a0.toList = ([115, 101, 116] : List UInt8) then (textin_asks.j0 k a0 (a0.toList == ([115, 101, 116] : List UInt8))) else (if a0.toList = ([97, 100, 100] : List UInt8) then (textin_asks.j0 k a0 (a0.toList == ([97, 100, 100] : List UInt8))) else (if a0.toList = ([114, 101, 112, 108, 97, 99, 101] : List UInt8) then (textin_asks.j0 k a0 (a0.toList == ([114, 101, 112, 108, 97, 99, 101] : List UInt8))) else (if a0.toList = ([97, 112, 112, 101, 110, 100] : List UInt8) then (textin_asks.j0 k a0 (a0.toList == ([97, 112, 112, 101, 110, 100] : List UInt8))) else (textin_asks.j0 k a0 (a0.toList == ([112, 114, 101, 112, 101, 110, 100] : List UInt8))))))) = some r := h
  clear h
  have HC2 := Aside0.mk H
  clear H
  go_enter Tryz.func92, Tryz.ntmps92
  go_upto_if 4 with (fail)
  go_cut [4] (fun v4 wc => ∃ (kq : Nat) (x4_1 : Bool), v4 = .bool x4_1 ∧ Aside0 (textin_asks.j0 kq a0 x4_1 = some r) ∧ Aside0 (kq ≤ k) ∧ Drawn0 w wc)
  case first =>
    have H := HC2.out
    clear HC2
    by_cases c3 : a0.toList = ([115, 101, 116] : List UInt8)
    · rw [if_pos c3] at H
      have c3b0 : (a0.toList == ([115, 101, 116] : List UInt8)) = true := beq_iff_eq.mpr c3
      have c3b1 : (a0.toList != ([115, 101, 116] : List UInt8)) = false := bne_eq_false_iff_eq.mpr c3
      clear c3
      (first | rw [c3b0] | (simp only [i64_w, i32_w]; rw [c3b0]) | skip)
      have H' := Aside0.mk H
      clear H
      go_wp2
      go_meet
      case rel => exact ⟨_, ((a0.toList == ([115, 101, 116] : List UInt8))), (by first | rfl | (simp; done) | (simp [*]; done)), H', ⟨by first | omega | exact Nat.le_refl _⟩, by repeat (first | exact Drawn0.refl _ | apply Drawn0.step)⟩
    · rw [if_neg c3] at H
      have c3b0 : (a0.toList == ([115, 101, 116] : List UInt8)) = false := beq_eq_false_iff_ne.mpr c3
      have c3b1 : (a0.toList != ([115, 101, 116] : List UInt8)) = true := bne_iff_ne.mpr c3
      (first | rw [c3b0] | (simp only [i64_w, i32_w]; rw [c3b0]) | skip)
      by_cases c4 : a0.toList = ([97, 100, 100] : List UInt8)
      · rw [if_pos c4] at H
        have c4b0 : (a0.toList == ([97, 100, 100] : List UInt8)) = true := beq_iff_eq.mpr c4
        have c4b1 : (a0.toList != ([97, 100, 100] : List UInt8)) = false := bne_eq_false_iff_eq.mpr c4
        clear c4
        have H' := Aside0.mk H
        clear H
        go_wp2
        go_meet
        case rel => exact ⟨_, ((a0.toList == ([97, 100, 100] : List UInt8))), (by first | rfl | (simp; done) | (simp [*]; done)), H', ⟨by first | omega | exact Nat.le_refl _⟩, by repeat (first | exact Drawn0.refl _ | apply Drawn0.step)⟩
      · rw [if_neg c4] at H
        have c4b0 : (a0.toList == ([97, 100, 100] : List UInt8)) = false := beq_eq_false_iff_ne.mpr c4
        have c4b1 : (a0.toList != ([97, 100, 100] : List UInt8)) = true := bne_iff_ne.mpr c4
        by_cases c5 : a0.toList = ([114, 101, 112, 108, 97, 99, 101] : List UInt8)
        · rw [if_pos c5] at H
          have c5b0 : (a0.toList == ([114, 101, 112, 108, 97, 99, 101] : List UInt8)) = true := beq_iff_eq.mpr c5
          have c5b1 : (a0.toList != ([114, 101, 112, 108, 97, 99, 101] : List UInt8)) = false := bne_eq_false_iff_eq.mpr c5
          clear c5
          have H' := Aside0.mk H
          clear H
          go_wp2
          go_meet
          case rel => exact ⟨_, ((a0.toList == ([114, 101, 112, 108, 97, 99, 101] : List UInt8))), (by first | rfl | (simp; done) | (simp [*]; done)), H', ⟨by first | omega | exact Nat.le_refl _⟩, by repeat (first | exact Drawn0.refl _ | apply Drawn0.step)⟩
        · rw [if_neg c5] at H
          have c5b0 : (a0.toList == ([114, 101, 112, 108, 97, 99, 101] : List UInt8)) = false := beq_eq_false_iff_ne.mpr c5
          have c5b1 : (a0.toList != ([114, 101, 112, 108, 97, 99, 101] : List UInt8)) = true := bne_iff_ne.mpr c5
          by_cases c6 : a0.toList = ([97, 112, 112, 101, 110, 100] : List UInt8)
          · rw [if_pos c6] at H
            have c6b0 : (a0.toList == ([97, 112, 112, 101, 110, 100] : List UInt8)) = true := beq_iff_eq.mpr c6
            have c6b1 : (a0.toList != ([97, 112, 112, 101, 110, 100] : List UInt8)) = false := bne_eq_false_iff_eq.mpr c6
            clear c6
            have H' := Aside0.mk H
            clear H
            go_wp2
            go_meet
            case rel => exact ⟨_, ((a0.toList == ([97, 112, 112, 101, 110, 100] : List UInt8))), (by first | rfl | (simp; done) | (simp [*]; done)), H', ⟨by first | omega | exact Nat.le_refl _⟩, by repeat (first | exact Drawn0.refl _ | apply Drawn0.step)⟩
          · rw [if_neg c6] at H
            have c6b0 : (a0.toList == ([97, 112, 112, 101, 110, 100] : List UInt8)) = false := beq_eq_false_iff_ne.mpr c6
            have c6b1 : (a0.toList != ([97, 112, 112, 101, 110, 100] : List UInt8)) = true := bne_iff_ne.mpr c6
            have H' := Aside0.mk H
            clear H
            go_wp2
            go_meet
            case rel => exact ⟨_, ((a0.toList == ([112, 114, 101, 112, 101, 110, 100] : List UInt8))), (by first | rfl | (simp; done) | (simp [*]; done)), H', ⟨by first | omega | exact Nat.le_refl _⟩, by repeat (first | exact Drawn0.refl _ | apply Drawn0.step)⟩
  case rest =>
    clear HC2
    try clear p2
    try clear c3
    try clear c3b0
    try clear c3b1
    try clear c4
    try clear c4b0
    try clear c4b1
    try clear c5
    try clear c5b0
    try clear c5b1
    try clear c6
    try clear c6b0
    try clear c6b1
    obtain ⟨kq, x4_1, rfl, HA, HJ1, ⟨mc1, rfl⟩⟩ := hcut
    cases kq with
    | zero => exact absurd HA.out (by simp [textin_asks.j0])
    | succ kj1 =>
      have H := HA.out
      clear HA
      simp only [textin_asks.j0] at H
      by_cases c7 : x4_1 = true
      · subst c7
        have H1 : (some 4) = some r := by rw [if_pos rfl] at H; exact H
        clear H
        have H := H1
        clear H1
        obtain rfl := Option.some.inj H
        go_wp2
        go_ret
        exact ⟨by first | rfl | (simp; done) | (simp [*]; done), by repeat (first | exact Drawn0.refl _ | apply Drawn0.step)⟩
      · replace c7 := Bool.eq_false_iff.mpr c7
        subst c7
        have H1 : (if a0.toList = ([99, 97, 115] : List UInt8) then (some 5) else (if a0.toList = ([100, 101, 108, 101, 116, 101] : List UInt8) then (some 1) else (if a0.toList = ([105, 110, 99, 114] : List UInt8) then (some 2) else (if a0.toList = ([100, 101, 99, 114] : List UInt8) then (some 2) else (if a0.toList = ([116, 111, 117, 99, 104] : List UInt8) then (some 2) else (some (-1))))))) = some r := by rw [if_neg (show ¬ (false = true) by decide)] at H; exact H
        clear H
        have H := H1
        clear H1
        by_cases c8 : a0.toList = ([99, 97, 115] : List UInt8)
        · rw [if_pos c8] at H
          have c8b0 : (a0.toList == ([99, 97, 115] : List UInt8)) = true := beq_iff_eq.mpr c8
          have c8b1 : (a0.toList != ([99, 97, 115] : List UInt8)) = false := bne_eq_false_iff_eq.mpr c8
          clear c8
          obtain rfl := Option.some.inj H
          go_wp2
          go_ret
          exact ⟨by first | rfl | (simp; done) | (simp [*]; done), by repeat (first | exact Drawn0.refl _ | apply Drawn0.step)⟩
        · rw [if_neg c8] at H
          have c8b0 : (a0.toList == ([99, 97, 115] : List UInt8)) = false := beq_eq_false_iff_ne.mpr c8
          have c8b1 : (a0.toList != ([99, 97, 115] : List UInt8)) = true := bne_iff_ne.mpr c8
          by_cases c9 : a0.toList = ([100, 101, 108, 101, 116, 101] : List UInt8)
          · rw [if_pos c9] at H
            have c9b0 : (a0.toList == ([100, 101, 108, 101, 116, 101] : List UInt8)) = true := beq_iff_eq.mpr c9
            have c9b1 : (a0.toList != ([100, 101, 108, 101, 116, 101] : List UInt8)) = false := bne_eq_false_iff_eq.mpr c9
            clear c9
            obtain rfl := Option.some.inj H
            go_wp2
            go_ret
            exact ⟨by first | rfl | (simp; done) | (simp [*]; done), by repeat (first | exact Drawn0.refl _ | apply Drawn0.step)⟩
          · rw [if_neg c9] at H
            have c9b0 : (a0.toList == ([100, 101, 108, 101, 116, 101] : List UInt8)) = false := beq_eq_false_iff_ne.mpr c9
            have c9b1 : (a0.toList != ([100, 101, 108, 101, 116, 101] : List UInt8)) = true := bne_iff_ne.mpr c9
            by_cases c10 : a0.toList = ([105, 110, 99, 114] : List UInt8)
            · rw [if_pos c10] at H
              have c10b0 : (a0.toList == ([105, 110, 99, 114] : List UInt8)) = true := beq_iff_eq.mpr c10
              have c10b1 : (a0.toList != ([105, 110, 99, 114] : List UInt8)) = false := bne_eq_false_iff_eq.mpr c10
              clear c10
              obtain rfl := Option.some.inj H
              go_wp2
              go_ret
              exact ⟨by first | rfl | (simp; done) | (simp [*]; done), by repeat (first | exact Drawn0.refl _ | apply Drawn0.step)⟩
            · rw [if_neg c10] at H
              have c10b0 : (a0.toList == ([105, 110, 99, 114] : List UInt8)) = false := beq_eq_false_iff_ne.mpr c10
              have c10b1 : (a0.toList != ([105, 110, 99, 114] : List UInt8)) = true := bne_iff_ne.mpr c10
              by_cases c11 : a0.toList = ([100, 101, 99, 114] : List UInt8)
              · rw [if_pos c11] at H
                have c11b0 : (a0.toList == ([100, 101, 99, 114] : List UInt8)) = true := beq_iff_eq.mpr c11
                have c11b1 : (a0.toList != ([100, 101, 99, 114] : List UInt8)) = false := bne_eq_false_iff_eq.mpr c11
                clear c11
                obtain rfl := Option.some.inj H
                go_wp2
                go_ret
                exact ⟨by first | rfl | (simp; done) | (simp [*]; done), by repeat (first | exact Drawn0.refl _ | apply Drawn0.step)⟩
              · rw [if_neg c11] at H
                have c11b0 : (a0.toList == ([100, 101, 99, 114] : List UInt8)) = false := beq_eq_false_iff_ne.mpr c11
                have c11b1 : (a0.toList != ([100, 101, 99, 114] : List UInt8)) = true := bne_iff_ne.mpr c11
                by_cases c12 : a0.toList = ([116, 111, 117, 99, 104] : List UInt8)
                · rw [if_pos c12] at H
                  have c12b0 : (a0.toList == ([116, 111, 117, 99, 104] : List UInt8)) = true := beq_iff_eq.mpr c12
                  have c12b1 : (a0.toList != ([116, 111, 117, 99, 104] : List UInt8)) = false := bne_eq_false_iff_eq.mpr c12
                  clear c12
                  obtain rfl := Option.some.inj H
                  go_wp2
                  go_ret
                  exact ⟨by first | rfl | (simp; done) | (simp [*]; done), by repeat (first | exact Drawn0.refl _ | apply Drawn0.step)⟩
                · rw [if_neg c12] at H
                  have c12b0 : (a0.toList == ([116, 111, 117, 99, 104] : List UInt8)) = false := beq_eq_false_iff_ne.mpr c12
                  have c12b1 : (a0.toList != ([116, 111, 117, 99, 104] : List UInt8)) = true := bne_iff_ne.mpr c12
                  obtain rfl := Option.some.inj H
                  go_wp2
                  go_ret
                  exact ⟨by first | rfl | (simp; done) | (simp [*]; done), by repeat (first | exact Drawn0.refl _ | apply Drawn0.step)⟩

-- NOT PRINTED: function 52 (textin_line_hush)

/-! ### butteryref14_many -/
def butteryref14_many.j0 : Nat → ByteArray → Bool → Option (Int)
  | 0, _, _ => none
  | k + 1, x3, x4 => if x4 = true then (some 5) else (if x3.toList = ([99, 97, 115] : List UInt8) then (some 6) else (if x3.toList = ([100, 101, 108, 101, 116, 101] : List UInt8) then (some 2) else (if x3.toList = ([105, 110, 99, 114] : List UInt8) then (some 3) else (if x3.toList = ([100, 101, 99, 114] : List UInt8) then (some 3) else (if x3.toList = ([116, 111, 117, 99, 104] : List UInt8) then (some 3) else (some 0))))))
def butteryref14_many.f (k : Nat) (a0 : ByteArray) : Option (Int) := if a0.toList = ([115, 101, 116] : List UInt8) then (butteryref14_many.j0 k a0 (a0.toList == ([115, 101, 116] : List UInt8))) else (if a0.toList = ([97, 100, 100] : List UInt8) then (butteryref14_many.j0 k a0 (a0.toList == ([97, 100, 100] : List UInt8))) else (if a0.toList = ([114, 101, 112, 108, 97, 99, 101] : List UInt8) then (butteryref14_many.j0 k a0 (a0.toList == ([114, 101, 112, 108, 97, 99, 101] : List UInt8))) else (if a0.toList = ([97, 112, 112, 101, 110, 100] : List UInt8) then (butteryref14_many.j0 k a0 (a0.toList == ([97, 112, 112, 101, 110, 100] : List UInt8))) else (butteryref14_many.j0 k a0 (a0.toList == ([112, 114, 101, 112, 101, 110, 100] : List UInt8))))))
theorem butteryref14_many.mono_l : ∀ k, (∀ y0 y1, LeO (butteryref14_many.j0 k y0 y1) (butteryref14_many.j0 (k + 1) y0 y1))
  | 0 => fun _ _ r h => by simp [butteryref14_many.j0] at h
  | k + 1 => by
    have ih0 := butteryref14_many.mono_l k
    · intro y0 y1
      unfold butteryref14_many.j0
      repeat' first
      | (with_reducible exact ih0 _ _)
      | (with_reducible exact LeO.refl _)
      | (with_reducible exact LeO.none _)
      | (with_reducible refine LeO.ite ?_ ?_)
      | (with_reducible refine LeO.bind ?_ (fun _ => ?_))
      | exact ih0 _ _
      | exact LeO.none _
      | refine LeO.ite ?_ ?_
      | refine LeO.bind ?_ (fun _ => ?_)
theorem butteryref14_many.mono : ∀ a0 k, LeO (butteryref14_many.f k a0) (butteryref14_many.f (k + 1) a0) := by
  intro a0 k
  have ih0 := butteryref14_many.mono_l k
  unfold butteryref14_many.f
  repeat' first
      | (with_reducible exact ih0 _ _)
      | (with_reducible exact LeO.refl _)
      | (with_reducible exact LeO.none _)
      | (with_reducible refine LeO.ite ?_ ?_)
      | (with_reducible refine LeO.bind ?_ (fun _ => ?_))
      | exact ih0 _ _
      | exact LeO.none _
      | refine LeO.ite ?_ ?_
      | refine LeO.bind ?_ (fun _ => ?_)
set_option maxHeartbeats 8000000 in
set_option maxRecDepth 100000 in
theorem butteryref14_many.calls (k : Nat) (a0 : ByteArray) (r : Int) (w : World) (h : butteryref14_many.f k a0 = some r) :
    Calls Tryz.prog 68 #[.string a0] w fun e w' => e = .returned (.int .i64 r) ∧ Drawn0 w w' := by
  have H : (if a0.toList = ([115, 101, 116] : List UInt8) then (butteryref14_many.j0 k a0 (a0.toList == ([115, 101, 116] : List UInt8))) else (if a0.toList = ([97, 100, 100] : List UInt8) then (butteryref14_many.j0 k a0 (a0.toList == ([97, 100, 100] : List UInt8))) else (if a0.toList = ([114, 101, 112, 108, 97, 99, 101] : List UInt8) then (butteryref14_many.j0 k a0 (a0.toList == ([114, 101, 112, 108, 97, 99, 101] : List UInt8))) else (if a0.toList = ([97, 112, 112, 101, 110, 100] : List UInt8) then (butteryref14_many.j0 k a0 (a0.toList == ([97, 112, 112, 101, 110, 100] : List UInt8))) else (butteryref14_many.j0 k a0 (a0.toList == ([112, 114, 101, 112, 101, 110, 100] : List UInt8))))))) = some r := h
  clear h
  have HC2 := Aside0.mk H
  clear H
  go_enter Tryz.func68, Tryz.ntmps68
  go_upto_if 4 with (fail)
  go_cut [4] (fun v4 wc => ∃ (kq : Nat) (x4_1 : Bool), v4 = .bool x4_1 ∧ Aside0 (butteryref14_many.j0 kq a0 x4_1 = some r) ∧ Aside0 (kq ≤ k) ∧ Drawn0 w wc)
  case first =>
    have H := HC2.out
    clear HC2
    by_cases c3 : a0.toList = ([115, 101, 116] : List UInt8)
    · rw [if_pos c3] at H
      have c3b0 : (a0.toList == ([115, 101, 116] : List UInt8)) = true := beq_iff_eq.mpr c3
      have c3b1 : (a0.toList != ([115, 101, 116] : List UInt8)) = false := bne_eq_false_iff_eq.mpr c3
      clear c3
      (first | rw [c3b0] | (simp only [i64_w, i32_w]; rw [c3b0]) | skip)
      have H' := Aside0.mk H
      clear H
      go_wp2
      go_meet
      case rel => exact ⟨_, ((a0.toList == ([115, 101, 116] : List UInt8))), (by first | rfl | (simp; done) | (simp [*]; done)), H', ⟨by first | omega | exact Nat.le_refl _⟩, by repeat (first | exact Drawn0.refl _ | apply Drawn0.step)⟩
    · rw [if_neg c3] at H
      have c3b0 : (a0.toList == ([115, 101, 116] : List UInt8)) = false := beq_eq_false_iff_ne.mpr c3
      have c3b1 : (a0.toList != ([115, 101, 116] : List UInt8)) = true := bne_iff_ne.mpr c3
      (first | rw [c3b0] | (simp only [i64_w, i32_w]; rw [c3b0]) | skip)
      by_cases c4 : a0.toList = ([97, 100, 100] : List UInt8)
      · rw [if_pos c4] at H
        have c4b0 : (a0.toList == ([97, 100, 100] : List UInt8)) = true := beq_iff_eq.mpr c4
        have c4b1 : (a0.toList != ([97, 100, 100] : List UInt8)) = false := bne_eq_false_iff_eq.mpr c4
        clear c4
        have H' := Aside0.mk H
        clear H
        go_wp2
        go_meet
        case rel => exact ⟨_, ((a0.toList == ([97, 100, 100] : List UInt8))), (by first | rfl | (simp; done) | (simp [*]; done)), H', ⟨by first | omega | exact Nat.le_refl _⟩, by repeat (first | exact Drawn0.refl _ | apply Drawn0.step)⟩
      · rw [if_neg c4] at H
        have c4b0 : (a0.toList == ([97, 100, 100] : List UInt8)) = false := beq_eq_false_iff_ne.mpr c4
        have c4b1 : (a0.toList != ([97, 100, 100] : List UInt8)) = true := bne_iff_ne.mpr c4
        by_cases c5 : a0.toList = ([114, 101, 112, 108, 97, 99, 101] : List UInt8)
        · rw [if_pos c5] at H
          have c5b0 : (a0.toList == ([114, 101, 112, 108, 97, 99, 101] : List UInt8)) = true := beq_iff_eq.mpr c5
          have c5b1 : (a0.toList != ([114, 101, 112, 108, 97, 99, 101] : List UInt8)) = false := bne_eq_false_iff_eq.mpr c5
          clear c5
          have H' := Aside0.mk H
          clear H
          go_wp2
          go_meet
          case rel => exact ⟨_, ((a0.toList == ([114, 101, 112, 108, 97, 99, 101] : List UInt8))), (by first | rfl | (simp; done) | (simp [*]; done)), H', ⟨by first | omega | exact Nat.le_refl _⟩, by repeat (first | exact Drawn0.refl _ | apply Drawn0.step)⟩
        · rw [if_neg c5] at H
          have c5b0 : (a0.toList == ([114, 101, 112, 108, 97, 99, 101] : List UInt8)) = false := beq_eq_false_iff_ne.mpr c5
          have c5b1 : (a0.toList != ([114, 101, 112, 108, 97, 99, 101] : List UInt8)) = true := bne_iff_ne.mpr c5
          by_cases c6 : a0.toList = ([97, 112, 112, 101, 110, 100] : List UInt8)
          · rw [if_pos c6] at H
            have c6b0 : (a0.toList == ([97, 112, 112, 101, 110, 100] : List UInt8)) = true := beq_iff_eq.mpr c6
            have c6b1 : (a0.toList != ([97, 112, 112, 101, 110, 100] : List UInt8)) = false := bne_eq_false_iff_eq.mpr c6
            clear c6
            have H' := Aside0.mk H
            clear H
            go_wp2
            go_meet
            case rel => exact ⟨_, ((a0.toList == ([97, 112, 112, 101, 110, 100] : List UInt8))), (by first | rfl | (simp; done) | (simp [*]; done)), H', ⟨by first | omega | exact Nat.le_refl _⟩, by repeat (first | exact Drawn0.refl _ | apply Drawn0.step)⟩
          · rw [if_neg c6] at H
            have c6b0 : (a0.toList == ([97, 112, 112, 101, 110, 100] : List UInt8)) = false := beq_eq_false_iff_ne.mpr c6
            have c6b1 : (a0.toList != ([97, 112, 112, 101, 110, 100] : List UInt8)) = true := bne_iff_ne.mpr c6
            have H' := Aside0.mk H
            clear H
            go_wp2
            go_meet
            case rel => exact ⟨_, ((a0.toList == ([112, 114, 101, 112, 101, 110, 100] : List UInt8))), (by first | rfl | (simp; done) | (simp [*]; done)), H', ⟨by first | omega | exact Nat.le_refl _⟩, by repeat (first | exact Drawn0.refl _ | apply Drawn0.step)⟩
  case rest =>
    clear HC2
    try clear p2
    try clear c3
    try clear c3b0
    try clear c3b1
    try clear c4
    try clear c4b0
    try clear c4b1
    try clear c5
    try clear c5b0
    try clear c5b1
    try clear c6
    try clear c6b0
    try clear c6b1
    obtain ⟨kq, x4_1, rfl, HA, HJ1, ⟨mc1, rfl⟩⟩ := hcut
    cases kq with
    | zero => exact absurd HA.out (by simp [butteryref14_many.j0])
    | succ kj1 =>
      have H := HA.out
      clear HA
      simp only [butteryref14_many.j0] at H
      by_cases c7 : x4_1 = true
      · subst c7
        have H1 : (some 5) = some r := by rw [if_pos rfl] at H; exact H
        clear H
        have H := H1
        clear H1
        obtain rfl := Option.some.inj H
        go_wp2
        go_ret
        exact ⟨by first | rfl | (simp; done) | (simp [*]; done), by repeat (first | exact Drawn0.refl _ | apply Drawn0.step)⟩
      · replace c7 := Bool.eq_false_iff.mpr c7
        subst c7
        have H1 : (if a0.toList = ([99, 97, 115] : List UInt8) then (some 6) else (if a0.toList = ([100, 101, 108, 101, 116, 101] : List UInt8) then (some 2) else (if a0.toList = ([105, 110, 99, 114] : List UInt8) then (some 3) else (if a0.toList = ([100, 101, 99, 114] : List UInt8) then (some 3) else (if a0.toList = ([116, 111, 117, 99, 104] : List UInt8) then (some 3) else (some 0)))))) = some r := by rw [if_neg (show ¬ (false = true) by decide)] at H; exact H
        clear H
        have H := H1
        clear H1
        by_cases c8 : a0.toList = ([99, 97, 115] : List UInt8)
        · rw [if_pos c8] at H
          have c8b0 : (a0.toList == ([99, 97, 115] : List UInt8)) = true := beq_iff_eq.mpr c8
          have c8b1 : (a0.toList != ([99, 97, 115] : List UInt8)) = false := bne_eq_false_iff_eq.mpr c8
          clear c8
          obtain rfl := Option.some.inj H
          go_wp2
          go_ret
          exact ⟨by first | rfl | (simp; done) | (simp [*]; done), by repeat (first | exact Drawn0.refl _ | apply Drawn0.step)⟩
        · rw [if_neg c8] at H
          have c8b0 : (a0.toList == ([99, 97, 115] : List UInt8)) = false := beq_eq_false_iff_ne.mpr c8
          have c8b1 : (a0.toList != ([99, 97, 115] : List UInt8)) = true := bne_iff_ne.mpr c8
          by_cases c9 : a0.toList = ([100, 101, 108, 101, 116, 101] : List UInt8)
          · rw [if_pos c9] at H
            have c9b0 : (a0.toList == ([100, 101, 108, 101, 116, 101] : List UInt8)) = true := beq_iff_eq.mpr c9
            have c9b1 : (a0.toList != ([100, 101, 108, 101, 116, 101] : List UInt8)) = false := bne_eq_false_iff_eq.mpr c9
            clear c9
            obtain rfl := Option.some.inj H
            go_wp2
            go_ret
            exact ⟨by first | rfl | (simp; done) | (simp [*]; done), by repeat (first | exact Drawn0.refl _ | apply Drawn0.step)⟩
          · rw [if_neg c9] at H
            have c9b0 : (a0.toList == ([100, 101, 108, 101, 116, 101] : List UInt8)) = false := beq_eq_false_iff_ne.mpr c9
            have c9b1 : (a0.toList != ([100, 101, 108, 101, 116, 101] : List UInt8)) = true := bne_iff_ne.mpr c9
            by_cases c10 : a0.toList = ([105, 110, 99, 114] : List UInt8)
            · rw [if_pos c10] at H
              have c10b0 : (a0.toList == ([105, 110, 99, 114] : List UInt8)) = true := beq_iff_eq.mpr c10
              have c10b1 : (a0.toList != ([105, 110, 99, 114] : List UInt8)) = false := bne_eq_false_iff_eq.mpr c10
              clear c10
              obtain rfl := Option.some.inj H
              go_wp2
              go_ret
              exact ⟨by first | rfl | (simp; done) | (simp [*]; done), by repeat (first | exact Drawn0.refl _ | apply Drawn0.step)⟩
            · rw [if_neg c10] at H
              have c10b0 : (a0.toList == ([105, 110, 99, 114] : List UInt8)) = false := beq_eq_false_iff_ne.mpr c10
              have c10b1 : (a0.toList != ([105, 110, 99, 114] : List UInt8)) = true := bne_iff_ne.mpr c10
              by_cases c11 : a0.toList = ([100, 101, 99, 114] : List UInt8)
              · rw [if_pos c11] at H
                have c11b0 : (a0.toList == ([100, 101, 99, 114] : List UInt8)) = true := beq_iff_eq.mpr c11
                have c11b1 : (a0.toList != ([100, 101, 99, 114] : List UInt8)) = false := bne_eq_false_iff_eq.mpr c11
                clear c11
                obtain rfl := Option.some.inj H
                go_wp2
                go_ret
                exact ⟨by first | rfl | (simp; done) | (simp [*]; done), by repeat (first | exact Drawn0.refl _ | apply Drawn0.step)⟩
              · rw [if_neg c11] at H
                have c11b0 : (a0.toList == ([100, 101, 99, 114] : List UInt8)) = false := beq_eq_false_iff_ne.mpr c11
                have c11b1 : (a0.toList != ([100, 101, 99, 114] : List UInt8)) = true := bne_iff_ne.mpr c11
                by_cases c12 : a0.toList = ([116, 111, 117, 99, 104] : List UInt8)
                · rw [if_pos c12] at H
                  have c12b0 : (a0.toList == ([116, 111, 117, 99, 104] : List UInt8)) = true := beq_iff_eq.mpr c12
                  have c12b1 : (a0.toList != ([116, 111, 117, 99, 104] : List UInt8)) = false := bne_eq_false_iff_eq.mpr c12
                  clear c12
                  obtain rfl := Option.some.inj H
                  go_wp2
                  go_ret
                  exact ⟨by first | rfl | (simp; done) | (simp [*]; done), by repeat (first | exact Drawn0.refl _ | apply Drawn0.step)⟩
                · rw [if_neg c12] at H
                  have c12b0 : (a0.toList == ([116, 111, 117, 99, 104] : List UInt8)) = false := beq_eq_false_iff_ne.mpr c12
                  have c12b1 : (a0.toList != ([116, 111, 117, 99, 104] : List UInt8)) = true := bne_iff_ne.mpr c12
                  obtain rfl := Option.some.inj H
                  go_wp2
                  go_ret
                  exact ⟨by first | rfl | (simp; done) | (simp [*]; done), by repeat (first | exact Drawn0.refl _ | apply Drawn0.step)⟩

/-! ### butteryref14_op -/
def butteryref14_op.l0 : Nat → ByteArray → List ByteArray → List Int → Int → Option (Int)
  | 0, _, _, _, _ => none
  | k + 1, x0, x3, x4, x5 => if x5 < 6 then (if 0 ≤ x5 then (if x5 < (x3.length : Int) then (if (rdOf ByteArray.empty x3 x5).toList = x0.toList then (if x5 < (x4.length : Int) then (some (rd x4 x5)) else (none)) else (butteryref14_op.l0 k x0 x3 x4 (wrap64 (x5 + 1)))) else (none)) else (none)) else (some (-1))
def butteryref14_op.f (k : Nat) (a0 : ByteArray) : Option (Int) := butteryref14_op.l0 k a0 (([(⟨#[115, 101, 116]⟩ : ByteArray), (⟨#[97, 100, 100]⟩ : ByteArray), (⟨#[114, 101, 112, 108, 97, 99, 101]⟩ : ByteArray), (⟨#[97, 112, 112, 101, 110, 100]⟩ : ByteArray), (⟨#[112, 114, 101, 112, 101, 110, 100]⟩ : ByteArray), (⟨#[99, 97, 115]⟩ : ByteArray)] : List ByteArray)) (([3, 4, 5, 6, 7, 3] : List Int)) 0
theorem butteryref14_op.mono_l : ∀ k, (∀ y0 y1 y2 y3, LeO (butteryref14_op.l0 k y0 y1 y2 y3) (butteryref14_op.l0 (k + 1) y0 y1 y2 y3))
  | 0 => fun _ _ _ _ r h => by simp [butteryref14_op.l0] at h
  | k + 1 => by
    have ih0 := butteryref14_op.mono_l k
    · intro y0 y1 y2 y3
      unfold butteryref14_op.l0
      repeat' first
      | (with_reducible exact ih0 _ _ _ _)
      | (with_reducible exact LeO.refl _)
      | (with_reducible exact LeO.none _)
      | (with_reducible refine LeO.ite ?_ ?_)
      | (with_reducible refine LeO.bind ?_ (fun _ => ?_))
      | exact ih0 _ _ _ _
      | exact LeO.none _
      | refine LeO.ite ?_ ?_
      | refine LeO.bind ?_ (fun _ => ?_)
theorem butteryref14_op.mono : ∀ a0 k, LeO (butteryref14_op.f k a0) (butteryref14_op.f (k + 1) a0) := by
  intro a0 k
  have ih0 := butteryref14_op.mono_l k
  unfold butteryref14_op.f
  repeat' first
      | (with_reducible exact ih0 _ _ _ _)
      | (with_reducible exact LeO.refl _)
      | (with_reducible exact LeO.none _)
      | (with_reducible refine LeO.ite ?_ ?_)
      | (with_reducible refine LeO.bind ?_ (fun _ => ?_))
      | exact ih0 _ _ _ _
      | exact LeO.none _
      | refine LeO.ite ?_ ?_
      | refine LeO.bind ?_ (fun _ => ?_)
set_option maxHeartbeats 8000000 in
set_option maxRecDepth 100000 in
theorem butteryref14_op.calls (k : Nat) (a0 : ByteArray) (r : Int) (w : World) (h : butteryref14_op.f k a0 = some r) :
    Calls Tryz.prog 69 #[.string a0] w fun e w' => e = .returned (.int .i64 r) ∧ Below w.heap.size w w' := by
  have HB := Aside0.mk (Below.refl w.heap.size w)
  have H : (butteryref14_op.l0 k a0 (([(⟨#[115, 101, 116]⟩ : ByteArray), (⟨#[97, 100, 100]⟩ : ByteArray), (⟨#[114, 101, 112, 108, 97, 99, 101]⟩ : ByteArray), (⟨#[97, 112, 112, 101, 110, 100]⟩ : ByteArray), (⟨#[112, 114, 101, 112, 101, 110, 100]⟩ : ByteArray), (⟨#[99, 97, 115]⟩ : ByteArray)] : List ByteArray)) (([3, 4, 5, 6, 7, 3] : List Int)) 0) = some r := h
  clear h
  obtain ⟨y1009, hy1009⟩ : ∃ y_ : List ByteArray, y_ = (([(⟨#[115, 101, 116]⟩ : ByteArray), (⟨#[97, 100, 100]⟩ : ByteArray), (⟨#[114, 101, 112, 108, 97, 99, 101]⟩ : ByteArray), (⟨#[97, 112, 112, 101, 110, 100]⟩ : ByteArray), (⟨#[112, 114, 101, 112, 101, 110, 100]⟩ : ByteArray), (⟨#[99, 97, 115]⟩ : ByteArray)] : List ByteArray)) := ⟨_, rfl⟩
  replace H : (butteryref14_op.l0 k a0 y1009 (([3, 4, 5, 6, 7, 3] : List Int)) 0) = some r := by first | (rw [hy1009]; with_reducible exact H) | (have H2_ := (Option.bind_some _ _).symm.trans H; rw [hy1009]; with_reducible exact H2_) | (have H2_ := (Option.bind_some _ _).symm.trans H; with_reducible exact H2_) | with_reducible exact H | (rw [hy1009]; exact H) | exact H
  have Ny1009 := Aside0.mk hy1009
  clear hy1009
  obtain ⟨y1012, hy1012⟩ : ∃ y_ : List Int, y_ = (([3, 4, 5, 6, 7, 3] : List Int)) := ⟨_, rfl⟩
  replace H : (butteryref14_op.l0 k a0 y1009 y1012 0) = some r := by first | (rw [hy1012]; with_reducible exact H) | (have H2_ := (Option.bind_some _ _).symm.trans H; rw [hy1012]; with_reducible exact H2_) | (have H2_ := (Option.bind_some _ _).symm.trans H; with_reducible exact H2_) | with_reducible exact H | (rw [hy1012]; exact H) | exact H
  have Ny1012 := Aside0.mk hy1012
  clear hy1012
  have H' := Aside0.mk H
  clear H
  go_enter Tryz.func69, Tryz.ntmps69
  go_wp2_with (first | ((with_reducible refine gate_dst (N := 6) rfl ?_); refine Kd.R_lit Kd.string _ 9 ?hg (N := 6) ?hd (xs := ([(⟨#[115, 101, 116]⟩ : ByteArray), (⟨#[97, 100, 100]⟩ : ByteArray), (⟨#[114, 101, 112, 108, 97, 99, 101]⟩ : ByteArray), (⟨#[97, 112, 112, 101, 110, 100]⟩ : ByteArray), (⟨#[112, 114, 101, 112, 101, 110, 100]⟩ : ByteArray), (⟨#[99, 97, 115]⟩ : ByteArray)] : List ByteArray)) (inner := [.string (⟨#[115, 101, 116]⟩ : ByteArray), .string (⟨#[97, 100, 100]⟩ : ByteArray), .string (⟨#[114, 101, 112, 108, 97, 99, 101]⟩ : ByteArray), .string (⟨#[97, 112, 112, 101, 110, 100]⟩ : ByteArray), .string (⟨#[112, 114, 101, 112, 101, 110, 100]⟩ : ByteArray), .string (⟨#[99, 97, 115]⟩ : ByteArray)]) (ok := fun _ => True) (okp := fun _ => True) ?hr ?hp (fun _ hk => hk) trivial (Below.refl _ _) (Nat.le_refl _) (by simp) ?_; (case hd => rfl); (case hg => rfl); (case hr => first | (go_simp; done) | (go_simp; rfl)); (case hp => exact (Reps.one (show Kd.M Kd.string _ _ _ (⟨#[115, 101, 116]⟩ : ByteArray) [.string (⟨#[115, 101, 116]⟩ : ByteArray)] from rfl) (Reps.one (show Kd.M Kd.string _ _ _ (⟨#[97, 100, 100]⟩ : ByteArray) [.string (⟨#[97, 100, 100]⟩ : ByteArray)] from rfl) (Reps.one (show Kd.M Kd.string _ _ _ (⟨#[114, 101, 112, 108, 97, 99, 101]⟩ : ByteArray) [.string (⟨#[114, 101, 112, 108, 97, 99, 101]⟩ : ByteArray)] from rfl) (Reps.one (show Kd.M Kd.string _ _ _ (⟨#[97, 112, 112, 101, 110, 100]⟩ : ByteArray) [.string (⟨#[97, 112, 112, 101, 110, 100]⟩ : ByteArray)] from rfl) (Reps.one (show Kd.M Kd.string _ _ _ (⟨#[112, 114, 101, 112, 101, 110, 100]⟩ : ByteArray) [.string (⟨#[112, 114, 101, 112, 101, 110, 100]⟩ : ByteArray)] from rfl) (Reps.one (show Kd.M Kd.string _ _ _ (⟨#[99, 97, 115]⟩ : ByteArray) [.string (⟨#[99, 97, 115]⟩ : ByteArray)] from rfl) (Reps.none _ _)))))))); intro v1010 w2 ho3 hb hg_ hnew_; clear hg_ hnew_; (first | rw [← Ny1009.out] at ho3 | (simp only [Int.reduceToNat] at ho3; rw [← Ny1009.out] at ho3)); have n0_ := Aside0.mk (Kd.R_lower ho3 (below_size (by repeat (first | (with_reducible first | exact HB.out | apply below_alloc | apply pw_below_drewN | apply below_drew1) | exact HB.out)))); have n1_ := Aside0.mk (below_step (by repeat (first | (with_reducible first | exact HB.out | apply below_alloc | apply pw_below_drewN | apply below_drew1) | exact HB.out)) hb); clear HB; have HO1011 := n0_; have HB := n1_; clear n0_ n1_; clear hb ho3) | ((with_reducible refine gate_dst (N := 7) rfl ?_); refine Kd.R_lit (Kd.int .i64) _ 3 ?hg (N := 7) ?hd (xs := ([3, 4, 5, 6, 7, 3] : List Int)) (inner := [.int .i64 3, .int .i64 4, .int .i64 5, .int .i64 6, .int .i64 7, .int .i64 3]) (ok := fun _ => True) (okp := fun _ => True) ?hr ?hp (fun _ hk => hk) trivial (Below.refl _ _) (Nat.le_refl _) (by simp) ?_; (case hd => rfl); (case hg => rfl); (case hr => first | (go_simp; done) | (go_simp; rfl)); (case hp => exact (Reps.one (show Kd.M (Kd.int .i64) _ _ _ 3 [.int .i64 3] from rfl) (Reps.one (show Kd.M (Kd.int .i64) _ _ _ 4 [.int .i64 4] from rfl) (Reps.one (show Kd.M (Kd.int .i64) _ _ _ 5 [.int .i64 5] from rfl) (Reps.one (show Kd.M (Kd.int .i64) _ _ _ 6 [.int .i64 6] from rfl) (Reps.one (show Kd.M (Kd.int .i64) _ _ _ 7 [.int .i64 7] from rfl) (Reps.one (show Kd.M (Kd.int .i64) _ _ _ 3 [.int .i64 3] from rfl) (Reps.none _ _)))))))); intro v1013 w4 ho5 hb hg_ hnew_; clear hg_ hnew_; (first | rw [← Ny1012.out] at ho5 | (simp only [Int.reduceToNat] at ho5; rw [← Ny1012.out] at ho5)); have n0_ := Aside0.mk (Kd.R_below (by (with_reducible repeat (first | apply Kd.R_alloc | apply Kd.R_drewN | apply Kd.R_drew)); exact HO1011.out) hb); have n1_ := Aside0.mk (Kd.R_lower ho5 (below_size (by repeat (first | (with_reducible first | exact HB.out | apply below_alloc | apply pw_below_drewN | apply below_drew1) | exact HB.out)))); have n2_ := Aside0.mk (below_step (by repeat (first | (with_reducible first | exact HB.out | apply below_alloc | apply pw_below_drewN | apply below_drew1) | exact HB.out)) hb); clear HO1011; clear HB; have HO1011 := n0_; have HO1014 := n1_; have HB := n2_; clear n0_ n1_ n2_; clear hb ho5))
  go_loopg [5] k (fun kq v5 w' => ∃ (x5_1 : Int), v5 = .int .i64 x5_1 ∧ Aside0 (butteryref14_op.l0 kq a0 y1009 y1012 x5_1 = some r) ∧ Aside0 (kq ≤ k) ∧ Aside0 (Kd.R Kd.string 9 w' w.heap.size (fun _ => True) v1010 y1009) ∧ Aside0 (Kd.R (Kd.int .i64) 3 w' w.heap.size (fun _ => True) v1013 y1012) ∧ Aside0 (Below w.heap.size w w'))
  case atStart => exact ⟨(0), (by first | rfl | (simp; done) | (simp [*]; done)), H', ⟨Nat.le_refl _⟩, ⟨by (with_reducible repeat (first | apply Kd.R_alloc | apply Kd.R_drewN | apply Kd.R_drew)); exact HO1011.out⟩, ⟨by (with_reducible repeat (first | apply Kd.R_alloc | apply Kd.R_drewN | apply Kd.R_drew)); exact HO1014.out⟩, ⟨by repeat (first | (with_reducible first | exact HB.out | apply below_alloc | apply pw_below_drewN | apply below_drew1) | exact HB.out)⟩⟩
  case round =>
    clear H'
    try clear p2
    obtain ⟨x5_1, rfl, HA, HK1, HO_3, HO_4, HB⟩ := hrel
    cases gk with
    | zero => exact absurd HA.out (by simp [butteryref14_op.l0])
    | succ k1 =>
      have H := HA.out
      clear HA
      simp only [butteryref14_op.l0] at H
      by_cases c6 : x5_1 < 6
      · rw [if_pos c6] at H
        have c6b0 : decide (x5_1 < 6) = true := decide_eq_true c6
        clear c6
        by_cases c7 : 0 ≤ x5_1
        · rw [if_pos c7] at H
          have c7b0 : decide (0 ≤ x5_1) = true := decide_eq_true c7
          clear c7
          by_cases c8 : x5_1 < (y1009.length : Int)
          · rw [if_pos c8] at H
            have c8b0 : decide (x5_1 < (y1009.length : Int)) = true := decide_eq_true c8
            clear c8
            by_cases c9 : (rdOf ByteArray.empty y1009 x5_1).toList = a0.toList
            · rw [if_pos c9] at H
              have c9b0 : ((rdOf ByteArray.empty y1009 x5_1).toList == a0.toList) = true := beq_iff_eq.mpr c9
              have c9b1 : ((rdOf ByteArray.empty y1009 x5_1).toList != a0.toList) = false := bne_eq_false_iff_eq.mpr c9
              clear c9
              by_cases c10 : x5_1 < (y1012.length : Int)
              · rw [if_pos c10] at H
                have c10b0 : decide (x5_1 < (y1012.length : Int)) = true := decide_eq_true c10
                clear c10
                obtain rfl := Option.some.inj H
                obtain ⟨Ao11, co11, eo11⟩ := Kd.R_slice HO_3.out
                subst eo11
                have p1015 : 0 ≤ (x5_1 : Int) := of_decide_eq_true (by first | (with_reducible assumption) | assumption)
                have q1015 : x5_1 < (y1009.length : Int) := of_decide_eq_true (by first | (with_reducible assumption) | assumption)
                obtain ⟨ad1015, e1015, hx1015_0⟩ := Kd.at_string (Kd.R_reads' HO_3.out).2.2 x5_1 p1015 q1015
                cases e1015
                replace p1015 := eq_true p1015
                replace q1015 := eq_true q1015
                obtain ⟨Ao12, co12, eo12⟩ := Kd.R_slice HO_4.out
                subst eo12
                have p1016 : 0 ≤ (x5_1 : Int) := of_decide_eq_true (by first | (with_reducible assumption) | assumption)
                have q1016 : x5_1 < (y1012.length : Int) := of_decide_eq_true (by first | (with_reducible assumption) | assumption)
                obtain ⟨ad1016, e1016, hx1016_0⟩ := Kd.at_int (Kd.R_reads' HO_4.out).2.2 x5_1 p1016 q1016
                cases e1016
                replace p1016 := eq_true p1016
                replace q1016 := eq_true q1016
                go_wp2
                go_ret
                exact ⟨by first | rfl | (simp <;> rfl) | (simp [*] <;> rfl), by repeat (first | (with_reducible first | exact HB.out | apply below_alloc | apply pw_below_drewN | apply below_drew1) | exact HB.out)⟩
              · rw [if_neg c10] at H
                exact absurd H (by simp)
            · rw [if_neg c9] at H
              have c9b0 : ((rdOf ByteArray.empty y1009 x5_1).toList == a0.toList) = false := beq_eq_false_iff_ne.mpr c9
              have c9b1 : ((rdOf ByteArray.empty y1009 x5_1).toList != a0.toList) = true := bne_iff_ne.mpr c9
              have H' := Aside0.mk H
              clear H
              obtain ⟨Ao13, co13, eo13⟩ := Kd.R_slice HO_3.out
              subst eo13
              have p1015 : 0 ≤ (x5_1 : Int) := of_decide_eq_true (by first | (with_reducible assumption) | assumption)
              have q1015 : x5_1 < (y1009.length : Int) := of_decide_eq_true (by first | (with_reducible assumption) | assumption)
              obtain ⟨ad1015, e1015, hx1015_0⟩ := Kd.at_string (Kd.R_reads' HO_3.out).2.2 x5_1 p1015 q1015
              cases e1015
              replace p1015 := eq_true p1015
              replace q1015 := eq_true q1015
              go_wp2
              go_roundg k1
              case measure => have := HK1.out; omega
              case rel => exact ⟨(wrap64 (x5_1 + 1)), (by first | rfl | (simp; done) | (simp [*]; done)), H', ⟨by have := HK1.out; omega⟩, ⟨by (with_reducible repeat (first | apply Kd.R_alloc | apply Kd.R_drewN | apply Kd.R_drew)); exact HO_3.out⟩, ⟨by (with_reducible repeat (first | apply Kd.R_alloc | apply Kd.R_drewN | apply Kd.R_drew)); exact HO_4.out⟩, ⟨by repeat (first | (with_reducible first | exact HB.out | apply below_alloc | apply pw_below_drewN | apply below_drew1) | exact HB.out)⟩⟩
          · rw [if_neg c8] at H
            exact absurd H (by simp)
        · rw [if_neg c7] at H
          exact absurd H (by simp)
      · rw [if_neg c6] at H
        have c6b0 : decide (x5_1 < 6) = false := decide_eq_false c6
        clear c6
        obtain rfl := Option.some.inj H
        go_wp2
        go_ret
        exact ⟨by first | rfl | (simp <;> rfl) | (simp [*] <;> rfl), by repeat (first | (with_reducible first | exact HB.out | apply below_alloc | apply pw_below_drewN | apply below_drew1) | exact HB.out)⟩

-- NOT PRINTED: function 70 (butteryref14_stores)

-- NOT PRINTED: function 71 (butteryref14_others)

-- NOT PRINTED: function 39 (butteryref14_Parse)

-- NOT PRINTED: function 31 (butteryref20_Conn_parse)

-- NOT PRINTED: function 20 (butteryref20_Conn_Next)

-- NOT PRINTED: function 22 (butteryref20_Conn_Take)

-- NOT PRINTED: function 6 (butterylaw20_ConnDoes)

/-! ### butteryref14_Bad -/
def butteryref14_Bad.f  : Option (ByteArray) := some (⟨#[67, 76, 73, 69, 78, 84, 95, 69, 82, 82, 79, 82, 32, 98, 97, 100, 32, 99, 111, 109, 109, 97, 110, 100, 32, 108, 105, 110, 101, 32, 102, 111, 114, 109, 97, 116]⟩ : ByteArray)
set_option maxHeartbeats 8000000 in
set_option maxRecDepth 100000 in
theorem butteryref14_Bad.calls  (r : ByteArray) (w : World) (h : butteryref14_Bad.f  = some r) :
    Calls Tryz.prog 107 #[] w fun e w' => e = .returned (.string r) ∧ Drawn0 w w' := by
  have H : (some (⟨#[67, 76, 73, 69, 78, 84, 95, 69, 82, 82, 79, 82, 32, 98, 97, 100, 32, 99, 111, 109, 109, 97, 110, 100, 32, 108, 105, 110, 101, 32, 102, 111, 114, 109, 97, 116]⟩ : ByteArray)) = some r := h
  clear h
  obtain rfl := Option.some.inj H
  go_enter Tryz.func107, Tryz.ntmps107
  go_wp2
  go_ret
  exact ⟨by first | rfl | (simp; done) | (simp [*]; done), by repeat (first | exact Drawn0.refl _ | apply Drawn0.step)⟩

-- NOT PRINTED: function 66 (butteryref14_gets)

end Go.Proofs.YtdjbbncoioghfaaGreatDoor.X
namespace Go.Proofs.YtdjbbncoioghfaaGreatDoor.X
open Go.RowKit Go.Proofs.YtdjbbncoioghfaaGreatDoorW.PrintWords
set_option linter.unusedVariables false
set_option linter.unusedSimpArgs false

/-- Where the first line feed is. -/
def nlI : List Int → Option Nat
  | [] => none
  | c :: l => if c = 10 then some 0 else (nlI l).map (· + 1)
def nlZ (l : List Int) : Int := match nlI l with | none => -1 | some k => k
def B8 (l : List Int) : Prop := ∀ z ∈ l, 0 ≤ z ∧ z < 256
theorem nlI_lt : ∀ (l : List Int) (k : Nat), nlI l = some k → k < l.length ∧ l.getD k 0 = 10
  | [], k, h => by cases h
  | c :: l, k, h => by
    unfold nlI at h
    split at h
    · next hc =>
      obtain rfl := Option.some.inj h
      exact ⟨by simp, by simpa using hc⟩
    · obtain ⟨j, hj, rfl⟩ := Option.map_eq_some_iff.1 h
      obtain ⟨h1, h2⟩ := nlI_lt l j hj
      exact ⟨by simp; omega, by simpa using h2⟩
theorem nlI_none : ∀ (l : List Int), nlI l = none → ∀ z ∈ l, z ≠ 10
  | [], _ => by simp
  | c :: l, h => by
    unfold nlI at h
    split at h
    · cases h
    · next hc =>
      have := nlI_none l (by simpa using h)
      intro z hz
      rcases List.mem_cons.1 hz with rfl | hz
      · exact hc
      · exact this z hz
theorem nlI_first : ∀ (l : List Int) (k : Nat), nlI l = some k → ∀ j, j < k → l.getD j 0 ≠ 10
  | [], k, h => by cases h
  | c :: l, k, h => by
    unfold nlI at h
    split at h
    · obtain rfl := Option.some.inj h
      intro j hj; omega
    · next hc =>
      obtain ⟨m, hm, rfl⟩ := Option.map_eq_some_iff.1 h
      intro j hj
      cases j with
      | zero => simpa using hc
      | succ j => simpa using nlI_first l m hm j (by omega)
theorem idx_nl : ∀ (l : List Int), B8 l → Lib.indexByte (Lib.bytesOf l) ((10 : Int).toNat.toUInt8) = nlZ l
  | [], _ => rfl
  | c :: l, h => by
    have ih := idx_nl l (fun z hz => h z (by simp [hz]))
    have hc := h c (by simp)
    have e10 : ((10 : Int).toNat.toUInt8) = (10 : UInt8) := rfl
    rw [e10] at ih ⊢
    show Lib.indexByte ((c.toNat.toUInt8) :: Lib.bytesOf l) 10 = _
    unfold Lib.indexByte nlZ nlI
    by_cases h10 : c = 10
    · subst h10
      simp
    · have hb : (c.toNat.toUInt8 == (10 : UInt8)) = false := by
        rw [beq_eq_false_iff_ne]
        intro e
        have e2 := congrArg UInt8.toNat e
        have e3 : c.toNat.toUInt8.toNat = c.toNat := by
          show (UInt8.ofNat c.toNat).toNat = _
          rw [UInt8.toNat_ofNat']
          omega
        rw [e3] at e2
        have : (10 : UInt8).toNat = 10 := rfl
        omega
      rw [hb, if_neg h10, ih]
      unfold nlZ
      cases hn : nlI l with
      | none => simp
      | some k =>
        have : ((k : Int) == -1) = false := by rw [beq_eq_false_iff_ne]; omega
        simp [this]
/-- A line: its text, how many bytes it takes, and its error. -/
def lineS (b : List Int) : ByteArray × Int × Int :=
  match nlI b with
  | none => if b.length > 2049 then (⟨#[]⟩, b.length, 4) else (⟨#[]⟩, 0, 3)
  | some i =>
    let e := if 0 < i ∧ b.getD (i - 1) 0 = 13 then i - 1 else i
    if e > 2048 then (⟨#[]⟩, (i : Int) + 1, 4) else (strOfNums (b.take e), (i : Int) + 1, 0)
/-- A body: its bytes, how many are done, and its error. -/
def bodyS (b : List Int) (n : Int) : List Int × Int × Int :=
  if n < 0 ∨ n > 1000 then ([], 0, 2) else if (b.length : Int) < n + 2 then ([], 0, 3)
  else if b.getD n.toNat 0 = 13 ∧ b.getD (n.toNat + 1) 0 = 10 then (b.take n.toNat, n + 2, 0) else ([], n, 2)
def keyS (s : ByteArray) : Bool := decide (1 ≤ s.size) && (decide (s.size ≤ 250) && s.data.toList.all fun c => decide (32 < c.toNat) && decide (c.toNat ≠ 127))
theorem feed_l0 (l : List Int) (hl : l.length ≤ 9223372036854775806) : ∀ (d i : Nat), i + d = l.length → Ev (fun k => butteryref13_feed.l0 k l i) (match nlI (l.drop i) with | none => -1 | some k => (i : Int) + k)
  | 0, i, hd => by
    refine Ev.step (fun k => by rw [butteryref13_feed.l0]) (Ev.neg (by omega) ?_)
    rw [List.drop_eq_nil_of_le (by omega)]
    exact Ev.now _
  | d + 1, i, hd => by
    have hi : i < l.length := by omega
    have e : l.drop i = l[i] :: l.drop (i + 1) := List.drop_eq_getElem_cons hi
    have hr : rd l (i : Nat) = l[i] := by
      unfold rd
      rw [Int.toNat_natCast, List.getD_eq_getElem?_getD, List.getElem?_eq_getElem hi]
      rfl
    refine Ev.step (fun k => by rw [butteryref13_feed.l0]) (Ev.pos (by omega) (Ev.pos (by omega) ?_))
    rw [hr, e]
    unfold nlI
    by_cases h10 : l[i] = 10
    · refine Ev.pos h10 (ev_to (Ev.now _) ?_)
      rw [if_pos h10]
      simp
    · refine Ev.neg h10 ?_
      rw [if_neg h10, w64 _ (by omega) (by omega)]
      refine ev_to (feed_l0 l hl d (i + 1) (by omega)) ?_
      cases nlI (l.drop (i + 1)) with
      | none => rfl
      | some k => simp; omega
theorem feed_ev (l : List Int) (hl : l.length ≤ 9223372036854775806) : Ev (fun k => butteryref13_feed.f k l) (nlZ l) := by
  unfold butteryref13_feed.f
  refine ev_to (feed_l0 l hl l.length 0 (by omega)) ?_
  rw [List.drop_zero]
  unfold nlZ
  cases nlI l with
  | none => rfl
  | some k => simp
theorem feed_w (l : List Int) (A : Option Addr) (c : Nat) (w : World) (hC : (Kd.int .u8).C w A l.length l) (hc : l.length ≤ c) (hl : l.length ≤ 9223372036854775806) :
    Calls Tryz.prog 36 #[.slice A l.length c] w fun e w' => e = .returned (.int .i64 (nlZ l)) ∧ Below w.heap.size w w' := by
  obtain ⟨K, hK⟩ := feed_ev l hl
  exact (butteryref13_feed.calls K A c l _ w hC hc (hK K (Nat.le_refl _))).mono fun e w' ⟨he, hd⟩ => ⟨he, hd.below⟩
end Go.Proofs.YtdjbbncoioghfaaGreatDoor.X
namespace Go.Proofs.YtdjbbncoioghfaaGreatDoor.X
set_option linter.unusedVariables false
set_option linter.unusedSimpArgs false

def trimL (l : List UInt8) : List UInt8 := Lib.trimLeftB l 32
def headW (l : List UInt8) : List UInt8 := l.takeWhile (· != 32)
def tailW (l : List UInt8) : List UInt8 := l.drop ((headW l).length + 1)
theorem trimL_len (l : List UInt8) : (trimL l).length ≤ l.length := by
  unfold trimL Lib.trimLeftB
  exact (List.dropWhile_suffix _).length_le
theorem tailW_lt (l : List UInt8) (h : trimL l ≠ []) : (tailW (trimL l)).length < l.length := by
  have h1 := trimL_len l
  have h2 : 0 < (trimL l).length := List.length_pos_iff.2 h
  unfold tailW
  rw [List.length_drop]
  omega
def wordsL (l : List UInt8) : List (List UInt8) := if h : trimL l = [] then [] else headW (trimL l) :: wordsL (tailW (trimL l))
termination_by l.length
decreasing_by exact tailW_lt l h
theorem wordsL_nil (l : List UInt8) (h : trimL l = []) : wordsL l = [] := by rw [wordsL, dif_pos h]
theorem wordsL_cons (l : List UInt8) (h : trimL l ≠ []) : wordsL l = headW (trimL l) :: wordsL (tailW (trimL l)) := by rw [wordsL, dif_neg h]
def baOf (l : List UInt8) : ByteArray := ⟨l.toArray⟩
def wordsB (s : ByteArray) : List ByteArray := (wordsL s.data.toList).map baOf
theorem headW_len (l : List UInt8) : (headW l).length ≤ l.length := by
  unfold headW
  exact (List.takeWhile_sublist _).length_le
theorem idx_none (l : List UInt8) : Lib.indexByte l 32 = -1 → headW l = l ∧ tailW l = [] := by
  have key : Lib.indexByte l 32 = -1 → headW l = l := by
    induction l with
    | nil => intro _; rfl
    | cons b l ih =>
      intro h
      unfold Lib.indexByte at h
      by_cases hb : b = 32
      · simp [hb] at h
      · have hb2 : (b == 32) = false := beq_eq_false_iff_ne.2 hb
        rw [hb2] at h
        by_cases h2 : Lib.indexByte l 32 = -1
        · unfold headW at ih ⊢
          simp [hb, ih h2]
        · exfalso
          have h3 : (Lib.indexByte l 32 == -1) = false := beq_eq_false_iff_ne.2 h2
          rw [h3] at h
          have : Lib.indexByte l 32 + 1 = -1 := by simpa using h
          have hn := idx_ge l
          omega
  intro h
  refine ⟨key h, ?_⟩
  unfold tailW
  rw [key h]
  exact List.drop_eq_nil_of_le (by omega)
where
  idx_ge : ∀ l : List UInt8, -1 ≤ Lib.indexByte l 32
    | [] => by simp [Lib.indexByte]
    | b :: l => by
      have ih := idx_ge l
      unfold Lib.indexByte
      split
      · omega
      · split <;> omega
theorem idx_some (l : List UInt8) : Lib.indexByte l 32 ≠ -1 → Lib.indexByte l 32 = ((headW l).length : Int) ∧ (headW l).length < l.length := by
  induction l with
  | nil => intro h; exact absurd rfl h
  | cons b l ih =>
    intro h
    unfold Lib.indexByte at h ⊢
    by_cases hb : b = 32
    · have hb2 : (b == 32) = true := beq_iff_eq.2 hb
      rw [if_pos hb2]
      unfold headW
      simp [hb]
    · have hb2 : (b == 32) = false := beq_eq_false_iff_ne.2 hb
      rw [hb2] at h ⊢
      by_cases h2 : Lib.indexByte l 32 = -1
      · simp [h2] at h
      · have h3 : (Lib.indexByte l 32 == -1) = false := beq_eq_false_iff_ne.2 h2
        rw [h3]
        obtain ⟨e1, e2⟩ := ih h2
        unfold headW at e1 e2 ⊢
        simp [hb, e1]
        omega
theorem headW_take (l : List UInt8) : l.take (headW l).length = headW l := by
  unfold headW
  have := List.takeWhile_append_dropWhile (p := (· != (32 : UInt8))) (l := l)
  conv => lhs; arg 2; rw [← this]
  rw [List.take_left' rfl]
end Go.Proofs.YtdjbbncoioghfaaGreatDoor.X
namespace Go.Proofs.YtdjbbncoioghfaaGreatDoor.X
open Go.RowKit Go.Proofs.YtdjbbncoioghfaaGreatDoorW.PrintWords
set_option linter.unusedVariables false
set_option linter.unusedSimpArgs false

theorem ext_pre (s : ByteArray) (k : Nat) : s.extract 0 k = baOf (s.data.toList.take k) := by
  obtain ⟨⟨l⟩⟩ := s
  apply ByteArray.ext
  simp [ByteArray.data_extract, baOf]
theorem ext_suf (s : ByteArray) (k : Nat) : s.extract k s.size = baOf (s.data.toList.drop k) := by
  obtain ⟨⟨l⟩⟩ := s
  apply ByteArray.ext
  have e2 : (⟨⟨l⟩⟩ : ByteArray).size = l.length := by simp [ByteArray.size]
  simp [ByteArray.data_extract, baOf, e2]
  rw [List.take_of_length_le (by simp)]
set_option maxRecDepth 100000 in
set_option maxHeartbeats 1000000 in
theorem lcut_calls (s : ByteArray) (w : World) (hs : s.size ≤ 9223372036854775807) : Calls Tryz.prog 124 #[.string s, .string ⟨#[32]⟩] w fun e w' => (∃ b, e = .returned (.tuple #[.string (baOf (headW s.data.toList)), .string (baOf (tailW s.data.toList)), .bool b])) ∧ Drawn0 w w' := by
  by_cases h : Lib.indexByte s.data.toList 32 = -1
  · obtain ⟨e1, e2⟩ := idx_none _ h
    have e3 : baOf s.data.toList = s := rfl
    rw [e1, e2, e3]
    have H := Aside0.mk h
    clear h e1 e2 e3
    go_enter Tryz.func124, Tryz.ntmps124
    go_wp2_with (go_at_call 150; (with_reducible refine (Tryz.stringslite_Index_one s 32 _).mono ?_); rintro e w' ⟨rfl, rfl⟩; rw [H.out])
    go_ret3
    exact ⟨⟨_, rfl⟩, Drawn0.refl _⟩
  · obtain ⟨h1, h2⟩ := idx_some _ h
    obtain ⟨k, hk⟩ : ∃ k, (headW s.data.toList).length = k := ⟨_, rfl⟩
    rw [hk] at h1 h2
    have hlt : k < s.size := by have : s.data.toList.length = s.size := rfl; omega
    have e1 : baOf (headW s.data.toList) = s.extract 0 k := by rw [← headW_take, hk]; exact (ext_pre s k).symm
    have e2 : baOf (tailW s.data.toList) = s.extract (k + 1) s.size := by unfold tailW; rw [hk]; exact (ext_suf s (k + 1)).symm
    rw [e1, e2]
    have H1 := Aside0.mk h1
    clear h h1 e1 e2 hk h2
    go_enter Tryz.func124, Tryz.ntmps124
    go_upto_region 3 with (go_at_call 150; (with_reducible refine (Tryz.stringslite_Index_one s 32 _).mono ?_); rintro e w' ⟨rfl, rfl⟩; rw [H1.out])
    have hw1 : IntKind.i64.wrap ((k : Int) + 1) = (k : Int) + 1 := IntWalk.i64_in _ (by omega)
    have hp1 : (0 : Int) ≤ (k : Int) + 1 := by omega
    have hn1 : ((k : Int) + 1).toNat = k + 1 := by omega
    have hk1 : (k : Int) + 1 ≤ s.size := by omega
    have hk2 : (k : Int) ≤ s.size := by omega
    go_quiet (fail)
    go_wp2
    go_ret3
    exact ⟨⟨_, rfl⟩, ⟨⟨_, rfl⟩⟩⟩
set_option maxRecDepth 100000 in
theorem cut_calls (s : ByteArray) (w : World) (hs : s.size ≤ 9223372036854775807) : Calls Tryz.prog 83 #[.string s, .string ⟨#[32]⟩] w fun e w' => (∃ b, e = .returned (.tuple #[.string (baOf (headW s.data.toList)), .string (baOf (tailW s.data.toList)), .bool b])) ∧ Drawn0 w w' := by
  go_enter Tryz.func83, Tryz.ntmps83
  go_wp2_with (go_at_call 124; (with_reducible refine (lcut_calls s _ hs).mono ?_); rintro e w' ⟨⟨b, rfl⟩, ⟨nd, rfl⟩⟩)
  go_ret3
  exact ⟨⟨b, rfl⟩, ⟨⟨_, rfl⟩⟩⟩
end Go.Proofs.YtdjbbncoioghfaaGreatDoor.X
namespace Go.Proofs.YtdjbbncoioghfaaGreatDoor.X
open Go.RowKit Go.Proofs.YtdjbbncoioghfaaGreatDoorW.PrintWords Go.Proofs.YtdjbbncoioghfaaGreatDoorW.PrintMore
set_option linter.unusedVariables false
set_option linter.unusedSimpArgs false

theorem C_cell {W : World} {A : Option Addr} {l : List Int} (h : (Kd.int .u8).C W A l.length l) (i : Nat) (hi : i < l.length) : ∃ b o, A = some ⟨b, o, none⟩ ∧ b < W.heap.size ∧ W.cell? ⟨b, o + i, none⟩ = some (.int .u8 (l.getD i 0)) := by
  obtain ⟨ad, rfl, hc⟩ := h.2.2 (by omega)
  obtain ⟨cs, hlen, hK, hcell⟩ := hc 0 _ (List.getElem?_eq_getElem (show 0 < l.length by omega))
  have h0 := hcell 0 _ (List.getElem?_eq_getElem (show 0 < cs.length by rw [hlen]; decide))
  rw [Nat.zero_mul, Nat.zero_add, Addr.add_zero'] at h0
  obtain ⟨b, o, rfl, hb⟩ := addr_plain h0
  obtain ⟨cs2, hlen2, hK2, hcell2⟩ := hc i _ (List.getElem?_eq_getElem hi)
  obtain rfl : cs2 = [Value.int .u8 l[i]] := hK2
  have h1 := hcell2 0 _ rfl
  refine ⟨b, o, rfl, hb, ?_⟩
  have e : (⟨b, o, none⟩ : Addr).add (i * (Kd.int .u8).sz + 0) = ⟨b, o + i, none⟩ := by
    rw [show i * (Kd.int .u8).sz + 0 = i from by show i * 1 + 0 = i; omega]
    unfold Addr.add
    split <;> simp_all
  rw [e] at h1
  rw [h1, List.getD_eq_getElem?_getD, List.getElem?_eq_getElem hi]
  rfl
def RL (w : World) (r : ByteArray × Int × Int) (e : Ending) (w' : World) : Prop := e = .returned (.tuple #[.string r.1, .int .i64 r.2.1, .int .i64 r.2.2]) ∧ Below w.heap.size w w'
set_option maxRecDepth 100000 in
set_option maxHeartbeats 2000000 in
theorem rline_calls (l : List Int) (A : Option Addr) (c : Nat) (w : World) (hC : (Kd.int .u8).C w A l.length l) (hc : l.length ≤ c) (hl : l.length ≤ 1000000) :
    Calls Tryz.prog 60 #[.slice A l.length c] w (RL w (lineS l)) := by
  have HC := Aside0.mk hC
  have HB := Aside0.mk (Below.refl w.heap.size w)
  obtain ⟨r, hr⟩ : ∃ r, lineS l = r := ⟨_, rfl⟩
  rw [hr]
  obtain ⟨z, hz⟩ : ∃ z, nlZ l = z := ⟨_, rfl⟩
  have HZ := Aside0.mk hz
  unfold lineS at hr
  unfold nlZ at hz
  cases hn : nlI l with
  | none =>
    rw [hn] at hr hz
    dsimp only at hr hz
    subst hz
    clear hC hn
    by_cases hlt : l.length > 2049
    · rw [if_pos hlt] at hr
      subst hr
      go_enter Tryz.func60, Tryz.ntmps60
      go_wp2_with (go_at_call 36; (with_reducible refine (feed_w l A c _ HC.out hc (by omega)).mono ?_); rintro e w1 ⟨rfl, hb⟩; rw [HZ.out]; have HBn := Aside0.mk (below_step (by repeat (first | (with_reducible first | exact HB.out | apply below_alloc | apply pw_below_drewN | apply below_drew1) | exact HB.out)) hb); clear HB; have HB := HBn; clear HBn; clear hb)
      go_ret3
      exact ⟨rfl, HB.out⟩
    · rw [if_neg hlt] at hr
      subst hr
      go_enter Tryz.func60, Tryz.ntmps60
      go_wp2_with (go_at_call 36; (with_reducible refine (feed_w l A c _ HC.out hc (by omega)).mono ?_); rintro e w1 ⟨rfl, hb⟩; rw [HZ.out]; have HBn := Aside0.mk (below_step (by repeat (first | (with_reducible first | exact HB.out | apply below_alloc | apply pw_below_drewN | apply below_drew1) | exact HB.out)) hb); clear HB; have HB := HBn; clear HBn; clear hb)
      go_ret3
      exact ⟨rfl, HB.out⟩
  | some i =>
    rw [hn] at hr hz
    dsimp only at hr hz
    subst hz
    obtain ⟨hi, h10⟩ := nlI_lt l i hn
    clear hC hn
    cases i with
    | zero =>
      rw [show (if 0 < 0 ∧ l.getD (0 - 1) 0 = 13 then 0 - 1 else 0) = 0 from if_neg (fun h => absurd h.1 (by omega))] at hr
      by_cases hbig : 0 > 2048
      · exact absurd hbig (by omega)
      · rw [if_neg hbig] at hr
        subst hr
        have HT := Aside0.mk (Kd.C_take (m := 0) HC.out (by omega))
        have hlt : 0 ≤ c := by omega
        have hlen : (l.take (0)).length = 0 := by rw [List.length_take]; omega
        have HC2 : Aside0 ((Kd.int .u8).C w A (0) (l.take (0))) := ⟨by have := HT.out; rw [hlen] at this; exact this⟩
        clear HT hlen
        go_enter Tryz.func60, Tryz.ntmps60
        go_wp2_with (first
          | (go_at_call 36; (with_reducible refine (feed_w l _ c _ HC.out hc (by omega)).mono ?_); rintro e w1 ⟨rfl, hb⟩; rw [HZ.out]; have HBn := Aside0.mk (below_step (by repeat (first | (with_reducible first | exact HB.out | apply below_alloc | apply pw_below_drewN | apply below_drew1) | exact HB.out)) hb); clear HB; have HB := HBn; clear HBn; clear hb)
          | ((with_reducible refine gate_dst (N := 36) rfl ?_); refine wp_strof rfl _ _ _ _ rfl _ _ _ _ rfl Tryz.underlying22 Tryz.underlying5 Tryz.underlying9 (Kd.C_below HC2.out HB.out) ?_))
        go_ret3
        exact ⟨rfl, HB.out⟩
    | succ j =>
      obtain ⟨b, o, rfl, hb0, hcell⟩ := C_cell HC.out j (by omega)
      have HC1 := Aside0.mk hcell
      clear hcell
      obtain ⟨v, hv⟩ : ∃ v, l.getD j 0 = v := ⟨_, rfl⟩
      have e1 : j + 1 - 1 = j := by omega
      rw [e1] at hr
      rw [hv] at hr HC1
      clear e1 h10
      by_cases h13 : v = 13
      · have h131 : (v == 13) = true := beq_iff_eq.2 h13
        rw [show (if 0 < j + 1 ∧ v = 13 then j else j + 1) = j from if_pos ⟨by omega, h13⟩] at hr
        clear h13 hv
        by_cases hbig : j > 2048
        · rw [if_pos hbig] at hr
          subst hr
          go_enter Tryz.func60, Tryz.ntmps60
          go_wp2_with (go_at_call 36; (with_reducible refine (feed_w l _ c _ HC.out hc (by omega)).mono ?_); rintro e w1 ⟨rfl, hb⟩; rw [HZ.out]; have HBn := Aside0.mk (below_step (by repeat (first | (with_reducible first | exact HB.out | apply below_alloc | apply pw_below_drewN | apply below_drew1) | exact HB.out)) hb); clear HB; have HB := HBn; clear HBn; have t1 := (hb.cell (p := ⟨b, o + j, none⟩) hb0).trans HC1.out; clear hb)
          go_ret3
          exact ⟨rfl, HB.out⟩
        · rw [if_neg hbig] at hr
          subst hr
          have HT := Aside0.mk (Kd.C_take (m := j) HC.out (by omega))
          have hlt : j ≤ c := by omega
          have hlen : (l.take (j)).length = j := by rw [List.length_take]; omega
          have HC2 : Aside0 ((Kd.int .u8).C w (some ⟨b, o, none⟩) (j) (l.take (j))) := ⟨by have := HT.out; rw [hlen] at this; exact this⟩
          clear HT hlen
          go_enter Tryz.func60, Tryz.ntmps60
          go_wp2_with (first
            | (go_at_call 36; (with_reducible refine (feed_w l _ c _ HC.out hc (by omega)).mono ?_); rintro e w1 ⟨rfl, hb⟩; rw [HZ.out]; have HBn := Aside0.mk (below_step (by repeat (first | (with_reducible first | exact HB.out | apply below_alloc | apply pw_below_drewN | apply below_drew1) | exact HB.out)) hb); clear HB; have HB := HBn; clear HBn; have t1 := (hb.cell (p := ⟨b, o + j, none⟩) hb0).trans HC1.out; clear hb)
            | ((with_reducible refine gate_dst (N := 36) rfl ?_); refine wp_strof rfl _ _ _ _ rfl _ _ _ _ rfl Tryz.underlying22 Tryz.underlying5 Tryz.underlying9 (Kd.C_below HC2.out HB.out) ?_))
          go_ret3
          exact ⟨rfl, HB.out⟩
      · have h131 : (v == 13) = false := beq_eq_false_iff_ne.2 h13
        rw [show (if 0 < j + 1 ∧ v = 13 then j else j + 1) = j + 1 from if_neg (fun h => h13 h.2)] at hr
        clear h13 hv
        by_cases hbig : j + 1 > 2048
        · rw [if_pos hbig] at hr
          subst hr
          go_enter Tryz.func60, Tryz.ntmps60
          go_wp2_with (go_at_call 36; (with_reducible refine (feed_w l _ c _ HC.out hc (by omega)).mono ?_); rintro e w1 ⟨rfl, hb⟩; rw [HZ.out]; have HBn := Aside0.mk (below_step (by repeat (first | (with_reducible first | exact HB.out | apply below_alloc | apply pw_below_drewN | apply below_drew1) | exact HB.out)) hb); clear HB; have HB := HBn; clear HBn; have t1 := (hb.cell (p := ⟨b, o + j, none⟩) hb0).trans HC1.out; clear hb)
          go_ret3
          exact ⟨rfl, HB.out⟩
        · rw [if_neg hbig] at hr
          subst hr
          have HT := Aside0.mk (Kd.C_take (m := j + 1) HC.out (by omega))
          have hlt : j + 1 ≤ c := by omega
          have hlen : (l.take (j + 1)).length = j + 1 := by rw [List.length_take]; omega
          have HC2 : Aside0 ((Kd.int .u8).C w (some ⟨b, o, none⟩) (j + 1) (l.take (j + 1))) := ⟨by have := HT.out; rw [hlen] at this; exact this⟩
          clear HT hlen
          go_enter Tryz.func60, Tryz.ntmps60
          go_wp2_with (first
            | (go_at_call 36; (with_reducible refine (feed_w l _ c _ HC.out hc (by omega)).mono ?_); rintro e w1 ⟨rfl, hb⟩; rw [HZ.out]; have HBn := Aside0.mk (below_step (by repeat (first | (with_reducible first | exact HB.out | apply below_alloc | apply pw_below_drewN | apply below_drew1) | exact HB.out)) hb); clear HB; have HB := HBn; clear HBn; have t1 := (hb.cell (p := ⟨b, o + j, none⟩) hb0).trans HC1.out; clear hb)
            | ((with_reducible refine gate_dst (N := 36) rfl ?_); refine wp_strof rfl _ _ _ _ rfl _ _ _ _ rfl Tryz.underlying22 Tryz.underlying5 Tryz.underlying9 (Kd.C_below HC2.out HB.out) ?_))
          go_ret3
          exact ⟨rfl, HB.out⟩
set_option maxRecDepth 100000 in
theorem ib_empty (A : Option Addr) (c : Nat) (w : World) : Calls Tryz.prog 111 #[.slice A 0 c, .int .u8 10] w fun e w' => e = .returned (.int .i64 (-1)) ∧ w' = w := by
  cases A with
  | some a => exact Tryz.bytes_IndexByte_at a 0 c [] 10 w rfl (fun i hi => absurd hi (Nat.not_lt_zero i))
  | none =>
    go_enter Tryz.func111, Tryz.ntmps111
    go_wp2
    rw [run_callFunc_extern Tryz.func143 (by kernel_rfl) (by kernel_rfl) (by kernel_rfl) (e := Extern.BytealgIndexByte.indexByte) (by kernel_rfl), Lib.run_indexByteNil w 0 c 10]
    simp only [Result.andThen]
    rw [Oper.upon_value]
    go_wp2
    go_ret
    exact ⟨rfl, rfl⟩
set_option maxRecDepth 100000 in
theorem bcut_index (l : List Int) (A : Option Addr) (c sb so d : Nat) (w : World) (hC : (Kd.int .u8).C w A l.length l) (h8 : B8 l) (hS : w.cell? ⟨sb, so, none⟩ = some (.int .u8 10)) :
    Calls Tryz.prog 72 #[.slice A l.length c, .slice (some ⟨sb, so, none⟩) 1 d] w fun e w' => e = .returned (.int .i64 (nlZ l)) ∧ w' = w := by
  cases l with
  | nil =>
    go_enter Tryz.func72, Tryz.ntmps72
    go_wp2_with (go_at_call 111; (with_reducible refine (ib_empty A c _).mono ?_); rintro e w' ⟨rfl, rfl⟩)
    go_ret
    exact ⟨rfl, rfl⟩
  | cons x xs =>
    obtain ⟨b, o, rfl, hb0, hcell⟩ := C_cell hC 0 (by simp)
    have := Tryz.bytes_Index_one b o (x :: xs).length c sb so d (x :: xs) 10 w rfl (fun i hi => by
      obtain ⟨b2, o2, e, _, h2⟩ := C_cell hC i hi
      obtain ⟨rfl, rfl⟩ : b = b2 ∧ o = o2 := by simpa using e
      exact h2) hS
    rw [idx_nl _ h8] at this
    exact this
end Go.Proofs.YtdjbbncoioghfaaGreatDoor.X
namespace Go.Proofs.YtdjbbncoioghfaaGreatDoor.X
open Go.RowKit Go.Proofs.YtdjbbncoioghfaaGreatDoorW.PrintWords Go.Proofs.YtdjbbncoioghfaaGreatDoorW.PrintMore
set_option linter.unusedVariables false
set_option linter.unusedSimpArgs false

def CutR (l : List Int) (A : Option Addr) (c : Nat) (w : World) (e : Ending) (w' : World) : Prop :=
  (match nlI l with
   | none => e = .returned (.tuple #[.slice A l.length c, .slice none 0 0, .bool false])
   | some k => ∃ v, e = .returned (.tuple #[.slice A k c, v, .bool true])) ∧ Drawn0 w w'
set_option maxRecDepth 100000 in
set_option maxHeartbeats 1000000 in
theorem bcut_calls (l : List Int) (A : Option Addr) (c sb so d : Nat) (w : World) (hC : (Kd.int .u8).C w A l.length l) (hc : l.length ≤ c) (hl : l.length ≤ 1000000) (h8 : B8 l) (hS : w.cell? ⟨sb, so, none⟩ = some (.int .u8 10)) :
    Calls Tryz.prog 40 #[.slice A l.length c, .slice (some ⟨sb, so, none⟩) 1 d] w (CutR l A c w) := by
  have HI := Aside0.mk (bcut_index l A c sb so d w hC h8 hS)
  unfold CutR
  obtain ⟨z, hz⟩ : ∃ z, nlZ l = z := ⟨_, rfl⟩
  have HZ := Aside0.mk hz
  unfold nlZ at hz
  cases hn : nlI l with
  | none =>
    rw [hn] at hz
    dsimp only at hz ⊢
    subst hz
    clear hn hC hS h8
    go_enter Tryz.func40, Tryz.ntmps40
    go_wp2_with (go_at_call 72; (with_reducible refine HI.out.mono ?_); rintro e w' ⟨rfl, rfl⟩; rw [HZ.out])
    go_ret3
    exact ⟨rfl, Drawn0.refl _⟩
  | some k =>
    rw [hn] at hz
    dsimp only at hz ⊢
    subst hz
    obtain ⟨hk, -⟩ := nlI_lt l k hn
    clear hn hC hS h8
    go_enter Tryz.func40, Tryz.ntmps40
    go_upto_region 3 with (go_at_call 72; (with_reducible refine HI.out.mono ?_); rintro e w' ⟨rfl, rfl⟩; rw [HZ.out])
    have hw1 : IntKind.i64.wrap ((k : Int) + 1) = (k : Int) + 1 := IntWalk.i64_in _ (by omega)
    have hp1 : (0 : Int) ≤ (k : Int) + 1 := by omega
    have hn1 : ((k : Int) + 1).toNat = k + 1 := by omega
    have hk1 : (k : Int) + 1 ≤ l.length := by omega
    have hk2 : (k : Int) ≤ l.length := by omega
    have hk3 : (k : Int) ≤ c := by omega
    have hk4 : k ≤ c := by omega
    have hk5 : (l.length : Int) ≤ c := by omega
    have hk6 : l.length ≤ c := hc
    go_quiet (fail)
    go_wp2
    all_goals go_ret3
    all_goals exact ⟨⟨_, rfl⟩, ⟨⟨_, rfl⟩⟩⟩
/-- How long a line is, without a carriage return at its end. -/
def tsufN (l : List Int) : Nat := if l ≠ [] ∧ l.getD (l.length - 1) 0 = 13 then l.length - 1 else l.length
theorem hassuf_f (l : List Int) (h8 : B8 l) (h : l ≠ []) : Lib.hasSuffix (Lib.bytesOf l) (Lib.bytesOf [13]) = decide (l ≠ [] ∧ l.getD (l.length - 1) 0 = 13) := by
  have hp : 0 < l.length := List.length_pos_iff.2 h
  have hlt : l.length - 1 < l.length := by omega
  have e3 : l = l.take (l.length - 1) ++ [l[l.length - 1]] := by
    conv => lhs; rw [← List.take_append_drop (l.length - 1) l]
    rw [List.drop_eq_getElem_cons hlt, List.drop_eq_nil_of_le (by omega)]
  have e4 : l.getD (l.length - 1) 0 = l[l.length - 1] := by rw [List.getD_eq_getElem?_getD, List.getElem?_eq_getElem hlt]; rfl
  have hz := h8 _ (List.getElem_mem hlt)
  rw [e4]
  have e5 : Lib.bytesOf l = Lib.bytesOf (l.take (l.length - 1)) ++ [UInt8.ofNat (l[l.length - 1]).toNat] := by
    conv => lhs; rw [e3]
    unfold Lib.bytesOf
    rw [List.map_append]
    rfl
  generalize l[l.length - 1] = v at hz e5
  rw [e5]
  unfold Lib.hasSuffix
  rw [Bool.eq_iff_iff, List.isSuffixOf_iff_suffix, decide_eq_true_eq]
  have e13 : Lib.bytesOf [13] = [(13 : UInt8)] := rfl
  rw [e13]
  constructor
  · rintro ⟨t, ht⟩
    refine ⟨h, ?_⟩
    have e6 := congrArg List.getLast? ht
    rw [List.getLast?_append, List.getLast?_append] at e6
    have e7 : (13 : UInt8) = UInt8.ofNat v.toNat := by simpa using e6
    have e8 := congrArg UInt8.toNat e7
    rw [UInt8.toNat_ofNat'] at e8
    have : (13 : UInt8).toNat = 13 := rfl
    omega
  · rintro ⟨_, rfl⟩
    exact ⟨_, rfl⟩
theorem hassuf_w (l : List Int) (A : Option Addr) (c sb so d : Nat) (w : World) (hC : (Kd.int .u8).C w A l.length l) (hc : l.length ≤ c) (hS : w.cell? ⟨sb, so, none⟩ = some (.int .u8 13)) (h8 : B8 l) (hl : l.length ≤ 1000000) :
    Calls Tryz.prog 119 #[.slice A l.length c, .slice (some ⟨sb, so, none⟩) 1 d] w fun e w' => e = .returned (.bool (decide (l ≠ [] ∧ l.getD (l.length - 1) 0 = 13))) ∧ w' = w := by
  cases l with
  | nil => exact Tryz.bytes_HasSuffix_e1 A _ c 1 d (by decide) w
  | cons x xs =>
    obtain ⟨b, o, rfl, hb0, hcell⟩ := C_cell hC 0 (by simp)
    have := Tryz.bytes_HasSuffix b o (x :: xs).length c sb so 1 d (x :: xs) [13] w rfl rfl hc (by omega) (fun i hi => by
      obtain ⟨b2, o2, e, _, h2⟩ := C_cell hC i hi
      obtain ⟨rfl, rfl⟩ : b = b2 ∧ o = o2 := by simpa using e
      exact h2) (fun i hi => by
      obtain rfl : i = 0 := by omega
      exact hS)
    rw [hassuf_f _ h8 (by simp)] at this
    exact this
set_option maxRecDepth 100000 in
set_option maxHeartbeats 1000000 in
theorem tsuf_calls (l : List Int) (A : Option Addr) (c : Nat) (sb so d : Nat) (w : World) (hC : (Kd.int .u8).C w A l.length l) (hc : l.length ≤ c) (hS : w.cell? ⟨sb, so, none⟩ = some (.int .u8 13)) (h8 : B8 l) (hl : l.length ≤ 1000000) :
    Calls Tryz.prog 80 #[.slice A l.length c, .slice (some ⟨sb, so, none⟩) 1 d] w fun e w' => e = .returned (.slice A (tsufN l) c) ∧ w' = w := by
  have HH := Aside0.mk (hassuf_w l A c sb so d w hC hc hS h8 hl)
  clear hC hS
  unfold tsufN
  by_cases h : l ≠ [] ∧ l.getD (l.length - 1) 0 = 13
  · rw [if_pos h]
    have hp : 0 < l.length := List.length_pos_iff.2 h.1
    have HD : Aside0 (decide (l ≠ [] ∧ l.getD (l.length - 1) 0 = 13) = true) := ⟨decide_eq_true h⟩
    clear h
    have hp1 : (0 : Int) ≤ (l.length : Int) - 1 := by omega
    have hp2 : (1 : Int) ≤ (l.length : Int) := by omega
    have hn1 : ((l.length : Int) - 1).toNat = l.length - 1 := by omega
    have hk : (l.length : Int) - 1 ≤ c := by omega
    go_enter Tryz.func80, Tryz.ntmps80
    go_wp2_with (go_at_call 119; (with_reducible refine HH.out.mono ?_); rintro e w' ⟨rfl, rfl⟩; rw [HD.out])
    go_ret
    exact ⟨by simp [hn1], rfl⟩
  · rw [if_neg h]
    have HD : Aside0 (decide (l ≠ [] ∧ l.getD (l.length - 1) 0 = 13) = false) := ⟨decide_eq_false h⟩
    clear h
    go_enter Tryz.func80, Tryz.ntmps80
    go_wp2_with (go_at_call 119; (with_reducible refine HH.out.mono ?_); rintro e w' ⟨rfl, rfl⟩; rw [HD.out])
    go_ret
    exact ⟨rfl, rfl⟩
theorem tsuf_take (l : List Int) (k : Nat) (h : k < l.length) : tsufN (l.take k) = if 0 < k ∧ l.getD (k - 1) 0 = 13 then k - 1 else k := by
  have hlen : (l.take k).length = k := by rw [List.length_take]; omega
  unfold tsufN
  rw [hlen]
  by_cases hk : 0 < k
  · have h1 : l.take k ≠ [] := fun e => by
      rw [e, List.length_nil] at hlen
      omega
    have h2 : (l.take k).getD (k - 1) 0 = l.getD (k - 1) 0 := by
      rw [List.getD_eq_getElem?_getD, List.getD_eq_getElem?_getD, List.getElem?_take_of_lt (by omega)]
    rw [h2]
    by_cases h3 : l.getD (k - 1) 0 = 13
    · rw [if_pos ⟨h1, h3⟩, if_pos ⟨hk, h3⟩]
    · rw [if_neg (fun h => h3 h.2), if_neg (fun h => h3 h.2)]
  · obtain rfl : k = 0 := by omega
    rw [if_neg (fun h => h.1 rfl), if_neg (fun h => hk h.1)]
set_option maxRecDepth 100000 in
set_option maxHeartbeats 2000000 in
theorem fline_calls (l : List Int) (A : Option Addr) (c : Nat) (w : World) (hC : (Kd.int .u8).C w A l.length l) (hc : l.length ≤ c) (hl : l.length ≤ 1000000) (h8 : B8 l) :
    Calls Tryz.prog 43 #[.slice A l.length c] w (RL w (lineS l)) := by
  have HC := Aside0.mk hC
  have H8 := Aside0.mk h8
  have HB := Aside0.mk (Below.refl w.heap.size w)
  obtain ⟨r, hr⟩ : ∃ r, lineS l = r := ⟨_, rfl⟩
  rw [hr]
  have HCUT : Aside0 (∀ (sb so d : Nat) (w : World), (Kd.int .u8).C w A l.length l → w.cell? ⟨sb, so, none⟩ = some (.int .u8 10) → Calls Tryz.prog 40 #[.slice A l.length c, .slice (some ⟨sb, so, none⟩) 1 d] w (CutR l A c w)) := ⟨fun sb so d w h1 h2 => bcut_calls l A c sb so d w h1 hc hl h8 h2⟩
  unfold CutR at HCUT
  unfold lineS at hr
  cases hn : nlI l with
  | none =>
    rw [hn] at hr
    rw [hn] at HCUT
    dsimp only at hr HCUT
    clear hC h8 hn
    by_cases hlt : l.length > 2049
    · rw [if_pos hlt] at hr
      subst hr
      go_enter Tryz.func43, Tryz.ntmps43
      go_wp2_with (first
        | ((with_reducible refine gate_dst (N := 12) rfl ?_); (first | (refine wp_const_drew rfl _ _ _ rfl _ _ _ _ rfl ?_ Tryz.underlying22 Tryz.underlying5 ?_) | (refine wp_const rfl _ _ _ rfl _ _ _ _ rfl ?_ Tryz.underlying22 Tryz.underlying5 ?_)); (case _ => simp))
        | (go_at_call 40; (refine (HCUT.out _ _ _ _ ?_ ?_).mono ?_); (focus exact Kd.C_below HC.out (by repeat (first | (with_reducible first | exact HB.out | apply below_alloc | apply pw_below_drewN | apply below_drew1) | exact HB.out))); (focus exact World.cell?_alloc_mark _ _ _ _ 0); rintro e w1 ⟨rfl, hd⟩; have hb := hd.below; have HBn := Aside0.mk (below_step (by repeat (first | (with_reducible first | exact HB.out | apply below_alloc | apply pw_below_drewN | apply below_drew1) | exact HB.out)) hb); clear HB; have HB := HBn; clear HBn; clear hb hd))
      go_ret3
      exact ⟨rfl, HB.out⟩
    · rw [if_neg hlt] at hr
      subst hr
      go_enter Tryz.func43, Tryz.ntmps43
      go_wp2_with (first
        | ((with_reducible refine gate_dst (N := 12) rfl ?_); (first | (refine wp_const_drew rfl _ _ _ rfl _ _ _ _ rfl ?_ Tryz.underlying22 Tryz.underlying5 ?_) | (refine wp_const rfl _ _ _ rfl _ _ _ _ rfl ?_ Tryz.underlying22 Tryz.underlying5 ?_)); (case _ => simp))
        | (go_at_call 40; (refine (HCUT.out _ _ _ _ ?_ ?_).mono ?_); (focus exact Kd.C_below HC.out (by repeat (first | (with_reducible first | exact HB.out | apply below_alloc | apply pw_below_drewN | apply below_drew1) | exact HB.out))); (focus exact World.cell?_alloc_mark _ _ _ _ 0); rintro e w1 ⟨rfl, hd⟩; have hb := hd.below; have HBn := Aside0.mk (below_step (by repeat (first | (with_reducible first | exact HB.out | apply below_alloc | apply pw_below_drewN | apply below_drew1) | exact HB.out)) hb); clear HB; have HB := HBn; clear HBn; clear hb hd))
      go_ret3
      exact ⟨rfl, HB.out⟩
  | some k =>
    rw [hn] at hr
    rw [hn] at HCUT
    dsimp only at hr HCUT
    obtain ⟨hk, -⟩ := nlI_lt l k hn
    rw [← tsuf_take l k hk] at hr
    have hlen : (l.take k).length = k := by rw [List.length_take]; omega
    have HTS : Aside0 (∀ (sb so d : Nat) (w : World), (Kd.int .u8).C w A l.length l → w.cell? ⟨sb, so, none⟩ = some (.int .u8 13) → Calls Tryz.prog 80 #[.slice A k c, .slice (some ⟨sb, so, none⟩) 1 d] w fun e w' => e = .returned (.slice A (tsufN (l.take k)) c) ∧ w' = w) := ⟨fun sb so d w h1 h2 => by
      have := tsuf_calls (l.take k) A c sb so d w (Kd.C_take h1 (by omega)) (by omega) h2 (fun z hz => h8 z (List.mem_of_mem_take hz)) (by omega)
      rw [hlen] at this
      exact this⟩
    have hek : tsufN (l.take k) ≤ k := by unfold tsufN; rw [hlen]; split <;> omega
    obtain ⟨e, he⟩ : ∃ e, tsufN (l.take k) = e := ⟨_, rfl⟩
    rw [he] at hr hek HTS
    have HT : Aside0 ((Kd.int .u8).C w A e (l.take e)) := ⟨by
      have := Kd.C_take (m := e) hC (by omega)
      rw [show (l.take e).length = e from by rw [List.length_take]; omega] at this
      exact this⟩
    clear hC h8 hn he hlen
    by_cases hbig : e > 2048
    · rw [if_pos hbig] at hr
      subst hr
      go_enter Tryz.func43, Tryz.ntmps43
      go_wp2_with (first
        | ((with_reducible refine gate_dst (N := 12) rfl ?_); (first | (refine wp_const_drew rfl _ _ _ rfl _ _ _ _ rfl ?_ Tryz.underlying22 Tryz.underlying5 ?_) | (refine wp_const rfl _ _ _ rfl _ _ _ _ rfl ?_ Tryz.underlying22 Tryz.underlying5 ?_)); (case _ => simp))
        | ((with_reducible refine gate_dst (N := 35) rfl ?_); (first | (refine wp_const_drew rfl _ _ _ rfl _ _ _ _ rfl ?_ Tryz.underlying22 Tryz.underlying5 ?_) | (refine wp_const rfl _ _ _ rfl _ _ _ _ rfl ?_ Tryz.underlying22 Tryz.underlying5 ?_)); (case _ => simp))
        | (go_at_call 40; (refine (HCUT.out _ _ _ _ ?_ ?_).mono ?_); (focus exact Kd.C_below HC.out (by repeat (first | (with_reducible first | exact HB.out | apply below_alloc | apply pw_below_drewN | apply below_drew1) | exact HB.out))); (focus exact World.cell?_alloc_mark _ _ _ _ 0); rintro e1 w1 ⟨⟨v, rfl⟩, hd⟩; have hb := hd.below; have HBn := Aside0.mk (below_step (by repeat (first | (with_reducible first | exact HB.out | apply below_alloc | apply pw_below_drewN | apply below_drew1) | exact HB.out)) hb); clear HB; have HB := HBn; clear HBn; clear hb hd)
        | (go_at_call 80; (refine (HTS.out _ _ _ _ ?_ ?_).mono ?_); (focus exact Kd.C_below HC.out (by repeat (first | (with_reducible first | exact HB.out | apply below_alloc | apply pw_below_drewN | apply below_drew1) | exact HB.out))); (focus exact World.cell?_alloc_mark _ _ _ _ 0); rintro e2 w2 ⟨rfl, rfl⟩))
      go_ret3
      exact ⟨rfl, (by repeat (first | (with_reducible first | exact HB.out | apply below_alloc | apply pw_below_drewN | apply below_drew1) | exact HB.out))⟩
    · rw [if_neg hbig] at hr
      subst hr
      go_enter Tryz.func43, Tryz.ntmps43
      go_wp2_with (first
        | ((with_reducible refine gate_dst (N := 12) rfl ?_); (first | (refine wp_const_drew rfl _ _ _ rfl _ _ _ _ rfl ?_ Tryz.underlying22 Tryz.underlying5 ?_) | (refine wp_const rfl _ _ _ rfl _ _ _ _ rfl ?_ Tryz.underlying22 Tryz.underlying5 ?_)); (case _ => simp))
        | ((with_reducible refine gate_dst (N := 35) rfl ?_); (first | (refine wp_const_drew rfl _ _ _ rfl _ _ _ _ rfl ?_ Tryz.underlying22 Tryz.underlying5 ?_) | (refine wp_const rfl _ _ _ rfl _ _ _ _ rfl ?_ Tryz.underlying22 Tryz.underlying5 ?_)); (case _ => simp))
        | (go_at_call 40; (refine (HCUT.out _ _ _ _ ?_ ?_).mono ?_); (focus exact Kd.C_below HC.out (by repeat (first | (with_reducible first | exact HB.out | apply below_alloc | apply pw_below_drewN | apply below_drew1) | exact HB.out))); (focus exact World.cell?_alloc_mark _ _ _ _ 0); rintro e1 w1 ⟨⟨v, rfl⟩, hd⟩; have hb := hd.below; have HBn := Aside0.mk (below_step (by repeat (first | (with_reducible first | exact HB.out | apply below_alloc | apply pw_below_drewN | apply below_drew1) | exact HB.out)) hb); clear HB; have HB := HBn; clear HBn; clear hb hd)
        | (go_at_call 80; (refine (HTS.out _ _ _ _ ?_ ?_).mono ?_); (focus exact Kd.C_below HC.out (by repeat (first | (with_reducible first | exact HB.out | apply below_alloc | apply pw_below_drewN | apply below_drew1) | exact HB.out))); (focus exact World.cell?_alloc_mark _ _ _ _ 0); rintro e2 w2 ⟨rfl, rfl⟩)
        | ((with_reducible refine gate_dst (N := 42) rfl ?_); refine wp_strof rfl _ _ _ _ rfl _ _ _ _ rfl Tryz.underlying22 Tryz.underlying5 Tryz.underlying9 (Kd.C_below HT.out (by repeat (first | (with_reducible first | exact HB.out | apply below_alloc | apply pw_below_drewN | apply below_drew1) | exact HB.out))) ?_))
      go_ret3
      exact ⟨rfl, (by repeat (first | (with_reducible first | exact HB.out | apply below_alloc | apply pw_below_drewN | apply below_drew1) | exact HB.out))⟩
end Go.Proofs.YtdjbbncoioghfaaGreatDoor.X
namespace Go.Proofs.YtdjbbncoioghfaaGreatDoor.X
open Go.RowKit Go.Proofs.YtdjbbncoioghfaaGreatDoorW.PrintWords Go.Proofs.YtdjbbncoioghfaaGreatDoorW.PrintMore
set_option linter.unusedVariables false
set_option linter.unusedSimpArgs false

def oddB (z : Int) : Bool := decide (z ≤ 32) || decide (z = 127)
set_option maxRecDepth 100000 in
theorem key1_calls (z : Int) (w : World) (h : 0 ≤ z ∧ z < 256) : Calls Tryz.prog 157 #[.int .u8 z] w fun e w' => e = .returned (.bool (oddB z)) ∧ w' = w := by
  obtain ⟨b, hb⟩ : ∃ b, oddB z = b := ⟨_, rfl⟩
  rw [hb]
  unfold oddB at hb
  by_cases h1 : z ≤ 32
  · have hb2 : b = true := by rw [← hb]; simp [h1]
    subst hb2
    have h11 : decide (z ≤ 32) = true := decide_eq_true h1
    clear hb
    go_enter Tryz.func157, Tryz.ntmps157
    go_wp2
    go_ret
    exact ⟨rfl, rfl⟩
  · have h11 : decide (z ≤ 32) = false := decide_eq_false h1
    by_cases h2 : z = 127
    · have hb2 : b = true := by rw [← hb]; simp [h2]
      subst hb2
      have h21 : (z == 127) = true := beq_iff_eq.2 h2
      clear hb h2
      go_enter Tryz.func157, Tryz.ntmps157
      go_wp2
      go_ret
      exact ⟨rfl, rfl⟩
    · have hb2 : b = false := by rw [← hb]; simp [h1, h2]
      subst hb2
      have h21 : (z == 127) = false := beq_eq_false_iff_ne.2 h2
      clear hb h2
      go_enter Tryz.func157, Tryz.ntmps157
      go_wp2
      go_ret
      exact ⟨rfl, rfl⟩
def IfnP (b : Bool) (e : Ending) : Prop := ∃ z : Int, e = .returned (.int .i64 z) ∧ (if b = true then 0 ≤ z else z = -1)
set_option maxRecDepth 100000 in
set_option maxHeartbeats 1000000 in
theorem ifn_calls (l : List Int) (A : Option Addr) (c : Nat) (w : World) (hC : (Kd.int .u8).C w A l.length l) (hc : l.length ≤ c) (hl : l.length ≤ 1000000) (h8 : B8 l) :
    Calls Tryz.prog 178 #[.slice A l.length c, .func (.func 157) #[] #[]] w fun e w' => IfnP (l.any oddB) e ∧ w' = w := by
  have HC := Aside0.mk hC
  have H8 := Aside0.mk h8
  clear hC h8
  go_enter Tryz.func178, Tryz.ntmps178
  go_wp2
  go_loop [8] (fun v => ∃ k : Nat, v = .int .i64 k ∧ k ≤ l.length ∧ Aside0 ((l.take k).any oddB = false)) (fun v => l.length - (intOf v).toNat)
  case atStart => exact ⟨0, rfl, by omega, ⟨by simp⟩⟩
  case round =>
    obtain ⟨k, rfl, hk, hn⟩ := hrel
    by_cases hlt : k < l.length
    · obtain ⟨b, o, rfl, hb0, hcell⟩ := C_cell HC.out k hlt
      have h8k := H8.out (l.getD k 0) (by rw [List.getD_eq_getElem?_getD, List.getElem?_eq_getElem hlt]; exact List.getElem_mem hlt)
      have htk : l.take (k + 1) = l.take k ++ [l.getD k 0] := by
        rw [List.take_succ_eq_append_getElem hlt, List.getD_eq_getElem?_getD, List.getElem?_eq_getElem hlt]; rfl
      have hmem : l.getD k 0 ∈ l := by rw [List.getD_eq_getElem?_getD, List.getElem?_eq_getElem hlt]; exact List.getElem_mem hlt
      obtain ⟨v, hv⟩ : ∃ v, l.getD k 0 = v := ⟨_, rfl⟩
      rw [hv] at hcell h8k htk hmem
      obtain ⟨bo, hbo⟩ : ∃ bo, oddB v = bo := ⟨_, rfl⟩
      have HBO := Aside0.mk hbo
      have HTK := Aside0.mk htk
      have HM := Aside0.mk hmem
      clear htk hv hbo hmem
      cases bo
      · go_wp2_with (go_at_call 157; (with_reducible refine (key1_calls v _ h8k).mono ?_); rintro e w' ⟨rfl, hw'⟩; obtain rfl := hw'.symm; rw [HBO.out])
        go_round
        case rel => exact ⟨k + 1, by first | rfl | simp, by omega, ⟨by rw [HTK.out, List.any_append, hn.out]; simp [HBO.out]⟩⟩
        case measure => simp [intOf]; omega
      · go_wp2_with (go_at_call 157; (with_reducible refine (key1_calls v _ h8k).mono ?_); rintro e w' ⟨rfl, hw'⟩; obtain rfl := hw'.symm; rw [HBO.out])
        go_ret
        refine ⟨⟨_, rfl, ?_⟩, rfl⟩
        rw [if_pos (List.any_eq_true.2 ⟨v, HM.out, HBO.out⟩)]
        omega
    · have hkl : k = l.length := by omega
      go_wp2
      go_ret
      refine ⟨⟨_, rfl, ?_⟩, rfl⟩
      have := hn.out
      rw [List.take_of_length_le (by omega)] at this
      rw [if_neg (by rw [this]; decide)]
set_option maxRecDepth 100000 in
theorem cfn_calls (l : List Int) (A : Option Addr) (c : Nat) (w : World) (hC : (Kd.int .u8).C w A l.length l) (hc : l.length ≤ c) (hl : l.length ≤ 1000000) (h8 : B8 l) :
    Calls Tryz.prog 158 #[.slice A l.length c, .func (.func 157) #[] #[]] w fun e w' => e = .returned (.bool (l.any oddB)) ∧ w' = w := by
  have HI := Aside0.mk (ifn_calls l A c w hC hc hl h8)
  clear hC h8
  obtain ⟨b, hb⟩ : ∃ b, l.any oddB = b := ⟨_, rfl⟩
  rw [hb] at HI ⊢
  clear hb
  cases b
  · go_enter Tryz.func158, Tryz.ntmps158
    go_wp2_with (go_at_call 178; (with_reducible refine HI.out.mono ?_); rintro e w' ⟨⟨z, rfl, hz⟩, rfl⟩; rw [if_neg (by decide)] at hz; subst hz)
    go_ret
    exact ⟨rfl, rfl⟩
  · go_enter Tryz.func158, Tryz.ntmps158
    go_wp2_with (go_at_call 178; (with_reducible refine HI.out.mono ?_); rintro e w' ⟨⟨z, rfl, hz⟩, rfl⟩; rw [if_pos rfl] at hz)
    go_ret
    exact ⟨rfl, rfl⟩
end Go.Proofs.YtdjbbncoioghfaaGreatDoor.X
namespace Go.Proofs.YtdjbbncoioghfaaGreatDoor.X
open Go.RowKit Go.Proofs.YtdjbbncoioghfaaGreatDoorW.PrintWords Go.Proofs.YtdjbbncoioghfaaGreatDoorW.PrintMore
set_option linter.unusedVariables false
set_option linter.unusedSimpArgs false

theorem bytesOf_B8 (s : ByteArray) : B8 (bytesOf s) := fun z hz => by
  unfold bytesOf at hz
  obtain ⟨b, -, rfl⟩ := List.mem_map.1 hz
  have := b.toNat_lt
  omega
def keyedS (s : ByteArray) : Bool := decide (1 ≤ s.size) && decide (s.size ≤ 250)
theorem keyS_eq (s : ByteArray) : keyS s = (keyedS s && !(bytesOf s).any oddB) := by
  have e : (s.data.toList.all fun c => decide (32 < c.toNat) && decide (c.toNat ≠ 127)) = !(bytesOf s).any oddB := by
    unfold bytesOf
    generalize s.data.toList = l
    induction l with
    | nil => rfl
    | cons c l ih =>
      rw [List.all_cons, List.map_cons, List.any_cons, ih, Bool.not_or]
      congr 1
      unfold oddB
      rw [Bool.eq_iff_iff]
      simp
      omega
  unfold keyS keyedS
  rw [e, Bool.and_assoc]
theorem keyed_calls (s : ByteArray) (w : World) : Calls Tryz.prog 77 #[.string s] w fun e w' => e = .returned (.bool (keyedS s)) ∧ Below w.heap.size w w' := by
  refine (frame_Keyed.calls s (keyedS s) w ?_).mono fun e w' ⟨he, hd⟩ => ⟨he, hd.below⟩
  unfold frame_Keyed.f keyedS
  rw [ByteArray.toList_eq]
  by_cases h : s.data.toList = []
  · rw [if_pos h]
    have : s.size = 0 := by
      have h2 : s.data.toList.length = s.size := rfl
      rw [← h2, h]
      rfl
    simp [this]
  · rw [if_neg h]
    have : 1 ≤ s.size := by
      have h2 : s.data.toList.length = s.size := rfl
      have h3 := List.length_pos_iff.2 h
      omega
    congr 1
    rw [Bool.eq_iff_iff]
    simp [this]
    omega
set_option maxRecDepth 100000 in
set_option maxHeartbeats 1000000 in
theorem fkey_calls (s : ByteArray) (w : World) (hs : s.size ≤ 1000000) : Calls Tryz.prog 129 #[.string s] w fun e w' => e = .returned (.bool (keyS s)) ∧ Below w.heap.size w w' := by
  have HB := Aside0.mk (Below.refl w.heap.size w)
  rw [keyS_eq]
  obtain ⟨b, hb⟩ : ∃ b, keyedS s = b := ⟨_, rfl⟩
  have HK := Aside0.mk hb
  rw [hb]
  clear hb
  cases b
  · rw [Bool.false_and]
    go_enter Tryz.func129, Tryz.ntmps129
    go_wp2_with (go_at_call 77; (with_reducible refine (keyed_calls s _).mono ?_); rintro e w1 ⟨rfl, hb⟩; rw [HK.out]; have HBn := Aside0.mk (below_step (by repeat (first | (with_reducible first | exact HB.out | apply below_alloc | apply pw_below_drewN | apply below_drew1) | exact HB.out)) hb); clear HB; have HB := HBn; clear HBn; clear hb)
    go_ret
    exact ⟨rfl, HB.out⟩
  · rw [Bool.true_and]
    obtain ⟨o, ho⟩ : ∃ o, (bytesOf s).any oddB = o := ⟨_, rfl⟩
    have HO := Aside0.mk ho
    rw [ho]
    clear ho
    have hbl : (bytesOf s).length ≤ 1000000 := by rw [bytesOf_length]; exact hs
    go_enter Tryz.func129, Tryz.ntmps129
    go_wp2_with (go_at_call 77; (with_reducible refine (keyed_calls s _).mono ?_); rintro e w1 ⟨rfl, hb⟩; rw [HK.out]; have HBn := Aside0.mk (below_step (by repeat (first | (with_reducible first | exact HB.out | apply below_alloc | apply pw_below_drewN | apply below_drew1) | exact HB.out)) hb); clear HB; have HB := HBn; clear HBn; clear hb)
    refine upon_bytes _ _ _ s Tryz.underlying9 Tryz.underlying22 Tryz.underlying5 (by omega) ?_
    intro A c w2 hcl hbs hb
    have HBn := Aside0.mk (below_step (by repeat (first | (with_reducible first | exact HB.out | apply below_alloc | apply pw_below_drewN | apply below_drew1) | exact HB.out)) hb); clear HB; have HB := HBn; clear HBn
    have HBS := Aside0.mk hbs
    clear hb hbs
    go_wp2_with (go_at_call 158; (with_reducible refine (cfn_calls _ _ _ _ HBS.out hcl hbl (bytesOf_B8 s)).mono ?_); rintro e w3 ⟨rfl, hw'⟩; obtain rfl := hw'.symm; rw [HO.out])
    go_ret
    exact ⟨rfl, HB.out⟩
end Go.Proofs.YtdjbbncoioghfaaGreatDoor.X
