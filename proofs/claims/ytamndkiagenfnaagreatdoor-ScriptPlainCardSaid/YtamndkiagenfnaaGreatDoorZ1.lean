/- Texts of this work, merged in build order: B, Shelf, Show, Num, Dec, Pf1, Inf, Api, K, WdL, WdP, Wd, Wi, Gen, Coll, FnN, FnK, Fky. -/
import Derived.Test.YtamndkiagenfnaaGreatDoorZ0
import Derived.Test.YtamndkiagenfnaaGreatDoorProg
import Derived.Lib.LaidTab
import Derived.Lib.AppendIntMem
import Derived.Lib.ConvBytes
import Derived.Lib.SlBytesConst
import Derived.Laws.IdiomStrings
import Derived.Shelf.Strings.Builder1
import Derived.Shelf.Strings.Builder2
import Derived.Shelf.Strings.OnBuilder
import Derived.Shelf.Strings.Trim
import Derived.Shelf.Small.Utf8
import Derived.Shelf.Small.Strs
import Derived.Shelf.Strings.BuilderF
import Derived.Shelf.Strings.BuilderK
import Derived.Shelf.Strings.Builder2Cap
import Derived.Shelf.Strconv.Itoa0
import Derived.Shelf.Strconv.Itoa1
import Derived.Shelf.LaysM
import Derived.Shelf.Strconv.Itoa2
import Derived.Shelf.Strconv.Itoa3
import Derived.Shelf.Strconv.Clone
import Derived.Shelf.Strconv.SyntaxError
import Derived.Shelf.LaysC
import Derived.Shelf.Strconv.ToError
import Derived.Shelf.Strconv.Lower
import Derived.Shelf.Strconv.ParseUint10
import Derived.Shelf.Strconv.ParseUint10Empty
import Derived.Shelf.Strconv.ParseUint10Any
import Derived.Shelf.Strconv.RangeError
import Derived.Shelf.Strconv.ToErrorRange
import Derived.Shelf.Strconv.ParseUintEmpty
import Derived.Shelf.Strconv.ParseUint10b64
import Derived.Shelf.Strconv.ParseUint10b32
import Derived.Shelf.Strconv.ParseUint10b16
import Derived.Shelf.Strconv.ParseUint10b8
import Derived.Shelf.Strconv.ParseUint10At
import Derived.Ground.MpProg
import Derived.Shelf.Pu.ParseUintPublic10
import Derived.Shelf.Pu.ErrVarParseUint
import Derived.Shelf.Strings.Search1
import Derived.Shelf.Strings.Search2
import Derived.Shelf.Strings.Cut
import Derived.Shelf.Strings.Shaped
import Derived.Shelf.Strings.Prefix
import Derived.Shelf.Unicode.Decode
import Derived.Shelf.Strings.Runes
import Derived.Shelf.Strings.AsciiSet
import Derived.Shelf.Unicode.DecodeSlow
import Derived.Shelf.Unicode.DecodeAny
import Derived.Shelf.Strings.BuilderCap
import Derived.Shelf.Bytes.SlIndexSmall
import Derived.Shelf.Bytes.SlIndexAt
import Derived.Shelf.Bytes.SlSearch0
import Derived.Shelf.Bytes.SlSearch1
import Derived.Shelf.Bytes.SlSearch2
import Derived.Shelf.Bytes.SlIndexWhole
import Derived.Shelf.Bytes.SlSmallAll
import Derived.Shelf.Bytes.SlEqualAll
import Derived.Ground.SlbtProg
import Derived.Shelf.Bytes.SlCut
import Derived.Shelf.Bytes.Small
import Derived.Shelf.Bytes.IndexByte
import Derived.Lib.ItoaMem
import Derived.Lib.Walk
import Derived.BigCall
import Derived.BigGuard
import Derived.Lib.ParseIntBCases
import Derived.Lib.AtoiAll
import Derived.Lib.ItoaNum
import Derived.Laws.Strings
import Derived.Sort.Walk0
import Derived.Laws.BitsLemmas
import Derived.Laws.Bits64
import Derived.Below
import Derived.Deep.Draws
import Derived.Deep.AppendLies
import Derived.Maps.AppendAt
import Derived.OwnWalk
import Derived.Laws.BytesArg
import Derived.Laws.MakeOwn
import Derived.Laws.OwnMore
import Derived.Deep.OwnRows
import Derived.Tactics
import Derived.Laws.Slices
import Derived.WalkKit
import Derived.KernelRfl
import Derived.RowKit3
import Derived.Deep.LoopGhost
import Derived.Deep.QuietTactic
import Derived.BigQuiet
import Derived.WideLaws
import Derived.Deep.DeepCutAuto
import Derived.Deep.CutBlock
import Derived.Deep.RegionHeld3
import Derived.Laws.Rows
import Derived.Lib.AppendStr
import Derived.ArgAppend
import Derived.Laws.IdiomCopy
import Derived.OrdersHeld
import Derived.RowKit
import Derived.Lib.TrimByte
import Derived.Lib.Bytealg
import Derived.IntWalk
import Derived.RangeFuncNested
import Derived.RangeFuncBound
import Derived.RangeFuncCalls
import Derived.RangeFuncLeaves
import Derived.RangeFuncBox
import Derived.Shelf.Abstract
import Derived.Shelf.RegionOpen
import Derived.OwnWalkIn
import Derived.TacticsInMore
import Derived.LoopNIn
import Derived.LoopIn
import Derived.Outline
import Derived.Laws.CopyOwn
namespace Go.Proofs.YtamndkiagenfnaaGreatDoor.X
open Go.RowKit Go.Proofs.YtamndkiagenfnaaGreatDoorW.PrintWords
set_option linter.unusedVariables false

/-- What the laid variables hold: the table by which digits are reckoned, and strconv's two errors. -/
structure Tabs (w : World) : Prop where
  tab : Lib.TabIs Tryz.prog w "internal/strconv.uint64pow10" .u64 Lib.pow10Tab
  syn : ∃ tp p, w.cell? ⟨5, 0, none⟩ = some (.iface tp p)
  rng : ∃ tp p, w.cell? ⟨6, 0, none⟩ = some (.iface tp p)
theorem Tabs.below {w w' : World} (h : Tabs w) (hb : Below w.heap.size w w') : Tabs w' :=
  ⟨(Lib.tabBelow_of_tabIs h.tab) w' hb, by
    obtain ⟨tp, p, e⟩ := h.syn
    exact ⟨tp, p, (hb.cell (World.block_lt_of_cell? _ _ e)).trans e⟩, by
    obtain ⟨tp, p, e⟩ := h.rng
    exact ⟨tp, p, (hb.cell (World.block_lt_of_cell? _ _ e)).trans e⟩⟩

theorem bcell {W w1 : World} (hb : Below W.heap.size W w1) : (∀ b o, b < W.heap.size → w1.cell? ⟨b, o, none⟩ = W.cell? ⟨b, o, none⟩) ∧ (∀ b o, b < W.heap.size → w1.frozen? ⟨b, o, none⟩ = W.frozen? ⟨b, o, none⟩) :=
  ⟨fun b o h => hb.cell (p := ⟨b, o, none⟩) h, fun b o h => hb.frozen (p := ⟨b, o, none⟩) h⟩

theorem ha_at {W : World} {o : Obj} {i : Nat} (h : W.heap.size = i) : (W.alloc o).heap[i]? = some o := by
  subst h
  show (W.heap.push o)[W.heap.size]? = some o
  simp
theorem ha_old {W : World} {o v : Obj} {i : Nat} (h : W.heap[i]? = some v) : (W.alloc o).heap[i]? = some v := by
  show (W.heap.push o)[i]? = some v
  have hi := (Array.getElem?_eq_some_iff.1 h).1
  rw [Array.getElem?_push, if_neg (by omega)]
  exact h
theorem blk_cells {w : World} {g : Nat} {cs : Array Value} {t : TypeId} (h : w.heap[g]? = some (.cells cs t (0, 0))) (j : Nat) (v : Value) (hv : cs[j]? = some v) : w.cell? ⟨g, j, none⟩ = some v := by
  simp [World.cell?, h, hv]
theorem blk_free {w : World} {g : Nat} {cs : Array Value} {t : TypeId} (h : w.heap[g]? = some (.cells cs t (0, 0))) (j : Nat) : w.frozen? ⟨g, j, none⟩ = false := by
  simp [World.frozen?, h]
theorem addr_plain {w : World} {a : Addr} {v : Value} (h : w.cell? a = some v) : ∃ b o, a = ⟨b, o, none⟩ ∧ b < w.heap.size := by
  have hb := World.block_lt_of_cell? _ _ h
  obtain ⟨b, o, s⟩ := a
  refine ⟨b, o, ?_, hb⟩
  cases s with
  | none => rfl
  | some z =>
    exfalso
    unfold World.cell? at h
    split at h <;> simp at h
theorem iter_pos {w : World} {k : Nat} {s : ByteArray} {pos : Nat} (h : w.heap[k]? = some (.stringIter s pos)) : w.iterPos k = pos := by simp [World.iterPos, h]
/-- A slice of bytes that is read. -/
abbrev Bytes (w : World) (A : Option Addr) (l : List Int) : Prop := (Kd.int .u8).C w A l.length l
/-- What a call hands back: a slice of bytes. -/
def RetBytes (l : List Int) (w : World) (e : Ending) (w' : World) : Prop := ∃ A c, e = .returned (.slice A l.length c) ∧ l.length ≤ c ∧ Bytes w' A l ∧ Below w.heap.size w w'

theorem bytesWorld_below (W : World) (e : TypeId) (s : ByteArray) : Below W.heap.size W (Lib.bytesWorld W e s) := by
  refine ⟨rfl, rfl, rfl, ?_, fun j hj => Lib.bytesWorld_at_old W e s j hj⟩
  rw [Lib.bytesWorld_size]; omega
theorem bytesWorld_C (W : World) (e : TypeId) (s : ByteArray) (hs : s.size ≤ 9223372036854775807) : Bytes (Lib.bytesWorld W e s) (some ⟨W.heap.size, 0, none⟩) (bytesOf s) := by
  refine ⟨rfl, by rw [bytesOf_length]; exact hs, fun _ => ⟨_, rfl, fun j p hj => ⟨[.int .u8 p], rfl, rfl, fun i u hu => ?_⟩⟩⟩
  have hjl : j < s.size := by
    have := (List.getElem?_eq_some_iff.1 hj).1
    rwa [bytesOf_length] at this
  match i, hu with
  | 0, hu =>
    have hu' : Value.int .u8 p = u := by simpa using hu
    have hc := Lib.bytesWorld_cell W e s j hjl
    have ha : (⟨W.heap.size, 0, none⟩ : Addr).add (j * (Kd.int .u8).sz + 0) = ⟨W.heap.size, j, none⟩ := by
      show (⟨W.heap.size, 0, none⟩ : Addr).add (j * 1 + 0) = _
      unfold Addr.add
      split <;> simp_all
    rw [ha, ← hu']
    have hp : ((s.data.toList.getD j 0).toNat : Int) = p := by
      have h2 : bytesOf s = s.data.toList.map fun b => (b.toNat : Int) := rfl
      rw [h2, List.getElem?_map] at hj
      obtain ⟨b, hb, hb2⟩ := Option.map_eq_some_iff.1 hj
      rw [← hb2, List.getD_eq_getElem?_getD, hb]
      rfl
    rw [← hp, ← hc]

/-- A block's cells, as a row that is read. -/
theorem C_at_blk {α : Type} (d : Kd α) {W : World} {b : Nat} {e : TypeId} {fr : Nat × Nat} {cells : Array Value} (hb : W.heap[b]? = some (.cells cells e fr)) (xs : List α) (hn : xs.length ≤ 9223372036854775807) (hr : Reps (d.K W) d.sz xs cells.toList) :
    d.C W (some ⟨b, 0, none⟩) xs.length xs := by
  refine ⟨rfl, hn, fun _ => ⟨_, rfl, fun j p hj => ?_⟩⟩
  have hp := hr.2 j p hj
  refine ⟨_, d.K_len hp, hp, fun i u hu => ?_⟩
  have ha : (⟨b, 0, none⟩ : Addr).add (j * d.sz + i) = ⟨b, j * d.sz + i, none⟩ := by
    unfold Addr.add
    split <;> simp_all
  have hc : W.cell? ⟨b, j * d.sz + i, none⟩ = cells[j * d.sz + i]? := by simp [World.cell?, hb]
  rw [ha, hc]
  rw [List.getElem?_take] at hu
  split at hu
  · rw [List.getElem?_drop] at hu
    simpa using hu
  · cases hu
theorem Bytes_at {W : World} {b : Nat} {e : TypeId} {fr : Nat × Nat} {cells : Array Value} (hb : W.heap[b]? = some (.cells cells e fr)) (xs : List Int) (hn : xs.length ≤ 9223372036854775807) (hc : cells = (xs.map (Value.int .u8)).toArray) : Bytes W (some ⟨b, 0, none⟩) xs := by
  subst hc
  refine C_at_blk (Kd.int .u8) hb xs hn ⟨by simp [Kd.int, Kd.scalar], fun j p hj => ?_⟩
  show ((xs.map (Value.int .u8)).drop (j * 1)).take 1 = [Value.int .u8 p]
  rw [Nat.mul_one]
  obtain ⟨hl, hp⟩ := List.getElem?_eq_some_iff.1 hj
  rw [List.drop_eq_getElem_cons (by simpa using hl)]
  simp [hp]
section
variable {P : Program} {ops : Array Oper} {rest : List Oper} {o : Oper} {a : Act} {Q : Exit → Act → World → Prop} {W : World}
/-- An arm: 'string(b)' of a slice that is read. -/
theorem wp_strof (hgd : o.guard = none) (src dst e : TypeId) (x : Operand) (ho : o.op = .convert src dst x) (A : Option Addr) (n c : Nat) (xs : List Int) (hx : a.eval x = .slice A n c)
    (hs : P.underlying src = some (.slice e)) (he : P.underlying e = some (.int .u8)) (hd : P.underlying dst = some .string) (hC : (Kd.int .u8).C W A n xs)
    (h : wpList P ops Q rest (a.put o.dst (.string (strOfNums xs))) W) : wpList P ops Q (o :: rest) a W := by
  refine Kd.event_run hgd (v := .string (strOfNums xs)) (w1 := W) ?_ h
  have hr := Kd.C_string (c := c) hs he hd hC
  simp [execOp, ho, hx, hr]
/-- An arm: '[]byte' of a constant: the row that was just laid gets its mark. -/
theorem wp_const (hgd : o.guard = none) (t e : TypeId) (x : Operand) (ho : o.op = .convert t t x) (b n c : Nat) (C : Array Value) (hx : a.eval x = .slice (some ⟨b, 0, none⟩) n c)
    (hb : b = W.heap.size) (ht : P.underlying t = some (.slice e)) (he : P.underlying e = some (.int .u8))
    (h : wpList P ops Q rest (a.put o.dst (.slice (some ⟨b, 0, none⟩) n c)) (W.alloc (.cells C e (C.size, C.size + 1)))) : wpList P ops Q (o :: rest) a (W.alloc (.cells C e)) := by
  subst hb
  refine Kd.event_run hgd (v := .slice (some ⟨W.heap.size, 0, none⟩) n c) (w1 := W.alloc (.cells C e (C.size, C.size + 1))) ?_ h
  have hr := Lib.run_convert_bytes_const (P := P) W t e C n c ht he
  simp [execOp, ho, hx, hr]
theorem wp_const_drew (hgd : o.guard = none) (t e : TypeId) (x : Operand) (ho : o.op = .convert t t x) (b n c : Nat) (C : Array Value) (hx : a.eval x = .slice (some ⟨b, 0, none⟩) n c)
    (hb : b = W.heap.size) (ht : P.underlying t = some (.slice e)) (he : P.underlying e = some (.int .u8))
    (h : wpList P ops Q rest (a.put o.dst (.slice (some ⟨b, 0, none⟩) n c)) ((W.alloc (.cells C e (C.size, C.size + 1))).drew)) : wpList P ops Q (o :: rest) a ((W.alloc (.cells C e)).drew) :=
  wp_const (W := W.drew) hgd t e x ho b n c C hx hb ht he h
/-- An arm: '[]byte(s)'. -/
theorem wp_bytes (hgd : o.guard = none) (src dst e : TypeId) (x : Operand) (ho : o.op = .convert src dst x) (s : ByteArray) (hx : a.eval x = .string s)
    (hs : P.underlying src = some .string) (hdt : P.underlying dst = some (.slice e)) (he : P.underlying e = some (.int .u8)) (hl : s.size ≤ 9223372036854775807)
    (h : ∀ A c w1, (bytesOf s).length ≤ c → Bytes w1 A (bytesOf s) → Below W.heap.size W w1 → wpList P ops Q rest (a.put o.dst (.slice A (bytesOf s).length c)) w1) : wpList P ops Q (o :: rest) a W := by
  refine Kd.event_run hgd (v := .slice (some ⟨W.heap.size, 0, none⟩) (bytesOf s).length (grownCap W s.size 0 e)) (w1 := Lib.bytesWorld W e s) ?_ (h _ _ _ (by rw [bytesOf_length]; exact grownCap_ge _ _ _ _) (bytesWorld_C W e s hl) (bytesWorld_below W e s))
  have hr := Lib.run_convert_string_bytes (P := P) W src dst e s hs hdt he
  simp [execOp, ho, hx, hr, bytesOf_length]
/-- '[]byte(s)' in a region that draws its order. -/
theorem step_bytes {K : Act → World → Prop} {E : Prop} (hgd : o.guard = none) (src dst e : TypeId) (x : Operand) (ho : o.op = .convert src dst x) (s : ByteArray) (hx : a.eval x = .string s)
    (hs : P.underlying src = some .string) (hdt : P.underlying dst = some (.slice e)) (he : P.underlying e = some (.int .u8)) (hl : s.size ≤ 9223372036854775807)
    (h : ∀ A c w1, (bytesOf s).length ≤ c → Bytes w1 A (bytesOf s) → Below W.heap.size W w1 → K (a.put o.dst (.slice A (bytesOf s).length c)) w1) : if Region.wanted o (yielded ops a.tmps) = true then Oper.wp P o a W K Q else E := by
  have hw : Region.wanted o (yielded ops a.tmps) = true := by simp [Region.wanted, hgd]
  rw [if_pos hw]
  have hr := Lib.run_convert_string_bytes (P := P) W src dst e s hs hdt he
  have hrun : (execOp a.eval o).run P W = .ok (.value (.slice (some ⟨W.heap.size, 0, none⟩) (bytesOf s).length (grownCap W s.size 0 e))) (Lib.bytesWorld W e s) := by simp [execOp, ho, hx, hr, bytesOf_length]
  unfold Oper.wp
  rw [hrun]
  exact h _ _ _ (by rw [bytesOf_length]; exact grownCap_ge _ _ _ _) (bytesWorld_C W e s hl) (bytesWorld_below W e s)
end
theorem upon_bytes {P : Program} {o : Oper} {a : Act} {K : Act → World → Prop} {Q : Exit → Act → World → Prop} {W : World} (src dst e : TypeId) (s : ByteArray)
    (hs : P.underlying src = some .string) (hdt : P.underlying dst = some (.slice e)) (he : P.underlying e = some (.int .u8)) (hl : s.size ≤ 9223372036854775807)
    (h : ∀ A c w1, (bytesOf s).length ≤ c → Bytes w1 A (bytesOf s) → Below W.heap.size W w1 → K (a.put o.dst (.slice A (bytesOf s).length c)) w1) : Oper.upon P o a K Q (((convert src dst (.string s)).run P W).andThen fun v w' => .ok (.value v) w') := by
  rw [Lib.run_convert_string_bytes (P := P) W src dst e s hs hdt he]
  have := h _ _ _ (by rw [bytesOf_length]; exact grownCap_ge W s.size 0 e) (bytesWorld_C W e s hl) (bytesWorld_below W e s)
  rw [bytesOf_length] at this
  exact this
theorem bs_beq (a b : ByteArray) : (a == b) = true ↔ a = b := by
  rcases a with ⟨a⟩; rcases b with ⟨b⟩
  have h : ((⟨a⟩ : ByteArray) == ⟨b⟩) = (a == b) := rfl
  rw [h]
  simp
theorem bs_nil (a : ByteArray) : a.toList.isEmpty = true ↔ a = ⟨#[]⟩ := by
  rw [ByteArray.toList_eq]
  rcases a with ⟨⟨l⟩⟩
  cases l <;> simp
end Go.Proofs.YtamndkiagenfnaaGreatDoor.X
namespace Go.Proofs
open Go.Shelf
def Tryz.lays169_ren : Go.Shelf.Ren := ⟨fun | 169 => 106 | n => n, fun | 70 => 120 | 9 => 9 | 0 => 0 | 72 => 122 | 37 => 22 | 127 => 156 | 3 => 3 | 5 => 5 | n => n, fun | n => n⟩
theorem Tryz.lays169 : Go.Proofs.Lays.n169 Tryz.prog Tryz.lays169_ren := {
  mixed := by kernel_rfl
  f169 := Tryz.func106.trans (congrArg some (by kernel_rfl))
  t0 := Tryz.underlying0
  a0 := Tryz.isAgg0
  z0 := Tryz.sizeOf0
  v0 := Tryz.zeroValue0
  t3 := Tryz.underlying3
  a3 := Tryz.isAgg3
  z3 := Tryz.sizeOf3
  v3 := Tryz.zeroValue3
  t9 := Tryz.underlying9
  a9 := Tryz.isAgg9
  z9 := Tryz.sizeOf9
  v9 := Tryz.zeroValue9
  t37 := Tryz.underlying22
  a37 := Tryz.isAgg22
  z37 := Tryz.sizeOf22
  v37 := Tryz.zeroValue22
  t70 := Tryz.underlying120
  a70 := Tryz.isAgg120
  z70 := Tryz.sizeOf120
  v70 := Tryz.zeroValue120
  t72 := Tryz.underlying122
  a72 := Tryz.isAgg122
  z72 := Tryz.sizeOf122
  v72 := Tryz.zeroValue122
  t127 := Tryz.underlying156
  a127 := Tryz.isAgg156
  z127 := Tryz.sizeOf156
  v127 := Tryz.zeroValue156 }
theorem Tryz.Builder_Extra_169 : Builder.Extra Tryz.prog Tryz.lays169_ren := {
  sizeBuilder := by kernel_rfl
  liesBuilder := by kernel_rfl
  t5 := Tryz.underlying5
  a5 := Tryz.isAgg5
  z5 := Tryz.sizeOf5
  v5 := Tryz.zeroValue5
  infoByte := by kernel_rfl
  cellsByte := by kernel_rfl
  sizeByte := by kernel_rfl
  neB5 := by decide }
open Go.RowKit in
open Go.RowKit in
open Go.RowKit in
def Tryz.lays241_ren : Go.Shelf.Ren := ⟨fun | 241 => 132 | 277 => 152 | n => n, fun | 70 => 120 | 3 => 3 | 0 => 0 | 72 => 122 | 37 => 22 | 5 => 5 | n => n, fun | n => n⟩
open Go.RowKit in
def Tryz.lays165_ren : Go.Shelf.Ren := ⟨fun | 165 => 104 | 240 => 131 | 241 => 132 | 276 => 151 | 277 => 152 | n => n, fun | 70 => 120 | 3 => 3 | 0 => 0 | 4 => 4 | 9 => 9 | 20 => 20 | 72 => 122 | 37 => 22 | 164 => 172 | 5 => 5 | n => n, fun | n => n⟩
open Go.RowKit in
def Tryz.lays156_ren : Go.Shelf.Ren := ⟨fun | 156 => 75 | 165 => 104 | 166 => 105 | 169 => 106 | 240 => 131 | 241 => 132 | 276 => 151 | 277 => 152 | n => n, fun | 31 => 75 | 9 => 9 | 3 => 3 | 4 => 4 | 0 => 0 | 20 => 20 | 72 => 122 | 76 => 126 | 70 => 120 | 37 => 22 | 75 => 125 | 127 => 156 | 164 => 172 | 5 => 5 | 80 => 128 | n => n, fun | n => n⟩
theorem Tryz.lays156 : Go.Proofs.Lays.n156 Tryz.prog Tryz.lays156_ren := {
  mixed := by kernel_rfl
  f156 := Tryz.func75.trans (congrArg some (by kernel_rfl))
  f165 := Tryz.func104.trans (congrArg some (by kernel_rfl))
  f166 := Tryz.func105.trans (congrArg some (by kernel_rfl))
  f169 := Tryz.func106.trans (congrArg some (by kernel_rfl))
  f240 := Tryz.func131.trans (congrArg some (by kernel_rfl))
  f241 := Tryz.func132.trans (congrArg some (by kernel_rfl))
  f276 := Tryz.func151.trans (congrArg some (by kernel_rfl))
  f277 := Tryz.func152.trans (congrArg some (by kernel_rfl))
  t0 := Tryz.underlying0
  a0 := Tryz.isAgg0
  z0 := Tryz.sizeOf0
  v0 := Tryz.zeroValue0
  t3 := Tryz.underlying3
  a3 := Tryz.isAgg3
  z3 := Tryz.sizeOf3
  v3 := Tryz.zeroValue3
  t4 := Tryz.underlying4
  a4 := Tryz.isAgg4
  z4 := Tryz.sizeOf4
  v4 := Tryz.zeroValue4
  t9 := Tryz.underlying9
  a9 := Tryz.isAgg9
  z9 := Tryz.sizeOf9
  v9 := Tryz.zeroValue9
  t20 := Tryz.underlying20
  a20 := Tryz.isAgg20
  z20 := Tryz.sizeOf20
  v20 := Tryz.zeroValue20
  t31 := Tryz.underlying75
  a31 := Tryz.isAgg75
  z31 := Tryz.sizeOf75
  v31 := Tryz.zeroValue75
  t37 := Tryz.underlying22
  a37 := Tryz.isAgg22
  z37 := Tryz.sizeOf22
  v37 := Tryz.zeroValue22
  t70 := Tryz.underlying120
  a70 := Tryz.isAgg120
  z70 := Tryz.sizeOf120
  v70 := Tryz.zeroValue120
  t72 := Tryz.underlying122
  a72 := Tryz.isAgg122
  z72 := Tryz.sizeOf122
  v72 := Tryz.zeroValue122
  t75 := Tryz.underlying125
  a75 := Tryz.isAgg125
  z75 := Tryz.sizeOf125
  v75 := Tryz.zeroValue125
  t76 := Tryz.underlying126
  a76 := Tryz.isAgg126
  z76 := Tryz.sizeOf126
  v76 := Tryz.zeroValue126
  t127 := Tryz.underlying156
  a127 := Tryz.isAgg156
  z127 := Tryz.sizeOf156
  v127 := Tryz.zeroValue156
  t164 := Tryz.underlying172
  a164 := Tryz.isAgg172
  z164 := Tryz.sizeOf172
  v164 := Tryz.zeroValue172 }
theorem Tryz.Builder_Extra_156 : Builder.Extra Tryz.prog Tryz.lays156_ren := {
  sizeBuilder := by kernel_rfl
  liesBuilder := by kernel_rfl
  t5 := Tryz.underlying5
  a5 := Tryz.isAgg5
  z5 := Tryz.sizeOf5
  v5 := Tryz.zeroValue5
  infoByte := by kernel_rfl
  cellsByte := by kernel_rfl
  sizeByte := by kernel_rfl
  neB5 := by decide }
open Go.RowKit in
/-- No element: the empty string; the world is as it was. (Whatever the slice's address and capacity: a nil slice too.) (LAID: no walk: one application.) -/
theorem Tryz.strings_Join_none (a : Option Addr) (c : Nat) (sep : ByteArray) (w : World) :
    Calls Tryz.prog 75 #[.slice a 0 c, .string sep] w fun e w' => e = .returned (.string ⟨#[]⟩) ∧ w' = w := Any.strings_Join_none Tryz.lays156 Tryz.Builder_Extra_156 a c sep w
open Go.RowKit in
/-- strings.Join: "Join concatenates the elements of its first argument to create a single string. The separator string sep is placed between elements in the resulting string.": HOWEVER MANY ELEMENTS. Below the heap's end the world is as it was. (LAID: no walk: one application.) -/
theorem Tryz.strings_Join (bk o c : Nat) (xs : List ByteArray) (sep : ByteArray) (w : World) (hcells : ∀ (j : Nat) x, xs[j]? = some x → w.cell? ⟨bk, o + j, none⟩ = some (.string x)) (hbk : bk < w.heap.size) (hN : xs.length ≤ 140737488355328) (hcap : xs.length ≤ c) (hlen : (Lib.join (xs.map (·.data.toList)) sep.data.toList).length ≤ 140737488355328) :
    Calls Tryz.prog 75 #[.slice (some ⟨bk, o, none⟩) xs.length c, .string sep] w fun e w' => e = .returned (.string ⟨(Lib.join (xs.map (·.data.toList)) sep.data.toList).toArray⟩) ∧ Below w.heap.size w w' := Any.strings_Join Tryz.lays156 Tryz.Builder_Extra_156 bk o c xs sep w hcells hbk hN hcap hlen
def Tryz.lays231_ren : Go.Shelf.Ren := ⟨fun | 231 => 111 | n => n, fun | 9 => 9 | 5 => 5 | 3 => 3 | 4 => 4 | n => n, fun | n => n⟩
open Go.RowKit in
def Tryz.lays161_ren : Go.Shelf.Ren := ⟨fun | 161 => 81 | 231 => 111 | 227 => 112 | 233 => 113 | 235 => 114 | 228 => 135 | 197 => 136 | 151 => 137 | 260 => 153 | 152 => 154 | 137 => 92 | 119 => 168 | 224 => 109 | 225 => 155 | 217 => 124 | 266 => 144 | n => n, fun | 9 => 9 | 4 => 4 | 3 => 3 | 5 => 5 | 117 => 133 | 116 => 132 | 0 => 0 | 124 => 136 | 105 => 159 | 21 => 21 | 119 => 183 | 46 => 102 | 139 => 186 | 138 => 185 | n => n, fun | 3 => 3 | 4 => 4 | n => n⟩
theorem Tryz.lays161 : Go.Proofs.Lays.n161 Tryz.prog Tryz.lays161_ren := {
  mixed := by kernel_rfl
  f119 := Tryz.func168.trans (congrArg some (by kernel_rfl))
  f137 := Tryz.func92.trans (congrArg some (by kernel_rfl))
  f151 := Tryz.func137.trans (congrArg some (by kernel_rfl))
  f152 := Tryz.func154.trans (congrArg some (by kernel_rfl))
  f161 := Tryz.func81.trans (congrArg some (by kernel_rfl))
  f197 := Tryz.func136.trans (congrArg some (by kernel_rfl))
  f217 := Tryz.func124.trans (congrArg some (by kernel_rfl))
  f224 := Tryz.func109.trans (congrArg some (by kernel_rfl))
  f225 := Tryz.func155.trans (congrArg some (by kernel_rfl))
  f227 := Tryz.func112.trans (congrArg some (by kernel_rfl))
  f228 := Tryz.func135.trans (congrArg some (by kernel_rfl))
  f231 := Tryz.func111.trans (congrArg some (by kernel_rfl))
  f233 := Tryz.func113.trans (congrArg some (by kernel_rfl))
  f235 := Tryz.func114.trans (congrArg some (by kernel_rfl))
  f260 := Tryz.func153.trans (congrArg some (by kernel_rfl))
  f266 := Tryz.func144.trans (congrArg some (by kernel_rfl))
  t0 := Tryz.underlying0
  a0 := Tryz.isAgg0
  z0 := Tryz.sizeOf0
  v0 := Tryz.zeroValue0
  t3 := Tryz.underlying3
  a3 := Tryz.isAgg3
  z3 := Tryz.sizeOf3
  v3 := Tryz.zeroValue3
  t4 := Tryz.underlying4
  a4 := Tryz.isAgg4
  z4 := Tryz.sizeOf4
  v4 := Tryz.zeroValue4
  t5 := Tryz.underlying5
  a5 := Tryz.isAgg5
  z5 := Tryz.sizeOf5
  v5 := Tryz.zeroValue5
  t9 := Tryz.underlying9
  a9 := Tryz.isAgg9
  z9 := Tryz.sizeOf9
  v9 := Tryz.zeroValue9
  t21 := Tryz.underlying21
  a21 := Tryz.isAgg21
  z21 := Tryz.sizeOf21
  v21 := Tryz.zeroValue21
  t46 := Tryz.underlying102
  a46 := Tryz.isAgg102
  z46 := Tryz.sizeOf102
  v46 := Tryz.zeroValue102
  t105 := Tryz.underlying159
  a105 := Tryz.isAgg159
  z105 := Tryz.sizeOf159
  v105 := Tryz.zeroValue159
  t116 := Tryz.underlying132
  a116 := Tryz.isAgg132
  z116 := Tryz.sizeOf132
  t117 := Tryz.underlying133
  a117 := Tryz.isAgg133
  z117 := Tryz.sizeOf133
  v117 := Tryz.zeroValue133
  t119 := Tryz.underlying183
  a119 := Tryz.isAgg183
  z119 := Tryz.sizeOf183
  t124 := Tryz.underlying136
  a124 := Tryz.isAgg136
  z124 := Tryz.sizeOf136
  v124 := Tryz.zeroValue136
  t138 := Tryz.underlying185
  a138 := Tryz.isAgg185
  z138 := Tryz.sizeOf185
  v138 := Tryz.zeroValue185
  t139 := Tryz.underlying186
  a139 := Tryz.isAgg186
  z139 := Tryz.sizeOf186
  v139 := Tryz.zeroValue186
  g3 := by kernel_rfl
  g4 := by kernel_rfl }
open Go.RowKit in
/-- strings.TrimLeft: "TrimLeft returns a slice of the string s with all leading Unicode code points contained in cutset removed.": AT A cutset OF ONE ASCII BYTE. The world is as it was. (LAID: no walk: one application.) -/
theorem Tryz.strings_TrimLeft_one (s : ByteArray) (c : UInt8) (hc : c.toNat < 128) (w : World) :
    Calls Tryz.prog 81 #[.string s, .string ⟨#[c]⟩] w fun e w' => e = .returned (.string ⟨(Lib.trimLeftB s.data.toList c).toArray⟩) ∧ w' = w := Any.strings_TrimLeft_one Tryz.lays161 s c hc w
def Tryz.lays119_ren : Go.Shelf.Ren := ⟨fun | 119 => 168 | n => n, fun | 21 => 21 | 4 => 4 | n => n, fun | n => n⟩
def Tryz.lays137_ren : Go.Shelf.Ren := ⟨fun | 137 => 92 | 217 => 124 | 266 => 144 | n => n, fun | 9 => 9 | 5 => 5 | 3 => 3 | n => n, fun | n => n⟩
theorem Tryz.lays137 : Go.Proofs.Lays.n137 Tryz.prog Tryz.lays137_ren := {
  mixed := by kernel_rfl
  f137 := Tryz.func92.trans (congrArg some (by kernel_rfl))
  f217 := Tryz.func124.trans (congrArg some (by kernel_rfl))
  f266 := Tryz.func144.trans (congrArg some (by kernel_rfl))
  t3 := Tryz.underlying3
  a3 := Tryz.isAgg3
  z3 := Tryz.sizeOf3
  v3 := Tryz.zeroValue3
  t5 := Tryz.underlying5
  a5 := Tryz.isAgg5
  z5 := Tryz.sizeOf5
  v5 := Tryz.zeroValue5
  t9 := Tryz.underlying9
  a9 := Tryz.isAgg9
  z9 := Tryz.sizeOf9
  v9 := Tryz.zeroValue9 }
open Go.RowKit in
/-- strings.IndexByte: "IndexByte returns the index of the first instance of c in s, or -1 if c is not present in s.": IT RETURNS 'Lib.indexByte s c'; the world is as it was. (LAID: no walk: one application.) -/
theorem Tryz.strings_IndexByte (s : ByteArray) (c : Int) (w : World) :
    Calls Tryz.prog 92 #[.string s, .int .u8 c] w fun e w' => e = .returned (.int .i64 (Lib.indexByte s.data.toList c.toNat.toUInt8)) ∧ w' = w := Any.strings_IndexByte Tryz.lays137 s c w
open Go.RowKit in
open Go.RowKit in
open Go.RowKit in
open Go.RowKit in
open Go.RowKit in
open Go.RowKit in
/-- (*strings.Builder).String: "String returns the accumulated string.": WHATEVER THE BUILDER HOLDS; THE FORM '_k': OVER 'Lib.IsBuilderF' (a builder that 'String()' may have read), AND WITH THE FRAME THAT REACHES ABOVE THE BUILDER: 'Lib.OthersKept': every block that is not b and is no row of uint8's stands as it stood: the iterator of a range among them. (LAID: no walk: one application.) -/
theorem Tryz.Builder_String_any_k (B b : Nat) (l : List UInt8) (w : World) (h : Lib.IsBuilderF 122 5 B b (Lib.byteCells l) w) (hBw : B ≤ w.heap.size) :
    Calls Tryz.prog 106 #[.pointer (some ⟨b, 0, none⟩)] w fun e w' => e = .returned (.string ⟨l.toArray⟩) ∧ (Lib.IsBuilderF 122 5 B b (Lib.byteCells l) w' ∧ Below B w w' ∧ Lib.OthersKept 5 (some b) w w') := Any.Builder_String_any_k Tryz.lays169 Tryz.Builder_Extra_169 B b l w h hBw
open Go.RowKit in
open Go.RowKit in
def Tryz.lays129_ren : Go.Shelf.Ren := ⟨fun | 129 => 147 | n => n, fun | 53 => 24 | 3 => 3 | 4 => 4 | 46 => 102 | 5 => 5 | 9 => 9 | n => n, fun | n => n⟩
def Tryz.lays317_ren : Go.Shelf.Ren := ⟨fun | 317 => 146 | n => n, fun | 3 => 3 | 46 => 102 | n => n, fun | n => n⟩
open Go.Lib in
def Tryz.lays318_ren : Go.Shelf.Ren := ⟨fun | 318 => 148 | n => n, fun | 3 => 3 | 4 => 4 | n => n, fun | n => n⟩
open Go.Lib in
def Tryz.lays283_ren : Go.Shelf.Ren := ⟨fun | 283 => 127 | n => n, fun | 3 => 3 | 9 => 9 | 4 => 4 | n => n, fun | n => n⟩
theorem Tryz.lays283 : Go.Proofs.Lays.n283 Tryz.prog Tryz.lays283_ren := {
  mixed := by kernel_rfl
  f283 := Tryz.func127.trans (congrArg some (by kernel_rfl))
  t3 := Tryz.underlying3
  a3 := Tryz.isAgg3
  z3 := Tryz.sizeOf3
  v3 := Tryz.zeroValue3
  t4 := Tryz.underlying4
  a4 := Tryz.isAgg4
  z4 := Tryz.sizeOf4
  v4 := Tryz.zeroValue4
  t9 := Tryz.underlying9
  a9 := Tryz.isAgg9
  z9 := Tryz.sizeOf9
  v9 := Tryz.zeroValue9 }
open Go.Lib in
/-- internal/strconv.small: "small returns the string for an i with 0 <= i < nSmalls.": i's decimal numeral. The world is as it was. (LAID: no walk: one application.) -/
theorem Tryz.internal_strconv_small (i : Nat) (h : i < 100) (w : World) :
    Calls Tryz.prog 127 #[.int .i64 i] w fun e w' => e = .returned (.string ⟨(Lib.decDigits i).toArray⟩) ∧ w' = w := Any.internal_strconv_small Tryz.lays283 i h w
def Tryz.laysM284_ren : Go.Shelf.Ren := ⟨fun | 284 => 128 | 129 => 147 | 317 => 146 | 318 => 148 | n => n, fun | 53 => 24 | 3 => 3 | 212 => 169 | 0 => 0 | 4 => 4 | 46 => 102 | 5 => 5 | 9 => 9 | n => n, fun | 17 => 1 | n => n⟩
theorem Tryz.laysM284 : Go.Proofs.LaysM.n284 Tryz.prog Tryz.laysM284_ren := {
  mixed := by kernel_rfl
  f129 := Tryz.func147.trans (congrArg some (by kernel_rfl))
  f284 := Tryz.func128.trans (congrArg some (by kernel_rfl))
  f317 := Tryz.func146.trans (congrArg some (by kernel_rfl))
  f318 := Tryz.func148.trans (congrArg some (by kernel_rfl))
  t0 := Tryz.underlying0
  a0 := Tryz.isAgg0
  z0 := Tryz.sizeOf0
  v0 := Tryz.zeroValue0
  t3 := Tryz.underlying3
  a3 := Tryz.isAgg3
  z3 := Tryz.sizeOf3
  v3 := Tryz.zeroValue3
  t4 := Tryz.underlying4
  a4 := Tryz.isAgg4
  z4 := Tryz.sizeOf4
  v4 := Tryz.zeroValue4
  t5 := Tryz.underlying5
  a5 := Tryz.isAgg5
  z5 := Tryz.sizeOf5
  v5 := Tryz.zeroValue5
  t9 := Tryz.underlying9
  a9 := Tryz.isAgg9
  z9 := Tryz.sizeOf9
  v9 := Tryz.zeroValue9
  t46 := Tryz.underlying102
  a46 := Tryz.isAgg102
  z46 := Tryz.sizeOf102
  v46 := Tryz.zeroValue102
  t53 := Tryz.underlying24
  a53 := Tryz.isAgg24
  z53 := Tryz.sizeOf24
  v53 := Tryz.zeroValue24
  t212 := Tryz.underlying169
  a212 := Tryz.isAgg169
  z212 := Tryz.sizeOf169
  v212 := Tryz.zeroValue169
  g17 := by kernel_rfl
  i0 := by kernel_rfl
  i3 := by kernel_rfl
  i4 := by kernel_rfl
  i5 := by kernel_rfl
  i9 := by kernel_rfl
  i46 := by kernel_rfl
  i53 := by kernel_rfl
  i212 := by kernel_rfl
  m17 := by kernel_rfl }
open Go.Lib in
/-- internal/strconv.numDigits, at a d that is not 0: THE NUMBER OF d's DECIMAL DIGITS. The world is as it was. (LAID: no walk: one application.) -/
theorem Tryz.internal_strconv_numDigits (u : Nat) (h1 : 1 ≤ u) (h2 : u < 18446744073709551616) (w : World) (htab : Lib.TabIs Tryz.prog w "internal/strconv.uint64pow10" .u64 Lib.pow10Tab) :
    Calls Tryz.prog 128 #[.int .u64 u] w fun e w' => e = .returned (.int .i64 (Lib.nDigits u)) ∧ w' = w := Any.internal_strconv_numDigits Tryz.laysM284 u h1 h2 w htab
def Tryz.lays285_ren : Go.Shelf.Ren := ⟨fun | 285 => 129 | n => n, fun | 37 => 22 | 53 => 24 | 3 => 3 | 4 => 4 | 51 => 23 | 9 => 9 | 5 => 5 | 0 => 0 | n => n, fun | n => n⟩
theorem Tryz.lays285 : Go.Proofs.Lays.n285 Tryz.prog Tryz.lays285_ren := {
  mixed := by kernel_rfl
  f285 := Tryz.func129.trans (congrArg some (by kernel_rfl))
  t0 := Tryz.underlying0
  a0 := Tryz.isAgg0
  z0 := Tryz.sizeOf0
  v0 := Tryz.zeroValue0
  t3 := Tryz.underlying3
  a3 := Tryz.isAgg3
  z3 := Tryz.sizeOf3
  v3 := Tryz.zeroValue3
  t4 := Tryz.underlying4
  a4 := Tryz.isAgg4
  z4 := Tryz.sizeOf4
  v4 := Tryz.zeroValue4
  t5 := Tryz.underlying5
  a5 := Tryz.isAgg5
  z5 := Tryz.sizeOf5
  v5 := Tryz.zeroValue5
  t9 := Tryz.underlying9
  a9 := Tryz.isAgg9
  z9 := Tryz.sizeOf9
  v9 := Tryz.zeroValue9
  t37 := Tryz.underlying22
  a37 := Tryz.isAgg22
  z37 := Tryz.sizeOf22
  v37 := Tryz.zeroValue22
  t51 := Tryz.underlying23
  a51 := Tryz.isAgg23
  z51 := Tryz.sizeOf23
  v51 := Tryz.zeroValue23
  t53 := Tryz.underlying24
  a53 := Tryz.isAgg24
  z53 := Tryz.sizeOf24
  v53 := Tryz.zeroValue24 }
open Go.RowKit Go.Sort Go.Lib in
/-- internal/strconv.formatBase10: "formatBase10 formats the decimal representation of u into a. The caller is responsible for ensuring that a is big enough to hold u. If a is too big, leading zeros will be filled in as needed.": THE ROW HOLDS u's DIGITS ('FmtInv .. 0 ..': every place t holds 'dg u (len - 1 - t)'); all else is as it was but for the count of draws. (LAID: no walk: one application.) -/
theorem Tryz.internal_strconv_formatBase10 (blk off cap : Nat) (u : Nat) (d : Array UInt8) (w : World) (hH : Holds (fun (b : UInt8) => Value.int .u8 (b.toNat : Int)) w blk off d) (hu : u < 10 ^ d.size) (hu64 : u < 18446744073709551616) (hsz : d.size < 4611686018427387904) :
    Calls Tryz.prog 129 #[.slice (some ⟨blk, off, none⟩) d.size cap, .int .u64 u] w fun e w' =>
      e = .returned (.tuple #[]) ∧ ∃ (n v' : Nat) (dk : Array UInt8), w' = (putRow (fun (b : UInt8) => Value.int .u8 (b.toNat : Int)) w blk off dk).drewN n ∧ FmtInv d.size u 0 v' dk := Any.internal_strconv_formatBase10 Tryz.lays285 blk off cap u d w hH hu hu64 hsz
def Tryz.laysM246_ren : Go.Shelf.Ren := ⟨fun | 246 => 175 | 283 => 127 | 284 => 128 | 285 => 129 | 286 => 130 | 129 => 147 | 317 => 146 | 318 => 148 | 319 => 149 | 320 => 150 | 337 => 166 | 338 => 167 | n => n, fun | 2 => 2 | 3 => 3 | 9 => 9 | 4 => 4 | 171 => 151 | 0 => 0 | 53 => 24 | 37 => 22 | 5 => 5 | 173 => 154 | 212 => 169 | 51 => 23 | 20 => 20 | 213 => 170 | 46 => 102 | 232 => 193 | 233 => 194 | n => n, fun | 17 => 1 | 18 => 7 | 19 => 8 | n => n⟩
open Go.RowKit Go.Sort Go.Lib in
def Tryz.lays246_ren : Go.Shelf.Ren := ⟨fun | 246 => 175 | 283 => 127 | 284 => 128 | 285 => 129 | 286 => 130 | 129 => 147 | 317 => 146 | 318 => 148 | 319 => 149 | 320 => 150 | 337 => 166 | 338 => 167 | n => n, fun | 2 => 2 | 3 => 3 | 9 => 9 | 4 => 4 | 171 => 151 | 0 => 0 | 53 => 24 | 37 => 22 | 5 => 5 | 173 => 154 | 212 => 169 | 51 => 23 | 20 => 20 | 213 => 170 | 46 => 102 | 232 => 193 | 233 => 194 | n => n, fun | 17 => 1 | 18 => 7 | 19 => 8 | n => n⟩
open Go.RowKit Go.Sort Go.Lib in
def Tryz.laysM243_ren : Go.Shelf.Ren := ⟨fun | 243 => 174 | 246 => 175 | 283 => 127 | 284 => 128 | 285 => 129 | 286 => 130 | 129 => 147 | 317 => 146 | 318 => 148 | 319 => 149 | 320 => 150 | 337 => 166 | 338 => 167 | n => n, fun | 3 => 3 | 9 => 9 | 2 => 2 | 4 => 4 | 171 => 151 | 0 => 0 | 53 => 24 | 37 => 22 | 5 => 5 | 173 => 154 | 212 => 169 | 51 => 23 | 20 => 20 | 213 => 170 | 46 => 102 | 232 => 193 | 233 => 194 | n => n, fun | 17 => 1 | 18 => 7 | 19 => 8 | n => n⟩
open Go.RowKit Go.Sort Go.Lib in
def Tryz.lays243_ren : Go.Shelf.Ren := ⟨fun | 243 => 174 | 246 => 175 | 283 => 127 | 284 => 128 | 285 => 129 | 286 => 130 | 129 => 147 | 317 => 146 | 318 => 148 | 319 => 149 | 320 => 150 | 337 => 166 | 338 => 167 | n => n, fun | 3 => 3 | 9 => 9 | 2 => 2 | 4 => 4 | 171 => 151 | 0 => 0 | 53 => 24 | 37 => 22 | 5 => 5 | 173 => 154 | 212 => 169 | 51 => 23 | 20 => 20 | 213 => 170 | 46 => 102 | 232 => 193 | 233 => 194 | n => n, fun | 17 => 1 | 18 => 7 | 19 => 8 | n => n⟩
open Go.RowKit Go.Sort Go.Lib in
def Tryz.laysM171_ren : Go.Shelf.Ren := ⟨fun | 171 => 172 | 243 => 174 | 246 => 175 | 283 => 127 | 284 => 128 | 285 => 129 | 286 => 130 | 129 => 147 | 317 => 146 | 318 => 148 | 319 => 149 | 320 => 150 | 337 => 166 | 338 => 167 | n => n, fun | 3 => 3 | 9 => 9 | 2 => 2 | 4 => 4 | 171 => 151 | 0 => 0 | 53 => 24 | 37 => 22 | 5 => 5 | 173 => 154 | 212 => 169 | 51 => 23 | 20 => 20 | 213 => 170 | 46 => 102 | 232 => 193 | 233 => 194 | n => n, fun | 17 => 1 | 18 => 7 | 19 => 8 | n => n⟩
open Go.RowKit Go.Sort Go.Lib in
def Tryz.lays171_ren : Go.Shelf.Ren := ⟨fun | 171 => 172 | 243 => 174 | 246 => 175 | 283 => 127 | 284 => 128 | 285 => 129 | 286 => 130 | 129 => 147 | 317 => 146 | 318 => 148 | 319 => 149 | 320 => 150 | 337 => 166 | 338 => 167 | n => n, fun | 3 => 3 | 9 => 9 | 2 => 2 | 4 => 4 | 171 => 151 | 0 => 0 | 53 => 24 | 37 => 22 | 5 => 5 | 173 => 154 | 212 => 169 | 51 => 23 | 20 => 20 | 213 => 170 | 46 => 102 | 232 => 193 | 233 => 194 | n => n, fun | 17 => 1 | 18 => 7 | 19 => 8 | n => n⟩
open Go.RowKit Go.Sort Go.Lib in
def Tryz.laysM316_ren : Go.Shelf.Ren := ⟨fun | 316 => 170 | n => n, fun | 9 => 9 | 3 => 3 | 4 => 4 | 37 => 22 | 0 => 0 | 127 => 156 | 5 => 5 | n => n, fun | n => n⟩
open Go.RowKit in
def Tryz.laysM279_ren : Go.Shelf.Ren := ⟨fun | 279 => 159 | 316 => 170 | n => n, fun | 9 => 9 | 168 => 178 | 75 => 125 | 210 => 191 | 3 => 3 | 4 => 4 | 37 => 22 | 0 => 0 | 127 => 156 | 80 => 128 | 5 => 5 | n => n, fun | 15 => 5 | n => n⟩
def Tryz.laysC245_ren : Go.Shelf.Ren := ⟨fun | 245 => 141 | 279 => 159 | 280 => 160 | 281 => 161 | 282 => 162 | 316 => 170 | 171 => 172 | 205 => 171 | 243 => 174 | 246 => 175 | 283 => 127 | 284 => 128 | 285 => 129 | 286 => 130 | 129 => 147 | 317 => 146 | 318 => 148 | 319 => 149 | 320 => 150 | 337 => 166 | 338 => 167 | n => n, fun | 9 => 9 | 3 => 3 | 75 => 125 | 167 => 176 | 4 => 4 | 168 => 178 | 210 => 191 | 37 => 22 | 0 => 0 | 127 => 156 | 145 => 197 | 143 => 195 | 2 => 2 | 171 => 151 | 53 => 24 | 5 => 5 | 173 => 154 | 212 => 169 | 51 => 23 | 20 => 20 | 213 => 170 | 46 => 102 | 232 => 193 | 233 => 194 | 80 => 128 | n => n, fun | 15 => 5 | 16 => 6 | 17 => 1 | 18 => 7 | 19 => 8 | n => n⟩
def Tryz.lays321_ren : Go.Shelf.Ren := ⟨fun | 321 => 157 | n => n, fun | 5 => 5 | n => n, fun | n => n⟩
open Go.RowKit in
def Tryz.lays287_ren : Go.Shelf.Ren := ⟨fun | 287 => 140 | 321 => 157 | 322 => 158 | n => n, fun | 9 => 9 | 3 => 3 | 53 => 24 | 75 => 125 | 4 => 4 | 167 => 176 | 5 => 5 | 46 => 102 | 37 => 22 | 0 => 0 | 21 => 21 | 80 => 128 | n => n, fun | n => n⟩
open Go.RowKit in
def Tryz.laysM280_ren : Go.Shelf.Ren := ⟨fun | 280 => 160 | 316 => 170 | n => n, fun | 9 => 9 | 168 => 178 | 75 => 125 | 210 => 191 | 3 => 3 | 4 => 4 | 37 => 22 | 0 => 0 | 127 => 156 | 80 => 128 | 5 => 5 | n => n, fun | 16 => 6 | n => n⟩
open Go.RowKit in
open Go.RowKit in
open Go.RowKit in
open Go.RowKit in
open Go.RowKit in
open Go.RowKit in
open Go.RowKit in
def Tryz.laysPu14_ren : Go.Shelf.Ren := ⟨fun | 14 => 117 | 16 => 140 | 17 => 141 | 19 => 157 | 20 => 158 | 21 => 159 | 22 => 160 | 23 => 161 | 24 => 162 | 25 => 170 | 27 => 172 | 26 => 171 | 28 => 174 | 29 => 175 | 30 => 127 | 31 => 128 | 32 => 129 | 33 => 130 | 35 => 147 | 34 => 146 | 36 => 148 | 37 => 149 | 38 => 150 | 39 => 166 | 40 => 167 | n => n, fun | 9 => 9 | 3 => 3 | 22 => 24 | 24 => 125 | 25 => 138 | 4 => 4 | 34 => 176 | 5 => 5 | 36 => 102 | 37 => 22 | 0 => 0 | 39 => 178 | 21 => 21 | 44 => 191 | 47 => 156 | 50 => 197 | 48 => 195 | 2 => 2 | 52 => 151 | 55 => 154 | 59 => 169 | 60 => 23 | 20 => 20 | 61 => 170 | 65 => 193 | 66 => 194 | 67 => 128 | n => n, fun | 0 => 5 | 1 => 6 | 2 => 1 | 3 => 7 | 4 => 8 | n => n⟩
theorem Tryz.laysPu14 : Go.Proofs.LaysPu.n14 Tryz.prog Tryz.laysPu14_ren := {
  mixed := by kernel_rfl
  f14 := Tryz.func117.trans (congrArg some (by kernel_rfl))
  f16 := Tryz.func140.trans (congrArg some (by kernel_rfl))
  f17 := Tryz.func141.trans (congrArg some (by kernel_rfl))
  f19 := Tryz.func157.trans (congrArg some (by kernel_rfl))
  f20 := Tryz.func158.trans (congrArg some (by kernel_rfl))
  f21 := Tryz.func159.trans (congrArg some (by kernel_rfl))
  f22 := Tryz.func160.trans (congrArg some (by kernel_rfl))
  f23 := Tryz.func161.trans (congrArg some (by kernel_rfl))
  f24 := Tryz.func162.trans (congrArg some (by kernel_rfl))
  f25 := Tryz.func170.trans (congrArg some (by kernel_rfl))
  f26 := Tryz.func171.trans (congrArg some (by kernel_rfl))
  f27 := Tryz.func172.trans (congrArg some (by kernel_rfl))
  f28 := Tryz.func174.trans (congrArg some (by kernel_rfl))
  f29 := Tryz.func175.trans (congrArg some (by kernel_rfl))
  f30 := Tryz.func127.trans (congrArg some (by kernel_rfl))
  f31 := Tryz.func128.trans (congrArg some (by kernel_rfl))
  f32 := Tryz.func129.trans (congrArg some (by kernel_rfl))
  f33 := Tryz.func130.trans (congrArg some (by kernel_rfl))
  f34 := Tryz.func146.trans (congrArg some (by kernel_rfl))
  f35 := Tryz.func147.trans (congrArg some (by kernel_rfl))
  f36 := Tryz.func148.trans (congrArg some (by kernel_rfl))
  f37 := Tryz.func149.trans (congrArg some (by kernel_rfl))
  f38 := Tryz.func150.trans (congrArg some (by kernel_rfl))
  f39 := Tryz.func166.trans (congrArg some (by kernel_rfl))
  f40 := Tryz.func167.trans (congrArg some (by kernel_rfl))
  t0 := Tryz.underlying0
  a0 := Tryz.isAgg0
  z0 := Tryz.sizeOf0
  v0 := Tryz.zeroValue0
  i0 := by kernel_rfl
  t2 := Tryz.underlying2
  a2 := Tryz.isAgg2
  z2 := Tryz.sizeOf2
  v2 := Tryz.zeroValue2
  i2 := by kernel_rfl
  t3 := Tryz.underlying3
  a3 := Tryz.isAgg3
  z3 := Tryz.sizeOf3
  v3 := Tryz.zeroValue3
  i3 := by kernel_rfl
  t4 := Tryz.underlying4
  a4 := Tryz.isAgg4
  z4 := Tryz.sizeOf4
  v4 := Tryz.zeroValue4
  i4 := by kernel_rfl
  t5 := Tryz.underlying5
  a5 := Tryz.isAgg5
  z5 := Tryz.sizeOf5
  v5 := Tryz.zeroValue5
  i5 := by kernel_rfl
  t9 := Tryz.underlying9
  a9 := Tryz.isAgg9
  z9 := Tryz.sizeOf9
  v9 := Tryz.zeroValue9
  i9 := by kernel_rfl
  t20 := Tryz.underlying20
  a20 := Tryz.isAgg20
  z20 := Tryz.sizeOf20
  v20 := Tryz.zeroValue20
  i20 := by kernel_rfl
  t21 := Tryz.underlying21
  a21 := Tryz.isAgg21
  z21 := Tryz.sizeOf21
  v21 := Tryz.zeroValue21
  i21 := by kernel_rfl
  t22 := Tryz.underlying24
  a22 := Tryz.isAgg24
  z22 := Tryz.sizeOf24
  v22 := Tryz.zeroValue24
  i22 := by kernel_rfl
  t24 := Tryz.underlying125
  a24 := Tryz.isAgg125
  z24 := Tryz.sizeOf125
  v24 := Tryz.zeroValue125
  i24 := by kernel_rfl
  t25 := Tryz.underlying138
  a25 := Tryz.isAgg138
  z25 := Tryz.sizeOf138
  v25 := Tryz.zeroValue138
  i25 := by kernel_rfl
  t34 := Tryz.underlying176
  a34 := Tryz.isAgg176
  z34 := Tryz.sizeOf176
  v34 := Tryz.zeroValue176
  i34 := by kernel_rfl
  c34 := by kernel_rfl
  t36 := Tryz.underlying102
  a36 := Tryz.isAgg102
  z36 := Tryz.sizeOf102
  v36 := Tryz.zeroValue102
  i36 := by kernel_rfl
  t37 := Tryz.underlying22
  a37 := Tryz.isAgg22
  z37 := Tryz.sizeOf22
  v37 := Tryz.zeroValue22
  i37 := by kernel_rfl
  t39 := Tryz.underlying178
  a39 := Tryz.isAgg178
  z39 := Tryz.sizeOf178
  v39 := Tryz.zeroValue178
  i39 := by kernel_rfl
  t44 := Tryz.underlying191
  a44 := Tryz.isAgg191
  z44 := Tryz.sizeOf191
  v44 := Tryz.zeroValue191
  i44 := by kernel_rfl
  t47 := Tryz.underlying156
  a47 := Tryz.isAgg156
  z47 := Tryz.sizeOf156
  v47 := Tryz.zeroValue156
  i47 := by kernel_rfl
  t48 := Tryz.underlying195
  a48 := Tryz.isAgg195
  z48 := Tryz.sizeOf195
  v48 := Tryz.zeroValue195
  i48 := by kernel_rfl
  t50 := Tryz.underlying197
  a50 := Tryz.isAgg197
  z50 := Tryz.sizeOf197
  v50 := Tryz.zeroValue197
  i50 := by kernel_rfl
  t52 := Tryz.underlying151
  a52 := Tryz.isAgg151
  z52 := Tryz.sizeOf151
  v52 := Tryz.zeroValue151
  i52 := by kernel_rfl
  t55 := Tryz.underlying154
  a55 := Tryz.isAgg154
  z55 := Tryz.sizeOf154
  v55 := Tryz.zeroValue154
  i55 := by kernel_rfl
  t59 := Tryz.underlying169
  a59 := Tryz.isAgg169
  z59 := Tryz.sizeOf169
  v59 := Tryz.zeroValue169
  i59 := by kernel_rfl
  t60 := Tryz.underlying23
  a60 := Tryz.isAgg23
  z60 := Tryz.sizeOf23
  v60 := Tryz.zeroValue23
  i60 := by kernel_rfl
  t61 := Tryz.underlying170
  a61 := Tryz.isAgg170
  z61 := Tryz.sizeOf170
  t65 := Tryz.underlying193
  a65 := Tryz.isAgg193
  z65 := Tryz.sizeOf193
  v65 := Tryz.zeroValue193
  i65 := by kernel_rfl
  t66 := Tryz.underlying194
  a66 := Tryz.isAgg194
  z66 := Tryz.sizeOf194
  v66 := Tryz.zeroValue194
  i66 := by kernel_rfl
  t67 := Tryz.underlying128
  a67 := Tryz.isAgg128
  z67 := Tryz.sizeOf128
  v67 := Tryz.zeroValue128
  i67 := by kernel_rfl
  g0 := by kernel_rfl
  m0 := by kernel_rfl
  g1 := by kernel_rfl
  m1 := by kernel_rfl
  g2 := by kernel_rfl
  m2 := by kernel_rfl
  g3 := by kernel_rfl
  m3 := by kernel_rfl
  g4 := by kernel_rfl
  m4 := by kernel_rfl }
open Go.RowKit in
open Go.RowKit in
open Go.RowKit in
/-- strconv.ParseUint(s, 10, 64), AT EVERY STRING THAT SPELLS A uint64 ('Lib.parseUintB 64 s.data.toList = .ok u'): u, AND NO ERROR. (LAID: no walk: one application.) -/
theorem Tryz.strconv_ParseUint_10_at64_ok (s : ByteArray) (hmax : s.size ≤ 9223372036854775806) (u : Nat) (h : Lib.parseUintB 64 s.data.toList = .ok u) (w : World) :
    Calls Tryz.prog 117 #[.string s, .int .i64 10, .int .i64 64] w fun e w' => e = .returned (.tuple #[.int .u64 u, .nilIface]) ∧ (w' = w ∨ w' = Lib.bytesWorld w 5 s) := Any.strconv_ParseUint_10_at64_ok Tryz.laysPu14 s hmax u h w
open Go.RowKit in
/-- strconv.ParseUint(s, 10, 64), AT EVERY NUMERAL THAT NO uint64 HOLDS: THE GREATEST uint64, AND AN ERROR THAT IS NOT nil: a *NumError in a new block N: {Func: "ParseUint", Num: s's bytes, Err: what the variable ErrRange holds}. Of what was there nothing has turned. (LAID: no walk: one application.) -/
theorem Tryz.strconv_ParseUint_10_at64_range (s : ByteArray) (hlim : s.size ≤ 281474976710656) (h : Lib.parseUintB 64 s.data.toList = .range) (ev : Value) (w : World) (hv : w.cell? ⟨6, 0, none⟩ = some ev) (hev : ev = .nilIface ∨ ∃ te pe, ev = .iface te pe) :
    Calls Tryz.prog 117 #[.string s, .int .i64 10, .int .i64 64] w fun e w' => ∃ N, e = .returned (.tuple #[.int .u64 18446744073709551615, .iface 178 (.pointer (some ⟨N, 0, none⟩))]) ∧ w.heap.size ≤ N ∧ w'.heap[N]? = some (.cells #[.string ⟨#[80, 97, 114, 115, 101, 85, 105, 110, 116]⟩, .string s, ev] 191 (0, 0)) ∧ Below w.heap.size w w' := Any.strconv_ParseUint_10_at64_range Tryz.laysPu14 s hlim h ev w hv hev
open Go.RowKit in
open Go.RowKit in
open Go.RowKit in
open Go.RowKit in
open Go.RowKit in
open Go.RowKit in
open Go.RowKit in
open Go.RowKit in
open Go.RowKit in
open Go.RowKit in
open Go.RowKit in
def Tryz.lays217_ren : Go.Shelf.Ren := ⟨fun | 217 => 124 | 266 => 144 | n => n, fun | 9 => 9 | 5 => 5 | 3 => 3 | n => n, fun | n => n⟩
open Go.RowKit Go.Lib in
def Tryz.lays224_ren : Go.Shelf.Ren := ⟨fun | 224 => 109 | n => n, fun | 3 => 3 | n => n, fun | n => n⟩
open Go.RowKit Go.Lib in
def Tryz.lays314_ren : Go.Shelf.Ren := ⟨fun | 314 => 169 | n => n, fun | 9 => 9 | 51 => 23 | 3 => 3 | 4 => 4 | 5 => 5 | 46 => 102 | n => n, fun | n => n⟩
open Go.RowKit Go.Lib in
def Tryz.lays267_ren : Go.Shelf.Ren := ⟨fun | 267 => 156 | 314 => 169 | n => n, fun | 9 => 9 | 3 => 3 | 146 => 157 | 51 => 23 | 4 => 4 | 5 => 5 | 46 => 102 | n => n, fun | n => n⟩
open Go.RowKit Go.Lib in
def Tryz.lays219_ren : Go.Shelf.Ren := ⟨fun | 219 => 138 | 217 => 124 | 225 => 155 | 224 => 109 | 267 => 156 | 266 => 144 | 314 => 169 | n => n, fun | 9 => 9 | 3 => 3 | 4 => 4 | 5 => 5 | 46 => 102 | 146 => 157 | 51 => 23 | n => n, fun | 1 => 0 | n => n⟩
theorem Tryz.lays219 : Go.Proofs.Lays.n219 Tryz.prog Tryz.lays219_ren := {
  mixed := by kernel_rfl
  f217 := Tryz.func124.trans (congrArg some (by kernel_rfl))
  f219 := Tryz.func138.trans (congrArg some (by kernel_rfl))
  f224 := Tryz.func109.trans (congrArg some (by kernel_rfl))
  f225 := Tryz.func155.trans (congrArg some (by kernel_rfl))
  f266 := Tryz.func144.trans (congrArg some (by kernel_rfl))
  f267 := Tryz.func156.trans (congrArg some (by kernel_rfl))
  f314 := Tryz.func169.trans (congrArg some (by kernel_rfl))
  t3 := Tryz.underlying3
  a3 := Tryz.isAgg3
  z3 := Tryz.sizeOf3
  v3 := Tryz.zeroValue3
  t4 := Tryz.underlying4
  a4 := Tryz.isAgg4
  z4 := Tryz.sizeOf4
  v4 := Tryz.zeroValue4
  t5 := Tryz.underlying5
  a5 := Tryz.isAgg5
  z5 := Tryz.sizeOf5
  v5 := Tryz.zeroValue5
  t9 := Tryz.underlying9
  a9 := Tryz.isAgg9
  z9 := Tryz.sizeOf9
  v9 := Tryz.zeroValue9
  t46 := Tryz.underlying102
  a46 := Tryz.isAgg102
  z46 := Tryz.sizeOf102
  v46 := Tryz.zeroValue102
  t51 := Tryz.underlying23
  a51 := Tryz.isAgg23
  z51 := Tryz.sizeOf23
  v51 := Tryz.zeroValue23
  t146 := Tryz.underlying157
  a146 := Tryz.isAgg157
  z146 := Tryz.sizeOf157
  v146 := Tryz.zeroValue157
  g1 := by kernel_rfl }
open Go.RowKit Go.Lib in
/-- internal/stringslite.Index (what strings.Index calls) AT A substr OF ONE BYTE c: IT RETURNS 'Lib.indexByte s c'; the world is as it was. (LAID: no walk: one application.) -/
theorem Tryz.stringslite_Index_one (s : ByteArray) (c : UInt8) (w : World) :
    Calls Tryz.prog 138 #[.string s, .string ⟨#[c]⟩] w fun e w' => e = .returned (.int .i64 (Lib.indexByte s.data.toList c)) ∧ w' = w := Any.stringslite_Index_one Tryz.lays219 s c w
open Go.RowKit Go.Lib in
def Tryz.lays220_ren : Go.Shelf.Ren := ⟨fun | 220 => 115 | 219 => 138 | 217 => 124 | 225 => 155 | 224 => 109 | 267 => 156 | 266 => 144 | 314 => 169 | n => n, fun | 9 => 9 | 4 => 4 | 3 => 3 | 5 => 5 | 46 => 102 | 146 => 157 | 51 => 23 | n => n, fun | 1 => 0 | n => n⟩
open Go.RowKit Go.Lib in
def Tryz.lays145_ren : Go.Shelf.Ren := ⟨fun | 145 => 82 | 220 => 115 | 219 => 138 | 217 => 124 | 225 => 155 | 224 => 109 | 267 => 156 | 266 => 144 | 314 => 169 | n => n, fun | 9 => 9 | 4 => 4 | 59 => 106 | 3 => 3 | 5 => 5 | 46 => 102 | 146 => 157 | 51 => 23 | n => n, fun | 1 => 0 | n => n⟩
open Go.RowKit Go.Lib in
def Tryz.laysM219_ren : Go.Shelf.Ren := ⟨fun | 219 => 138 | 217 => 124 | 225 => 155 | 224 => 109 | 267 => 156 | 266 => 144 | 314 => 169 | n => n, fun | 9 => 9 | 3 => 3 | 4 => 4 | 5 => 5 | 46 => 102 | 146 => 157 | 51 => 23 | n => n, fun | 1 => 0 | n => n⟩
open Go.RowKit Go.Lib in
def Tryz.laysM220_ren : Go.Shelf.Ren := ⟨fun | 220 => 115 | 219 => 138 | 217 => 124 | 225 => 155 | 224 => 109 | 267 => 156 | 266 => 144 | 314 => 169 | n => n, fun | 9 => 9 | 4 => 4 | 3 => 3 | 5 => 5 | 46 => 102 | 146 => 157 | 51 => 23 | n => n, fun | 1 => 0 | n => n⟩
open Go.RowKit Go.Lib in
def Tryz.laysM145_ren : Go.Shelf.Ren := ⟨fun | 145 => 82 | 220 => 115 | 219 => 138 | 217 => 124 | 225 => 155 | 224 => 109 | 267 => 156 | 266 => 144 | 314 => 169 | n => n, fun | 9 => 9 | 4 => 4 | 59 => 106 | 3 => 3 | 5 => 5 | 46 => 102 | 146 => 157 | 51 => 23 | n => n, fun | 1 => 0 | n => n⟩
open Go.RowKit Go.Lib in
def Tryz.lays206_ren : Go.Shelf.Ren := ⟨fun | 206 => 139 | n => n, fun | 9 => 9 | 4 => 4 | 3 => 3 | n => n, fun | n => n⟩
open Go.RowKit Go.Lib in
def Tryz.lays99_ren : Go.Shelf.Ren := ⟨fun | 99 => 116 | 206 => 139 | n => n, fun | 9 => 9 | 4 => 4 | 3 => 3 | n => n, fun | n => n⟩
theorem Tryz.lays99 : Go.Proofs.Lays.n99 Tryz.prog Tryz.lays99_ren := {
  mixed := by kernel_rfl
  f99 := Tryz.func116.trans (congrArg some (by kernel_rfl))
  f206 := Tryz.func139.trans (congrArg some (by kernel_rfl))
  t3 := Tryz.underlying3
  a3 := Tryz.isAgg3
  z3 := Tryz.sizeOf3
  v3 := Tryz.zeroValue3
  t4 := Tryz.underlying4
  a4 := Tryz.isAgg4
  z4 := Tryz.sizeOf4
  v4 := Tryz.zeroValue4
  t9 := Tryz.underlying9
  a9 := Tryz.isAgg9
  z9 := Tryz.sizeOf9
  v9 := Tryz.zeroValue9 }
open Go.RowKit Go.Lib in
/-- strings.HasPrefix: "HasPrefix reports whether the string s begins with prefix.": IT RETURNS 'Lib.hasPrefix s prefix'; the world is as it was. (LAID: no walk: one application.) -/
theorem Tryz.strings_HasPrefix (s p : ByteArray) (w : World) :
    Calls Tryz.prog 116 #[.string s, .string p] w fun e w' => e = .returned (.bool (Lib.hasPrefix s.data.toList p.data.toList)) ∧ w' = w := Any.strings_HasPrefix Tryz.lays99 s p w
def Tryz.lays197_ren : Go.Shelf.Ren := ⟨fun | 197 => 136 | 260 => 153 | n => n, fun | 9 => 9 | 21 => 21 | 3 => 3 | 4 => 4 | 5 => 5 | 105 => 159 | 119 => 183 | 0 => 0 | 46 => 102 | 139 => 186 | 138 => 185 | n => n, fun | 3 => 3 | 4 => 4 | n => n⟩
open Go.RowKit Go.Lib in
def Tryz.lays152_ren : Go.Shelf.Ren := ⟨fun | 152 => 154 | 137 => 92 | 119 => 168 | 224 => 109 | 225 => 155 | 217 => 124 | 266 => 144 | n => n, fun | 9 => 9 | 21 => 21 | 3 => 3 | 4 => 4 | 5 => 5 | 0 => 0 | 46 => 102 | n => n, fun | n => n⟩
open Go.RowKit Go.Lib in
def Tryz.lays151_ren : Go.Shelf.Ren := ⟨fun | 151 => 137 | 152 => 154 | 137 => 92 | 119 => 168 | 224 => 109 | 225 => 155 | 217 => 124 | 266 => 144 | n => n, fun | 9 => 9 | 21 => 21 | 4 => 4 | 3 => 3 | 5 => 5 | 0 => 0 | 46 => 102 | n => n, fun | n => n⟩
open Go.RowKit Go.Lib in
def Tryz.lays227_ren : Go.Shelf.Ren := ⟨fun | 227 => 112 | n => n, fun | 9 => 9 | 116 => 132 | 4 => 4 | 0 => 0 | 3 => 3 | 5 => 5 | n => n, fun | n => n⟩
open Go.RowKit Go.Lib in
def Tryz.lays228_ren : Go.Shelf.Ren := ⟨fun | 228 => 135 | n => n, fun | 124 => 136 | 5 => 5 | 4 => 4 | 0 => 0 | 116 => 132 | n => n, fun | n => n⟩
open Go.RowKit Go.Lib in
def Tryz.lays260_ren : Go.Shelf.Ren := ⟨fun | 260 => 153 | n => n, fun | 9 => 9 | 21 => 21 | 3 => 3 | 4 => 4 | 5 => 5 | 119 => 183 | 0 => 0 | 46 => 102 | 139 => 186 | 138 => 185 | n => n, fun | 3 => 3 | 4 => 4 | n => n⟩
open Go.RowKit Go.Lib in
open Go.RowKit Go.Lib in
def Tryz.lays185_ren : Go.Shelf.Ren := ⟨fun | 185 => 78 | 187 => 107 | 115 => 64 | 253 => 108 | 224 => 109 | 254 => 110 | 255 => 133 | 291 => 134 | n => n, fun | 37 => 22 | 3 => 3 | 4 => 4 | 0 => 0 | 5 => 5 | 46 => 102 | 9 => 9 | 146 => 157 | 51 => 23 | n => n, fun | 1 => 0 | n => n⟩
open Go.RowKit Go.Lib in
open Go.RowKit Go.Lib in
open Go.RowKit Go.Lib in
open Go.RowKit Go.Lib in
open Go.RowKit Go.Lib in
def Tryz.lays187_ren : Go.Shelf.Ren := ⟨fun | 187 => 107 | 255 => 133 | n => n, fun | 37 => 22 | 5 => 5 | 3 => 3 | n => n, fun | n => n⟩
open Go.RowKit Go.Lib in
open Go.RowKit Go.Lib in
open Go.Proofs Go.RowKit Go.Lib in
def Tryz.lays115_ren : Go.Shelf.Ren := ⟨fun | 115 => 64 | n => n, fun | 37 => 22 | 4 => 4 | 9 => 9 | 5 => 5 | n => n, fun | n => n⟩
open Go.Proofs Go.RowKit Go.Lib in
def Tryz.lays291_ren : Go.Shelf.Ren := ⟨fun | 291 => 134 | n => n, fun | 37 => 22 | 51 => 23 | 3 => 3 | 4 => 4 | 0 => 0 | 5 => 5 | 46 => 102 | n => n, fun | n => n⟩
open Go.RowKit Go.Lib in
def Tryz.lays254_ren : Go.Shelf.Ren := ⟨fun | 254 => 110 | 291 => 134 | n => n, fun | 37 => 22 | 3 => 3 | 146 => 157 | 51 => 23 | 4 => 4 | 0 => 0 | 5 => 5 | 9 => 9 | 46 => 102 | n => n, fun | n => n⟩
open Go.RowKit Go.Lib in
open Go.RowKit Go.Lib in
open Go.Proofs Go.RowKit Go.Lib in
open Go.Proofs Go.RowKit Go.Lib in
def Tryz.laysM185_ren : Go.Shelf.Ren := ⟨fun | 185 => 78 | 187 => 107 | 115 => 64 | 253 => 108 | 224 => 109 | 254 => 110 | 255 => 133 | 291 => 134 | n => n, fun | 37 => 22 | 3 => 3 | 4 => 4 | 0 => 0 | 5 => 5 | 46 => 102 | 9 => 9 | 146 => 157 | 51 => 23 | n => n, fun | 1 => 0 | n => n⟩
open Go.Proofs Go.RowKit Go.Lib in
def Tryz.laysnb116_ren : Go.Shelf.Ren := ⟨fun | 116 => 34 | 115 => 64 | n => n, fun | 37 => 22 | 4 => 4 | 3 => 3 | 9 => 9 | 5 => 5 | n => n, fun | n => n⟩
theorem Tryz.laysnb116 : Go.Proofs.Lays.nb116 Tryz.prog Tryz.laysnb116_ren := {
  mixed := by kernel_rfl
  f115 := Tryz.func64.trans (congrArg some (by kernel_rfl))
  f116 := Tryz.func34.trans (congrArg some (by kernel_rfl))
  t3 := Tryz.underlying3
  a3 := Tryz.isAgg3
  z3 := Tryz.sizeOf3
  v3 := Tryz.zeroValue3
  t4 := Tryz.underlying4
  a4 := Tryz.isAgg4
  z4 := Tryz.sizeOf4
  v4 := Tryz.zeroValue4
  t9 := Tryz.underlying9
  a9 := Tryz.isAgg9
  z9 := Tryz.sizeOf9
  v9 := Tryz.zeroValue9
  t37 := Tryz.underlying22
  a37 := Tryz.isAgg22
  z37 := Tryz.sizeOf22
  v37 := Tryz.zeroValue22
  t5 := Tryz.underlying5
  a5 := Tryz.isAgg5
  z5 := Tryz.sizeOf5
  v5 := Tryz.zeroValue5 }
/-- bytes.HasPrefix: WHOLE: each argument nil, or of no byte at whatever address, or at an address with its cells. (LAID: no walk: one application.) -/
theorem Tryz.bytes_HasPrefix_all (p1 p2 : Option Addr) (n c m d : Nat) (xs ys : List Int) (w : World) (hx : xs.length = n) (hy : ys.length = m) (hnc : n ≤ c) (h1 : Lib.BytesIn w p1 n xs) (h2 : Lib.BytesIn w p2 m ys) :
    Calls Tryz.prog 34 #[.slice p1 n c, .slice p2 m d] w fun e w' => e = .returned (.bool (Lib.hasPrefix (Lib.bytesOf xs) (Lib.bytesOf ys))) ∧ w' = w := Any.bytes_HasPrefix_all Tryz.laysnb116 p1 p2 n c m d xs ys w hx hy hnc h1 h2
def Tryz.laysnb115_ren : Go.Shelf.Ren := ⟨fun | 115 => 64 | n => n, fun | 37 => 22 | 4 => 4 | 9 => 9 | 5 => 5 | n => n, fun | n => n⟩
def Tryz.laysSlT4_ren : Go.Shelf.Ren := ⟨fun | 4 => 56 | 5 => 78 | 6 => 107 | 7 => 64 | 8 => 108 | 9 => 109 | 10 => 110 | 11 => 133 | 12 => 134 | n => n, fun | 22 => 22 | 4 => 4 | 3 => 3 | 0 => 0 | 5 => 5 | 29 => 102 | 9 => 9 | 31 => 157 | 30 => 23 | n => n, fun | 0 => 0 | n => n⟩
theorem Tryz.laysSlT4 : Go.Proofs.SlLaysT.n4 Tryz.prog Tryz.laysSlT4_ren := {
  mixed := by kernel_rfl
  f4 := Tryz.func56.trans (congrArg some (by kernel_rfl))
  f5 := Tryz.func78.trans (congrArg some (by kernel_rfl))
  f6 := Tryz.func107.trans (congrArg some (by kernel_rfl))
  f7 := Tryz.func64.trans (congrArg some (by kernel_rfl))
  f8 := Tryz.func108.trans (congrArg some (by kernel_rfl))
  f9 := Tryz.func109.trans (congrArg some (by kernel_rfl))
  f10 := Tryz.func110.trans (congrArg some (by kernel_rfl))
  f11 := Tryz.func133.trans (congrArg some (by kernel_rfl))
  f12 := Tryz.func134.trans (congrArg some (by kernel_rfl))
  t0 := Tryz.underlying0
  a0 := Tryz.isAgg0
  z0 := Tryz.sizeOf0
  v0 := Tryz.zeroValue0
  t3 := Tryz.underlying3
  a3 := Tryz.isAgg3
  z3 := Tryz.sizeOf3
  v3 := Tryz.zeroValue3
  t4 := Tryz.underlying4
  a4 := Tryz.isAgg4
  z4 := Tryz.sizeOf4
  v4 := Tryz.zeroValue4
  t5 := Tryz.underlying5
  a5 := Tryz.isAgg5
  z5 := Tryz.sizeOf5
  v5 := Tryz.zeroValue5
  t9 := Tryz.underlying9
  a9 := Tryz.isAgg9
  z9 := Tryz.sizeOf9
  v9 := Tryz.zeroValue9
  t22 := Tryz.underlying22
  a22 := Tryz.isAgg22
  z22 := Tryz.sizeOf22
  v22 := Tryz.zeroValue22
  t29 := Tryz.underlying102
  a29 := Tryz.isAgg102
  z29 := Tryz.sizeOf102
  v29 := Tryz.zeroValue102
  t30 := Tryz.underlying23
  a30 := Tryz.isAgg23
  z30 := Tryz.sizeOf23
  v30 := Tryz.zeroValue23
  t31 := Tryz.underlying157
  a31 := Tryz.isAgg157
  z31 := Tryz.sizeOf157
  v31 := Tryz.zeroValue157
  g0 := by kernel_rfl }
/-- **bytes.Cut, WHOLE UP TO THE MODEL's BOUND** ('hs': s shorter than 4294967281 bytes: bytes.Index's): each argument nil, or of no byte at whatever address, or at an address with its cells ('Lib.BytesIn': Derived/Shelf/Bytes/SlSmallAll.lean). 'hr1', 'hr2': each number a byte's (what '(Lit.int .u8 x).wf' says) · 'hm': internal/bytealg.MaxLen's cell holds some int, whatever · 'hp1': a nil slice has no capacity. (LAID: no walk: one application.) -/
theorem Tryz.bytes_Cut_all (p1 p2 : Option Addr) (n c1 k c2 : Nat) (xs ys : List Int) (m : Int) (w : World) (hx : xs.length = n) (hy : ys.length = k) (hr1 : ∀ x ∈ xs, 0 ≤ x ∧ x < 256) (hr2 : ∀ y ∈ ys, 0 ≤ y ∧ y < 256) (h1 : Lib.BytesIn w p1 n xs) (h2 : Lib.BytesIn w p2 k ys) (hp1 : p1 = none → c1 = 0) (hcap : n ≤ c1) (hs : n < 4294967281) (hk : k ≤ 9223372036854775807) (hm : w.cell? ⟨0, 0, none⟩ = some (.int .i64 m)) :
    Calls Tryz.prog 56 #[.slice p1 n c1, .slice p2 k c2] w fun e w' => e = .returned (Lib.cutV p1 n c1 k (Lib.index (Lib.bytesOf xs) (Lib.bytesOf ys))) ∧ ∃ q, w' = w.drewN q := Any.bytes_Cut_all Tryz.laysSlT4 p1 p2 n c1 k c2 xs ys m w hx hy hr1 hr2 h1 h2 hp1 hcap hs hk hm
end Go.Proofs
namespace Go.Proofs.YtamndkiagenfnaaGreatDoor.X
open Go.RowKit Go.Sort Go.Lib
set_option linter.unusedVariables false

theorem below_grow {w : World} (k : Nat) (os : Array Obj) : Below w.heap.size w (grow (w.drewN k) os) :=
  ⟨rfl, rfl, rfl, by simp [grow, World.drewN], fun j hj => by
    show (w.heap ++ os)[j]? = w.heap[j]?
    exact Array.getElem?_append_left hj⟩

theorem holds_zero0 (w : World) (T : TypeId) (nd : Nat) (hs : nd ≤ 24) : Holds (fun (b : UInt8) => Value.int .u8 (b.toNat : Int)) (w.alloc (.cells zeros24 T)) w.heap.size 0 (Array.replicate nd (0 : UInt8)) := fun j hj => by
  have hj' : j < nd := by simpa using hj
  refine ⟨?_, World.frozen?_alloc_new _ _ _ _⟩
  rw [World.cell?_alloc_new, zeros24_at _ (by omega), getElem!_pos _ j hj]
  simp
theorem fin_pos0 (w : World) (o : Obj) (dk : Array UInt8) (k : Nat) : ∃ os, (putRow (fun (b : UInt8) => Value.int .u8 (b.toNat : Int)) (w.alloc o) w.heap.size 0 dk).drewN k = grow (w.drewN k) os := by
  rw [alloc_eq_grow]
  obtain ⟨os', _, e⟩ := putRow_grow_new (fun (b : UInt8) => Value.int .u8 (b.toNat : Int)) w #[o] w.heap.size 0 dk (Nat.le_refl _)
  exact ⟨os', by rw [e]; rfl⟩

set_option maxHeartbeats 6400000 in
set_option maxRecDepth 100000 in
theorem formatUint_in (u : Nat) (h1 : u ≤ 18446744073709551615) (w : World) (hT : Tabs w) :
    Calls Tryz.prog 103 #[.int .u64 u, .int .i64 10] w fun e w' => e = .returned (.string ⟨(Lib.decDigits u).toArray⟩) ∧ Below w.heap.size w w' := by
  by_cases hs : u < 100
  · go_enter Tryz.func103, Tryz.ntmps103
    go_wp2_with (go_at_call 127; refine (Tryz.internal_strconv_small u hs _).mono ?_; rintro e w' ⟨rfl, rfl⟩)
    go_ret
    exact ⟨rfl, Below.refl _ _⟩
  · have hu1 : 1 ≤ u := by omega
    have hu64 : u < 18446744073709551616 := by omega
    have hnd20 : Lib.nDigits u ≤ 20 := by have := Lib.numDigits_eq u hu1 hu64; split at this <;> omega
    have hb3 : Lib.nDigits u ≤ 24 := by omega
    have hal : Tryz.prog.arrayLen 151 = 24 := by kernel_rfl
    have hsl1 : ∀ W, (Instr.sliceAt 151 (.pointer (some ⟨w.heap.size, 0, none⟩)) none (some (.int .i64 (Lib.nDigits u : Int))) none).run Tryz.prog W = .ok (.slice (some ⟨w.heap.size, 0, none⟩) (Lib.nDigits u) 24) W := fun W => by
      rw [run_sliceAt_array_h W 151 ⟨w.heap.size, 0, none⟩ Tryz.underlying151 .i64 (Lib.nDigits u : Int) (by omega) (by rw [hal]; omega)]
      go_simp
    have hH0 := holds_zero0 w 151 (Lib.nDigits u) (by omega)
    have hfmt := Tryz.internal_strconv_formatBase10 w.heap.size 0 24 u (Array.replicate (Lib.nDigits u) 0) (w.alloc (.cells Lib.zeros24 151)) hH0 (by rw [Array.size_replicate]; exact Lib.lt_pow_nDigits u) hu64 (by rw [Array.size_replicate]; omega)
    rw [Array.size_replicate] at hfmt
    have HH0 := Lib.hid hH0
    have HT := Lib.hid hT
    clear hH0 hal hT
    go_enter Tryz.func103, Tryz.ntmps103
    go_wp2_with (go_at_call 128; refine (Tryz.internal_strconv_numDigits u hu1 hu64 _ (Lib.tabIs_alloc HT.out.tab _)).mono ?_; rintro e w' ⟨rfl, rfl⟩)
    go_at_call 129
    refine hfmt.mono ?_
    rintro e w' ⟨rfl, k, v', dk, rfl, hF⟩
    have hcv : (convert 22 9 (.slice (some ⟨w.heap.size, 0, none⟩) (Lib.nDigits u) 24)).run Tryz.prog ((putRow (fun (b : UInt8) => Value.int .u8 (b.toNat : Int)) (w.alloc (.cells Lib.zeros24 151)) w.heap.size 0 dk).drewN k) = .ok (.string ⟨(Lib.decDigits u).toArray⟩) ((putRow (fun (b : UInt8) => Value.int .u8 (b.toNat : Int)) (w.alloc (.cells Lib.zeros24 151)) w.heap.size 0 dk).drewN k) := by
      have h := run_convert_bytes_back (P := Tryz.prog) ((putRow (fun (b : UInt8) => Value.int .u8 (b.toNat : Int)) (w.alloc (.cells Lib.zeros24 151)) w.heap.size 0 dk).drewN k) 22 9 5 ⟨w.heap.size, 0, none⟩ 24 (Lib.decDigits u) Tryz.underlying22 Tryz.underlying5 Tryz.underlying9 (fun j hj => by
        rw [Lib.row_is_numeral hF j hj, Lib.add_plain, World.cell?_drewN]
        exact cell?_putRow (fun (b : UInt8) => Value.int .u8 (b.toNat : Int)) _ w.heap.size 0 _ dk HH0.out (by rw [hF.size, Array.size_replicate]) j (by rw [hF.size]; rw [Lib.decDigits_length] at hj; exact hj))
      rw [Lib.decDigits_length] at h
      exact h
    go_wp2
    go_ret
    obtain ⟨os, eo⟩ := fin_pos0 w (.cells Lib.zeros24 151) dk k
    exact ⟨rfl, by rw [eo]; exact below_grow k os⟩

set_option maxRecDepth 100000 in
theorem formatUint_out (u : Nat) (h1 : u ≤ 18446744073709551615) (w : World) (hT : Tabs w) :
    Calls Tryz.prog 74 #[.int .u64 u, .int .i64 10] w fun e w' => e = .returned (.string ⟨(Lib.decDigits u).toArray⟩) ∧ Below w.heap.size w w' := by
  have HT := Lib.hid hT
  clear hT
  go_enter Tryz.func74, Tryz.ntmps74
  go_wp2_with (go_at_call 103; refine (formatUint_in u h1 _ HT.out).mono ?_; rintro e w' ⟨rfl, hb⟩)
  go_ret
  exact ⟨rfl, hb⟩

/-- What num.Show tells. -/
def showI (n : Int) : ByteArray := ⟨(Lib.decDigits n.toNat).toArray⟩
set_option maxRecDepth 100000 in
theorem show_calls (n : Int) (w : World) (h0 : 0 ≤ n) (h1 : n ≤ 18446744073709551615) (hT : Tabs w) :
    Calls Tryz.prog 43 #[.int .u64 n] w fun e w' => e = .returned (.string (showI n)) ∧ Below w.heap.size w w' := by
  obtain ⟨u, rfl⟩ : ∃ u : Nat, n = u := ⟨n.toNat, by omega⟩
  have hu : u ≤ 18446744073709551615 := by omega
  have HT := Lib.hid hT
  clear hT h0 h1
  unfold showI
  rw [Int.toNat_natCast]
  go_enter Tryz.func43, Tryz.ntmps43
  go_wp2_with (go_at_call 74; refine (formatUint_out u hu _ HT.out).mono ?_; rintro e w' ⟨rfl, hb⟩)
  go_ret
  exact ⟨rfl, hb⟩
def num_Show.f (n : Int) : Option ByteArray := if 0 ≤ n ∧ n ≤ 18446744073709551615 then some (showI n) else none
theorem num_Show.calls (n : Int) (r : ByteArray) (w : World) (hT : Tabs w) (h : num_Show.f n = some r) :
    Calls Tryz.prog 43 #[.int .u64 n] w fun e w' => e = .returned (.string r) ∧ Below w.heap.size w w' := by
  unfold num_Show.f at h
  split at h
  · next hn =>
    obtain rfl := Option.some.inj h
    exact show_calls n w hn.1 hn.2 hT
  · cases h
end Go.Proofs.YtamndkiagenfnaaGreatDoor.X
namespace Go.Proofs.YtamndkiagenfnaaGreatDoor.X
open Go Go.Lib
set_option linter.unusedVariables false
set_option linter.unusedSimpArgs false

def rDecL : Nat → List UInt8 → Option Nat
  | n, [] => some n
  | n, c :: r => if c.toNat < 48 ∨ 57 < c.toNat then none else if (18446744073709551615 - (c.toNat - 48)) / 10 < n then none else rDecL (10 * n + (c.toNat - 48)) r
def okOf : NumEnd Nat → Option Nat
  | .ok u => some u
  | _ => none
theorem rDecL_parse : ∀ (l : List UInt8) (n : Nat), n < 18446744073709551616 → rDecL n l = okOf (parseUint10 n l)
  | [], n, _ => rfl
  | c :: r, n, hn => by
    unfold rDecL parseUint10
    by_cases h : 48 ≤ c.toNat ∧ c.toNat ≤ 57
    · rw [if_neg (by omega), if_pos h]
      by_cases h1 : 1844674407370955162 ≤ n
      · rw [if_pos (by omega), if_pos h1]; rfl
      · rw [if_neg h1]
        by_cases h2 : 18446744073709551616 ≤ n * 10 + (c.toNat - 48)
        · rw [if_pos (by omega), if_pos h2]; rfl
        · rw [if_neg (by omega), if_neg h2, rDecL_parse r _ (by omega), Nat.mul_comm]
    · rw [if_pos (by omega), if_neg h]; rfl
/-- The digits of a text as a number, as num.Decimal and the document say. -/
def decS (s : ByteArray) : Nat × Bool :=
  if s.size = 0 ∨ 40 < s.size then (0, false) else match rDecL 0 s.data.toList with
    | some u => (u, true)
    | none => (0, false)
/-- Digits come back: what decDigits lists is the number. -/
theorem rDecL_append : ∀ (l r : List UInt8) (n : Nat), rDecL n (l ++ r) = (rDecL n l).bind fun m => rDecL m r
  | [], r, n => rfl
  | c :: l, r, n => by
    have ih := rDecL_append l r (10 * n + (c.toNat - 48))
    rw [List.cons_append, rDecL, rDecL]
    split
    · rfl
    · split
      · rfl
      · exact ih
theorem rDecL_dec : ∀ (n : Nat), n < 18446744073709551616 → rDecL 0 (decDigits n) = some n := by
  intro n
  induction n using Nat.strongRecOn with
  | _ n ih =>
    intro hn
    rw [decDigits]
    split
    · have e : (UInt8.ofNat (48 + n)).toNat = 48 + n := by simp; omega
      unfold rDecL
      rw [e, if_neg (by omega), if_neg (by omega)]
      unfold rDecL
      congr 1; omega
    · rw [rDecL_append, ih (n / 10) (by omega) (by omega)]
      have e : (UInt8.ofNat (48 + n % 10)).toNat = 48 + n % 10 := by simp; omega
      show rDecL (n / 10) [_] = _
      unfold rDecL
      rw [e, if_neg (by omega), if_neg (by omega)]
      unfold rDecL
      congr 1; omega
theorem rDecL_zeros : ∀ (k : Nat) (l : List UInt8), rDecL 0 (List.replicate k 48 ++ l) = rDecL 0 l
  | 0, l => rfl
  | k + 1, l => by
    show rDecL 0 (48 :: (List.replicate k 48 ++ l)) = _
    rw [rDecL, if_neg (by decide), if_neg (by decide)]
    exact rDecL_zeros k l
/-- Bytes. -/
def getN (n : Nat) (l : List Nat) : Nat := l.foldl (fun n c => (n * 256 + c) % 18446744073709551616) n
theorem getN_append (n : Nat) (a b : List Nat) : getN n (a ++ b) = getN (getN n a) b := by unfold getN; rw [List.foldl_append]
def putN (n : Nat) : Nat → List Nat
  | 0 => []
  | k + 1 => putN (n / 256) k ++ [n % 256]
theorem putN_length (n : Nat) : ∀ k, (putN n k).length = k := by
  intro k; induction k generalizing n with
  | zero => rfl
  | succ k ih => simp [putN, ih]
theorem getN_putN : ∀ (k n : Nat), n < 256 ^ k → k ≤ 8 → getN 0 (putN n k) = n
  | 0, n, h, _ => by simp at h; subst h; rfl
  | k + 1, n, h, hk => by
    have hp : n / 256 < 256 ^ k := by rw [Nat.pow_succ] at h; omega
    have h8 : 256 ^ (k + 1) ≤ 256 ^ 8 := Nat.pow_le_pow_right (by omega) hk
    have e8 : 256 ^ 8 = 18446744073709551616 := by decide
    rw [putN, getN_append, getN_putN k _ hp (by omega)]
    show (n / 256 * 256 + n % 256) % 18446744073709551616 = n
    omega
theorem getN_lin : ∀ (b : List Nat) (n : Nat), getN n b = (n * 256 ^ b.length + getN 0 b) % 18446744073709551616 ∨ b = []
  | [], n => Or.inr rfl
  | c :: b, n => by
    left
    show getN ((n * 256 + c) % 18446744073709551616) b = (n * 256 ^ (b.length + 1) + getN ((0 * 256 + c) % 18446744073709551616) b) % 18446744073709551616
    rcases getN_lin b ((n * 256 + c) % 18446744073709551616) with h | h
    · rcases getN_lin b ((0 * 256 + c) % 18446744073709551616) with h2 | h2
      · rw [h, h2, Nat.pow_succ]
        rw [Nat.add_mod, Nat.mul_mod, Nat.mod_mod, ← Nat.mul_mod, ← Nat.add_mod]
        conv => rhs; rw [Nat.add_mod, Nat.mod_mod, ← Nat.add_mod, Nat.add_mod, Nat.add_mod (((0 * 256 + c) % 18446744073709551616) * 256 ^ b.length), Nat.mul_mod ((0 * 256 + c) % 18446744073709551616), Nat.mod_mod, ← Nat.mul_mod, ← Nat.add_mod (((0 * 256 + c)) * 256 ^ b.length), ← Nat.add_mod]
        congr 1
        rw [Nat.zero_mul, Nat.zero_add, Nat.add_mul, Nat.mul_assoc, Nat.mul_comm 256, Nat.add_assoc]
      · subst h2; simp [getN]
    · subst h; simp [getN]
theorem decDigits_mono : ∀ (b a : Nat), a ≤ b → (decDigits a).length ≤ (decDigits b).length := by
  intro b
  induction b using Nat.strongRecOn with
  | _ b ih =>
    intro a h
    by_cases ha : a < 10
    · rw [decDigits_one ha]
      rw [decDigits_length]
      show 1 ≤ _
      rcases Nat.lt_or_ge b 10 with hb | hb
      · rw [nDigits_small hb]; exact Nat.le_refl _
      · rw [nDigits_big (by omega)]; omega
    · have e1 := nDigits_big ha
      have e2 := nDigits_big (show ¬ b < 10 by omega)
      have := ih (b / 10) (by omega) (a / 10) (by omega)
      rw [decDigits_length, decDigits_length] at this ⊢
      omega
theorem lt_snoc : ∀ (x y : List UInt8) (a b : UInt8), x.length = y.length → ((x ++ [a] < y ++ [b]) ↔ (x < y ∨ (x = y ∧ a < b)))
  | [], [], a, b, _ => by simp [List.cons_lt_cons_iff]
  | c :: x, d :: y, a, b, hl => by
    have ih := lt_snoc x y a b (by simpa using hl)
    clear hl
    simp only [List.cons_append, List.cons_lt_cons_iff, ih, List.cons.injEq]
    constructor
    · rintro (h | ⟨rfl, h | ⟨rfl, h⟩⟩)
      · exact Or.inl (Or.inl h)
      · exact Or.inl (Or.inr ⟨rfl, h⟩)
      · exact Or.inr ⟨⟨rfl, rfl⟩, h⟩
    · rintro ((h | ⟨rfl, h⟩) | ⟨⟨rfl, rfl⟩, h⟩)
      · exact Or.inl h
      · exact Or.inr ⟨rfl, Or.inl h⟩
      · exact Or.inr ⟨rfl, Or.inr ⟨rfl, h⟩⟩
  | [], _ :: _, _, _, h => by simp at h
  | _ :: _, [], _, _, h => by simp at h
def putB (n : Nat) : Nat → List UInt8
  | 0 => []
  | k + 1 => putB (n / 256) k ++ [UInt8.ofNat (n % 256)]
theorem putB_length (k : Nat) : ∀ n, (putB n k).length = k := by
  induction k with
  | zero => intro n; rfl
  | succ k ih => intro n; simp [putB, ih]
theorem ofNat_lt {a b : Nat} (ha : a < 256) (hb : b < 256) : UInt8.ofNat a < UInt8.ofNat b ↔ a < b := by
  rw [UInt8.lt_iff_toNat_lt]
  simp
  omega
theorem putB_inj : ∀ (k a b : Nat), a < 256 ^ k → b < 256 ^ k → (putB a k = putB b k ↔ a = b)
  | 0, a, b, ha, hb => by simp at ha hb; subst ha; subst hb; simp
  | k + 1, a, b, ha, hb => by
    have ih := putB_inj k (a / 256) (b / 256) (by rw [Nat.pow_succ] at ha; omega) (by rw [Nat.pow_succ] at hb; omega)
    constructor
    · intro h
      obtain ⟨h1, h2⟩ := List.append_inj' h rfl
      have h3 := ih.1 h1
      have h4 : UInt8.ofNat (a % 256) = UInt8.ofNat (b % 256) := by simpa using h2
      have h5 := congrArg UInt8.toNat h4
      simp at h5
      omega
    · rintro rfl; rfl
theorem putB_lt : ∀ (k a b : Nat), a < 256 ^ k → b < 256 ^ k → (putB a k < putB b k ↔ a < b)
  | 0, a, b, ha, hb => by simp at ha hb; subst ha; subst hb; simp [putB]
  | k + 1, a, b, ha, hb => by
    have ha' : a / 256 < 256 ^ k := by rw [Nat.pow_succ] at ha; omega
    have hb' : b / 256 < 256 ^ k := by rw [Nat.pow_succ] at hb; omega
    show (putB (a / 256) k ++ [_] < putB (b / 256) k ++ [_]) ↔ _
    rw [lt_snoc _ _ _ _ (by rw [putB_length, putB_length]), putB_lt k _ _ ha' hb', putB_inj k _ _ ha' hb', ofNat_lt (Nat.mod_lt _ (by omega)) (Nat.mod_lt _ (by omega))]
    omega
end Go.Proofs.YtamndkiagenfnaaGreatDoor.X
namespace Go.Proofs.YtamndkiagenfnaaGreatDoor.X
open Go.RowKit Go.Proofs.YtamndkiagenfnaaGreatDoorW.PrintWords
set_option linter.unusedVariables false
set_option linter.unusedSimpArgs false

theorem decS_plus (s : ByteArray) (h : Lib.hasPrefix s.data.toList [43] = true) : decS s = (0, false) := by
  obtain ⟨⟨l⟩⟩ := s
  cases l with
  | nil => exact absurd h (by decide)
  | cons c r =>
    have hc : c = 43 := by
      simp [Lib.hasPrefix] at h
      exact h.symm
    subst hc
    unfold decS
    split
    · rfl
    · show (match rDecL 0 (43 :: r) with | some u => (u, true) | none => (0, false)) = _
      rw [rDecL, if_pos (by decide)]
theorem decS_parse (s : ByteArray) (h : ¬ 40 < s.size) : decS s = match Lib.parseUintB 64 s.data.toList with | .ok u => (u, true) | _ => (0, false) := by
  rw [Lib.parseUintB_64]
  unfold decS Lib.parseMag
  by_cases h0 : s.size = 0
  · have hn : s.data.toList = [] := by
      have : s.data.toList.length = 0 := by rw [Array.length_toList]; exact h0
      exact List.eq_nil_of_length_eq_zero this
    rw [if_pos (Or.inl h0), if_pos hn]
  · have hn : ¬ s.data.toList = [] := fun e => h0 (by
      have : s.data.toList.length = 0 := by rw [e]; rfl
      rw [Array.length_toList] at this; exact this)
    rw [if_neg (by omega), if_neg hn, rDecL_parse _ _ (by omega)]
    cases Lib.parseUint10 0 s.data.toList <;> rfl
def num_Decimal.f (s : ByteArray) : Option (Int × Bool) := some ((decS s).1, (decS s).2)
theorem pu_none (s : ByteArray) (hlim : s.size ≤ 281474976710656) {r : Lib.NumEnd Nat} (h : Lib.parseUintB 64 s.data.toList = r) (h1 : ∀ u, r ≠ .ok u) (h2 : r ≠ .range) (ev : Value) (w : World) (hv : w.cell? ⟨5, 0, none⟩ = some ev) (hev : ev = .nilIface ∨ ∃ te pe, ev = .iface te pe) :
    Calls Tryz.prog 117 #[.string s, .int .i64 10, .int .i64 64] w fun e w' => ∃ N, e = .returned (.tuple #[.int .u64 0, .iface 178 (.pointer (some ⟨N, 0, none⟩))]) ∧ w.heap.size ≤ N ∧ w'.heap[N]? = some (.cells #[.string ⟨#[80, 97, 114, 115, 101, 85, 105, 110, 116]⟩, .string s, ev] 191 (0, 0)) ∧ Below w.heap.size w w' := by
  cases r
  · exact absurd rfl (h1 _)
  · exact Any.strconv_ParseUint_10_at64_syntax Tryz.laysPu14 s hlim h ev w hv hev
  · exact absurd rfl h2
set_option maxRecDepth 100000 in
theorem num_Decimal.calls (s : ByteArray) (r1 : Int) (r2 : Bool) (w : World) (hT : Tabs w) (h : num_Decimal.f s = some (r1, r2)) :
    Calls Tryz.prog 83 #[.string s] w fun e w' => e = .returned (.tuple #[.int .u64 r1, .bool r2]) ∧ Below w.heap.size w w' := by
  obtain ⟨rfl, rfl⟩ : ((decS s).1 : Int) = r1 ∧ (decS s).2 = r2 := by
    unfold num_Decimal.f at h
    simpa using h
  have HT := Aside0.mk hT
  clear hT h
  have HB := Aside0.mk (Below.refl w.heap.size w)
  by_cases h40 : (40 : Int) < s.size
  · have hd : decS s = (0, false) := by unfold decS; rw [if_pos (Or.inr (by omega))]
    rw [hd]
    go_enter Tryz.func83, Tryz.ntmps83
    go_wp2
    go_ret2
    exact ⟨rfl, Below.refl _ _⟩
  · cases hp : Lib.hasPrefix s.data.toList [43]
    · have hd := decS_parse s (by omega)
      have HP := Aside0.mk hp
      obtain ⟨tp1, p1, e1⟩ := HT.out.syn
      obtain ⟨tp2, p2, e2⟩ := HT.out.rng
      cases hu : Lib.parseUintB 64 s.data.toList
      · next u =>
        rw [hu] at hd
        rw [hd]
        have HU := Aside0.mk hu
        clear hu hd hp e1 e2
        go_enter Tryz.func83, Tryz.ntmps83
        go_wp2_with (first
          | (go_at_call 116; (with_reducible refine (Tryz.strings_HasPrefix _ _ _).mono ?_); rintro e w1 ⟨rfl, rfl⟩; rw [HP.out])
          | (go_at_call 117; (with_reducible refine (Tryz.strconv_ParseUint_10_at64_ok s (by omega) u HU.out _).mono ?_); rintro e w1 ⟨rfl, hw⟩))
        go_ret2
        refine ⟨rfl, ?_⟩
        rcases hw with rfl | rfl
        · exact (by repeat (first | exact Below.refl _ _ | apply below_drew1 | apply pw_below_drewN | apply below_alloc))
        · exact bytesWorld_below _ _ _
      · rw [hu] at hd
        rw [hd]
        have HU := Aside0.mk hu
        have HE := Aside0.mk e1
        clear hu hd hp e1 e2
        go_enter Tryz.func83, Tryz.ntmps83
        go_wp2_with (first
          | (go_at_call 116; (with_reducible refine (Tryz.strings_HasPrefix _ _ _).mono ?_); rintro e w1 ⟨rfl, rfl⟩; rw [HP.out])
          | (go_at_call 117; (with_reducible refine (pu_none s (by omega) HU.out (fun _ h => by cases h) (fun h => by cases h) _ _ HE.out (Or.inr ⟨_, _, rfl⟩)).mono ?_); rintro e w1 ⟨N, rfl, _, _, hb⟩))
        go_ret2
        exact ⟨rfl, by assumption⟩
      · rw [hu] at hd
        rw [hd]
        have HU := Aside0.mk hu
        have HE := Aside0.mk e2
        clear hu hd hp e1 e2
        go_enter Tryz.func83, Tryz.ntmps83
        go_wp2_with (first
          | (go_at_call 116; (with_reducible refine (Tryz.strings_HasPrefix _ _ _).mono ?_); rintro e w1 ⟨rfl, rfl⟩; rw [HP.out])
          | (go_at_call 117; (with_reducible refine (Tryz.strconv_ParseUint_10_at64_range s (by omega) HU.out _ _ HE.out (Or.inr ⟨_, _, rfl⟩)).mono ?_); rintro e w1 ⟨N, rfl, _, _, hb⟩))
        go_ret2
        exact ⟨rfl, by assumption⟩
    · have hd := decS_plus s hp
      rw [hd]
      have HP := Aside0.mk hp
      clear hp
      go_enter Tryz.func83, Tryz.ntmps83
      go_wp2_with (go_at_call 116; (with_reducible refine (Tryz.strings_HasPrefix _ _ _).mono ?_); rintro e w1 ⟨rfl, rfl⟩; rw [HP.out])
      go_ret2
      exact ⟨rfl, (by repeat (first | exact Below.refl _ _ | apply below_drew1 | apply pw_below_drewN | apply below_alloc))⟩
end Go.Proofs.YtamndkiagenfnaaGreatDoor.X
namespace Go.Proofs.YtamndkiagenfnaaGreatDoor.X
open Go.RowKit Go.Proofs.YtamndkiagenfnaaGreatDoorW.PrintWords
set_option linter.unusedVariables false
theorem w64 (n : Int) (h0 : -9223372036854775808 ≤ n) (h1 : n ≤ 9223372036854775807) : wrap64 n = n := by unfold wrap64; omega
theorem Ev.pos {α : Type} {c : Prop} [Decidable c] {f g : Nat → Option α} {r : α} (h : c) (k : Ev f r) : Ev (fun n => if c then f n else g n) r := by
  obtain ⟨K, hK⟩ := k
  exact ⟨K, fun n hn => by simp only [if_pos h]; exact hK n hn⟩
theorem Ev.neg {α : Type} {c : Prop} [Decidable c] {f g : Nat → Option α} {r : α} (h : ¬ c) (k : Ev g r) : Ev (fun n => if c then f n else g n) r := by
  obtain ⟨K, hK⟩ := k
  exact ⟨K, fun n hn => by simp only [if_neg h]; exact hK n hn⟩
theorem ev_to {α : Type} {g : Nat → Option α} {r s : α} (h : Ev g r) (e : r = s) : Ev g s := e ▸ h
theorem ev_some {α : Type} {o : Option α} {r : α} (h : o = some r) : Ev (fun _ => o) r := ⟨0, fun _ _ => h⟩
theorem Ev.bind {α β : Type} {g : Nat → Option α} {f : Nat → α → Option β} {r : α} {q : β} (h : Ev g r) (h2 : Ev (fun k => f k r) q) : Ev (fun k => (g k).bind (f k)) q := by
  obtain ⟨K, hK⟩ := h
  obtain ⟨K2, hK2⟩ := h2
  refine ⟨K + K2, fun k hk => ?_⟩
  show (g k).bind (f k) = _
  rw [hK k (by omega)]
  exact hK2 k (by omega)
theorem Ev.pure {α : Type} {r : α} : Ev (fun _ => some r) r := ⟨0, fun _ _ => rfl⟩
theorem Ev.some {α : Type} {o : Option α} {r : α} (h : o = some r) : Ev (fun _ => o) r := ⟨0, fun _ _ => h⟩
theorem u64_id (u : Nat) (hu : u < 18446744073709551616) : IntKind.u64.wrap (u : Int) = u := by rw [IntKind.wrap_u64]; omega
end Go.Proofs.YtamndkiagenfnaaGreatDoor.X
namespace Go.Proofs.YtamndkiagenfnaaGreatDoor.X
open Go.RowKit Go.Proofs.YtamndkiagenfnaaGreatDoorW.PrintWords Go.Proofs.YtamndkiagenfnaaGreatDoorW.PrintLast Go.Proofs.YtamndkiagenfnaaGreatDoorW.PrintMore
attribute [local go_sem] max2_int min2_int max_two min_two max_three min_three max_four min_four
set_option linter.unusedVariables false
set_option linter.unusedSimpArgs false

theorem info9 : (Tryz.prog.info? 9).map (fun i => (i.zero, i.size, i.bytes)) = some (some (.string ⟨#[]⟩), 1, 16) := by kernel_rfl
theorem info24 : (Tryz.prog.info? 24).map (fun i => (i.zero, i.size, i.bytes)) = some (some (.int .u64 0), 1, 8) := by kernel_rfl
end Go.Proofs.YtamndkiagenfnaaGreatDoor.X
namespace Go.Proofs.YtamndkiagenfnaaGreatDoor.X
structure Cmd where
  op : Int
  key : ByteArray
  value : List Int
  flags : Int
  exp : Int
  cas : Int
  delta : Int
  initial : Int
  makes : Bool
  sets : Bool
structure Cmd.Wf (x : Cmd) : Prop where
  op : -9223372036854775808 ≤ x.op ∧ x.op ≤ 9223372036854775807
  key : x.key.size ≤ 9223372036854775807
  value : x.value.length ≤ 9223372036854775807 ∧ ∀ y ∈ x.value, 0 ≤ y ∧ y ≤ 255
  flags : 0 ≤ x.flags ∧ x.flags ≤ 4294967295
  exp : -9223372036854775808 ≤ x.exp ∧ x.exp ≤ 9223372036854775807
  cas : 0 ≤ x.cas ∧ x.cas ≤ 18446744073709551615
  delta : 0 ≤ x.delta ∧ x.delta ≤ 18446744073709551615
  initial : 0 ≤ x.initial ∧ x.initial ≤ 18446744073709551615
structure Form where
  dialect : Int
  verb : ByteArray
  code : Int
  opq : Int
  quiet : Bool
  withcas : Bool
  flags : ByteArray
  tokens : List ByteArray
  keys : List ByteArray
  base64 : Bool
structure Form.Wf (x : Form) : Prop where
  dialect : -9223372036854775808 ≤ x.dialect ∧ x.dialect ≤ 9223372036854775807
  verb : x.verb.size ≤ 9223372036854775807
  code : -9223372036854775808 ≤ x.code ∧ x.code ≤ 9223372036854775807
  opq : 0 ≤ x.opq ∧ x.opq ≤ 4294967295
  flags : x.flags.size ≤ 9223372036854775807
  tokens : x.tokens.length ≤ 9223372036854775807 ∧ ∀ y ∈ x.tokens, y.size ≤ 9223372036854775807
  keys : x.keys.length ≤ 9223372036854775807 ∧ ∀ y ∈ x.keys, y.size ≤ 9223372036854775807
structure Request where
  cmds : List Cmd
  form : Form
structure Request.Wf (x : Request) : Prop where
  cmds : x.cmds.length ≤ 9223372036854775807 ∧ ∀ y ∈ x.cmds, y.Wf
  form : x.form.Wf
structure Result where
  status : Int
  value : List Int
  flags : Int
  cas : Int
  ttl : Int
  number : Int
  stale : Bool
  won : Bool
  lost : Bool
structure Result.Wf (x : Result) : Prop where
  status : -9223372036854775808 ≤ x.status ∧ x.status ≤ 9223372036854775807
  value : x.value.length ≤ 9223372036854775807 ∧ ∀ y ∈ x.value, 0 ≤ y ∧ y ≤ 255
  flags : 0 ≤ x.flags ∧ x.flags ≤ 4294967295
  cas : 0 ≤ x.cas ∧ x.cas ≤ 18446744073709551615
  ttl : -9223372036854775808 ≤ x.ttl ∧ x.ttl ≤ 9223372036854775807
  number : 0 ≤ x.number ∧ x.number ≤ 18446744073709551615
end Go.Proofs.YtamndkiagenfnaaGreatDoor.X
namespace Go.Proofs.YtamndkiagenfnaaGreatDoor.X
open Go.RowKit Go.Proofs.YtamndkiagenfnaaGreatDoorW.PrintWords
set_option linter.unusedVariables false
set_option linter.unusedSimpArgs false

def rd_L3 (xs : List (List Int)) (i : Int) : (List Int) := xs.getD i.toNat ([] : List Int)
theorem at_L3 {w : World} {A : Option Addr} {n : Nat} {xs : List (List Int)} (h : Kd.C (Kd.slice 5 (Kd.int .u8)) w A n xs) (i : Int) (h0 : 0 ≤ i) (h1 : i < n) : ∃ ad A0 c0, A = some ad ∧ w.cell? (ad.add i.toNat) = some (.slice A0 (rd_L3 xs i).length c0) ∧ (rd_L3 xs i).length ≤ c0 ∧ (Kd.int .u8).C w A0 (rd_L3 xs i).length (rd_L3 xs i) := by
  obtain ⟨ad, c, e, _, hK, hc0⟩ := Kd.C_get h ([] : List Int) i h0 h1
  have hc : ∀ j u, c[j]? = some u → w.cell? (ad.add (i.toNat * 1 + j)) = some u := hc0
  obtain ⟨A0, c0, rfl, l0, g0⟩ := hK
  exact ⟨ad, A0, c0, e, by have hq := hc 0 _ rfl; rwa [Nat.mul_one, Nat.add_zero] at hq, l0, g0⟩


/-! #### struct type 26 -/
def zCmd : Cmd := ⟨(0 : Int), (⟨#[]⟩ : ByteArray), ([] : List Int), (0 : Int), (0 : Int), (0 : Int), (0 : Int), (0 : Int), false, false⟩
def kCmd : Kd Cmd := Kd.iso (Kd.pair (Kd.int .i64) (Kd.pair Kd.string (Kd.pair (Kd.slice 5 (Kd.int .u8)) (Kd.pair (Kd.int .u32) (Kd.pair (Kd.int .i64) (Kd.pair (Kd.int .u64) (Kd.pair (Kd.int .u64) (Kd.pair (Kd.int .u64) (Kd.pair Kd.bool Kd.bool))))))))) (fun x : Cmd => (x.op, x.key, x.value, x.flags, x.exp, x.cas, x.delta, x.initial, x.makes, x.sets))
theorem kCmd_open {w : World} {x : Cmd} {cs : List Value} (h : kCmd.K w x cs) : ∃ A2 c2, cs = [.int .i64 x.op, .string x.key, .slice A2 x.value.length c2, .int .u32 x.flags, .int .i64 x.exp, .int .u64 x.cas, .int .u64 x.delta, .int .u64 x.initial, .bool x.makes, .bool x.sets] ∧ x.value.length ≤ c2 ∧ (Kd.int .u8).C w A2 x.value.length x.value := by
  obtain ⟨_, _, rfl, rfl, ⟨_, _, rfl, rfl, ⟨_, _, rfl, ⟨A2, c2, rfl, l2, g2⟩, ⟨_, _, rfl, rfl, ⟨_, _, rfl, rfl, ⟨_, _, rfl, rfl, ⟨_, _, rfl, rfl, ⟨_, _, rfl, rfl, ⟨_, _, rfl, rfl, rfl⟩⟩⟩⟩⟩⟩⟩⟩⟩ := h
  exact ⟨A2, c2, rfl, l2, g2⟩
theorem kCmd_openM {w : World} {base : Nat} {ok : Nat → Prop} {x : Cmd} {cs : List Value} (h : kCmd.M w base ok x cs) : ∃ v2, cs = [.int .i64 x.op, .string x.key, v2, .int .u32 x.flags, .int .i64 x.exp, .int .u64 x.cas, .int .u64 x.delta, .int .u64 x.initial, .bool x.makes, .bool x.sets] ∧ (Kd.int .u8).R 5 w base ok v2 x.value := by
  obtain ⟨_, _, rfl, rfl, ⟨_, _, rfl, rfl, ⟨_, _, rfl, ⟨v2, rfl, g2⟩, ⟨_, _, rfl, rfl, ⟨_, _, rfl, rfl, ⟨_, _, rfl, rfl, ⟨_, _, rfl, rfl, ⟨_, _, rfl, rfl, ⟨_, _, rfl, rfl, rfl⟩⟩⟩⟩⟩⟩⟩⟩⟩ := h
  exact ⟨v2, rfl, g2⟩
theorem kCmd_mk (w : World) (x : Cmd) {A2 : Option Addr} {c2 : Nat} (l2 : x.value.length ≤ c2) (g2 : (Kd.int .u8).C w A2 x.value.length x.value) : kCmd.K w x [.int .i64 x.op, .string x.key, .slice A2 x.value.length c2, .int .u32 x.flags, .int .i64 x.exp, .int .u64 x.cas, .int .u64 x.delta, .int .u64 x.initial, .bool x.makes, .bool x.sets] := ⟨[.int .i64 x.op], [.string x.key, .slice A2 x.value.length c2, .int .u32 x.flags, .int .i64 x.exp, .int .u64 x.cas, .int .u64 x.delta, .int .u64 x.initial, .bool x.makes, .bool x.sets], rfl, rfl, ⟨[.string x.key], [.slice A2 x.value.length c2, .int .u32 x.flags, .int .i64 x.exp, .int .u64 x.cas, .int .u64 x.delta, .int .u64 x.initial, .bool x.makes, .bool x.sets], rfl, rfl, ⟨[.slice A2 x.value.length c2], [.int .u32 x.flags, .int .i64 x.exp, .int .u64 x.cas, .int .u64 x.delta, .int .u64 x.initial, .bool x.makes, .bool x.sets], rfl, ⟨A2, c2, rfl, l2, g2⟩, ⟨[.int .u32 x.flags], [.int .i64 x.exp, .int .u64 x.cas, .int .u64 x.delta, .int .u64 x.initial, .bool x.makes, .bool x.sets], rfl, rfl, ⟨[.int .i64 x.exp], [.int .u64 x.cas, .int .u64 x.delta, .int .u64 x.initial, .bool x.makes, .bool x.sets], rfl, rfl, ⟨[.int .u64 x.cas], [.int .u64 x.delta, .int .u64 x.initial, .bool x.makes, .bool x.sets], rfl, rfl, ⟨[.int .u64 x.delta], [.int .u64 x.initial, .bool x.makes, .bool x.sets], rfl, rfl, ⟨[.int .u64 x.initial], [.bool x.makes, .bool x.sets], rfl, rfl, ⟨[.bool x.makes], [.bool x.sets], rfl, rfl, rfl⟩⟩⟩⟩⟩⟩⟩⟩⟩
theorem kCmd_mkM (w : World) (base : Nat) (ok : Nat → Prop) (x : Cmd) {v2 : Value} (g2 : (Kd.int .u8).R 5 w base ok v2 x.value) : kCmd.M w base ok x [.int .i64 x.op, .string x.key, v2, .int .u32 x.flags, .int .i64 x.exp, .int .u64 x.cas, .int .u64 x.delta, .int .u64 x.initial, .bool x.makes, .bool x.sets] := ⟨[.int .i64 x.op], [.string x.key, v2, .int .u32 x.flags, .int .i64 x.exp, .int .u64 x.cas, .int .u64 x.delta, .int .u64 x.initial, .bool x.makes, .bool x.sets], rfl, rfl, ⟨[.string x.key], [v2, .int .u32 x.flags, .int .i64 x.exp, .int .u64 x.cas, .int .u64 x.delta, .int .u64 x.initial, .bool x.makes, .bool x.sets], rfl, rfl, ⟨[v2], [.int .u32 x.flags, .int .i64 x.exp, .int .u64 x.cas, .int .u64 x.delta, .int .u64 x.initial, .bool x.makes, .bool x.sets], rfl, ⟨v2, rfl, g2⟩, ⟨[.int .u32 x.flags], [.int .i64 x.exp, .int .u64 x.cas, .int .u64 x.delta, .int .u64 x.initial, .bool x.makes, .bool x.sets], rfl, rfl, ⟨[.int .i64 x.exp], [.int .u64 x.cas, .int .u64 x.delta, .int .u64 x.initial, .bool x.makes, .bool x.sets], rfl, rfl, ⟨[.int .u64 x.cas], [.int .u64 x.delta, .int .u64 x.initial, .bool x.makes, .bool x.sets], rfl, rfl, ⟨[.int .u64 x.delta], [.int .u64 x.initial, .bool x.makes, .bool x.sets], rfl, rfl, ⟨[.int .u64 x.initial], [.bool x.makes, .bool x.sets], rfl, rfl, ⟨[.bool x.makes], [.bool x.sets], rfl, rfl, rfl⟩⟩⟩⟩⟩⟩⟩⟩⟩
def rd_Cmd (xs : List Cmd) (i : Int) : Cmd := xs.getD i.toNat zCmd
theorem at_Cmd {w : World} {A : Option Addr} {n : Nat} {xs : List Cmd} (h : Kd.C kCmd w A n xs) (i : Int) (h0 : 0 ≤ i) (h1 : i < n) : ∃ ad A2 c2, A = some ad ∧ w.cell? (ad.add (i.toNat * 10)) = some (.int .i64 (rd_Cmd xs i).op) ∧ w.cell? ⟨(ad.add (i.toNat * 10)).block, (ad.add (i.toNat * 10)).off + 1, none⟩ = some (.string (rd_Cmd xs i).key) ∧ w.cell? ⟨(ad.add (i.toNat * 10)).block, (ad.add (i.toNat * 10)).off + 2, none⟩ = some (.slice A2 (rd_Cmd xs i).value.length c2) ∧ w.cell? ⟨(ad.add (i.toNat * 10)).block, (ad.add (i.toNat * 10)).off + 3, none⟩ = some (.int .u32 (rd_Cmd xs i).flags) ∧ w.cell? ⟨(ad.add (i.toNat * 10)).block, (ad.add (i.toNat * 10)).off + 4, none⟩ = some (.int .i64 (rd_Cmd xs i).exp) ∧ w.cell? ⟨(ad.add (i.toNat * 10)).block, (ad.add (i.toNat * 10)).off + 5, none⟩ = some (.int .u64 (rd_Cmd xs i).cas) ∧ w.cell? ⟨(ad.add (i.toNat * 10)).block, (ad.add (i.toNat * 10)).off + 6, none⟩ = some (.int .u64 (rd_Cmd xs i).delta) ∧ w.cell? ⟨(ad.add (i.toNat * 10)).block, (ad.add (i.toNat * 10)).off + 7, none⟩ = some (.int .u64 (rd_Cmd xs i).initial) ∧ w.cell? ⟨(ad.add (i.toNat * 10)).block, (ad.add (i.toNat * 10)).off + 8, none⟩ = some (.bool (rd_Cmd xs i).makes) ∧ w.cell? ⟨(ad.add (i.toNat * 10)).block, (ad.add (i.toNat * 10)).off + 9, none⟩ = some (.bool (rd_Cmd xs i).sets) ∧ (rd_Cmd xs i).value.length ≤ c2 ∧ (Kd.int .u8).C w A2 (rd_Cmd xs i).value.length (rd_Cmd xs i).value := by
  obtain ⟨ad, c, e, _, hK, hc0⟩ := Kd.C_get h zCmd i h0 h1
  have hc : ∀ j u, c[j]? = some u → w.cell? (ad.add (i.toNat * 10 + j)) = some u := hc0
  obtain ⟨A2, c2, rfl, l2, g2⟩ := kCmd_open hK
  exact ⟨ad, A2, c2, e, hc 0 _ rfl, by rw [← add_field _ _ 1 (by omega)]; exact hc 1 _ rfl, by rw [← add_field _ _ 2 (by omega)]; exact hc 2 _ rfl, by rw [← add_field _ _ 3 (by omega)]; exact hc 3 _ rfl, by rw [← add_field _ _ 4 (by omega)]; exact hc 4 _ rfl, by rw [← add_field _ _ 5 (by omega)]; exact hc 5 _ rfl, by rw [← add_field _ _ 6 (by omega)]; exact hc 6 _ rfl, by rw [← add_field _ _ 7 (by omega)]; exact hc 7 _ rfl, by rw [← add_field _ _ 8 (by omega)]; exact hc 8 _ rfl, by rw [← add_field _ _ 9 (by omega)]; exact hc 9 _ rfl, l2, g2⟩


def rd_L8 (xs : List (List Cmd)) (i : Int) : (List Cmd) := xs.getD i.toNat ([] : List Cmd)
theorem at_L8 {w : World} {A : Option Addr} {n : Nat} {xs : List (List Cmd)} (h : Kd.C (Kd.slice 26 kCmd) w A n xs) (i : Int) (h0 : 0 ≤ i) (h1 : i < n) : ∃ ad A0 c0, A = some ad ∧ w.cell? (ad.add i.toNat) = some (.slice A0 (rd_L8 xs i).length c0) ∧ (rd_L8 xs i).length ≤ c0 ∧ kCmd.C w A0 (rd_L8 xs i).length (rd_L8 xs i) := by
  obtain ⟨ad, c, e, _, hK, hc0⟩ := Kd.C_get h ([] : List Cmd) i h0 h1
  have hc : ∀ j u, c[j]? = some u → w.cell? (ad.add (i.toNat * 1 + j)) = some u := hc0
  obtain ⟨A0, c0, rfl, l0, g0⟩ := hK
  exact ⟨ad, A0, c0, e, by have hq := hc 0 _ rfl; rwa [Nat.mul_one, Nat.add_zero] at hq, l0, g0⟩


def rd_L9 (xs : List (List ByteArray)) (i : Int) : (List ByteArray) := xs.getD i.toNat ([] : List ByteArray)
theorem at_L9 {w : World} {A : Option Addr} {n : Nat} {xs : List (List ByteArray)} (h : Kd.C (Kd.slice 9 Kd.string) w A n xs) (i : Int) (h0 : 0 ≤ i) (h1 : i < n) : ∃ ad A0 c0, A = some ad ∧ w.cell? (ad.add i.toNat) = some (.slice A0 (rd_L9 xs i).length c0) ∧ (rd_L9 xs i).length ≤ c0 ∧ Kd.string.C w A0 (rd_L9 xs i).length (rd_L9 xs i) := by
  obtain ⟨ad, c, e, _, hK, hc0⟩ := Kd.C_get h ([] : List ByteArray) i h0 h1
  have hc : ∀ j u, c[j]? = some u → w.cell? (ad.add (i.toNat * 1 + j)) = some u := hc0
  obtain ⟨A0, c0, rfl, l0, g0⟩ := hK
  exact ⟨ad, A0, c0, e, by have hq := hc 0 _ rfl; rwa [Nat.mul_one, Nat.add_zero] at hq, l0, g0⟩


/-! #### struct type 85 -/
def zForm : Form := ⟨(0 : Int), (⟨#[]⟩ : ByteArray), (0 : Int), (0 : Int), false, false, (⟨#[]⟩ : ByteArray), ([] : List ByteArray), ([] : List ByteArray), false⟩
def kForm : Kd Form := Kd.iso (Kd.pair (Kd.int .i64) (Kd.pair Kd.string (Kd.pair (Kd.int .i64) (Kd.pair (Kd.int .u32) (Kd.pair Kd.bool (Kd.pair Kd.bool (Kd.pair Kd.string (Kd.pair (Kd.slice 9 Kd.string) (Kd.pair (Kd.slice 9 Kd.string) Kd.bool))))))))) (fun x : Form => (x.dialect, x.verb, x.code, x.opq, x.quiet, x.withcas, x.flags, x.tokens, x.keys, x.base64))
theorem kForm_open {w : World} {x : Form} {cs : List Value} (h : kForm.K w x cs) : ∃ A7 c7 A8 c8, cs = [.int .i64 x.dialect, .string x.verb, .int .i64 x.code, .int .u32 x.opq, .bool x.quiet, .bool x.withcas, .string x.flags, .slice A7 x.tokens.length c7, .slice A8 x.keys.length c8, .bool x.base64] ∧ x.tokens.length ≤ c7 ∧ Kd.string.C w A7 x.tokens.length x.tokens ∧ x.keys.length ≤ c8 ∧ Kd.string.C w A8 x.keys.length x.keys := by
  obtain ⟨_, _, rfl, rfl, ⟨_, _, rfl, rfl, ⟨_, _, rfl, rfl, ⟨_, _, rfl, rfl, ⟨_, _, rfl, rfl, ⟨_, _, rfl, rfl, ⟨_, _, rfl, rfl, ⟨_, _, rfl, ⟨A7, c7, rfl, l7, g7⟩, ⟨_, _, rfl, ⟨A8, c8, rfl, l8, g8⟩, rfl⟩⟩⟩⟩⟩⟩⟩⟩⟩ := h
  exact ⟨A7, c7, A8, c8, rfl, l7, g7, l8, g8⟩
theorem kForm_openM {w : World} {base : Nat} {ok : Nat → Prop} {x : Form} {cs : List Value} (h : kForm.M w base ok x cs) : ∃ v7 v8, cs = [.int .i64 x.dialect, .string x.verb, .int .i64 x.code, .int .u32 x.opq, .bool x.quiet, .bool x.withcas, .string x.flags, v7, v8, .bool x.base64] ∧ Kd.string.R 9 w base ok v7 x.tokens ∧ Kd.string.R 9 w base ok v8 x.keys := by
  obtain ⟨_, _, rfl, rfl, ⟨_, _, rfl, rfl, ⟨_, _, rfl, rfl, ⟨_, _, rfl, rfl, ⟨_, _, rfl, rfl, ⟨_, _, rfl, rfl, ⟨_, _, rfl, rfl, ⟨_, _, rfl, ⟨v7, rfl, g7⟩, ⟨_, _, rfl, ⟨v8, rfl, g8⟩, rfl⟩⟩⟩⟩⟩⟩⟩⟩⟩ := h
  exact ⟨v7, v8, rfl, g7, g8⟩
theorem kForm_mk (w : World) (x : Form) {A7 : Option Addr} {c7 : Nat} (l7 : x.tokens.length ≤ c7) (g7 : Kd.string.C w A7 x.tokens.length x.tokens) {A8 : Option Addr} {c8 : Nat} (l8 : x.keys.length ≤ c8) (g8 : Kd.string.C w A8 x.keys.length x.keys) : kForm.K w x [.int .i64 x.dialect, .string x.verb, .int .i64 x.code, .int .u32 x.opq, .bool x.quiet, .bool x.withcas, .string x.flags, .slice A7 x.tokens.length c7, .slice A8 x.keys.length c8, .bool x.base64] := ⟨[.int .i64 x.dialect], [.string x.verb, .int .i64 x.code, .int .u32 x.opq, .bool x.quiet, .bool x.withcas, .string x.flags, .slice A7 x.tokens.length c7, .slice A8 x.keys.length c8, .bool x.base64], rfl, rfl, ⟨[.string x.verb], [.int .i64 x.code, .int .u32 x.opq, .bool x.quiet, .bool x.withcas, .string x.flags, .slice A7 x.tokens.length c7, .slice A8 x.keys.length c8, .bool x.base64], rfl, rfl, ⟨[.int .i64 x.code], [.int .u32 x.opq, .bool x.quiet, .bool x.withcas, .string x.flags, .slice A7 x.tokens.length c7, .slice A8 x.keys.length c8, .bool x.base64], rfl, rfl, ⟨[.int .u32 x.opq], [.bool x.quiet, .bool x.withcas, .string x.flags, .slice A7 x.tokens.length c7, .slice A8 x.keys.length c8, .bool x.base64], rfl, rfl, ⟨[.bool x.quiet], [.bool x.withcas, .string x.flags, .slice A7 x.tokens.length c7, .slice A8 x.keys.length c8, .bool x.base64], rfl, rfl, ⟨[.bool x.withcas], [.string x.flags, .slice A7 x.tokens.length c7, .slice A8 x.keys.length c8, .bool x.base64], rfl, rfl, ⟨[.string x.flags], [.slice A7 x.tokens.length c7, .slice A8 x.keys.length c8, .bool x.base64], rfl, rfl, ⟨[.slice A7 x.tokens.length c7], [.slice A8 x.keys.length c8, .bool x.base64], rfl, ⟨A7, c7, rfl, l7, g7⟩, ⟨[.slice A8 x.keys.length c8], [.bool x.base64], rfl, ⟨A8, c8, rfl, l8, g8⟩, rfl⟩⟩⟩⟩⟩⟩⟩⟩⟩
theorem kForm_mkM (w : World) (base : Nat) (ok : Nat → Prop) (x : Form) {v7 : Value} (g7 : Kd.string.R 9 w base ok v7 x.tokens) {v8 : Value} (g8 : Kd.string.R 9 w base ok v8 x.keys) : kForm.M w base ok x [.int .i64 x.dialect, .string x.verb, .int .i64 x.code, .int .u32 x.opq, .bool x.quiet, .bool x.withcas, .string x.flags, v7, v8, .bool x.base64] := ⟨[.int .i64 x.dialect], [.string x.verb, .int .i64 x.code, .int .u32 x.opq, .bool x.quiet, .bool x.withcas, .string x.flags, v7, v8, .bool x.base64], rfl, rfl, ⟨[.string x.verb], [.int .i64 x.code, .int .u32 x.opq, .bool x.quiet, .bool x.withcas, .string x.flags, v7, v8, .bool x.base64], rfl, rfl, ⟨[.int .i64 x.code], [.int .u32 x.opq, .bool x.quiet, .bool x.withcas, .string x.flags, v7, v8, .bool x.base64], rfl, rfl, ⟨[.int .u32 x.opq], [.bool x.quiet, .bool x.withcas, .string x.flags, v7, v8, .bool x.base64], rfl, rfl, ⟨[.bool x.quiet], [.bool x.withcas, .string x.flags, v7, v8, .bool x.base64], rfl, rfl, ⟨[.bool x.withcas], [.string x.flags, v7, v8, .bool x.base64], rfl, rfl, ⟨[.string x.flags], [v7, v8, .bool x.base64], rfl, rfl, ⟨[v7], [v8, .bool x.base64], rfl, ⟨v7, rfl, g7⟩, ⟨[v8], [.bool x.base64], rfl, ⟨v8, rfl, g8⟩, rfl⟩⟩⟩⟩⟩⟩⟩⟩⟩
def rd_Form (xs : List Form) (i : Int) : Form := xs.getD i.toNat zForm
theorem at_Form {w : World} {A : Option Addr} {n : Nat} {xs : List Form} (h : Kd.C kForm w A n xs) (i : Int) (h0 : 0 ≤ i) (h1 : i < n) : ∃ ad A7 c7 A8 c8, A = some ad ∧ w.cell? (ad.add (i.toNat * 10)) = some (.int .i64 (rd_Form xs i).dialect) ∧ w.cell? ⟨(ad.add (i.toNat * 10)).block, (ad.add (i.toNat * 10)).off + 1, none⟩ = some (.string (rd_Form xs i).verb) ∧ w.cell? ⟨(ad.add (i.toNat * 10)).block, (ad.add (i.toNat * 10)).off + 2, none⟩ = some (.int .i64 (rd_Form xs i).code) ∧ w.cell? ⟨(ad.add (i.toNat * 10)).block, (ad.add (i.toNat * 10)).off + 3, none⟩ = some (.int .u32 (rd_Form xs i).opq) ∧ w.cell? ⟨(ad.add (i.toNat * 10)).block, (ad.add (i.toNat * 10)).off + 4, none⟩ = some (.bool (rd_Form xs i).quiet) ∧ w.cell? ⟨(ad.add (i.toNat * 10)).block, (ad.add (i.toNat * 10)).off + 5, none⟩ = some (.bool (rd_Form xs i).withcas) ∧ w.cell? ⟨(ad.add (i.toNat * 10)).block, (ad.add (i.toNat * 10)).off + 6, none⟩ = some (.string (rd_Form xs i).flags) ∧ w.cell? ⟨(ad.add (i.toNat * 10)).block, (ad.add (i.toNat * 10)).off + 7, none⟩ = some (.slice A7 (rd_Form xs i).tokens.length c7) ∧ w.cell? ⟨(ad.add (i.toNat * 10)).block, (ad.add (i.toNat * 10)).off + 8, none⟩ = some (.slice A8 (rd_Form xs i).keys.length c8) ∧ w.cell? ⟨(ad.add (i.toNat * 10)).block, (ad.add (i.toNat * 10)).off + 9, none⟩ = some (.bool (rd_Form xs i).base64) ∧ (rd_Form xs i).tokens.length ≤ c7 ∧ Kd.string.C w A7 (rd_Form xs i).tokens.length (rd_Form xs i).tokens ∧ (rd_Form xs i).keys.length ≤ c8 ∧ Kd.string.C w A8 (rd_Form xs i).keys.length (rd_Form xs i).keys := by
  obtain ⟨ad, c, e, _, hK, hc0⟩ := Kd.C_get h zForm i h0 h1
  have hc : ∀ j u, c[j]? = some u → w.cell? (ad.add (i.toNat * 10 + j)) = some u := hc0
  obtain ⟨A7, c7, A8, c8, rfl, l7, g7, l8, g8⟩ := kForm_open hK
  exact ⟨ad, A7, c7, A8, c8, e, hc 0 _ rfl, by rw [← add_field _ _ 1 (by omega)]; exact hc 1 _ rfl, by rw [← add_field _ _ 2 (by omega)]; exact hc 2 _ rfl, by rw [← add_field _ _ 3 (by omega)]; exact hc 3 _ rfl, by rw [← add_field _ _ 4 (by omega)]; exact hc 4 _ rfl, by rw [← add_field _ _ 5 (by omega)]; exact hc 5 _ rfl, by rw [← add_field _ _ 6 (by omega)]; exact hc 6 _ rfl, by rw [← add_field _ _ 7 (by omega)]; exact hc 7 _ rfl, by rw [← add_field _ _ 8 (by omega)]; exact hc 8 _ rfl, by rw [← add_field _ _ 9 (by omega)]; exact hc 9 _ rfl, l7, g7, l8, g8⟩


/-! #### struct type 87 -/
def zRequest : Request := ⟨([] : List Cmd), zForm⟩
def kRequest : Kd Request := Kd.iso (Kd.pair (Kd.slice 26 kCmd) kForm) (fun x : Request => (x.cmds, x.form))
theorem kRequest_open {w : World} {x : Request} {cs : List Value} (h : kRequest.K w x cs) : ∃ A0 c0 A8 c8 A9 c9, cs = [.slice A0 x.cmds.length c0, .int .i64 x.form.dialect, .string x.form.verb, .int .i64 x.form.code, .int .u32 x.form.opq, .bool x.form.quiet, .bool x.form.withcas, .string x.form.flags, .slice A8 x.form.tokens.length c8, .slice A9 x.form.keys.length c9, .bool x.form.base64] ∧ x.cmds.length ≤ c0 ∧ kCmd.C w A0 x.cmds.length x.cmds ∧ x.form.tokens.length ≤ c8 ∧ Kd.string.C w A8 x.form.tokens.length x.form.tokens ∧ x.form.keys.length ≤ c9 ∧ Kd.string.C w A9 x.form.keys.length x.form.keys := by
  obtain ⟨_, _, rfl, ⟨A0, c0, rfl, l0, g0⟩, s1⟩ := h
  obtain ⟨A8, c8, A9, c9, rfl, l8, g8, l9, g9⟩ := kForm_open s1
  exact ⟨A0, c0, A8, c8, A9, c9, rfl, l0, g0, l8, g8, l9, g9⟩
theorem kRequest_openM {w : World} {base : Nat} {ok : Nat → Prop} {x : Request} {cs : List Value} (h : kRequest.M w base ok x cs) : ∃ v0 v8 v9, cs = [v0, .int .i64 x.form.dialect, .string x.form.verb, .int .i64 x.form.code, .int .u32 x.form.opq, .bool x.form.quiet, .bool x.form.withcas, .string x.form.flags, v8, v9, .bool x.form.base64] ∧ kCmd.R 26 w base ok v0 x.cmds ∧ Kd.string.R 9 w base ok v8 x.form.tokens ∧ Kd.string.R 9 w base ok v9 x.form.keys := by
  obtain ⟨_, _, rfl, ⟨v0, rfl, g0⟩, s1⟩ := h
  obtain ⟨v8, v9, rfl, g8, g9⟩ := kForm_openM s1
  exact ⟨v0, v8, v9, rfl, g0, g8, g9⟩
theorem kRequest_mk (w : World) (x : Request) {A0 : Option Addr} {c0 : Nat} (l0 : x.cmds.length ≤ c0) (g0 : kCmd.C w A0 x.cmds.length x.cmds) {A8 : Option Addr} {c8 : Nat} (l8 : x.form.tokens.length ≤ c8) (g8 : Kd.string.C w A8 x.form.tokens.length x.form.tokens) {A9 : Option Addr} {c9 : Nat} (l9 : x.form.keys.length ≤ c9) (g9 : Kd.string.C w A9 x.form.keys.length x.form.keys) : kRequest.K w x [.slice A0 x.cmds.length c0, .int .i64 x.form.dialect, .string x.form.verb, .int .i64 x.form.code, .int .u32 x.form.opq, .bool x.form.quiet, .bool x.form.withcas, .string x.form.flags, .slice A8 x.form.tokens.length c8, .slice A9 x.form.keys.length c9, .bool x.form.base64] := ⟨[.slice A0 x.cmds.length c0], [.int .i64 x.form.dialect, .string x.form.verb, .int .i64 x.form.code, .int .u32 x.form.opq, .bool x.form.quiet, .bool x.form.withcas, .string x.form.flags, .slice A8 x.form.tokens.length c8, .slice A9 x.form.keys.length c9, .bool x.form.base64], rfl, ⟨A0, c0, rfl, l0, g0⟩, (kForm_mk w x.form l8 g8 l9 g9)⟩
theorem kRequest_mkM (w : World) (base : Nat) (ok : Nat → Prop) (x : Request) {v0 : Value} (g0 : kCmd.R 26 w base ok v0 x.cmds) {v8 : Value} (g8 : Kd.string.R 9 w base ok v8 x.form.tokens) {v9 : Value} (g9 : Kd.string.R 9 w base ok v9 x.form.keys) : kRequest.M w base ok x [v0, .int .i64 x.form.dialect, .string x.form.verb, .int .i64 x.form.code, .int .u32 x.form.opq, .bool x.form.quiet, .bool x.form.withcas, .string x.form.flags, v8, v9, .bool x.form.base64] := ⟨[v0], [.int .i64 x.form.dialect, .string x.form.verb, .int .i64 x.form.code, .int .u32 x.form.opq, .bool x.form.quiet, .bool x.form.withcas, .string x.form.flags, v8, v9, .bool x.form.base64], rfl, ⟨v0, rfl, g0⟩, (kForm_mkM w base ok x.form g8 g9)⟩
def rd_Request (xs : List Request) (i : Int) : Request := xs.getD i.toNat zRequest
theorem at_Request {w : World} {A : Option Addr} {n : Nat} {xs : List Request} (h : Kd.C kRequest w A n xs) (i : Int) (h0 : 0 ≤ i) (h1 : i < n) : ∃ ad A0 c0 A8 c8 A9 c9, A = some ad ∧ w.cell? (ad.add (i.toNat * 11)) = some (.slice A0 (rd_Request xs i).cmds.length c0) ∧ w.cell? ⟨(ad.add (i.toNat * 11)).block, (ad.add (i.toNat * 11)).off + 1, none⟩ = some (.int .i64 (rd_Request xs i).form.dialect) ∧ w.cell? ⟨(ad.add (i.toNat * 11)).block, (ad.add (i.toNat * 11)).off + 2, none⟩ = some (.string (rd_Request xs i).form.verb) ∧ w.cell? ⟨(ad.add (i.toNat * 11)).block, (ad.add (i.toNat * 11)).off + 3, none⟩ = some (.int .i64 (rd_Request xs i).form.code) ∧ w.cell? ⟨(ad.add (i.toNat * 11)).block, (ad.add (i.toNat * 11)).off + 4, none⟩ = some (.int .u32 (rd_Request xs i).form.opq) ∧ w.cell? ⟨(ad.add (i.toNat * 11)).block, (ad.add (i.toNat * 11)).off + 5, none⟩ = some (.bool (rd_Request xs i).form.quiet) ∧ w.cell? ⟨(ad.add (i.toNat * 11)).block, (ad.add (i.toNat * 11)).off + 6, none⟩ = some (.bool (rd_Request xs i).form.withcas) ∧ w.cell? ⟨(ad.add (i.toNat * 11)).block, (ad.add (i.toNat * 11)).off + 7, none⟩ = some (.string (rd_Request xs i).form.flags) ∧ w.cell? ⟨(ad.add (i.toNat * 11)).block, (ad.add (i.toNat * 11)).off + 8, none⟩ = some (.slice A8 (rd_Request xs i).form.tokens.length c8) ∧ w.cell? ⟨(ad.add (i.toNat * 11)).block, (ad.add (i.toNat * 11)).off + 9, none⟩ = some (.slice A9 (rd_Request xs i).form.keys.length c9) ∧ w.cell? ⟨(ad.add (i.toNat * 11)).block, (ad.add (i.toNat * 11)).off + 10, none⟩ = some (.bool (rd_Request xs i).form.base64) ∧ (rd_Request xs i).cmds.length ≤ c0 ∧ kCmd.C w A0 (rd_Request xs i).cmds.length (rd_Request xs i).cmds ∧ (rd_Request xs i).form.tokens.length ≤ c8 ∧ Kd.string.C w A8 (rd_Request xs i).form.tokens.length (rd_Request xs i).form.tokens ∧ (rd_Request xs i).form.keys.length ≤ c9 ∧ Kd.string.C w A9 (rd_Request xs i).form.keys.length (rd_Request xs i).form.keys := by
  obtain ⟨ad, c, e, _, hK, hc0⟩ := Kd.C_get h zRequest i h0 h1
  have hc : ∀ j u, c[j]? = some u → w.cell? (ad.add (i.toNat * 11 + j)) = some u := hc0
  obtain ⟨A0, c0, A8, c8, A9, c9, rfl, l0, g0, l8, g8, l9, g9⟩ := kRequest_open hK
  exact ⟨ad, A0, c0, A8, c8, A9, c9, e, hc 0 _ rfl, by rw [← add_field _ _ 1 (by omega)]; exact hc 1 _ rfl, by rw [← add_field _ _ 2 (by omega)]; exact hc 2 _ rfl, by rw [← add_field _ _ 3 (by omega)]; exact hc 3 _ rfl, by rw [← add_field _ _ 4 (by omega)]; exact hc 4 _ rfl, by rw [← add_field _ _ 5 (by omega)]; exact hc 5 _ rfl, by rw [← add_field _ _ 6 (by omega)]; exact hc 6 _ rfl, by rw [← add_field _ _ 7 (by omega)]; exact hc 7 _ rfl, by rw [← add_field _ _ 8 (by omega)]; exact hc 8 _ rfl, by rw [← add_field _ _ 9 (by omega)]; exact hc 9 _ rfl, by rw [← add_field _ _ 10 (by omega)]; exact hc 10 _ rfl, l0, g0, l8, g8, l9, g9⟩


/-! #### struct type 32 -/
def zResult : Result := ⟨(0 : Int), ([] : List Int), (0 : Int), (0 : Int), (0 : Int), (0 : Int), false, false, false⟩
def kResult : Kd Result := Kd.iso (Kd.pair (Kd.int .i64) (Kd.pair (Kd.slice 5 (Kd.int .u8)) (Kd.pair (Kd.int .u32) (Kd.pair (Kd.int .u64) (Kd.pair (Kd.int .i64) (Kd.pair (Kd.int .u64) (Kd.pair Kd.bool (Kd.pair Kd.bool Kd.bool)))))))) (fun x : Result => (x.status, x.value, x.flags, x.cas, x.ttl, x.number, x.stale, x.won, x.lost))
theorem kResult_open {w : World} {x : Result} {cs : List Value} (h : kResult.K w x cs) : ∃ A1 c1, cs = [.int .i64 x.status, .slice A1 x.value.length c1, .int .u32 x.flags, .int .u64 x.cas, .int .i64 x.ttl, .int .u64 x.number, .bool x.stale, .bool x.won, .bool x.lost] ∧ x.value.length ≤ c1 ∧ (Kd.int .u8).C w A1 x.value.length x.value := by
  obtain ⟨_, _, rfl, rfl, ⟨_, _, rfl, ⟨A1, c1, rfl, l1, g1⟩, ⟨_, _, rfl, rfl, ⟨_, _, rfl, rfl, ⟨_, _, rfl, rfl, ⟨_, _, rfl, rfl, ⟨_, _, rfl, rfl, ⟨_, _, rfl, rfl, rfl⟩⟩⟩⟩⟩⟩⟩⟩ := h
  exact ⟨A1, c1, rfl, l1, g1⟩
theorem kResult_openM {w : World} {base : Nat} {ok : Nat → Prop} {x : Result} {cs : List Value} (h : kResult.M w base ok x cs) : ∃ v1, cs = [.int .i64 x.status, v1, .int .u32 x.flags, .int .u64 x.cas, .int .i64 x.ttl, .int .u64 x.number, .bool x.stale, .bool x.won, .bool x.lost] ∧ (Kd.int .u8).R 5 w base ok v1 x.value := by
  obtain ⟨_, _, rfl, rfl, ⟨_, _, rfl, ⟨v1, rfl, g1⟩, ⟨_, _, rfl, rfl, ⟨_, _, rfl, rfl, ⟨_, _, rfl, rfl, ⟨_, _, rfl, rfl, ⟨_, _, rfl, rfl, ⟨_, _, rfl, rfl, rfl⟩⟩⟩⟩⟩⟩⟩⟩ := h
  exact ⟨v1, rfl, g1⟩
theorem kResult_mk (w : World) (x : Result) {A1 : Option Addr} {c1 : Nat} (l1 : x.value.length ≤ c1) (g1 : (Kd.int .u8).C w A1 x.value.length x.value) : kResult.K w x [.int .i64 x.status, .slice A1 x.value.length c1, .int .u32 x.flags, .int .u64 x.cas, .int .i64 x.ttl, .int .u64 x.number, .bool x.stale, .bool x.won, .bool x.lost] := ⟨[.int .i64 x.status], [.slice A1 x.value.length c1, .int .u32 x.flags, .int .u64 x.cas, .int .i64 x.ttl, .int .u64 x.number, .bool x.stale, .bool x.won, .bool x.lost], rfl, rfl, ⟨[.slice A1 x.value.length c1], [.int .u32 x.flags, .int .u64 x.cas, .int .i64 x.ttl, .int .u64 x.number, .bool x.stale, .bool x.won, .bool x.lost], rfl, ⟨A1, c1, rfl, l1, g1⟩, ⟨[.int .u32 x.flags], [.int .u64 x.cas, .int .i64 x.ttl, .int .u64 x.number, .bool x.stale, .bool x.won, .bool x.lost], rfl, rfl, ⟨[.int .u64 x.cas], [.int .i64 x.ttl, .int .u64 x.number, .bool x.stale, .bool x.won, .bool x.lost], rfl, rfl, ⟨[.int .i64 x.ttl], [.int .u64 x.number, .bool x.stale, .bool x.won, .bool x.lost], rfl, rfl, ⟨[.int .u64 x.number], [.bool x.stale, .bool x.won, .bool x.lost], rfl, rfl, ⟨[.bool x.stale], [.bool x.won, .bool x.lost], rfl, rfl, ⟨[.bool x.won], [.bool x.lost], rfl, rfl, rfl⟩⟩⟩⟩⟩⟩⟩⟩
theorem kResult_mkM (w : World) (base : Nat) (ok : Nat → Prop) (x : Result) {v1 : Value} (g1 : (Kd.int .u8).R 5 w base ok v1 x.value) : kResult.M w base ok x [.int .i64 x.status, v1, .int .u32 x.flags, .int .u64 x.cas, .int .i64 x.ttl, .int .u64 x.number, .bool x.stale, .bool x.won, .bool x.lost] := ⟨[.int .i64 x.status], [v1, .int .u32 x.flags, .int .u64 x.cas, .int .i64 x.ttl, .int .u64 x.number, .bool x.stale, .bool x.won, .bool x.lost], rfl, rfl, ⟨[v1], [.int .u32 x.flags, .int .u64 x.cas, .int .i64 x.ttl, .int .u64 x.number, .bool x.stale, .bool x.won, .bool x.lost], rfl, ⟨v1, rfl, g1⟩, ⟨[.int .u32 x.flags], [.int .u64 x.cas, .int .i64 x.ttl, .int .u64 x.number, .bool x.stale, .bool x.won, .bool x.lost], rfl, rfl, ⟨[.int .u64 x.cas], [.int .i64 x.ttl, .int .u64 x.number, .bool x.stale, .bool x.won, .bool x.lost], rfl, rfl, ⟨[.int .i64 x.ttl], [.int .u64 x.number, .bool x.stale, .bool x.won, .bool x.lost], rfl, rfl, ⟨[.int .u64 x.number], [.bool x.stale, .bool x.won, .bool x.lost], rfl, rfl, ⟨[.bool x.stale], [.bool x.won, .bool x.lost], rfl, rfl, ⟨[.bool x.won], [.bool x.lost], rfl, rfl, rfl⟩⟩⟩⟩⟩⟩⟩⟩
def rd_Result (xs : List Result) (i : Int) : Result := xs.getD i.toNat zResult
theorem at_Result {w : World} {A : Option Addr} {n : Nat} {xs : List Result} (h : Kd.C kResult w A n xs) (i : Int) (h0 : 0 ≤ i) (h1 : i < n) : ∃ ad A1 c1, A = some ad ∧ w.cell? (ad.add (i.toNat * 9)) = some (.int .i64 (rd_Result xs i).status) ∧ w.cell? ⟨(ad.add (i.toNat * 9)).block, (ad.add (i.toNat * 9)).off + 1, none⟩ = some (.slice A1 (rd_Result xs i).value.length c1) ∧ w.cell? ⟨(ad.add (i.toNat * 9)).block, (ad.add (i.toNat * 9)).off + 2, none⟩ = some (.int .u32 (rd_Result xs i).flags) ∧ w.cell? ⟨(ad.add (i.toNat * 9)).block, (ad.add (i.toNat * 9)).off + 3, none⟩ = some (.int .u64 (rd_Result xs i).cas) ∧ w.cell? ⟨(ad.add (i.toNat * 9)).block, (ad.add (i.toNat * 9)).off + 4, none⟩ = some (.int .i64 (rd_Result xs i).ttl) ∧ w.cell? ⟨(ad.add (i.toNat * 9)).block, (ad.add (i.toNat * 9)).off + 5, none⟩ = some (.int .u64 (rd_Result xs i).number) ∧ w.cell? ⟨(ad.add (i.toNat * 9)).block, (ad.add (i.toNat * 9)).off + 6, none⟩ = some (.bool (rd_Result xs i).stale) ∧ w.cell? ⟨(ad.add (i.toNat * 9)).block, (ad.add (i.toNat * 9)).off + 7, none⟩ = some (.bool (rd_Result xs i).won) ∧ w.cell? ⟨(ad.add (i.toNat * 9)).block, (ad.add (i.toNat * 9)).off + 8, none⟩ = some (.bool (rd_Result xs i).lost) ∧ (rd_Result xs i).value.length ≤ c1 ∧ (Kd.int .u8).C w A1 (rd_Result xs i).value.length (rd_Result xs i).value := by
  obtain ⟨ad, c, e, _, hK, hc0⟩ := Kd.C_get h zResult i h0 h1
  have hc : ∀ j u, c[j]? = some u → w.cell? (ad.add (i.toNat * 9 + j)) = some u := hc0
  obtain ⟨A1, c1, rfl, l1, g1⟩ := kResult_open hK
  exact ⟨ad, A1, c1, e, hc 0 _ rfl, by rw [← add_field _ _ 1 (by omega)]; exact hc 1 _ rfl, by rw [← add_field _ _ 2 (by omega)]; exact hc 2 _ rfl, by rw [← add_field _ _ 3 (by omega)]; exact hc 3 _ rfl, by rw [← add_field _ _ 4 (by omega)]; exact hc 4 _ rfl, by rw [← add_field _ _ 5 (by omega)]; exact hc 5 _ rfl, by rw [← add_field _ _ 6 (by omega)]; exact hc 6 _ rfl, by rw [← add_field _ _ 7 (by omega)]; exact hc 7 _ rfl, by rw [← add_field _ _ 8 (by omega)]; exact hc 8 _ rfl, l1, g1⟩

end Go.Proofs.YtamndkiagenfnaaGreatDoor.X
namespace Go.Proofs.YtamndkiagenfnaaGreatDoor.X
set_option linter.unusedVariables false
set_option linter.unusedSimpArgs false

def trimL (l : List UInt8) : List UInt8 := Lib.trimLeftB l 32
def headW (l : List UInt8) : List UInt8 := l.takeWhile (· != 32)
def tailW (l : List UInt8) : List UInt8 := l.drop ((headW l).length + 1)
theorem trimL_len (l : List UInt8) : (trimL l).length ≤ l.length := by
  unfold trimL Lib.trimLeftB
  exact (List.dropWhile_suffix _).length_le
theorem tailW_lt (l : List UInt8) (h : trimL l ≠ []) : (tailW (trimL l)).length < l.length := by
  have h1 := trimL_len l
  have h2 : 0 < (trimL l).length := List.length_pos_iff.2 h
  unfold tailW
  rw [List.length_drop]
  omega
def wordsL (l : List UInt8) : List (List UInt8) := if h : trimL l = [] then [] else headW (trimL l) :: wordsL (tailW (trimL l))
termination_by l.length
decreasing_by exact tailW_lt l h
theorem wordsL_nil (l : List UInt8) (h : trimL l = []) : wordsL l = [] := by rw [wordsL, dif_pos h]
theorem wordsL_cons (l : List UInt8) (h : trimL l ≠ []) : wordsL l = headW (trimL l) :: wordsL (tailW (trimL l)) := by rw [wordsL, dif_neg h]
def baOf (l : List UInt8) : ByteArray := ⟨l.toArray⟩
def wordsB (s : ByteArray) : List ByteArray := (wordsL s.data.toList).map baOf
theorem headW_len (l : List UInt8) : (headW l).length ≤ l.length := by
  unfold headW
  exact (List.takeWhile_sublist _).length_le
theorem idx_none (l : List UInt8) : Lib.indexByte l 32 = -1 → headW l = l ∧ tailW l = [] := by
  have key : Lib.indexByte l 32 = -1 → headW l = l := by
    induction l with
    | nil => intro _; rfl
    | cons b l ih =>
      intro h
      unfold Lib.indexByte at h
      by_cases hb : b = 32
      · simp [hb] at h
      · have hb2 : (b == 32) = false := beq_eq_false_iff_ne.2 hb
        rw [hb2] at h
        by_cases h2 : Lib.indexByte l 32 = -1
        · unfold headW at ih ⊢
          simp [hb, ih h2]
        · exfalso
          have h3 : (Lib.indexByte l 32 == -1) = false := beq_eq_false_iff_ne.2 h2
          rw [h3] at h
          have : Lib.indexByte l 32 + 1 = -1 := by simpa using h
          have hn := idx_ge l
          omega
  intro h
  refine ⟨key h, ?_⟩
  unfold tailW
  rw [key h]
  exact List.drop_eq_nil_of_le (by omega)
where
  idx_ge : ∀ l : List UInt8, -1 ≤ Lib.indexByte l 32
    | [] => by simp [Lib.indexByte]
    | b :: l => by
      have ih := idx_ge l
      unfold Lib.indexByte
      split
      · omega
      · split <;> omega
theorem idx_some (l : List UInt8) : Lib.indexByte l 32 ≠ -1 → Lib.indexByte l 32 = ((headW l).length : Int) ∧ (headW l).length < l.length := by
  induction l with
  | nil => intro h; exact absurd rfl h
  | cons b l ih =>
    intro h
    unfold Lib.indexByte at h ⊢
    by_cases hb : b = 32
    · have hb2 : (b == 32) = true := beq_iff_eq.2 hb
      rw [if_pos hb2]
      unfold headW
      simp [hb]
    · have hb2 : (b == 32) = false := beq_eq_false_iff_ne.2 hb
      rw [hb2] at h ⊢
      by_cases h2 : Lib.indexByte l 32 = -1
      · simp [h2] at h
      · have h3 : (Lib.indexByte l 32 == -1) = false := beq_eq_false_iff_ne.2 h2
        rw [h3]
        obtain ⟨e1, e2⟩ := ih h2
        unfold headW at e1 e2 ⊢
        simp [hb, e1]
        omega
theorem headW_take (l : List UInt8) : l.take (headW l).length = headW l := by
  unfold headW
  have := List.takeWhile_append_dropWhile (p := (· != (32 : UInt8))) (l := l)
  conv => lhs; arg 2; rw [← this]
  rw [List.take_left' rfl]
end Go.Proofs.YtamndkiagenfnaaGreatDoor.X
namespace Go.Proofs.YtamndkiagenfnaaGreatDoor.X
set_option linter.unusedVariables false
set_option linter.unusedSimpArgs false
def NoB (w : List UInt8) : Prop := w ≠ [] ∧ ∀ b ∈ w, b ≠ 32
def jn : List (List UInt8) → List UInt8
  | [] => []
  | [w] => w
  | w :: v :: r => w ++ 32 :: jn (v :: r)
theorem jn_snoc : ∀ (p : List (List UInt8)) (w : List UInt8), p ≠ [] → jn (p ++ [w]) = jn p ++ 32 :: w
  | [], _, h => absurd rfl h
  | [v], w, _ => rfl
  | v :: u :: r, w, _ => by
    have ih := jn_snoc (u :: r) w (by simp)
    show v ++ 32 :: jn ((u :: r) ++ [w]) = (v ++ 32 :: jn (u :: r)) ++ 32 :: w
    rw [ih]
    simp
theorem trimL_head (b : UInt8) (l : List UInt8) (h : b ≠ 32) : trimL (b :: l) = b :: l := by
  unfold trimL Lib.trimLeftB
  simp [List.dropWhile_cons, h]
theorem headW_app (w r : List UInt8) (h : ∀ b ∈ w, b ≠ 32) : headW (w ++ 32 :: r) = w := by
  induction w with
  | nil => simp [headW]
  | cons b w ih =>
    have hb := h b (by simp)
    have := ih (fun c hc => h c (by simp [hc]))
    unfold headW at this ⊢
    simp [hb, this]
theorem headW_all (w : List UInt8) (h : ∀ b ∈ w, b ≠ 32) : headW w = w := by
  induction w with
  | nil => rfl
  | cons b w ih =>
    have hb := h b (by simp)
    have := ih (fun c hc => h c (by simp [hc]))
    unfold headW at this ⊢
    simp [hb, this]
theorem wordsL_jn : ∀ (ws : List (List UInt8)), (∀ w ∈ ws, NoB w) → wordsL (jn ws) = ws
  | [], _ => wordsL_nil _ rfl
  | [w], h => by
    obtain ⟨h1, h2⟩ := h w (by simp)
    obtain ⟨b, r, rfl⟩ := List.exists_cons_of_ne_nil h1
    show wordsL (b :: r) = _
    have ht := trimL_head b r (h2 b (by simp))
    rw [wordsL_cons _ (by rw [ht]; simp), ht, headW_all _ h2]
    have : tailW (b :: r) = [] := by
      unfold tailW
      rw [headW_all _ h2]
      exact List.drop_eq_nil_of_le (by omega)
    rw [this, wordsL_nil _ rfl]
  | w :: v :: rs, h => by
    have ih := wordsL_jn (v :: rs) (fun x hx => h x (by simp at hx ⊢; right; exact hx))
    obtain ⟨h1, h2⟩ := h w (by simp)
    obtain ⟨b, r, rfl⟩ := List.exists_cons_of_ne_nil h1
    show wordsL ((b :: r) ++ 32 :: jn (v :: rs)) = _
    have ht : trimL ((b :: r) ++ 32 :: jn (v :: rs)) = (b :: r) ++ 32 :: jn (v :: rs) := trimL_head b _ (h2 b (by simp))
    rw [wordsL_cons _ (by rw [ht]; simp), ht, headW_app _ _ h2]
    have : tailW ((b :: r) ++ 32 :: jn (v :: rs)) = jn (v :: rs) := by
      unfold tailW
      rw [headW_app _ _ h2, show (b :: r) ++ 32 :: jn (v :: rs) = ((b :: r) ++ [32]) ++ jn (v :: rs) by simp, List.drop_left' (by simp)]
    rw [this, ih]
theorem trimL_first (l : List UInt8) (b : UInt8) (r : List UInt8) (h : trimL l = b :: r) : b ≠ 32 := by
  intro e
  have := List.head?_dropWhile_not (fun x : UInt8 => x == 32) l
  unfold trimL Lib.trimLeftB at h
  rw [h] at this
  simp [e] at this
theorem headW_ne (l : List UInt8) : ∀ c ∈ headW l, c ≠ 32 := by
  induction l with
  | nil => intro c hc; simp [headW] at hc
  | cons b l ih =>
    intro c hc
    unfold headW at hc ih
    by_cases hb : b = 32
    · simp [hb] at hc
    · have hb2 : (b != 32) = true := by simp [hb]
      rw [List.takeWhile_cons, hb2] at hc
      rcases List.mem_cons.1 hc with rfl | hc
      · exact hb
      · exact ih c hc
theorem wordsL_ok (l : List UInt8) : ∀ w ∈ wordsL l, NoB w := by
  induction h : l.length using Nat.strongRecOn generalizing l with
  | _ n ih =>
    by_cases h0 : trimL l = []
    · rw [wordsL_nil _ h0]; simp
    · rw [wordsL_cons _ h0]
      intro w hw
      rcases List.mem_cons.1 hw with rfl | hw
      · obtain ⟨b, r, hb⟩ := List.exists_cons_of_ne_nil h0
        have hb2 := trimL_first l b r hb
        refine ⟨?_, fun c hc => ?_⟩
        · rw [hb]
          unfold headW
          simp [hb2]
        · exact headW_ne _ c hc
      · exact ih _ (by have := tailW_lt l h0; omega) _ rfl w hw
theorem headW_stop (m : List UInt8) (h : (headW m).length < m.length) : m[(headW m).length] = 32 := by
  induction m with
  | nil => simp at h
  | cons b m ih =>
    by_cases hb : b = 32
    · subst hb
      simp [headW]
    · have e : headW (b :: m) = b :: headW m := by unfold headW; simp [hb]
      have h2 : (headW m).length < m.length := by rw [e] at h; simpa using h
      have := ih h2
      simp only [e, List.length_cons, List.getElem_cons_succ]
      exact this
theorem headW_in (m : List UInt8) (i : Nat) (h : i < (headW m).length) : m[i]'(by have := headW_len m; omega) ≠ 32 := by
  have h1 := headW_ne m (headW m)[i] (List.getElem_mem _)
  have h2 : (headW m)[i] = m[i]'(by have := headW_len m; omega) := by
    have e := headW_take m
    have h3 : (m.take (headW m).length)[i]? = (headW m)[i]? := by rw [e]
    rw [List.getElem?_take_of_lt h, List.getElem?_eq_getElem h, List.getElem?_eq_getElem (by have := headW_len m; omega)] at h3
    exact (Option.some.inj h3).symm
  rw [← h2]
  exact h1
theorem wordsL_blank (r : List UInt8) : wordsL (32 :: r) = wordsL r := by
  have e : trimL (32 :: r) = trimL r := by unfold trimL Lib.trimLeftB; simp
  by_cases h : trimL r = []
  · rw [wordsL_nil _ h, wordsL_nil _ (by rw [e]; exact h)]
  · rw [wordsL_cons _ h, wordsL_cons _ (by rw [e]; exact h), e]
theorem wordsL_step (m : List UInt8) (hm : m ≠ []) : wordsL m = (if 0 < (headW m).length then [headW m] else []) ++ wordsL (tailW m) := by
  obtain ⟨b, r, rfl⟩ := List.exists_cons_of_ne_nil hm
  by_cases hb : b = 32
  · subst hb
    have e : headW (32 :: r) = [] := by simp [headW]
    have e2 : tailW (32 :: r) = r := by unfold tailW; rw [e]; rfl
    rw [wordsL_blank, e, e2]
    simp
  · have e : headW (b :: r) = b :: headW r := by unfold headW; simp [hb]
    have ht := trimL_head b r hb
    rw [wordsL_cons _ (by rw [ht]; simp), ht, if_pos (by rw [e]; simp)]
    rfl
theorem headW_lt_app (a x : List UInt8) (h : (headW a).length < a.length) : headW (a ++ x) = headW a := by
  induction a with
  | nil => simp at h
  | cons b a ih =>
    by_cases hb : b = 32
    · subst hb
      simp [headW]
    · have e : ∀ l : List UInt8, headW (b :: l) = b :: headW l := fun l => by unfold headW; simp [hb]
      have h2 : (headW a).length < a.length := by rw [e] at h; simpa using h
      rw [List.cons_append, e, e, ih h2]
/-- A line that is put together of two with a blank between has the words of both. -/
theorem wordsL_cat (a b : List UInt8) : wordsL (a ++ 32 :: b) = wordsL a ++ wordsL b := by
  induction h : a.length using Nat.strongRecOn generalizing a with
  | _ n ih =>
    by_cases ha : a = []
    · subst ha
      rw [List.nil_append, wordsL_blank, wordsL_nil [] rfl]
      rfl
    · have hle := headW_len a
      have hpos : 0 < a.length := List.length_pos_iff.2 ha
      rw [wordsL_step _ (show a ++ 32 :: b ≠ [] by simp), wordsL_step a ha]
      by_cases hlt : (headW a).length < a.length
      · have e1 := headW_lt_app a (32 :: b) hlt
        have e2 : tailW (a ++ 32 :: b) = tailW a ++ 32 :: b := by
          unfold tailW
          rw [e1, List.drop_append_of_le_length (by omega)]
        rw [e1, e2, ih _ (by unfold tailW; rw [List.length_drop]; omega) (tailW a) rfl, List.append_assoc]
      · have hall : headW a = a := by
          have := headW_take a
          rw [show (headW a).length = a.length by omega, List.take_length] at this
          exact this.symm
        have hn : ∀ c ∈ a, c ≠ 32 := by rw [← hall]; exact headW_ne a
        have e1 := headW_app a b hn
        have e2 : tailW (a ++ 32 :: b) = b := by
          unfold tailW
          rw [e1, show a ++ 32 :: b = (a ++ [32]) ++ b by simp, List.drop_left' (by simp)]
        have e3 : tailW a = [] := by
          unfold tailW
          rw [hall]
          exact List.drop_eq_nil_of_le (by omega)
        rw [e1, e2, e3, hall, wordsL_nil [] rfl, List.append_nil]
theorem wordsL_rep (k : Nat) (l : List UInt8) : wordsL (List.replicate k 32 ++ l) = wordsL l := by
  induction k with
  | zero => rfl
  | succ k ih => rw [List.replicate_succ, List.cons_append, wordsL_blank, ih]
theorem wordsL_end (k : Nat) (l : List UInt8) : wordsL (l ++ List.replicate k 32) = wordsL l := by
  cases k with
  | zero => rw [List.replicate_zero, List.append_nil]
  | succ k =>
    have := wordsL_rep k []
    rw [List.append_nil] at this
    rw [List.replicate_succ, wordsL_cat, this, wordsL_nil [] rfl, List.append_nil]
/-- Each blank made k blanks wider. -/
def exB (k : Nat) (l : List UInt8) : List UInt8 := l.flatMap fun b => (if b = 32 then List.replicate k 32 else []) ++ [b]
theorem exB_none (k : Nat) : ∀ (l : List UInt8), (∀ c ∈ l, c ≠ 32) → exB k l = l
  | [], _ => rfl
  | c :: l, h => by
    have ih := exB_none k l (fun x hx => h x (List.mem_cons_of_mem _ hx))
    unfold exB at ih ⊢
    rw [List.flatMap_cons, ih, if_neg (h c (by simp))]
    rfl
theorem exB_app (k : Nat) (a b : List UInt8) : exB k (a ++ b) = exB k a ++ exB k b := List.flatMap_append
theorem rep_snoc (k : Nat) (l : List UInt8) : (List.replicate k 32 ++ [32]) ++ l = 32 :: (List.replicate k 32 ++ l) := by
  rw [← List.replicate_succ', List.replicate_succ]
  rfl
theorem wordsL_ex (k : Nat) (l : List UInt8) : wordsL (exB k l) = wordsL l := by
  induction h : l.length using Nat.strongRecOn generalizing l with
  | _ n ih =>
    have hle := headW_len l
    by_cases hlt : (headW l).length < l.length
    · have hs := headW_stop l hlt
      have hl : l = headW l ++ 32 :: tailW l := by
        unfold tailW
        conv => lhs; rw [← List.take_append_drop (headW l).length l, headW_take, List.drop_eq_getElem_cons hlt, hs]
      have e : exB k l = headW l ++ 32 :: (List.replicate k 32 ++ exB k (tailW l)) := by
        conv => lhs; rw [hl, exB_app, exB_none k _ (headW_ne l)]
        rw [← rep_snoc]
        rfl
      rw [e, wordsL_cat, wordsL_rep, ih _ (by unfold tailW; rw [List.length_drop]; omega) (tailW l) rfl]
      conv => rhs; rw [hl, wordsL_cat]
    · have hall : headW l = l := by
        have := headW_take l
        rw [show (headW l).length = l.length by omega, List.take_length] at this
        exact this.symm
      rw [exB_none k l (by rw [← hall]; exact headW_ne l)]
theorem wordsL_one (w : List UInt8) (h : NoB w) : wordsL w = [w] := wordsL_jn [w] (fun x hx => by obtain rfl := List.mem_singleton.1 hx; exact h)
theorem exB_len (k : Nat) : ∀ (l : List UInt8), (exB k l).length ≤ (k + 1) * l.length
  | [] => by simp [exB]
  | c :: l => by
    have ih := exB_len k l
    unfold exB at ih ⊢
    rw [List.flatMap_cons, List.length_append, List.length_cons, Nat.mul_add]
    have : ((if c = 32 then List.replicate k 32 else []) ++ [c]).length ≤ k + 1 := by
      rw [List.length_append]
      split
      · simp
      · simp
    omega
end Go.Proofs.YtamndkiagenfnaaGreatDoor.X
namespace Go.Proofs.YtamndkiagenfnaaGreatDoor.X
open Go.RowKit Go.Proofs.YtamndkiagenfnaaGreatDoorW.PrintWords
set_option linter.unusedVariables false
set_option linter.unusedSimpArgs false

theorem ext_pre (s : ByteArray) (k : Nat) : s.extract 0 k = baOf (s.data.toList.take k) := by
  obtain ⟨⟨l⟩⟩ := s
  apply ByteArray.ext
  simp [ByteArray.data_extract, baOf]
theorem ext_suf (s : ByteArray) (k : Nat) : s.extract k s.size = baOf (s.data.toList.drop k) := by
  obtain ⟨⟨l⟩⟩ := s
  apply ByteArray.ext
  have e2 : (⟨⟨l⟩⟩ : ByteArray).size = l.length := by simp [ByteArray.size]
  simp [ByteArray.data_extract, baOf, e2]
  rw [List.take_of_length_le (by simp)]
set_option maxRecDepth 100000 in
set_option maxHeartbeats 1000000 in
theorem lcut_calls (s : ByteArray) (w : World) (hs : s.size ≤ 9223372036854775807) : Calls Tryz.prog 115 #[.string s, .string ⟨#[32]⟩] w fun e w' => (∃ b, e = .returned (.tuple #[.string (baOf (headW s.data.toList)), .string (baOf (tailW s.data.toList)), .bool b])) ∧ Drawn0 w w' := by
  by_cases h : Lib.indexByte s.data.toList 32 = -1
  · obtain ⟨e1, e2⟩ := idx_none _ h
    have e3 : baOf s.data.toList = s := rfl
    rw [e1, e2, e3]
    have H := Aside0.mk h
    clear h e1 e2 e3
    go_enter Tryz.func115, Tryz.ntmps115
    go_wp2_with (go_at_call 138; (with_reducible refine (Tryz.stringslite_Index_one s 32 _).mono ?_); rintro e w' ⟨rfl, rfl⟩; rw [H.out])
    go_ret3
    exact ⟨⟨_, rfl⟩, Drawn0.refl _⟩
  · obtain ⟨h1, h2⟩ := idx_some _ h
    obtain ⟨k, hk⟩ : ∃ k, (headW s.data.toList).length = k := ⟨_, rfl⟩
    rw [hk] at h1 h2
    have hlt : k < s.size := by have : s.data.toList.length = s.size := rfl; omega
    have e1 : baOf (headW s.data.toList) = s.extract 0 k := by rw [← headW_take, hk]; exact (ext_pre s k).symm
    have e2 : baOf (tailW s.data.toList) = s.extract (k + 1) s.size := by unfold tailW; rw [hk]; exact (ext_suf s (k + 1)).symm
    rw [e1, e2]
    have H1 := Aside0.mk h1
    clear h h1 e1 e2 hk h2
    go_enter Tryz.func115, Tryz.ntmps115
    go_upto_region 3 with (go_at_call 138; (with_reducible refine (Tryz.stringslite_Index_one s 32 _).mono ?_); rintro e w' ⟨rfl, rfl⟩; rw [H1.out])
    have hw1 : IntKind.i64.wrap ((k : Int) + 1) = (k : Int) + 1 := IntWalk.i64_in _ (by omega)
    have hp1 : (0 : Int) ≤ (k : Int) + 1 := by omega
    have hn1 : ((k : Int) + 1).toNat = k + 1 := by omega
    have hk1 : (k : Int) + 1 ≤ s.size := by omega
    have hk2 : (k : Int) ≤ s.size := by omega
    go_quiet (fail)
    go_wp2
    go_ret3
    exact ⟨⟨_, rfl⟩, ⟨⟨_, rfl⟩⟩⟩
set_option maxRecDepth 100000 in
theorem cut_calls (s : ByteArray) (w : World) (hs : s.size ≤ 9223372036854775807) : Calls Tryz.prog 82 #[.string s, .string ⟨#[32]⟩] w fun e w' => (∃ b, e = .returned (.tuple #[.string (baOf (headW s.data.toList)), .string (baOf (tailW s.data.toList)), .bool b])) ∧ Drawn0 w w' := by
  go_enter Tryz.func82, Tryz.ntmps82
  go_wp2_with (go_at_call 115; (with_reducible refine (lcut_calls s _ hs).mono ?_); rintro e w' ⟨⟨b, rfl⟩, ⟨nd, rfl⟩⟩)
  go_ret3
  exact ⟨⟨b, rfl⟩, ⟨⟨_, rfl⟩⟩⟩
end Go.Proofs.YtamndkiagenfnaaGreatDoor.X
namespace Go.Proofs.YtamndkiagenfnaaGreatDoor.X
open Go.RowKit Go.Shelf Go.Proofs.YtamndkiagenfnaaGreatDoorW.PrintWords
set_option linter.unusedVariables false
set_option linter.unusedSimpArgs false
attribute [local go_sem] Oper.semAt_some

def strSz : Value → Nat
  | .string t => t.size
  | _ => 0
theorem grown_drewN (w : World) (n : Nat) : w.grownBy (w.drewN n) none := ⟨rfl, rfl, rfl, Nat.le_refl _, fun _ _ _ => rfl⟩
theorem wordsB_nil {t T : ByteArray} (hT : baOf (trimL t.data.toList) = T) (h : T.toList.isEmpty = true) : wordsB t = [] := by
  have h1 : trimL t.data.toList = [] := by
    rw [← hT, ByteArray.toList_eq] at h
    simpa [baOf] using h
  unfold wordsB
  rw [wordsL_nil _ h1]
  rfl
theorem wordsB_cons {t T : ByteArray} (hT : baOf (trimL t.data.toList) = T) (h : T.toList.isEmpty = false) : wordsB t = baOf (headW T.data.toList) :: wordsB (baOf (tailW T.data.toList)) ∧ (baOf (tailW T.data.toList)).size < t.size ∧ T.size ≤ t.size := by
  have h1 : trimL t.data.toList ≠ [] := fun e => by
    rw [← hT, e] at h
    rw [ByteArray.toList_eq] at h
    simp [baOf] at h
  have e : T.data.toList = trimL t.data.toList := by rw [← hT]; rfl
  rw [e]
  refine ⟨?_, tailW_lt _ h1, ?_⟩
  · unfold wordsB
    rw [wordsL_cons _ h1]
    rfl
  · have h2 := trimL_len t.data.toList
    rw [← e] at h2
    exact h2
set_option maxRecDepth 100000 in
set_option maxHeartbeats 2000000 in
theorem words1_in (n : Nat) (hn : 1 ≤ n) (l Bn n₀ : Nat) (s : ByteArray) (hs : s.size ≤ 9223372036854775807) (J Jx : List ByteArray → World → Prop)
    (hY : ∀ pre x W, J pre W → pre.length < (wordsB s).length → YieldAt Fence.wide (n - 1) Tryz.prog l #[.string x] W fun e W' =>
      (e = .returned (.bool true) ∧ J (pre ++ [x]) W' ∧ Below n₀ W W') ∨ (e = .returned (.bool false) ∧ Jx (pre ++ [x]) W'))
    (W : World) (hJ : AbidesFrom W.heap.size J) (hBn : W.cell? ⟨Bn, 0, none⟩ = some (.string s)) (h0 : J [] W) :
    CallsIn Fence.wide n Tryz.prog 80 #[.func (.yield l) #[] #[], .pointer (some ⟨Bn, 0, none⟩)] W fun e W' => (∃ v, e = .returned v) ∧
      ((∃ ys, ys = wordsB s ∧ J ys W') ∨ (∃ pre, pre <+: wordsB s ∧ Jx pre W')) := by
  refine callsIn_of_wp Tryz.func80 rfl trivial ?_ rfl
  simp only [Tryz.ntmps80, List.size_toArray, List.length_cons, List.length_nil, Nat.reduceAdd, Nat.reduceSub, Array.replicate_succ, Array.replicate_zero, List.push_toArray, List.append_toArray, List.nil_append, List.cons_append]
  gi_wp2
  gi_loopw [3] (fun v wr => ∃ (pre : List ByteArray) (t : ByteArray), v = .string t ∧ Aside0 (wordsB s = pre ++ wordsB t) ∧ t.size ≤ 9223372036854775807 ∧ J pre wr)
    (fun v wr => strSz v)
  case atStart => exact ⟨[], s, rfl, ⟨rfl⟩, hs, h0⟩
  case round =>
    obtain ⟨pre, t, rfl, hx, ht, hJs⟩ := hrel
    obtain ⟨T, hT⟩ : ∃ T, baOf (trimL t.data.toList) = T := ⟨_, rfl⟩
    have HT := Aside0.mk hT
    by_cases he : T.toList.isEmpty = true
    · have hfin := wordsB_nil hT he
      have HF := Aside0.mk hfin
      clear hfin hT
      gi_wp2_with (refine ⟨trivial, ?_⟩; gi_at_call 81; refine (callsIn_wide.2 (Tryz.strings_TrimLeft_one t 32 (by decide) _)).mono ?_; rintro e w' ⟨rfl, hw'⟩; obtain rfl := hw'.symm; rw [show (⟨(Lib.trimLeftB t.data.toList 32).toArray⟩ : ByteArray) = T from HT.out])
      refine bodyPost_ret (results_none rfl _ _ _) rfl ?_
      exact ⟨⟨_, rfl⟩, .inl ⟨pre, by rw [hx.out, HF.out, List.append_nil], hJs⟩⟩
    · have he2 : T.toList.isEmpty = false := Bool.eq_false_iff.2 he
      obtain ⟨h1, h2, h3⟩ := wordsB_cons hT he2
      have HC := Aside0.mk h1
      have hTs : T.size ≤ 9223372036854775807 := by omega
      have hlt : pre.length < (wordsB s).length := by rw [hx.out, h1]; simp
      obtain ⟨X, hX⟩ : ∃ X, baOf (headW T.data.toList) = X := ⟨_, rfl⟩
      obtain ⟨R, hR⟩ : ∃ R, baOf (tailW T.data.toList) = R := ⟨_, rfl⟩
      have HX := Aside0.mk hX; have HR := Aside0.mk hR
      rw [hR] at h2
      clear h1 hT he hX hR
      gi_wp2_with (first
        | (refine ⟨trivial, ?_⟩; gi_at_call 81; refine (callsIn_wide.2 (Tryz.strings_TrimLeft_one t 32 (by decide) _)).mono ?_; rintro e w' ⟨rfl, hw'⟩; obtain rfl := hw'.symm; rw [show (⟨(Lib.trimLeftB t.data.toList 32).toArray⟩ : ByteArray) = T from HT.out])
        | (refine ⟨trivial, ?_⟩; gi_at_call 82; refine (callsIn_wide.2 (cut_calls T _ hTs)).mono ?_; rintro e w' ⟨⟨b, rfl⟩, ⟨nd, rfl⟩⟩; rw [HX.out, HR.out]))
      have hJ2 : J pre (wr.drewN nd) := hJ pre wr _ none hJs (grown_drewN wr nd) (fun r e => by cases e)
      obtain ⟨fn, tmps, assign, body, hy, hRR⟩ := hY pre X (wr.drewN nd) hJ2 hlt
      rw [hy]
      go_simp
      refine hRR.mono ?_
      rintro e W3 (⟨rfl, hJ3, hk3⟩ | ⟨rfl, hJx3⟩)
      · gi_wp2
        go_roundw
        case rel => exact ⟨pre ++ [X], R, rfl, ⟨by rw [hx.out, HC.out, HX.out, HR.out, List.append_assoc]; rfl⟩, by omega, hJ3⟩
        case measure => simp [strSz]; exact h2
      · gi_wp2
        refine bodyPost_ret (results_none rfl _ _ _) rfl ?_
        exact ⟨⟨_, rfl⟩, .inr ⟨pre ++ [X], ⟨wordsB R, by rw [hx.out, HC.out, HX.out, HR.out]; simp⟩, hJx3⟩⟩
end Go.Proofs.YtamndkiagenfnaaGreatDoor.X
namespace Go.Proofs.YtamndkiagenfnaaGreatDoor.X
open Go.RowKit Go.Proofs.YtamndkiagenfnaaGreatDoorW.PrintWords Go.Proofs.YtamndkiagenfnaaGreatDoorW.PrintMore
set_option linter.unusedVariables false
set_option linter.unusedSimpArgs false
/-- Φ holds in each later world in which the blocks of F are as they were. -/
def HolF (F : Nat → Prop) (w : World) (Φ : World → Prop) : Prop := ∀ w2, Below 0 w w2 → (∀ k, k < w.heap.size → F k → w2.heap[k]? = w.heap[k]?) → Φ w2
theorem below_zero {B : Nat} {w w2 : World} (h : Below B w w2) : Below 0 w w2 := ⟨h.os, h.tape, h.output, h.size, fun k hk => absurd hk (by omega)⟩
theorem HolF.now {F : Nat → Prop} {w : World} {Φ : World → Prop} (h : HolF F w Φ) : Φ w := h w (Below.refl _ _) (fun _ _ _ => rfl)
theorem HolF.kept {F : Nat → Prop} {w w1 : World} {Φ : World → Prop} (h : HolF F w Φ) (hb : Below 0 w w1) (hk : ∀ k, k < w.heap.size → F k → w1.heap[k]? = w.heap[k]?) : HolF F w1 Φ := fun w2 h2 hk2 =>
  h w2 ((below_zero hb).trans (below_zero h2)) (fun k h3 h4 => (hk2 k (by have := hb.size; omega) h4).trans (hk k h3 h4))
theorem HolF.below {F : Nat → Prop} {w w1 : World} {Φ : World → Prop} (h : HolF F w Φ) (hb : Below w.heap.size w w1) : HolF F w1 Φ := h.kept (below_zero hb) (fun k h3 _ => hb.block k h3)
theorem HolF.mono {F F' : Nat → Prop} {w : World} {Φ : World → Prop} (h : HolF F w Φ) (hF : ∀ k, F k → F' k) : HolF F' w Φ := fun w2 h2 hk => h w2 h2 (fun k h3 h4 => hk k h3 (hF k h4))
theorem HolF.imp {F : Nat → Prop} {w : World} {Φ Ψ : World → Prop} (h : HolF F w Φ) (hi : ∀ w2, Φ w2 → Ψ w2) : HolF F w Ψ := fun w2 h2 hk => hi _ (h w2 h2 hk)
theorem HolF.deep {F : Nat → Prop} {w w1 : World} {Φ : World → Prop} (h : HolF F w Φ) (hb : Below w.heap.size w w1) : HolF (fun k => k < w.heap.size ∧ F k) w1 Φ := fun w2 h2 hk =>
  h w2 ((below_zero hb).trans (below_zero h2)) (fun k h3 h4 => (hk k (by have := hb.size; omega) ⟨h3, h4⟩).trans (hb.block k h3))
/-- What held at the start, seen from the end. -/
theorem HolF.back {F : Nat → Prop} {w w1 w2 : World} {Φ : World → Prop} (h : HolF F w Φ) (hb : Below w.heap.size w w1) (h2 : Below 0 w1 w2) (hk : ∀ k, k < w1.heap.size → (k < w.heap.size → F k) → w2.heap[k]? = w1.heap[k]?) : Φ w2 :=
  h w2 ((below_zero hb).trans (below_zero h2)) (fun k h3 h4 => (hk k (by have := hb.size; omega) (fun _ => h4)).trans (hb.block k h3))
theorem HolF.ofK {α : Type} {d : Kd α} {w : World} {x : α} {cs : List Value} (h : d.K w x cs) : HolF (fun _ => True) w (fun w2 => d.K w2 x cs) := fun w2 h2 hk => d.K_below ⟨h2.os, h2.tape, h2.output, h2.size, fun k h3 => hk k h3 trivial⟩ h
theorem HolF.ofC {α : Type} {d : Kd α} {w : World} {A : Option Addr} {n : Nat} {xs : List α} (h : d.C w A n xs) : HolF (fun _ => True) w (fun w2 => d.C w2 A n xs) := fun w2 h2 hk => Kd.C_below h ⟨h2.os, h2.tape, h2.output, h2.size, fun k h3 => hk k h3 trivial⟩
theorem blk_at_new (W : World) (o : Obj) (g : Nat) (hg : g = W.heap.size) : (W.alloc o).heap[g]? = some o := by subst hg; exact heap_alloc_new W o
theorem C_blk1 {α : Type} {d : Kd α} {W : World} {g t : Nat} {x : α} {cs : List Value} (hK : d.K W x cs) (hb : W.heap[g]? = some (.cells cs.toArray t (0, 0))) : d.C W (some ⟨g, 0, none⟩) 1 [x] := by
  refine ⟨rfl, by decide, fun _ => ⟨_, rfl, fun j p hj => ?_⟩⟩
  cases j with
  | succ j => cases hj
  | zero =>
    obtain rfl := Option.some.inj hj
    refine ⟨cs, d.K_len hK, hK, fun i u hu => ?_⟩
    have e3 : (⟨g, 0, none⟩ : Addr).add (0 * d.sz + i) = ⟨g, i, none⟩ := by
      rw [Nat.zero_mul, Nat.zero_add]
      unfold Addr.add
      split <;> simp_all
    rw [e3, blk_cell hb, List.getElem?_toArray]
    exact hu
theorem C_str1 {W : World} {g t : Nat} {k : ByteArray} (hb : W.heap[g]? = some (.cells #[.string k] t (0, 0))) : Kd.string.C W (some ⟨g, 0, none⟩) 1 [k] := C_blk1 (d := Kd.string) (cs := [.string k]) rfl hb
theorem C_nil {α : Type} (d : Kd α) (w : World) : d.C w none 0 [] := ⟨rfl, by decide, fun h => absurd h (by decide)⟩
theorem wpList_store_K {P : Program} {ops : Array Oper} {rest : List Oper} {o : Oper} {a : Act} {w : World} {Q : Exit → Act → World → Prop} {α : Type} {d : Kd α} {x0 : α} {cs : List Value} (hK : d.K w x0 cs)
    (hgd : o.guard = none) (ty : TypeId) (x y : Operand) (ho : o.op = .store ty x y)
    (g : Nat) (hx : a.eval x = .pointer (some ⟨g, 0, none⟩)) (hy : a.eval y = .agg cs.toArray)
    (t : TypeId) (old : Array Value) (hg : w.heap[g]? = some (.cells old t (0, 0))) (hi : (P.info? ty).map (·.size) = some d.sz) (hold : old.size = d.sz)
    (h : ∀ w', w'.heap[g]? = some (.cells cs.toArray t (0, 0)) → (∀ B, B ≤ g → Below B w w') → (∀ (F : Nat → Prop) (Φ : World → Prop), ¬ F g → HolF F w Φ → HolF F w' Φ) → wpList P ops Q rest (a.put o.dst undef) w') : wpList P ops Q (o :: rest) a w := by
  have hl := d.K_len hK
  refine wpList_store_row hgd ty x y ho g cs.toArray hx hy t old hg (by rw [hi, List.size_toArray, hl]) (by rw [hold, List.size_toArray, hl]) (by rw [Array.all_eq_true_iff_forall_mem]; intro u hu; exact d.K_one hK u (by simpa using hu)) ?_
  exact h _ (setRow_heap w g old _ t _ hg) (fun B hB => below_setRow (Below.refl _ _) hB _) (fun F Φ hF hh => hh.kept (below_setRow (Below.refl _ _) (Nat.zero_le _) _) (fun k hk hFk => setRow_other _ _ _ _ (fun e => hF (e ▸ hFk))))
theorem S_cell {W : World} {A : Option Addr} {l : List ByteArray} (h : Kd.string.C W A l.length l) (i : Nat) (hi : i < l.length) : ∃ b o, A = some ⟨b, o, none⟩ ∧ b < W.heap.size ∧ W.cell? ⟨b, o + i, none⟩ = some (.string (l.getD i ⟨#[]⟩)) := by
  obtain ⟨ad, rfl, hc⟩ := h.2.2 (by omega)
  obtain ⟨cs, hlen, hK, hcell⟩ := hc 0 _ (List.getElem?_eq_getElem (show 0 < l.length by omega))
  have h0 := hcell 0 _ (List.getElem?_eq_getElem (show 0 < cs.length by rw [hlen]; decide))
  rw [Nat.zero_mul, Nat.zero_add, Addr.add_zero'] at h0
  obtain ⟨b, o, rfl, hb⟩ := addr_plain h0
  obtain ⟨cs2, hlen2, hK2, hcell2⟩ := hc i _ (List.getElem?_eq_getElem hi)
  obtain rfl : cs2 = [Value.string l[i]] := hK2
  have h1 := hcell2 0 _ rfl
  refine ⟨b, o, rfl, hb, ?_⟩
  have e : (⟨b, o, none⟩ : Addr).add (i * Kd.string.sz + 0) = ⟨b, o + i, none⟩ := by
    rw [show i * Kd.string.sz + 0 = i from by show i * 1 + 0 = i; omega]
    unfold Addr.add
    split <;> simp_all
  rw [e] at h1
  rw [h1, List.getD_eq_getElem?_getD, List.getElem?_eq_getElem hi]
  rfl
theorem wpList_store_A {P : Program} {ops : Array Oper} {rest : List Oper} {o : Oper} {a : Act} {w : World} {Q : Exit → Act → World → Prop}
    (hgd : o.guard = none) (ty : TypeId) (x y : Operand) (ho : o.op = .store ty x y)
    (g : Nat) (cells : Array Value) (hx : a.eval x = .pointer (some ⟨g, 0, none⟩)) (hy : a.eval y = .agg cells)
    (t : TypeId) (old : Array Value) (hg : w.heap[g]? = some (.cells old t (0, 0))) (hi : (P.info? ty).map (·.size) = some cells.size) (hold : old.size = cells.size) (h1 : cells.all (·.oneCell') = true)
    (h : ∀ w', w'.heap[g]? = some (.cells cells t (0, 0)) → (∀ B, B ≤ g → Below B w w') → wpList P ops Q rest (a.put o.dst undef) w') : wpList P ops Q (o :: rest) a w :=
  wpList_store_row hgd ty x y ho g cells hx hy t old hg hi hold h1 (h _ (setRow_heap w g old _ t _ hg) (fun B hB => below_setRow (Below.refl _ _) hB _))
theorem own_keep {w w1 : World} {base : Nat} {e : TypeId} {size n : Nat} {v : Value} {xs : List Value} (h : w.ownsRow base e size v n xs) (hm : ∀ k, base ≤ k → k < w.heap.size → w1.heap[k]? = w.heap[k]?) : w1.ownsRow base e size v n xs :=
  own_move h (fun k hk => hm k (own_base h k hk) (own_lt h k hk))
theorem HolF.up {F : Nat → Prop} {w W : World} {Φ : World → Prop} (h : HolF F w Φ) (hb : Below w.heap.size w W) {g : Nat} (hg : w.heap.size ≤ g) : HolF (fun k => k ≠ g ∧ (k < w.heap.size → F k)) W Φ := fun w2 h2 hk2 =>
  h w2 ((below_zero hb).trans h2) (fun k h3 h4 => (hk2 k (Nat.lt_of_lt_of_le h3 hb.size) ⟨by omega, fun _ => h4⟩).trans (hb.block k h3))
/-- w' is w but for block g. -/
structure StoreTo (g : Nat) (w w' : World) : Prop where
  below : ∀ B, B ≤ g → Below B w w'
  block : ∀ k, k ≠ g → w'.heap[k]? = w.heap[k]?
  size : w'.heap.size = w.heap.size
theorem StoreTo.row (w : World) (g : Nat) (cs : Array Value) : StoreTo g w (w.setRow g cs) :=
  ⟨fun _ hB => below_setRow (Below.refl _ _) hB _, fun k hk => setRow_other _ _ _ _ hk, by simp [World.setRow]⟩
theorem StoreTo.zero {g : Nat} {w w' : World} (h : StoreTo g w w') : Below 0 w w' := h.below 0 (Nat.zero_le _)
theorem StoreTo.blk {g k : Nat} {w w' : World} {o : Obj} (h : StoreTo g w w') (hb : w.heap[k]? = some o) (hk : k ≠ g) : w'.heap[k]? = some o := (h.block k hk).trans hb
theorem StoreTo.up {g B : Nat} {w0 w w' : World} (h : StoreTo g w w') (hb : Below B w0 w) (hg : B ≤ g) : Below B w0 w' := hb.trans (h.below B hg)
theorem StoreTo.hol {g : Nat} {w w' : World} {F : Nat → Prop} {Φ : World → Prop} (h : StoreTo g w w') (hh : HolF F w Φ) (hg : ¬ F g) : HolF F w' Φ := hh.kept h.zero (fun k _ hF => h.block k (fun e => hg (e ▸ hF)))
theorem StoreTo.own {g : Nat} {w w' : World} {base n size : Nat} {e : TypeId} {v : Value} {xs : List Value} (h : StoreTo g w w') (ho : w.ownsRow base e size v n xs) (hg : g < base) : w'.ownsRow base e size v n xs :=
  own_keep ho (fun k hk _ => h.block k (by omega))
theorem StoreTo.own' {g : Nat} {w w' : World} {base n size : Nat} {e : TypeId} {v : Value} {xs : List Value} (h : StoreTo g w w') (ho : w.ownsRow base e size v n xs) (hg : some g ≠ v.ownBlock) : w'.ownsRow base e size v n xs :=
  own_move ho (fun k hk => h.block k (fun e => hg (by rw [← e]; exact hk.symm)))
theorem own_not {w : World} {base n size g : Nat} {e : TypeId} {v : Value} {xs : List Value} (ho : w.ownsRow base e size v n xs) (hg : w.heap.size ≤ g) : some g ≠ v.ownBlock := fun e => absurd (own_lt ho _ e.symm) (by omega)
theorem cells_one {u : Value} (h1 : u.oneCell' = true) : u.cells = #[u] := by cases u <;> first | rfl | cases h1
theorem run_storeVar_F {P : Program} (w : World) (g i : Nat) (t ty : TypeId) (cur : Array Value) (v : Value) (vs : List Value) (hv : v.cells = vs.toArray) (hg : w.heap[g]? = some (.cells cur t (0, 0))) (hi : (P.info? ty).map (·.size) = some vs.length)
    (hfit : i + vs.length ≤ cur.size) (h1 : ∀ u ∈ vs, u.oneCell' = true) : (storeVar ty ⟨g, i, none⟩ v).run P w = .ok () (w.setRow g (cur.toList.take i ++ vs ++ cur.toList.drop (i + vs.length)).toArray) := by
  have := run_storeCells_at (P := P) g i t vs 0 cur w hg (by omega) h1
  cases hq : P.info? ty with
  | none => simp [hq] at hi
  | some j =>
    have hs : j.size = vs.length := by simpa [hq] using hi
    simp only [Nat.add_zero] at this
    simp [storeVar, sizeOf, typeInfo, hq, hv, hs, this]
theorem wpList_store_F {P : Program} {ops : Array Oper} {rest : List Oper} {o : Oper} {a : Act} {w : World} {Q : Exit → Act → World → Prop} (hgd : o.guard = none) (ty : TypeId) (x y : Operand) (ho : o.op = .store ty x y)
    (g i : Nat) (vs : List Value) (hx : a.eval x = .pointer (some ⟨g, i, none⟩)) (hv : (a.eval y).cells = vs.toArray) (h1 : ∀ u ∈ vs, u.oneCell' = true)
    (t : TypeId) (cur new : Array Value) (hg : w.heap[g]? = some (.cells cur t (0, 0))) (hfit : i + vs.length ≤ cur.size) (hi : (P.info? ty).map (·.size) = some vs.length) (hnew : (cur.toList.take i ++ vs ++ cur.toList.drop (i + vs.length)).toArray = new)
    (h : ∀ w', w'.heap[g]? = some (.cells new t (0, 0)) → StoreTo g w w' → wpList P ops Q rest (a.put o.dst undef) w') : wpList P ops Q (o :: rest) a w :=
  wpList_plain hgd fun _ hK => by
    unfold Oper.wp execOp
    simp only [ho, hx, Instr.storeAt, Instr.sureAddr, Sem.run_bind, Sem.run_pure, Result.andThen_ok, run_storeVar_F w g i t ty cur _ vs hv hg hi hfit h1]
    rw [hnew]
    exact hK _ _ (h _ (setRow_heap w g cur _ t _ hg) (StoreTo.row w g new))
theorem wpList_store_1 {P : Program} {ops : Array Oper} {rest : List Oper} {o : Oper} {a : Act} {w : World} {Q : Exit → Act → World → Prop} (hgd : o.guard = none) (ty : TypeId) (x y : Operand) (ho : o.op = .store ty x y)
    (g i : Nat) (v : Value) (hx : a.eval x = .pointer (some ⟨g, i, none⟩)) (hv : a.eval y = v) (h1 : v.oneCell' = true)
    (t : TypeId) (cur new : Array Value) (hg : w.heap[g]? = some (.cells cur t (0, 0))) (hfit : i + 1 ≤ cur.size) (hi : (P.info? ty).map (·.size) = some 1) (hnew : (cur.toList.take i ++ [v] ++ cur.toList.drop (i + 1)).toArray = new)
    (h : ∀ w', w'.heap[g]? = some (.cells new t (0, 0)) → StoreTo g w w' → wpList P ops Q rest (a.put o.dst undef) w') : wpList P ops Q (o :: rest) a w :=
  wpList_store_F hgd ty x y ho g i [v] hx (by rw [hv]; exact cells_one h1) (by intro u hu; simp only [List.mem_singleton] at hu; subst hu; exact h1) t cur new hg hfit hi hnew h
theorem step_store_F {P : Program} {ops : Array Oper} {o : Oper} {a : Act} {w : World} {K : Act → World → Prop} {Q : Exit → Act → World → Prop} (hw : Region.wanted o (yielded ops a.tmps) = true) (ty : TypeId) (x y : Operand) (ho : o.op = .store ty x y)
    (g i : Nat) (vs : List Value) (hx : a.eval x = .pointer (some ⟨g, i, none⟩)) (hv : (a.eval y).cells = vs.toArray) (h1 : ∀ u ∈ vs, u.oneCell' = true)
    (t : TypeId) (cur new : Array Value) (hg : w.heap[g]? = some (.cells cur t (0, 0))) (hfit : i + vs.length ≤ cur.size) (hi : (P.info? ty).map (·.size) = some vs.length) (hnew : (cur.toList.take i ++ vs ++ cur.toList.drop (i + vs.length)).toArray = new)
    (h : ∀ w', w'.heap[g]? = some (.cells new t (0, 0)) → StoreTo g w w' → K (a.put o.dst undef) w') :
    if Region.wanted o (yielded ops a.tmps) = true then Oper.wp P o a w K Q else K (a.put o.dst undef) w := by
  rw [if_pos hw]
  unfold Oper.wp execOp
  simp only [ho, hx, Instr.storeAt, Instr.sureAddr, Sem.run_bind, Sem.run_pure, Result.andThen_ok, run_storeVar_F w g i t ty cur _ vs hv hg hi hfit h1]
  rw [hnew]
  exact h _ (setRow_heap w g cur _ t _ hg) (StoreTo.row w g new)
theorem own_some {w : World} {base n size : Nat} {e : TypeId} {v : Value} {xs : List Value} (h : w.ownsRow base e size v n xs) (hn : n ≠ 0) : ∃ g cap, v = .slice (some ⟨g, 0, none⟩) n cap := by
  rcases h.2 with ⟨rfl, h0⟩ | ⟨g, cap, cur, rfl, _⟩
  · exact absurd h0 hn
  · exact ⟨g, cap, rfl⟩
theorem own_up {w w1 : World} {base n size : Nat} {e : TypeId} {v : Value} {xs : List Value} (h : w.ownsRow base e size v n xs) (hb : Below w.heap.size w w1) : w1.ownsRow base e size v n xs := own_move h (fun k hk => hb.block k (own_lt h k hk))
theorem own_one {w : World} {base n size : Nat} {e : TypeId} {v : Value} {xs : List Value} (h : w.ownsRow base e size v n xs) : v.oneCell' = true := by
  rcases h.2 with ⟨rfl, _⟩ | ⟨g, cap, cur, rfl, _⟩ <;> rfl
theorem own_apart {w : World} {base n size : Nat} {e : TypeId} {v : Value} {xs : List Value} (h : w.ownsRow base e size v n xs) {k : Nat} (hk : k < base) : some k ≠ v.ownBlock := fun e => absurd (own_base h _ e.symm) (by omega)
theorem own_set {w : World} {base e size n g cap : Nat} {xs : List Value} (h : w.ownsRow base e size (.slice (some ⟨g, 0, none⟩) n cap) n xs) (j : Nat) (hj : j < xs.length) :
    ∃ cur, w.heap[g]? = some (.cells cur e (0, 0)) ∧ j + 1 ≤ cur.size ∧ base ≤ g ∧ ∀ (u : Value) (w' : World), w'.heap[g]? = some (.cells (cur.toList.take j ++ [u] ++ cur.toList.drop (j + 1)).toArray e (0, 0)) → w'.ownsRow base e size (.slice (some ⟨g, 0, none⟩) n cap) n (xs.set j u) := by
  obtain ⟨hl, h2⟩ := h
  rcases h2 with ⟨h2, _⟩ | ⟨g', cap', cur, he, hb, hh, hn, hcm, hcs, htake⟩
  · cases h2
  obtain ⟨rfl, rfl⟩ : g = g' ∧ cap = cap' := by simpa using he
  have hjc : j < cur.toList.length := by
    rw [← htake, List.length_take] at hj
    omega
  refine ⟨cur, hh, by rw [Array.length_toList] at hjc; omega, hb, fun u w' hw => ?_⟩
  have e1 : cur.toList.take j ++ [u] ++ cur.toList.drop (j + 1) = cur.toList.set j u := by
    rw [List.set_eq_take_append_cons_drop, if_pos hjc]
    simp
  rw [e1] at hw
  refine ⟨by rw [List.length_set]; exact hl, .inr ⟨g, cap, _, rfl, hb, hw, hn, hcm, ?_, ?_⟩⟩
  · rw [List.size_toArray, List.length_set, Array.length_toList]; exact hcs
  · show (cur.toList.set j u).take _ = _
    rw [← htake, List.take_set]
theorem add_plain (b o k : Nat) : (⟨b, o, none⟩ : Addr).add k = ⟨b, o + k, none⟩ := by
  unfold Addr.add
  split <;> simp_all
theorem C_tail {w : World} {b o n : Nat} {v : ByteArray} {l : List ByteArray} (h : Kd.string.C w (some ⟨b, o, none⟩) (n + 1) (v :: l)) (hn : l.length = n) : Kd.string.C w (some ⟨b, o + 1, none⟩) n l := by
  obtain ⟨h1, h2, h3⟩ := h
  refine ⟨hn, by omega, fun h0 => ⟨_, rfl, fun j p hj => ?_⟩⟩
  obtain ⟨ad, ha, hc⟩ := h3 (by omega)
  obtain rfl := Option.some.inj ha
  obtain ⟨cs, hlen, hK, hcell⟩ := hc (j + 1) p hj
  refine ⟨cs, hlen, hK, fun i u hu => ?_⟩
  rw [← hcell i u hu]
  obtain rfl : cs = [Value.string p] := hK
  have hi : i = 0 := by
    have := (List.getElem?_eq_some_iff.1 hu).1
    simpa using this
  subst hi
  rw [add_plain, add_plain]
  congr 2
  show o + 1 + (j * 1 + 0) = o + ((j + 1) * 1 + 0)
  omega
theorem own_Cu8 {W : World} {base : Nat} {A : Option Addr} {c : Nat} {l : List Int} (h : W.ownsRow base 5 1 (.slice A l.length c) l.length (encs (Value.int .u8) l)) : (Kd.int .u8).C W A l.length l := by
  obtain ⟨A', c', e, -, hC⟩ := Kd.R_reads (Kd.R_of_own (h1 := fun _ => rfl) (ok := fun _ => True) h (fun _ _ => trivial))
  obtain ⟨rfl, -, rfl⟩ := Value.slice.inj e
  exact hC
theorem C_zero {α : Type} (d : Kd α) (w : World) (A : Option Addr) : d.C w A 0 [] := ⟨rfl, by decide, fun h => absurd h (by decide)⟩
theorem own_Cs {W : World} {base : Nat} {v : Value} {l : List ByteArray} (h : W.ownsRow base 9 1 v l.length (l.map Value.string)) (hl : l.length ≤ 1000000) : ∃ A c, v = .slice A l.length c ∧ l.length ≤ c ∧ Kd.string.C W A l.length l := by
  rcases h.2 with ⟨rfl, h0⟩ | ⟨g, cap, cur, rfl, hb, hh, hn, hcm, hcs, htake⟩
  · obtain rfl : l = [] := List.eq_nil_of_length_eq_zero h0
    exact ⟨none, 0, rfl, Nat.le_refl _, C_nil _ _⟩
  · refine ⟨some ⟨g, 0, none⟩, cap, rfl, hn, rfl, by omega, fun _ => ⟨_, rfl, fun j p hj => ⟨[.string p], rfl, rfl, fun i u hu => ?_⟩⟩⟩
    have hi : i = 0 := by
      have := (List.getElem?_eq_some_iff.1 hu).1
      simpa using this
    subst hi
    obtain rfl : Value.string p = u := by simpa using hu
    refine h.cells (g := g) rfl (j * 1 + 0) _ ?_
    rw [Nat.mul_one, Nat.add_zero, List.getElem?_map, hj]
    rfl
theorem C_dropk {w : World} {b o : Nat} {l : List Int} (h : (Kd.int .u8).C w (some ⟨b, o, none⟩) l.length l) (k : Nat) : (Kd.int .u8).C w (some ⟨b, o + k, none⟩) (l.drop k).length (l.drop k) := by
  obtain ⟨h1, h2, h3⟩ := h
  refine ⟨rfl, by rw [List.length_drop]; omega, fun h0 => ⟨_, rfl, fun j p hj => ?_⟩⟩
  rw [List.getElem?_drop] at hj
  obtain ⟨ad, ha, hc⟩ := h3 (by have := (List.getElem?_eq_some_iff.1 hj).1; omega)
  obtain rfl := Option.some.inj ha
  obtain ⟨cs, hlen, hK, hcell⟩ := hc (k + j) p hj
  refine ⟨cs, hlen, hK, fun i u hu => ?_⟩
  rw [← hcell i u hu, add_plain, add_plain]
  congr 2
  show o + k + (j * 1 + i) = o + ((k + j) * 1 + i)
  omega
theorem own_CsA {W : World} {base : Nat} {A : Option Addr} {c : Nat} {l : List ByteArray} (h : W.ownsRow base 9 1 (.slice A l.length c) l.length (l.map Value.string)) (hl : l.length ≤ 1000000) : Kd.string.C W A l.length l := by
  obtain ⟨A', c', e, -, hC⟩ := own_Cs h hl
  obtain ⟨rfl, -, rfl⟩ := Value.slice.inj e
  exact hC
theorem wordsL_size (l : List UInt8) : ∀ x ∈ wordsL l, x.length ≤ l.length := by
  induction h : l.length using Nat.strongRecOn generalizing l with
  | _ n ih =>
    intro x hx
    by_cases h0 : trimL l = []
    · rw [wordsL_nil _ h0] at hx; cases hx
    · rw [wordsL_cons _ h0] at hx
      have h1 := trimL_len l
      rcases List.mem_cons.1 hx with rfl | hx
      · have := headW_len (trimL l)
        omega
      · have h2 := tailW_lt l h0
        have := ih _ (by omega) (tailW (trimL l)) rfl x hx
        omega
theorem wordsB_size (s : ByteArray) : ∀ x ∈ wordsB s, x.size ≤ s.size := by
  intro x hx
  unfold wordsB at hx
  obtain ⟨y, hy, rfl⟩ := List.mem_map.1 hx
  exact wordsL_size _ y hy
theorem C_tailI {w : World} {b o c n : Nat} {v : ByteArray} {l : List ByteArray} (h : Kd.string.C w (some ⟨b, o, none⟩) (n + 1) (v :: l)) (hn : l.length = n) (hc : n + 1 ≤ c) : Kd.string.C w (if c = 1 then some ⟨b, o, none⟩ else some ⟨b, o + 1, none⟩) n l := by
  split
  · obtain rfl : n = 0 := by omega
    obtain rfl : l = [] := List.eq_nil_of_length_eq_zero hn
    exact C_zero _ _ _
  · exact C_tail h hn
theorem lit_ne {a : ByteArray} {l : List UInt8} (h : a ≠ ⟨l.toArray⟩) : (a.toList == l) = false := by
  rw [beq_eq_false_iff_ne]
  intro e
  refine h ?_
  rw [ByteArray.toList_eq] at e
  rcases a with ⟨⟨q⟩⟩
  have e : q = l := e
  rw [e]
end Go.Proofs.YtamndkiagenfnaaGreatDoor.X
namespace Go.Proofs.YtamndkiagenfnaaGreatDoor.X
open Go.RowKit Go.Shelf Go.Proofs.YtamndkiagenfnaaGreatDoorW.PrintWords Go.Proofs.YtamndkiagenfnaaGreatDoorW.PrintMore
set_option linter.unusedVariables false
set_option linter.unusedSimpArgs false
attribute [local go_sem] Oper.semAt_some
set_option maxHeartbeats 1000000 in
theorem mkWords_in (n : Nat) (s : ByteArray) (w : World) :
    CallsIn Fence.wide n Tryz.prog 58 #[.string s] w fun e w' => e = .returned (.func (.func 80) #[] #[.pointer (some ⟨w.heap.size, 0, none⟩)]) ∧ w' = w.alloc (.cells #[.string s] 9) := by
  refine callsIn_of_wp Tryz.func58 rfl trivial ?_ rfl
  simp only [Tryz.ntmps58, List.size_toArray, List.length_cons, List.length_nil, Nat.reduceAdd, Nat.reduceSub, Array.replicate_succ, Array.replicate_zero, List.push_toArray, List.append_toArray, List.nil_append, List.cons_append]
  gi_wp2
  go_ret
  exact ⟨rfl, rfl⟩
theorem mkWords_calls (s : ByteArray) (w : World) : Calls Tryz.prog 58 #[.string s] w fun e w' => e = .returned (.func (.func 80) #[] #[.pointer (some ⟨w.heap.size, 0, none⟩)]) ∧ w' = w.alloc (.cells #[.string s] 9) := callsIn_wide.1 (mkWords_in 1 s w)
theorem words_stops (n : Nat) (hn : 1 ≤ n) (Bn n₀ : Nat) (s : ByteArray) (hs : s.size ≤ 9223372036854775807) (w : World) (hBn : Bn < w.heap.size) (hc : w.cell? ⟨Bn, 0, none⟩ = some (.string s)) :
    SeqStopsK Fence.wide n Tryz.prog 80 #[.pointer (some ⟨Bn, 0, none⟩)] (fun x : ByteArray => #[Value.string x]) (Below n₀) (fun ys => ys = wordsB s) (fun pre => pre <+: wordsB s) (wordsB s).length w := fun l J Jx W hW hJ _ hY h0 =>
  words1_in n hn l Bn n₀ s hs J Jx hY W hJ ((hW.cell (p := ⟨Bn, 0, none⟩) hBn).trans hc) h0
theorem words_lenL (l : List UInt8) : (wordsL l).length ≤ l.length := by
  induction h : l.length using Nat.strongRecOn generalizing l with
  | _ n ih =>
    by_cases h0 : trimL l = []
    · rw [wordsL_nil _ h0]; simp
    · rw [wordsL_cons _ h0, List.length_cons]
      have h1 := tailW_lt l h0
      have h2 := ih _ (by omega) (tailW (trimL l)) rfl
      omega
theorem words_len (s : ByteArray) : (wordsB s).length ≤ s.size := by
  unfold wordsB
  rw [List.length_map]
  exact words_lenL _
theorem own_blkRow {β : Type} (g : Nat) (t : TypeId) (f : Value → Array Value) (n₀ : Nat) (e : TypeId) (k : β → Nat) (xs : β → List Value) : Own (fun s W => ∃ V, W.heap[g]? = some (.cells (f V) t (0, 0)) ∧ W.ownsRow n₀ e 1 V (k s) (xs s)) := by
  rintro s X Y row ⟨V, hv, hr⟩ hg hrow
  have hne : ∀ (j : Nat) (cs : Array Value) (t' : TypeId), X.heap[j]? = some (.cells cs t' (0, 0)) → some j ≠ row := fun j cs t' hj e' => by
    obtain ⟨o, ho, hc⟩ := hrow j e'.symm
    rw [hj] at ho; cases ho; cases hc
  refine ⟨V, (hg.block g (Array.getElem?_eq_some_iff.1 hv).1 (hne g _ _ hv)).trans hv, own_move hr (fun j hj => ?_)⟩
  obtain ⟨cs, hcs⟩ := own_typed hr j hj
  exact hg.block j (Array.getElem?_eq_some_iff.1 hcs).1 (hne j _ _ hcs)
theorem own_blk {β : Type} (g : Nat) (t : TypeId) (cs : Array Value) : Own (fun (_ : β) W => W.heap[g]? = some (.cells cs t (0, 0))) := by
  rintro s X Y row hv hg hrow
  refine (hg.block g (Array.getElem?_eq_some_iff.1 hv).1 (fun e' => ?_)).trans hv
  obtain ⟨o, ho, hc⟩ := hrow g e'.symm
  rw [hv] at ho; cases ho; cases hc
set_option maxRecDepth 100000 in
set_option maxHeartbeats 4000000 in
theorem aseq_calls (t : ByteArray) (ht : t.size ≤ 900000) (qs : Nat) (w : World) (hq : qs < w.heap.size) (hs : w.cell? ⟨qs, 0, none⟩ = some (.string t)) :
    Calls Tryz.prog 79 #[.slice none 0 0, .func (.func 80) #[] #[.pointer (some ⟨qs, 0, none⟩)]] w fun e w' => ∃ A c, e = .returned (.slice A (wordsB t).length c) ∧ (wordsB t).length ≤ c ∧ Kd.string.C w' A (wordsB t).length (wordsB t) ∧ Below w.heap.size w w' := by
  have hlen := words_len t
  have HQ := Aside0.mk hq
  have HS := Aside0.mk hs
  clear hs
  refine (callsIn_wide (n := 6)).1 ?_
  refine callsIn_of_wp_marks Tryz.func79 rfl trivial ?_ rfl
  simp only [Tryz.ntmps79, List.size_toArray, List.length_cons, List.length_nil, Nat.reduceAdd, Nat.reduceSub, Array.replicate_succ, Array.replicate_zero, List.push_toArray, List.append_toArray, List.nil_append, List.cons_append]
  refine wpIn_wide.2 ?_
  go_wp2
  obtain ⟨gl, hgl⟩ : ∃ g, w.heap.size = g := ⟨_, rfl⟩
  obtain ⟨W0, hW0⟩ : ∃ W0, w.alloc (.cells #[.slice none 0 0] 75 (0, 0)) = W0 := ⟨_, rfl⟩
  have BX0 := Aside0.mk (show W0.heap[gl]? = _ from hW0 ▸ blk_at_new _ _ _ hgl.symm)
  have hbel : Below w.heap.size w W0 := hW0 ▸ below_alloc (Below.refl _ _) _
  have hsz0 : W0.heap.size = w.heap.size + 1 := by rw [← hW0]; simp
  have hsW : W0.cell? ⟨qs, 0, none⟩ = some (.string t) := (hbel.cell (p := ⟨qs, 0, none⟩) HQ.out).trans HS.out
  rw [hW0]
  obtain ⟨i0, hi, hz0, hz1, hz2⟩ := info_parts info9
  rw [hgl]
  refine (wpIn_wide (n := 6)).1 ?_
  refine wpIn_rangeFunc_ownG rfl (by omega) (gf := 80) (lb := #[.pointer (some ⟨qs, 0, none⟩)]) rfl trivial (enters_of Tryz.func80 (by kernel_rfl) rfl)
    (words_stops 5 (by omega) qs w.heap.size t (by omega) W0 (Nat.lt_of_lt_of_le HQ.out hbel.size) hsW) belowK_t (belowK_b hbel.size) (Below.refl _ _) (fun _ => rfl)
    (fun pre W => (∃ V, W.heap[gl]? = some (.cells #[V] 75 (0, 0)) ∧ W.ownsRow (gl + 1) 9 1 V pre.length (pre.map Value.string)) ∧ Below w.heap.size w W)
    (fun _ _ _ => False)
    (OwnFrom.and (Own.from (own_blkRow gl 75 (fun V => #[V]) (gl + 1) 9 (fun (pre : List ByteArray) => pre.length) (fun pre => pre.map Value.string)) _) (ownFrom_below (Nat.le_refl _) hbel.size))
    (fun _ _ _ _ _ hs _ _ => hs) ⟨⟨_, BX0.out, World.ownsRow_nil _ _ _ _⟩, hbel⟩ ?a1 ?assign ?body ?done ?stop
  case assign =>
    intro l x W K hK
    gi_wp2
    exact hK
  case stop =>
    rintro D c pre W _ _ h _
    exact h.elim
  case body =>
    rintro l pre x W ⟨⟨V, hv, hrow⟩, hB⟩ hlt2
    have hgW : gl < W.heap.size := blk_lt hv
    have e1 : W.cell? ⟨gl, 0, none⟩ = some V := (blk_cell hv 0).trans rfl
    have hne : some gl ≠ V.ownBlock := own_apart hrow (by omega)
    gi_wp2_with (gi_at_builtin; (refine wpListIn_append_own _ rfl _ _ 75 rfl (gl + 1) 9 i0 (.string ⟨#[]⟩) 1 16 Tryz.underlying75 hi hz0 hz1 hz2 rfl (by decide) _ _ _ rfl (hrow.alloc _) ⟨W.heap.size, 0, none⟩ 1 1 [.string x] rfl rfl (cell_one_new _ _ _) (by simp [Value.oneCell']) (by unfold maxLen; omega) (by omega) (by rw [World.size_alloc]; omega) ?_); intro v' w2 hown' hgrow _; obtain ⟨g', cap', rfl⟩ := ownsRow_succ hown'; have hv2 := blk_grown (blk_alloc hv _) hgrow hne; have e2 : w2.cell? ⟨gl, 0, none⟩ = some V := (blk_cell hv2 0).trans rfl; have f2 : w2.frozen? ⟨gl, 0, none⟩ = false := blk_frozen hv2 0)
    have hK2 : KeepsOthers W w2 := (KeepsOthers.alloc W _).trans (KeepsOthers.of_grownBy hgrow (fun j o' hj ho' => by
      obtain ⟨cs, hcs⟩ := own_typed (hrow.alloc _) j hj
      rw [hcs] at ho'
      cases ho'
      rfl))
    have hb2 : Below w.heap.size W w2 := ((Below.refl w.heap.size W).alloc (by omega) _).grown hgrow (by rw [World.size_alloc]; omega) (fun k hk => by have := own_base hrow k hk; omega)
    refine ⟨(hK2.trans (KeepsOthers.setCell _ _ _)).from _, hb2.setCell (p := ⟨gl, 0, none⟩) (by show w.heap.size ≤ gl; omega) _, ⟨⟨_, blk_set hv2 0 _, ?_⟩, (hB.trans hb2).setCell (p := ⟨gl, 0, none⟩) (by show w.heap.size ≤ gl; omega) _⟩⟩
    rw [List.map_append, List.length_append]
    exact own_setCell hown' (own_apart hown' (show gl < gl + 1 by omega)) _
  case done =>
    rintro D ys W hD rfl ⟨⟨V, hv, hrow⟩, hB⟩ hK
    have hgW : gl < W.heap.size := blk_lt hv
    have e1 : W.cell? ⟨gl, 0, none⟩ = some V := (blk_cell hv 0).trans rfl
    go_wp2
    refine ⟨by simp, .inl ⟨_, _, rfl, run_takeDeferred hK, ?_⟩⟩
    obtain ⟨A1, c1, rfl, hc1, hCw⟩ := own_Cs (ownsRow_putObj hrow _ hK rfl) (by omega)
    exact ⟨_, results_tmp rfl _ _ _, A1, c1, rfl, hc1, hCw, hB.trans (belowK_b (w := w) (Nat.le_refl _) W D _ _ (by have := hbel.size; omega) hK rfl rfl)⟩
set_option maxRecDepth 100000 in
theorem coll_calls (t : ByteArray) (ht : t.size ≤ 900000) (qs : Nat) (w : World) (hq : qs < w.heap.size) (hs : w.cell? ⟨qs, 0, none⟩ = some (.string t)) :
    Calls Tryz.prog 57 #[.func (.func 80) #[] #[.pointer (some ⟨qs, 0, none⟩)]] w fun e w' => ∃ A c, e = .returned (.slice A (wordsB t).length c) ∧ (wordsB t).length ≤ c ∧ Kd.string.C w' A (wordsB t).length (wordsB t) ∧ Below w.heap.size w w' := by
  have HA := Aside0.mk (aseq_calls t ht qs w hq hs)
  clear hs hq
  go_enter Tryz.func57, Tryz.ntmps57
  go_wp2_with (go_at_call 79; (with_reducible refine (HA.out).mono ?_); rintro e w1 ⟨A1, c1, rfl, hc1, hC, hb⟩)
  go_ret
  exact ⟨A1, c1, rfl, hc1, hC, hb⟩
end Go.Proofs.YtamndkiagenfnaaGreatDoor.X
namespace Go.Proofs.YtamndkiagenfnaaGreatDoor.X
open Go.RowKit Go.Proofs.YtamndkiagenfnaaGreatDoorW.PrintWords Go.Proofs.YtamndkiagenfnaaGreatDoorW.PrintLast Go.Proofs.YtamndkiagenfnaaGreatDoorW.PrintMore
attribute [local go_sem] max2_int min2_int max_two min_two max_three min_three max_four min_four
set_option linter.unusedVariables false
set_option linter.unusedSimpArgs false

/-! ### script_numbers -/
def script_numbers.l0 : Nat → List ByteArray → List Int → List Int → List Int → Int → Int → Option (List Int)
  | 0, _, _, _, _, _, _ => none
  | k + 1, x0, x1, x5, x10, x11, x12 => if x12 < x11 then (if 0 ≤ x12 then (if x12 < (x10.length : Int) then (if x12 ≥ (x0.length : Int) then (if 0 ≤ (x1.length : Int) then (if ((x1.length : Int) : Int).toNat ≤ 35184372088832 then (some (List.replicate ((x1.length : Int) : Int).toNat 0)) else (none)) else (none)) else (if x12 < (x0.length : Int) then (if ((rdOf ByteArray.empty x0 x12).size : Int) < (rd x10 x12) then (if 0 ≤ (x1.length : Int) then (if ((x1.length : Int) : Int).toNat ≤ 35184372088832 then (some (List.replicate ((x1.length : Int) : Int).toNat 0)) else (none)) else (none)) else (if 0 ≤ (rd x10 x12) then (if (rd x10 x12) ≤ ((rdOf ByteArray.empty x0 x12).size : Int) then ((num_Decimal.f ((rdOf ByteArray.empty x0 x12).extract ((rd x10 x12) : Int).toNat (rdOf ByteArray.empty x0 x12).size)).bind fun bt270 => (if x5.length < 17592186044416 then (script_numbers.l0 k x0 x1 (x5 ++ [bt270.1]) x10 x11 (wrap64 (x12 + 1))) else (none))) else (none)) else (none))) else (none))) else (none)) else (none)) else (some x5)
def script_numbers.f (k : Nat) (l0 : List ByteArray) (l1 : List Int) : Option (List Int) := script_numbers.l0 k l0 l1 ([] : List Int) l1 (l1.length : Int) 0
theorem script_numbers.mono_l : ∀ k, (∀ y0 y1 y2 y3 y4 y5, LeO (script_numbers.l0 k y0 y1 y2 y3 y4 y5) (script_numbers.l0 (k + 1) y0 y1 y2 y3 y4 y5))
  | 0 => fun _ _ _ _ _ _ r h => by simp [script_numbers.l0] at h
  | k + 1 => by
    have ih0 := script_numbers.mono_l k
    · intro y0 y1 y2 y3 y4 y5
      unfold script_numbers.l0
      repeat' first
      | (with_reducible exact ih0 _ _ _ _ _ _)
      | (with_reducible exact LeO.refl _)
      | (with_reducible exact LeO.none _)
      | (with_reducible refine LeO.ite ?_ ?_)
      | (with_reducible refine LeO.bind ?_ (fun _ => ?_))
      | exact ih0 _ _ _ _ _ _
      | exact LeO.none _
      | refine LeO.ite ?_ ?_
      | refine LeO.bind ?_ (fun _ => ?_)
theorem script_numbers.mono : ∀ a0 a1 k, LeO (script_numbers.f k a0 a1) (script_numbers.f (k + 1) a0 a1) := by
  intro a0 a1 k
  have ih0 := script_numbers.mono_l k
  unfold script_numbers.f
  repeat' first
      | (with_reducible exact ih0 _ _ _ _ _ _)
      | (with_reducible exact LeO.refl _)
      | (with_reducible exact LeO.none _)
      | (with_reducible refine LeO.ite ?_ ?_)
      | (with_reducible refine LeO.bind ?_ (fun _ => ?_))
      | exact ih0 _ _ _ _ _ _
      | exact LeO.none _
      | refine LeO.ite ?_ ?_
      | refine LeO.bind ?_ (fun _ => ?_)
set_option maxHeartbeats 8000000 in
set_option maxRecDepth 100000 in
theorem script_numbers.calls (k : Nat) (A0 : Option Addr) (c0 : Nat) (l0 : List ByteArray) (A1 : Option Addr) (c1 : Nat) (l1 : List Int) (r : List Int) (w : World) (hr0 : Kd.C Kd.string w A0 l0.length l0) (hc0 : l0.length ≤ c0) (hr1 : Kd.C (Kd.int .i64) w A1 l1.length l1) (hc1 : l1.length ≤ c1) (hT : Tabs w) (h : script_numbers.f k l0 l1 = some r) :
    Calls Tryz.prog 59 #[.slice A0 l0.length c0, .slice A1 l1.length c1] w fun e w' => ∃ v0_ : Value, e = .returned (v0_) ∧ Kd.R (Kd.int .u64) 24 w' w.heap.size (fun _ => True) v0_ r ∧ Below w.heap.size w w' := by
  have HT := Aside0.mk hT
  clear hT
  have HR0 := Aside0.mk hr0
  have HC0 := Aside0.mk hc0
  clear hr0 hc0
  have HR1 := Aside0.mk hr1
  have HC1 := Aside0.mk hc1
  clear hr1 hc1
  have HB := Aside0.mk (Below.refl w.heap.size w)
  have H : (script_numbers.l0 k l0 l1 ([] : List Int) l1 (l1.length : Int) 0) = some r := h
  clear h
  have H' := Aside0.mk H
  clear H
  go_enter Tryz.func59, Tryz.ntmps59
  go_wp2
  go_loopg [5, 12] k (fun kq v5 v12 w' => ∃ (x5_1 : List Int) (x12_1 : Int), v12 = .int .i64 x12_1 ∧ Aside0 (script_numbers.l0 kq l0 l1 x5_1 l1 (l1.length : Int) x12_1 = some r) ∧ Aside0 (kq ≤ k) ∧ Aside0 (Kd.R (Kd.int .u64) 24 w' w.heap.size (fun _ => True) v5 x5_1) ∧ Aside0 (Below w.heap.size w w'))
  case atStart => exact ⟨(([] : List Int)), (0), (by first | rfl | (simp; done) | (simp [*]; done)), H', ⟨Nat.le_refl _⟩, ⟨by first | exact Kd.R_nil _ _ _ _ _ | exact Kd.N_nil _ _ _ _ _ | exact Kd.V_nil _ _ _ _ _ | exact Kd.Q_nil _ _ _ _ _ | exact Kd.S_nil _ _ _ _ _⟩, ⟨by repeat (first | (with_reducible first | exact HB.out | apply below_alloc | apply pw_below_drewN | apply below_drew1) | exact HB.out)⟩⟩
  case round =>
    clear H'
    try clear c1
    try clear p2
    obtain ⟨x5_1, x12_1, rfl, HA, HK1, HO_5, HB⟩ := hrel
    cases gk with
    | zero => exact absurd HA.out (by simp [script_numbers.l0])
    | succ k1 =>
      have H := HA.out
      clear HA
      simp only [script_numbers.l0] at H
      by_cases c3 : x12_1 < (l1.length : Int)
      · rw [if_pos c3] at H
        have c3b0 : decide (x12_1 < (l1.length : Int)) = true := decide_eq_true c3
        clear c3
        by_cases c4 : 0 ≤ x12_1
        · rw [if_pos c4] at H
          have c4b0 : decide (0 ≤ x12_1) = true := decide_eq_true c4
          clear c4
          by_cases c5 : x12_1 < (l1.length : Int)
          · rw [if_pos c5] at H
            have c5b0 : decide (x12_1 < (l1.length : Int)) = true := decide_eq_true c5
            clear c5
            by_cases c6 : x12_1 ≥ (l0.length : Int)
            · rw [if_pos c6] at H
              have c6b0 : decide ((l0.length : Int) ≤ x12_1) = true := decide_eq_true c6
              clear c6
              by_cases c7 : 0 ≤ (l1.length : Int)
              · rw [if_pos c7] at H
                have c7b0 := eq_true c7
                have c7b1 : decide (0 ≤ (l1.length : Int)) = true := decide_eq_true c7
                clear c7
                by_cases c8 : ((l1.length : Int) : Int).toNat ≤ 35184372088832
                · rw [if_pos c8] at H
                  have c8b0 := eq_true c8
                  have c8b1 : decide (((l1.length : Int) : Int).toNat ≤ 35184372088832) = true := decide_eq_true c8
                  clear c8
                  obtain ⟨y262, hy262⟩ : ∃ y_ : List Int, y_ = (List.replicate ((l1.length : Int) : Int).toNat 0) := ⟨_, rfl⟩
                  replace H : (some y262) = some r := by first | (rw [hy262]; with_reducible exact H) | (have H2_ := (Option.bind_some _ _).symm.trans H; rw [hy262]; with_reducible exact H2_) | (have H2_ := (Option.bind_some _ _).symm.trans H; with_reducible exact H2_) | with_reducible exact H | (rw [hy262]; exact H) | exact H
                  have Ny262 := Aside0.mk hy262
                  clear hy262
                  obtain rfl := Option.some.inj H
                  have p261 : 0 ≤ (x12_1 : Int) := of_decide_eq_true (by first | (with_reducible assumption) | assumption)
                  have q261 : x12_1 < (l1.length : Int) := of_decide_eq_true (by first | (with_reducible assumption) | assumption)
                  obtain ⟨ad261, e261, hx261_0⟩ := Kd.at_int HR1.out x12_1 p261 q261
                  cases e261
                  replace hx261_0 := (HB.out.cell (World.block_lt_of_cell? w _ hx261_0)).trans hx261_0
                  replace p261 := eq_true p261
                  replace q261 := eq_true q261
                  go_wp2_with (first | ((with_reducible refine gate_dst (N := 32) rfl ?_); (try (refine gate_guard (by rfl) ?_; dsimp only)); refine Kd.R_make (Kd.int .u64) _ 24 rfl (N := 32) rfl 80 _ _ rfl (l1.length : Int) rfl rfl Tryz.underlying80 (.int .u64 0) 8 info24 rfl (by decide) (by omega) 0 (ok := fun _ => True) (okp := fun _ => True) rfl (fun _ hk => hk) trivial (of_decide_eq_true (by first | (with_reducible assumption) | assumption)) (Nat.le_trans (Nat.mul_le_mul_right _ (of_decide_eq_true (by first | (with_reducible assumption) | assumption) : (l1.length : Int).toNat ≤ 35184372088832)) (by omega)) (Below.refl _ _) (Nat.le_refl _) ?_; intro v263 w9 ho10 hb hg_ hnew_; clear hg_ hnew_; (first | rw [← Ny262.out] at ho10 | (simp only [Int.reduceToNat] at ho10; rw [← Ny262.out] at ho10)); have n0_ := Aside0.mk (Kd.R_elder' (by (with_reducible repeat (first | apply Kd.R_alloc | apply Kd.R_drewN | apply Kd.R_drew)); exact HO_5.out) (Kd.R_base ho10) hb); have n1_ := Aside0.mk (Kd.R_lower (Kd.R_new' ho10 (Kd.R_lt (by (with_reducible repeat (first | apply Kd.R_alloc | apply Kd.R_drewN | apply Kd.R_drew)); exact HO_5.out))) (below_size (by repeat (first | (with_reducible first | exact HB.out | apply below_alloc | apply pw_below_drewN | apply below_drew1) | exact HB.out)))); have n2_ := Aside0.mk (below_step (by repeat (first | (with_reducible first | exact HB.out | apply below_alloc | apply pw_below_drewN | apply below_drew1) | exact HB.out)) hb); clear HO_5; clear HB; have HO_5 := n0_; have HO264 := n1_; have HB := n2_; clear n0_ n1_ n2_; clear hb ho10))
                  go_ret
                  exact ⟨_, by first | rfl | (simp <;> rfl) | (simp [*] <;> rfl), by (with_reducible repeat (first | apply Kd.R_alloc | apply Kd.R_drewN | apply Kd.R_drew)); exact Kd.R_mono HO264.out (fun _ hk => trivial), by repeat (first | (with_reducible first | exact HB.out | apply below_alloc | apply pw_below_drewN | apply below_drew1) | exact HB.out)⟩
                · rw [if_neg c8] at H
                  exact absurd H (by simp)
              · rw [if_neg c7] at H
                exact absurd H (by simp)
            · rw [if_neg c6] at H
              have c6b0 : decide ((l0.length : Int) ≤ x12_1) = false := decide_eq_false c6
              clear c6
              by_cases c11 : x12_1 < (l0.length : Int)
              · rw [if_pos c11] at H
                have c11b0 : decide (x12_1 < (l0.length : Int)) = true := decide_eq_true c11
                clear c11
                by_cases c12 : ((rdOf ByteArray.empty l0 x12_1).size : Int) < (rd l1 x12_1)
                · rw [if_pos c12] at H
                  have c12b0 : decide (((rdOf ByteArray.empty l0 x12_1).size : Int) < (rd l1 x12_1)) = true := decide_eq_true c12
                  clear c12
                  by_cases c13 : 0 ≤ (l1.length : Int)
                  · rw [if_pos c13] at H
                    have c13b0 := eq_true c13
                    have c13b1 : decide (0 ≤ (l1.length : Int)) = true := decide_eq_true c13
                    clear c13
                    by_cases c14 : ((l1.length : Int) : Int).toNat ≤ 35184372088832
                    · rw [if_pos c14] at H
                      have c14b0 := eq_true c14
                      have c14b1 : decide (((l1.length : Int) : Int).toNat ≤ 35184372088832) = true := decide_eq_true c14
                      clear c14
                      obtain ⟨y266, hy266⟩ : ∃ y_ : List Int, y_ = (List.replicate ((l1.length : Int) : Int).toNat 0) := ⟨_, rfl⟩
                      replace H : (some y266) = some r := by first | (rw [hy266]; with_reducible exact H) | (have H2_ := (Option.bind_some _ _).symm.trans H; rw [hy266]; with_reducible exact H2_) | (have H2_ := (Option.bind_some _ _).symm.trans H; with_reducible exact H2_) | with_reducible exact H | (rw [hy266]; exact H) | exact H
                      have Ny266 := Aside0.mk hy266
                      clear hy266
                      obtain rfl := Option.some.inj H
                      have p261 : 0 ≤ (x12_1 : Int) := of_decide_eq_true (by first | (with_reducible assumption) | assumption)
                      have q261 : x12_1 < (l1.length : Int) := of_decide_eq_true (by first | (with_reducible assumption) | assumption)
                      obtain ⟨ad261, e261, hx261_0⟩ := Kd.at_int HR1.out x12_1 p261 q261
                      cases e261
                      replace hx261_0 := (HB.out.cell (World.block_lt_of_cell? w _ hx261_0)).trans hx261_0
                      replace p261 := eq_true p261
                      replace q261 := eq_true q261
                      have p265 : 0 ≤ (x12_1 : Int) := of_decide_eq_true (by first | (with_reducible assumption) | assumption)
                      have q265 : x12_1 < (l0.length : Int) := of_decide_eq_true (by first | (with_reducible assumption) | assumption)
                      obtain ⟨ad265, e265, hx265_0⟩ := Kd.at_string HR0.out x12_1 p265 q265
                      cases e265
                      replace hx265_0 := (HB.out.cell (World.block_lt_of_cell? w _ hx265_0)).trans hx265_0
                      replace p265 := eq_true p265
                      replace q265 := eq_true q265
                      go_wp2_with (first | ((with_reducible refine gate_dst (N := 32) rfl ?_); (try (refine gate_guard (by rfl) ?_; dsimp only)); refine Kd.R_make (Kd.int .u64) _ 24 rfl (N := 32) rfl 80 _ _ rfl (l1.length : Int) rfl rfl Tryz.underlying80 (.int .u64 0) 8 info24 rfl (by decide) (by omega) 0 (ok := fun _ => True) (okp := fun _ => True) rfl (fun _ hk => hk) trivial (of_decide_eq_true (by first | (with_reducible assumption) | assumption)) (Nat.le_trans (Nat.mul_le_mul_right _ (of_decide_eq_true (by first | (with_reducible assumption) | assumption) : (l1.length : Int).toNat ≤ 35184372088832)) (by omega)) (Below.refl _ _) (Nat.le_refl _) ?_; intro v267 w15 ho16 hb hg_ hnew_; clear hg_ hnew_; (first | rw [← Ny266.out] at ho16 | (simp only [Int.reduceToNat] at ho16; rw [← Ny266.out] at ho16)); have n0_ := Aside0.mk (Kd.R_elder' (by (with_reducible repeat (first | apply Kd.R_alloc | apply Kd.R_drewN | apply Kd.R_drew)); exact HO_5.out) (Kd.R_base ho16) hb); have n1_ := Aside0.mk (Kd.R_lower (Kd.R_new' ho16 (Kd.R_lt (by (with_reducible repeat (first | apply Kd.R_alloc | apply Kd.R_drewN | apply Kd.R_drew)); exact HO_5.out))) (below_size (by repeat (first | (with_reducible first | exact HB.out | apply below_alloc | apply pw_below_drewN | apply below_drew1) | exact HB.out)))); have n2_ := Aside0.mk (below_step (by repeat (first | (with_reducible first | exact HB.out | apply below_alloc | apply pw_below_drewN | apply below_drew1) | exact HB.out)) hb); clear HO_5; clear HB; have HO_5 := n0_; have HO268 := n1_; have HB := n2_; clear n0_ n1_ n2_; clear hb ho16))
                      go_ret
                      exact ⟨_, by first | rfl | (simp <;> rfl) | (simp [*] <;> rfl), by (with_reducible repeat (first | apply Kd.R_alloc | apply Kd.R_drewN | apply Kd.R_drew)); exact Kd.R_mono HO268.out (fun _ hk => trivial), by repeat (first | (with_reducible first | exact HB.out | apply below_alloc | apply pw_below_drewN | apply below_drew1) | exact HB.out)⟩
                    · rw [if_neg c14] at H
                      exact absurd H (by simp)
                  · rw [if_neg c13] at H
                    exact absurd H (by simp)
                · rw [if_neg c12] at H
                  have c12b0 : decide (((rdOf ByteArray.empty l0 x12_1).size : Int) < (rd l1 x12_1)) = false := decide_eq_false c12
                  clear c12
                  by_cases c17 : 0 ≤ (rd l1 x12_1)
                  · rw [if_pos c17] at H
                    have c17b0 := eq_true c17
                    have c17b1 : decide (0 ≤ (rd l1 x12_1)) = true := decide_eq_true c17
                    clear c17
                    by_cases c18 : (rd l1 x12_1) ≤ ((rdOf ByteArray.empty l0 x12_1).size : Int)
                    · rw [if_pos c18] at H
                      have c18b0 := eq_true c18
                      have c18b1 : decide ((rd l1 x12_1) ≤ ((rdOf ByteArray.empty l0 x12_1).size : Int)) = true := decide_eq_true c18
                      clear c18
                      replace H := Option.bind_eq_some_iff.mp H
                      obtain ⟨⟨t270, t271⟩, A190, H⟩ := H
                      replace H : (if x5_1.length < 17592186044416 then (script_numbers.l0 k1 l0 l1 (x5_1 ++ [t270]) l1 (l1.length : Int) (wrap64 (x12_1 + 1))) else (none)) = some r := H
                      have A19 := Aside0.mk A190
                      clear A190
                      by_cases c20 : x5_1.length < 17592186044416
                      · rw [if_pos c20] at H
                        have LMc20 := Aside0.mk c20
                        clear c20
                        obtain ⟨y272, hy272⟩ : ∃ y_ : List Int, y_ = (x5_1 ++ [t270]) := ⟨_, rfl⟩
                        replace H : (script_numbers.l0 k1 l0 l1 y272 l1 (l1.length : Int) (wrap64 (x12_1 + 1))) = some r := by first | (rw [hy272]; with_reducible exact H) | (have H2_ := (Option.bind_some _ _).symm.trans H; rw [hy272]; with_reducible exact H2_) | (have H2_ := (Option.bind_some _ _).symm.trans H; with_reducible exact H2_) | with_reducible exact H | (rw [hy272]; exact H) | exact H
                        have Ny272 := Aside0.mk hy272
                        clear hy272
                        have H' := Aside0.mk H
                        clear H
                        have p261 : 0 ≤ (x12_1 : Int) := of_decide_eq_true (by first | (with_reducible assumption) | assumption)
                        have q261 : x12_1 < (l1.length : Int) := of_decide_eq_true (by first | (with_reducible assumption) | assumption)
                        obtain ⟨ad261, e261, hx261_0⟩ := Kd.at_int HR1.out x12_1 p261 q261
                        cases e261
                        replace hx261_0 := (HB.out.cell (World.block_lt_of_cell? w _ hx261_0)).trans hx261_0
                        replace p261 := eq_true p261
                        replace q261 := eq_true q261
                        have p265 : 0 ≤ (x12_1 : Int) := of_decide_eq_true (by first | (with_reducible assumption) | assumption)
                        have q265 : x12_1 < (l0.length : Int) := of_decide_eq_true (by first | (with_reducible assumption) | assumption)
                        obtain ⟨ad265, e265, hx265_0⟩ := Kd.at_string HR0.out x12_1 p265 q265
                        cases e265
                        replace hx265_0 := (HB.out.cell (World.block_lt_of_cell? w _ hx265_0)).trans hx265_0
                        replace p265 := eq_true p265
                        replace q265 := eq_true q265
                        have p269 : 0 ≤ (x12_1 : Int) := of_decide_eq_true (by first | (with_reducible assumption) | assumption)
                        have q269 : x12_1 < (l0.length : Int) := of_decide_eq_true (by first | (with_reducible assumption) | assumption)
                        obtain ⟨ad269, e269, hx269_0⟩ := Kd.at_string HR0.out x12_1 p269 q269
                        obtain rfl : ad265 = ad269 := (by injection e269)
                        replace hx269_0 := (HB.out.cell (World.block_lt_of_cell? w _ hx269_0)).trans hx269_0
                        replace p269 := eq_true p269
                        replace q269 := eq_true q269
                        go_wp2_with (first | ((with_reducible refine gate_callee (f := 83) rfl ?_); refine goesL_ (some 40) rfl rfl Tryz.func83 (by kernel_rfl) rfl #[.string ((rdOf ByteArray.empty l0 x12_1).extract ((rd l1 x12_1) : Int).toNat (rdOf ByteArray.empty l0 x12_1).size)] rfl (by (try simp only [List.map_toArray, List.map_cons, List.map_nil]); first | done | rfl | (simp only [List.length_drop, List.length_take]; rfl)) ?_; (with_reducible refine (num_Decimal.calls ((rdOf ByteArray.empty l0 x12_1).extract ((rd l1 x12_1) : Int).toNat (rdOf ByteArray.empty l0 x12_1).size) t270 t271 _ ?side1 A19.out).mono ?_); (case side1 => exact Tabs.below HT.out (by repeat (first | (with_reducible first | exact HB.out | apply below_alloc | apply pw_below_drewN | apply below_drew1) | exact HB.out))); rintro e w21 ⟨rfl, hb⟩; refine ⟨_, rfl, ?_⟩; have n0_ := Aside0.mk (Kd.R_below (by (with_reducible repeat (first | apply Kd.R_alloc | apply Kd.R_drewN | apply Kd.R_drew)); exact HO_5.out) hb); have n1_ := Aside0.mk (below_step (by repeat (first | (with_reducible first | exact HB.out | apply below_alloc | apply pw_below_drewN | apply below_drew1) | exact HB.out)) hb); clear HO_5; clear HB; have HO_5 := n0_; have HB := n1_; clear n0_ n1_; (try clear hb); (try clear hb2); (try clear hk); (try clear hi)) | ((with_reducible refine gate_builtin (b := .append) (xs := #[.tmp 43, .tmp 45]) rfl ?_); (try (refine gate_guard (by rfl) ?_; dsimp only)); at_builtin; refine Kd.R_append (Kd.int .u64) (w0 := w) w.heap.size rfl (.tmp 43) (.tmp 45) 80 24 (.int .u64 0) 8 rfl Tryz.underlying80 info24 rfl (by decide) (by omega) u5 x5_1 t270 [.int .u64 t270] (fun _ => True) (fun _ => False) rfl rfl ?aP (fun _ hk => hk.elim) ?aF ?aO ?aB ?aS ?aL ?_; (case aP => exact rfl); (case aB => exact (by repeat (first | (with_reducible first | exact HB.out | apply below_alloc | apply pw_below_drewN | apply below_drew1) | exact HB.out))); (case aF => exact (fun _ _ => trivial)); (case aO => exact (by (with_reducible repeat (first | apply Kd.R_alloc | apply Kd.R_drewN | apply Kd.R_drew)); exact HO_5.out)); (case aS => exact (below_size (by repeat (first | (with_reducible first | exact HB.out | apply below_alloc | apply pw_below_drewN | apply below_drew1) | exact HB.out)))); (case aL => have := LMc20.out; omega); intro v273 w22 ho hb hg hat; rw [← Ny272.out] at ho; have n0_ := Aside0.mk (hb); have n1_ := Aside0.mk (ho); clear HB; clear HO_5; have HB := n0_; have HO274 := n1_; clear n0_ n1_; clear ho hb hg hat))
                        go_roundg k1
                        case measure => have := HK1.out; omega
                        case rel => exact ⟨(y272), (wrap64 (x12_1 + 1)), (by first | rfl | (simp; done) | (simp [*]; done)), H', ⟨by have := HK1.out; omega⟩, ⟨by (with_reducible repeat (first | apply Kd.R_alloc | apply Kd.R_drewN | apply Kd.R_drew)); exact HO274.out⟩, ⟨by repeat (first | (with_reducible first | exact HB.out | apply below_alloc | apply pw_below_drewN | apply below_drew1) | exact HB.out)⟩⟩
                      · rw [if_neg c20] at H
                        exact absurd H (by simp)
                    · rw [if_neg c18] at H
                      exact absurd H (by simp)
                  · rw [if_neg c17] at H
                    exact absurd H (by simp)
              · rw [if_neg c11] at H
                exact absurd H (by simp)
          · rw [if_neg c5] at H
            exact absurd H (by simp)
        · rw [if_neg c4] at H
          exact absurd H (by simp)
      · rw [if_neg c3] at H
        have c3b0 : decide (x12_1 < (l1.length : Int)) = false := decide_eq_false c3
        clear c3
        obtain rfl := Option.some.inj H
        go_wp2
        go_ret
        exact ⟨_, by first | rfl | (simp <;> rfl) | (simp [*] <;> rfl), by (with_reducible repeat (first | apply Kd.R_alloc | apply Kd.R_drewN | apply Kd.R_drew)); exact HO_5.out, by repeat (first | (with_reducible first | exact HB.out | apply below_alloc | apply pw_below_drewN | apply below_drew1) | exact HB.out)⟩

-- NOT PRINTED: function 60 (script_first)

-- NOT PRINTED: function 31 (script_heard)

end Go.Proofs.YtamndkiagenfnaaGreatDoor.X
namespace Go.Proofs.YtamndkiagenfnaaGreatDoor.X
open Go.RowKit Go.Proofs.YtamndkiagenfnaaGreatDoorW.PrintWords Go.Proofs.YtamndkiagenfnaaGreatDoorW.PrintLast Go.Proofs.YtamndkiagenfnaaGreatDoorW.PrintMore
attribute [local go_sem] max2_int min2_int max_two min_two max_three min_three max_four min_four
set_option linter.unusedVariables false
set_option linter.unusedSimpArgs false

/-! ### frame_Keyed -/
def frame_Keyed.f (a0 : ByteArray) : Option (Bool) := if a0.toList = ([] : List UInt8) then (some false) else (some (decide ((a0.size : Int) ≤ 250)))
set_option maxHeartbeats 8000000 in
set_option maxRecDepth 100000 in
theorem frame_Keyed.calls (a0 : ByteArray) (r : Bool) (w : World) (h : frame_Keyed.f a0 = some r) :
    Calls Tryz.prog 41 #[.string a0] w fun e w' => e = .returned (.bool r) ∧ Drawn0 w w' := by
  have H : (if a0.toList = ([] : List UInt8) then (some false) else (some (decide ((a0.size : Int) ≤ 250)))) = some r := h
  clear h
  by_cases c2 : a0.toList = ([] : List UInt8)
  · rw [if_pos c2] at H
    have c2b0 : (a0.toList == ([] : List UInt8)) = true := beq_iff_eq.mpr c2
    have c2b1 : (a0.toList != ([] : List UInt8)) = false := bne_eq_false_iff_eq.mpr c2
    clear c2
    obtain rfl := Option.some.inj H
    go_enter Tryz.func41, Tryz.ntmps41
    go_wp2
    go_ret
    exact ⟨by first | rfl | (simp; done) | (simp [*]; done), by repeat (first | exact Drawn0.refl _ | apply Drawn0.step)⟩
  · rw [if_neg c2] at H
    have c2b0 : (a0.toList == ([] : List UInt8)) = false := beq_eq_false_iff_ne.mpr c2
    have c2b1 : (a0.toList != ([] : List UInt8)) = true := bne_iff_ne.mpr c2
    obtain rfl := Option.some.inj H
    go_enter Tryz.func41, Tryz.ntmps41
    go_wp2
    go_ret
    exact ⟨by first | rfl | (simp; done) | (simp [*]; done), by repeat (first | exact Drawn0.refl _ | apply Drawn0.step)⟩

-- NOT PRINTED: function 73 (slices_IndexFunc_byte_byte)

-- NOT PRINTED: function 42 (slices_ContainsFunc_byte_byte)

end Go.Proofs.YtamndkiagenfnaaGreatDoor.X
namespace Go.Proofs.YtamndkiagenfnaaGreatDoor.X
open Go.RowKit Go.Proofs.YtamndkiagenfnaaGreatDoorW.PrintWords Go.Proofs.YtamndkiagenfnaaGreatDoorW.PrintMore
set_option linter.unusedVariables false
set_option linter.unusedSimpArgs false
def B8 (l : List Int) : Prop := ∀ z ∈ l, 0 ≤ z ∧ z < 256
def keyS (s : ByteArray) : Bool := decide (1 ≤ s.size) && (decide (s.size ≤ 250) && s.data.toList.all fun c => decide (32 < c.toNat) && decide (c.toNat ≠ 127))
theorem C_cell {W : World} {A : Option Addr} {l : List Int} (h : (Kd.int .u8).C W A l.length l) (i : Nat) (hi : i < l.length) : ∃ b o, A = some ⟨b, o, none⟩ ∧ b < W.heap.size ∧ W.cell? ⟨b, o + i, none⟩ = some (.int .u8 (l.getD i 0)) := by
  obtain ⟨ad, rfl, hc⟩ := h.2.2 (by omega)
  obtain ⟨cs, hlen, hK, hcell⟩ := hc 0 _ (List.getElem?_eq_getElem (show 0 < l.length by omega))
  have h0 := hcell 0 _ (List.getElem?_eq_getElem (show 0 < cs.length by rw [hlen]; decide))
  rw [Nat.zero_mul, Nat.zero_add, Addr.add_zero'] at h0
  obtain ⟨b, o, rfl, hb⟩ := addr_plain h0
  obtain ⟨cs2, hlen2, hK2, hcell2⟩ := hc i _ (List.getElem?_eq_getElem hi)
  obtain rfl : cs2 = [Value.int .u8 l[i]] := hK2
  have h1 := hcell2 0 _ rfl
  refine ⟨b, o, rfl, hb, ?_⟩
  have e : (⟨b, o, none⟩ : Addr).add (i * (Kd.int .u8).sz + 0) = ⟨b, o + i, none⟩ := by
    rw [show i * (Kd.int .u8).sz + 0 = i from by show i * 1 + 0 = i; omega]
    unfold Addr.add
    split <;> simp_all
  rw [e] at h1
  rw [h1, List.getD_eq_getElem?_getD, List.getElem?_eq_getElem hi]
  rfl
def oddB (z : Int) : Bool := decide (z ≤ 32) || decide (z = 127)
set_option maxRecDepth 100000 in
theorem key1_calls (z : Int) (w : World) (h : 0 ≤ z ∧ z < 256) : Calls Tryz.prog 40 #[.int .u8 z] w fun e w' => e = .returned (.bool (oddB z)) ∧ w' = w := by
  obtain ⟨b, hb⟩ : ∃ b, oddB z = b := ⟨_, rfl⟩
  rw [hb]
  unfold oddB at hb
  by_cases h1 : z ≤ 32
  · have hb2 : b = true := by rw [← hb]; simp [h1]
    subst hb2
    have h11 : decide (z ≤ 32) = true := decide_eq_true h1
    clear hb
    go_enter Tryz.func40, Tryz.ntmps40
    go_wp2
    go_ret
    exact ⟨rfl, rfl⟩
  · have h11 : decide (z ≤ 32) = false := decide_eq_false h1
    by_cases h2 : z = 127
    · have hb2 : b = true := by rw [← hb]; simp [h2]
      subst hb2
      have h21 : (z == 127) = true := beq_iff_eq.2 h2
      clear hb h2
      go_enter Tryz.func40, Tryz.ntmps40
      go_wp2
      go_ret
      exact ⟨rfl, rfl⟩
    · have hb2 : b = false := by rw [← hb]; simp [h1, h2]
      subst hb2
      have h21 : (z == 127) = false := beq_eq_false_iff_ne.2 h2
      clear hb h2
      go_enter Tryz.func40, Tryz.ntmps40
      go_wp2
      go_ret
      exact ⟨rfl, rfl⟩
def IfnP (b : Bool) (e : Ending) : Prop := ∃ z : Int, e = .returned (.int .i64 z) ∧ (if b = true then 0 ≤ z else z = -1)
set_option maxRecDepth 100000 in
set_option maxHeartbeats 1000000 in
theorem ifn_calls (l : List Int) (A : Option Addr) (c : Nat) (w : World) (hC : (Kd.int .u8).C w A l.length l) (hc : l.length ≤ c) (hl : l.length ≤ 1000000) (h8 : B8 l) :
    Calls Tryz.prog 73 #[.slice A l.length c, .func (.func 40) #[] #[]] w fun e w' => IfnP (l.any oddB) e ∧ w' = w := by
  have HC := Aside0.mk hC
  have H8 := Aside0.mk h8
  clear hC h8
  go_enter Tryz.func73, Tryz.ntmps73
  go_wp2
  go_loop [8] (fun v => ∃ k : Nat, v = .int .i64 k ∧ k ≤ l.length ∧ Aside0 ((l.take k).any oddB = false)) (fun v => l.length - (intOf v).toNat)
  case atStart => exact ⟨0, rfl, by omega, ⟨by simp⟩⟩
  case round =>
    obtain ⟨k, rfl, hk, hn⟩ := hrel
    by_cases hlt : k < l.length
    · obtain ⟨b, o, rfl, hb0, hcell⟩ := C_cell HC.out k hlt
      have h8k := H8.out (l.getD k 0) (by rw [List.getD_eq_getElem?_getD, List.getElem?_eq_getElem hlt]; exact List.getElem_mem hlt)
      have htk : l.take (k + 1) = l.take k ++ [l.getD k 0] := by
        rw [List.take_succ_eq_append_getElem hlt, List.getD_eq_getElem?_getD, List.getElem?_eq_getElem hlt]; rfl
      have hmem : l.getD k 0 ∈ l := by rw [List.getD_eq_getElem?_getD, List.getElem?_eq_getElem hlt]; exact List.getElem_mem hlt
      obtain ⟨v, hv⟩ : ∃ v, l.getD k 0 = v := ⟨_, rfl⟩
      rw [hv] at hcell h8k htk hmem
      obtain ⟨bo, hbo⟩ : ∃ bo, oddB v = bo := ⟨_, rfl⟩
      have HBO := Aside0.mk hbo
      have HTK := Aside0.mk htk
      have HM := Aside0.mk hmem
      clear htk hv hbo hmem
      cases bo
      · go_wp2_with (go_at_call 40; (with_reducible refine (key1_calls v _ h8k).mono ?_); rintro e w' ⟨rfl, hw'⟩; obtain rfl := hw'.symm; rw [HBO.out])
        go_round
        case rel => exact ⟨k + 1, by first | rfl | simp, by omega, ⟨by rw [HTK.out, List.any_append, hn.out]; simp [HBO.out]⟩⟩
        case measure => simp [intOf]; omega
      · go_wp2_with (go_at_call 40; (with_reducible refine (key1_calls v _ h8k).mono ?_); rintro e w' ⟨rfl, hw'⟩; obtain rfl := hw'.symm; rw [HBO.out])
        go_ret
        refine ⟨⟨_, rfl, ?_⟩, rfl⟩
        rw [if_pos (List.any_eq_true.2 ⟨v, HM.out, HBO.out⟩)]
        omega
    · have hkl : k = l.length := by omega
      go_wp2
      go_ret
      refine ⟨⟨_, rfl, ?_⟩, rfl⟩
      have := hn.out
      rw [List.take_of_length_le (by omega)] at this
      rw [if_neg (by rw [this]; decide)]
set_option maxRecDepth 100000 in
theorem cfn_calls (l : List Int) (A : Option Addr) (c : Nat) (w : World) (hC : (Kd.int .u8).C w A l.length l) (hc : l.length ≤ c) (hl : l.length ≤ 1000000) (h8 : B8 l) :
    Calls Tryz.prog 42 #[.slice A l.length c, .func (.func 40) #[] #[]] w fun e w' => e = .returned (.bool (l.any oddB)) ∧ w' = w := by
  have HI := Aside0.mk (ifn_calls l A c w hC hc hl h8)
  clear hC h8
  obtain ⟨b, hb⟩ : ∃ b, l.any oddB = b := ⟨_, rfl⟩
  rw [hb] at HI ⊢
  clear hb
  cases b
  · go_enter Tryz.func42, Tryz.ntmps42
    go_wp2_with (go_at_call 73; (with_reducible refine HI.out.mono ?_); rintro e w' ⟨⟨z, rfl, hz⟩, rfl⟩; rw [if_neg (by decide)] at hz; subst hz)
    go_ret
    exact ⟨rfl, rfl⟩
  · go_enter Tryz.func42, Tryz.ntmps42
    go_wp2_with (go_at_call 73; (with_reducible refine HI.out.mono ?_); rintro e w' ⟨⟨z, rfl, hz⟩, rfl⟩; rw [if_pos rfl] at hz)
    go_ret
    exact ⟨rfl, rfl⟩
theorem bytesOf_B8 (s : ByteArray) : B8 (bytesOf s) := fun z hz => by
  unfold bytesOf at hz
  obtain ⟨b, -, rfl⟩ := List.mem_map.1 hz
  have := b.toNat_lt
  omega
def keyedS (s : ByteArray) : Bool := decide (1 ≤ s.size) && decide (s.size ≤ 250)
theorem keyS_eq (s : ByteArray) : keyS s = (keyedS s && !(bytesOf s).any oddB) := by
  have e : (s.data.toList.all fun c => decide (32 < c.toNat) && decide (c.toNat ≠ 127)) = !(bytesOf s).any oddB := by
    unfold bytesOf
    generalize s.data.toList = l
    induction l with
    | nil => rfl
    | cons c l ih =>
      rw [List.all_cons, List.map_cons, List.any_cons, ih, Bool.not_or]
      congr 1
      unfold oddB
      rw [Bool.eq_iff_iff]
      simp
      omega
  unfold keyS keyedS
  rw [e, Bool.and_assoc]
theorem keyed_calls (s : ByteArray) (w : World) : Calls Tryz.prog 41 #[.string s] w fun e w' => e = .returned (.bool (keyedS s)) ∧ Below w.heap.size w w' := by
  refine (frame_Keyed.calls s (keyedS s) w ?_).mono fun e w' ⟨he, hd⟩ => ⟨he, hd.below⟩
  unfold frame_Keyed.f keyedS
  rw [ByteArray.toList_eq]
  by_cases h : s.data.toList = []
  · rw [if_pos h]
    have : s.size = 0 := by
      have h2 : s.data.toList.length = s.size := rfl
      rw [← h2, h]
      rfl
    simp [this]
  · rw [if_neg h]
    have : 1 ≤ s.size := by
      have h2 : s.data.toList.length = s.size := rfl
      have h3 := List.length_pos_iff.2 h
      omega
    congr 1
    rw [Bool.eq_iff_iff]
    simp [this]
    omega
set_option maxRecDepth 100000 in
set_option maxHeartbeats 1000000 in
theorem fkey_calls (s : ByteArray) (w : World) (hs : s.size ≤ 1000000) : Calls Tryz.prog 20 #[.string s] w fun e w' => e = .returned (.bool (keyS s)) ∧ Below w.heap.size w w' := by
  have HB := Aside0.mk (Below.refl w.heap.size w)
  rw [keyS_eq]
  obtain ⟨b, hb⟩ : ∃ b, keyedS s = b := ⟨_, rfl⟩
  have HK := Aside0.mk hb
  rw [hb]
  clear hb
  cases b
  · rw [Bool.false_and]
    go_enter Tryz.func20, Tryz.ntmps20
    go_wp2_with (go_at_call 41; (with_reducible refine (keyed_calls s _).mono ?_); rintro e w1 ⟨rfl, hb⟩; rw [HK.out]; have HBn := Aside0.mk (below_step (by repeat (first | (with_reducible first | exact HB.out | apply below_alloc | apply pw_below_drewN | apply below_drew1) | exact HB.out)) hb); clear HB; have HB := HBn; clear HBn; clear hb)
    go_ret
    exact ⟨rfl, HB.out⟩
  · rw [Bool.true_and]
    obtain ⟨o, ho⟩ : ∃ o, (bytesOf s).any oddB = o := ⟨_, rfl⟩
    have HO := Aside0.mk ho
    rw [ho]
    clear ho
    have hbl : (bytesOf s).length ≤ 1000000 := by rw [bytesOf_length]; exact hs
    go_enter Tryz.func20, Tryz.ntmps20
    go_wp2_with (go_at_call 41; (with_reducible refine (keyed_calls s _).mono ?_); rintro e w1 ⟨rfl, hb⟩; rw [HK.out]; have HBn := Aside0.mk (below_step (by repeat (first | (with_reducible first | exact HB.out | apply below_alloc | apply pw_below_drewN | apply below_drew1) | exact HB.out)) hb); clear HB; have HB := HBn; clear HBn; clear hb)
    refine upon_bytes _ _ _ s Tryz.underlying9 Tryz.underlying22 Tryz.underlying5 (by omega) ?_
    intro A c w2 hcl hbs hb
    have HBn := Aside0.mk (below_step (by repeat (first | (with_reducible first | exact HB.out | apply below_alloc | apply pw_below_drewN | apply below_drew1) | exact HB.out)) hb); clear HB; have HB := HBn; clear HBn
    have HBS := Aside0.mk hbs
    clear hb hbs
    go_wp2_with (go_at_call 42; (with_reducible refine (cfn_calls _ _ _ _ HBS.out hcl hbl (bytesOf_B8 s)).mono ?_); rintro e w3 ⟨rfl, hw'⟩; obtain rfl := hw'.symm; rw [HO.out])
    go_ret
    exact ⟨rfl, HB.out⟩
def frame_Key.f (s : ByteArray) : Option Bool := if s.size ≤ 1000000 then some (keyS s) else none
theorem frame_Key.calls (s : ByteArray) (r : Bool) (w : World) (h : frame_Key.f s = some r) :
    Calls Tryz.prog 20 #[.string s] w fun e w' => e = .returned (.bool r) ∧ Below w.heap.size w w' := by
  unfold frame_Key.f at h
  split at h
  · next hs =>
    cases h
    exact fkey_calls s w hs
  · cases h
end Go.Proofs.YtamndkiagenfnaaGreatDoor.X
