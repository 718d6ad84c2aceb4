/- Package metaout, fourth part: the answer to a request. -/
import Derived.Test.YtfolaakllblhbaaDoorMeta3
import Derived.Deep.RegionHeld3
import Derived.Deep.DeepCutAuto
import Derived.Deep.CutBlock
namespace Go.Proofs.YtfolaakllblhbaaDoor.X
open Go.RowKit Go.Proofs.YtfolaakllblhbaaDoorW.PrintWords
set_option linter.unusedVariables false
set_option linter.unusedSimpArgs false

def mFull (q : Request) (x : Result) : ByteArray := (⟨#[86, 65, 32]⟩ : ByteArray) ++ showI (mValue x).size ++ mFlags q x ++ (⟨#[13, 10]⟩ : ByteArray) ++ mValue x ++ (⟨#[13, 10]⟩ : ByteArray)
def mHas (q : Request) : Bool := decide (0 ≤ Lib.indexByte q.form.flags.data.toList 118)
def mTail (q : Request) (x : Result) : ByteArray :=
  if x.status = 0 ∨ x.status = 7 ∨ x.status = 2 ∨ x.status = 5 ∨ x.status = 6 ∨ x.status = 1 ∨ x.status = 3 ∨ x.status = 4 then mWord x.status ++ mFlags q x else mWord x.status
def mOne (q : Request) (op : Int) (x : Result) : List Int :=
  if (q.form.quiet && mSilent op x.status) = true then [] else if op = 12 ∧ x.status = 1 then [69, 78, 13, 10]
  else if (x.status = 0 ∨ x.status = 7) ∧ mHas q = true then bytesOf (mFull q x) else if mTail q x = (⟨#[]⟩ : ByteArray) then [] else bytesOf (mTail q x ++ (⟨#[13, 10]⟩ : ByteArray))
def mEncode (q : Request) (l : List Result) : List Int :=
  match q.cmds, l with
  | c :: _, x :: _ => mOne q c.op x
  | _, _ => []
theorem mPieces_len (q : Request) (x : Result) (htold : ∀ c i, (mTold q x c i).1.size ≤ 1000) : ∀ (l : List UInt8) (i : Nat), (mPieces q x l i).length ≤ l.length * 1002
  | [], _ => by simp [mPieces]
  | c :: r, i => by
    have ih := mPieces_len q x htold r (i + 1)
    have h := htold (c.toNat : Int) (i : Int)
    have hp : (mPiece q x c i).length ≤ 1002 := by
      unfold mPiece
      split
      · simp only [List.length_cons, Array.length_toList]
        have e : (mTold q x (c.toNat : Int) (i : Int)).1.data.size = (mTold q x (c.toNat : Int) (i : Int)).1.size := rfl
        omega
      · simp
    simp only [mPieces, List.length_append, List.length_cons]
    omega
theorem mFlags_size (q : Request) (x : Result) (htold : ∀ c i, (mTold q x c i).1.size ≤ 1000) (hlen : q.form.flags.size ≤ 1000) : (mFlags q x).size ≤ 1002006 := by
  have h := mPieces_len q x htold q.form.flags.data.toList 0
  have e : q.form.flags.data.toList.length = q.form.flags.size := by rw [Array.length_toList]; rfl
  have hs : (mSigns x).length ≤ 6 := by
    unfold mSigns
    simp only [List.length_append]
    repeat' split
    all_goals simp
  have h2 : (mFlags q x).size = (mFlagsL q x).length := by simp [mFlags, ByteArray.size]
  rw [h2, mFlagsL, List.length_append]
  have : q.form.flags.data.toList.length * 1002 ≤ 1000 * 1002 := Nat.mul_le_mul_right _ (by omega)
  omega
theorem mWord_size (s : Int) : (mWord s).size ≤ 100 := by
  unfold mWord
  repeat' split
  all_goals decide
theorem bytes_none (w : World) : Bytes w none [] := ⟨rfl, by decide, fun h => absurd h (by decide)⟩
theorem retNone {w w' : World} (h : Below w.heap.size w w') : RetBytes [] w (.returned (.slice none 0 0)) w' := ⟨none, 0, rfl, Nat.le_refl _, bytes_none _, h⟩
theorem sqx_mk {w W : World} {q : Request} {x : Result} {ab ao mq c0 c8 c9 d3 : Nat} {bq : Bool} {A8 A9 B3 : Option Addr} (h1 : Below w.heap.size w W) (h2 : W.heap[w.heap.size]? = some (.cells #[.slice (some ⟨ab, ao, none⟩) mq c0, .int .i64 q.form.dialect, .string q.form.verb, .int .i64 q.form.code, .int .u32 q.form.opq, .bool bq, .bool q.form.withcas, .string q.form.flags, .slice A8 q.form.tokens.length c8, .slice A9 q.form.keys.length c9, .bool q.form.base64] 28 (0, 0))) (h3 : W.heap[w.heap.size + 1]? = some (.cells #[.int .i64 x.status, .slice B3 x.value.length d3, .int .u32 x.flags, .int .u64 x.cas, .int .i64 x.ttl, .int .u64 x.number, .bool x.stale, .bool x.won, .bool x.lost] 33 (0, 0))) :
    Aside0 (Below w.heap.size w W) ∧ Aside0 (W.heap[w.heap.size]? = some (.cells #[.slice (some ⟨ab, ao, none⟩) mq c0, .int .i64 q.form.dialect, .string q.form.verb, .int .i64 q.form.code, .int .u32 q.form.opq, .bool bq, .bool q.form.withcas, .string q.form.flags, .slice A8 q.form.tokens.length c8, .slice A9 q.form.keys.length c9, .bool q.form.base64] 28 (0, 0))) ∧ Aside0 (W.heap[w.heap.size + 1]? = some (.cells #[.int .i64 x.status, .slice B3 x.value.length d3, .int .u32 x.flags, .int .u64 x.cas, .int .i64 x.ttl, .int .u64 x.number, .bool x.stale, .bool x.won, .bool x.lost] 33 (0, 0))) ∧ W.cell? ⟨w.heap.size, 0, none⟩ = some (.slice (some ⟨ab, ao, none⟩) mq c0) ∧ W.cell? ⟨w.heap.size, 1, none⟩ = some (.int .i64 q.form.dialect) ∧ W.cell? ⟨w.heap.size, 2, none⟩ = some (.string q.form.verb) ∧ W.cell? ⟨w.heap.size, 3, none⟩ = some (.int .i64 q.form.code) ∧ W.cell? ⟨w.heap.size, 4, none⟩ = some (.int .u32 q.form.opq) ∧ W.cell? ⟨w.heap.size, 5, none⟩ = some (.bool bq) ∧ W.cell? ⟨w.heap.size, 6, none⟩ = some (.bool q.form.withcas) ∧ W.cell? ⟨w.heap.size, 7, none⟩ = some (.string q.form.flags) ∧ W.cell? ⟨w.heap.size, 8, none⟩ = some (.slice A8 q.form.tokens.length c8) ∧ W.cell? ⟨w.heap.size, 9, none⟩ = some (.slice A9 q.form.keys.length c9) ∧ W.cell? ⟨w.heap.size, 10, none⟩ = some (.bool q.form.base64) ∧ W.cell? ⟨w.heap.size + 1, 0, none⟩ = some (.int .i64 x.status) ∧ W.cell? ⟨w.heap.size + 1, 1, none⟩ = some (.slice B3 x.value.length d3) ∧ W.cell? ⟨w.heap.size + 1, 2, none⟩ = some (.int .u32 x.flags) ∧ W.cell? ⟨w.heap.size + 1, 3, none⟩ = some (.int .u64 x.cas) ∧ W.cell? ⟨w.heap.size + 1, 4, none⟩ = some (.int .i64 x.ttl) ∧ W.cell? ⟨w.heap.size + 1, 5, none⟩ = some (.int .u64 x.number) ∧ W.cell? ⟨w.heap.size + 1, 6, none⟩ = some (.bool x.stale) ∧ W.cell? ⟨w.heap.size + 1, 7, none⟩ = some (.bool x.won) ∧ W.cell? ⟨w.heap.size + 1, 8, none⟩ = some (.bool x.lost) := by
  have a := fun j v => blk_cells h2 j v
  have b := fun j v => blk_cells h3 j v
  exact ⟨⟨h1⟩, ⟨h2⟩, ⟨h3⟩, a 0 _ rfl, a 1 _ rfl, a 2 _ rfl, a 3 _ rfl, a 4 _ rfl, a 5 _ rfl, a 6 _ rfl, a 7 _ rfl, a 8 _ rfl, a 9 _ rfl, a 10 _ rfl, b 0 _ rfl, b 1 _ rfl, b 2 _ rfl, b 3 _ rfl, b 4 _ rfl, b 5 _ rfl, b 6 _ rfl, b 7 _ rfl, b 8 _ rfl⟩
theorem sqx_below {w W W2 : World} {q : Request} {x : Result} {ab ao mq c0 c8 c9 d3 : Nat} {bq : Bool} {A8 A9 B3 : Option Addr} (hb : Below W.heap.size W W2) (h : Aside0 (Below w.heap.size w W) ∧ Aside0 (W.heap[w.heap.size]? = some (.cells #[.slice (some ⟨ab, ao, none⟩) mq c0, .int .i64 q.form.dialect, .string q.form.verb, .int .i64 q.form.code, .int .u32 q.form.opq, .bool bq, .bool q.form.withcas, .string q.form.flags, .slice A8 q.form.tokens.length c8, .slice A9 q.form.keys.length c9, .bool q.form.base64] 28 (0, 0))) ∧ Aside0 (W.heap[w.heap.size + 1]? = some (.cells #[.int .i64 x.status, .slice B3 x.value.length d3, .int .u32 x.flags, .int .u64 x.cas, .int .i64 x.ttl, .int .u64 x.number, .bool x.stale, .bool x.won, .bool x.lost] 33 (0, 0))) ∧ W.cell? ⟨w.heap.size, 0, none⟩ = some (.slice (some ⟨ab, ao, none⟩) mq c0) ∧ W.cell? ⟨w.heap.size, 1, none⟩ = some (.int .i64 q.form.dialect) ∧ W.cell? ⟨w.heap.size, 2, none⟩ = some (.string q.form.verb) ∧ W.cell? ⟨w.heap.size, 3, none⟩ = some (.int .i64 q.form.code) ∧ W.cell? ⟨w.heap.size, 4, none⟩ = some (.int .u32 q.form.opq) ∧ W.cell? ⟨w.heap.size, 5, none⟩ = some (.bool bq) ∧ W.cell? ⟨w.heap.size, 6, none⟩ = some (.bool q.form.withcas) ∧ W.cell? ⟨w.heap.size, 7, none⟩ = some (.string q.form.flags) ∧ W.cell? ⟨w.heap.size, 8, none⟩ = some (.slice A8 q.form.tokens.length c8) ∧ W.cell? ⟨w.heap.size, 9, none⟩ = some (.slice A9 q.form.keys.length c9) ∧ W.cell? ⟨w.heap.size, 10, none⟩ = some (.bool q.form.base64) ∧ W.cell? ⟨w.heap.size + 1, 0, none⟩ = some (.int .i64 x.status) ∧ W.cell? ⟨w.heap.size + 1, 1, none⟩ = some (.slice B3 x.value.length d3) ∧ W.cell? ⟨w.heap.size + 1, 2, none⟩ = some (.int .u32 x.flags) ∧ W.cell? ⟨w.heap.size + 1, 3, none⟩ = some (.int .u64 x.cas) ∧ W.cell? ⟨w.heap.size + 1, 4, none⟩ = some (.int .i64 x.ttl) ∧ W.cell? ⟨w.heap.size + 1, 5, none⟩ = some (.int .u64 x.number) ∧ W.cell? ⟨w.heap.size + 1, 6, none⟩ = some (.bool x.stale) ∧ W.cell? ⟨w.heap.size + 1, 7, none⟩ = some (.bool x.won) ∧ W.cell? ⟨w.heap.size + 1, 8, none⟩ = some (.bool x.lost)) : Aside0 (Below w.heap.size w W2) ∧ Aside0 (W2.heap[w.heap.size]? = some (.cells #[.slice (some ⟨ab, ao, none⟩) mq c0, .int .i64 q.form.dialect, .string q.form.verb, .int .i64 q.form.code, .int .u32 q.form.opq, .bool bq, .bool q.form.withcas, .string q.form.flags, .slice A8 q.form.tokens.length c8, .slice A9 q.form.keys.length c9, .bool q.form.base64] 28 (0, 0))) ∧ Aside0 (W2.heap[w.heap.size + 1]? = some (.cells #[.int .i64 x.status, .slice B3 x.value.length d3, .int .u32 x.flags, .int .u64 x.cas, .int .i64 x.ttl, .int .u64 x.number, .bool x.stale, .bool x.won, .bool x.lost] 33 (0, 0))) ∧ W2.cell? ⟨w.heap.size, 0, none⟩ = some (.slice (some ⟨ab, ao, none⟩) mq c0) ∧ W2.cell? ⟨w.heap.size, 1, none⟩ = some (.int .i64 q.form.dialect) ∧ W2.cell? ⟨w.heap.size, 2, none⟩ = some (.string q.form.verb) ∧ W2.cell? ⟨w.heap.size, 3, none⟩ = some (.int .i64 q.form.code) ∧ W2.cell? ⟨w.heap.size, 4, none⟩ = some (.int .u32 q.form.opq) ∧ W2.cell? ⟨w.heap.size, 5, none⟩ = some (.bool bq) ∧ W2.cell? ⟨w.heap.size, 6, none⟩ = some (.bool q.form.withcas) ∧ W2.cell? ⟨w.heap.size, 7, none⟩ = some (.string q.form.flags) ∧ W2.cell? ⟨w.heap.size, 8, none⟩ = some (.slice A8 q.form.tokens.length c8) ∧ W2.cell? ⟨w.heap.size, 9, none⟩ = some (.slice A9 q.form.keys.length c9) ∧ W2.cell? ⟨w.heap.size, 10, none⟩ = some (.bool q.form.base64) ∧ W2.cell? ⟨w.heap.size + 1, 0, none⟩ = some (.int .i64 x.status) ∧ W2.cell? ⟨w.heap.size + 1, 1, none⟩ = some (.slice B3 x.value.length d3) ∧ W2.cell? ⟨w.heap.size + 1, 2, none⟩ = some (.int .u32 x.flags) ∧ W2.cell? ⟨w.heap.size + 1, 3, none⟩ = some (.int .u64 x.cas) ∧ W2.cell? ⟨w.heap.size + 1, 4, none⟩ = some (.int .i64 x.ttl) ∧ W2.cell? ⟨w.heap.size + 1, 5, none⟩ = some (.int .u64 x.number) ∧ W2.cell? ⟨w.heap.size + 1, 6, none⟩ = some (.bool x.stale) ∧ W2.cell? ⟨w.heap.size + 1, 7, none⟩ = some (.bool x.won) ∧ W2.cell? ⟨w.heap.size + 1, 8, none⟩ = some (.bool x.lost) :=
  sqx_mk (below_step h.1.out hb) ((hb.block _ (Array.getElem?_eq_some_iff.1 h.2.1.out).1).trans h.2.1.out) ((hb.block _ (Array.getElem?_eq_some_iff.1 h.2.2.1.out).1).trans h.2.2.1.out)
theorem sqx_drew {w W : World} {q : Request} {x : Result} {ab ao mq c0 c8 c9 d3 : Nat} {bq : Bool} {A8 A9 B3 : Option Addr} (h : Aside0 (Below w.heap.size w W) ∧ Aside0 (W.heap[w.heap.size]? = some (.cells #[.slice (some ⟨ab, ao, none⟩) mq c0, .int .i64 q.form.dialect, .string q.form.verb, .int .i64 q.form.code, .int .u32 q.form.opq, .bool bq, .bool q.form.withcas, .string q.form.flags, .slice A8 q.form.tokens.length c8, .slice A9 q.form.keys.length c9, .bool q.form.base64] 28 (0, 0))) ∧ Aside0 (W.heap[w.heap.size + 1]? = some (.cells #[.int .i64 x.status, .slice B3 x.value.length d3, .int .u32 x.flags, .int .u64 x.cas, .int .i64 x.ttl, .int .u64 x.number, .bool x.stale, .bool x.won, .bool x.lost] 33 (0, 0))) ∧ W.cell? ⟨w.heap.size, 0, none⟩ = some (.slice (some ⟨ab, ao, none⟩) mq c0) ∧ W.cell? ⟨w.heap.size, 1, none⟩ = some (.int .i64 q.form.dialect) ∧ W.cell? ⟨w.heap.size, 2, none⟩ = some (.string q.form.verb) ∧ W.cell? ⟨w.heap.size, 3, none⟩ = some (.int .i64 q.form.code) ∧ W.cell? ⟨w.heap.size, 4, none⟩ = some (.int .u32 q.form.opq) ∧ W.cell? ⟨w.heap.size, 5, none⟩ = some (.bool bq) ∧ W.cell? ⟨w.heap.size, 6, none⟩ = some (.bool q.form.withcas) ∧ W.cell? ⟨w.heap.size, 7, none⟩ = some (.string q.form.flags) ∧ W.cell? ⟨w.heap.size, 8, none⟩ = some (.slice A8 q.form.tokens.length c8) ∧ W.cell? ⟨w.heap.size, 9, none⟩ = some (.slice A9 q.form.keys.length c9) ∧ W.cell? ⟨w.heap.size, 10, none⟩ = some (.bool q.form.base64) ∧ W.cell? ⟨w.heap.size + 1, 0, none⟩ = some (.int .i64 x.status) ∧ W.cell? ⟨w.heap.size + 1, 1, none⟩ = some (.slice B3 x.value.length d3) ∧ W.cell? ⟨w.heap.size + 1, 2, none⟩ = some (.int .u32 x.flags) ∧ W.cell? ⟨w.heap.size + 1, 3, none⟩ = some (.int .u64 x.cas) ∧ W.cell? ⟨w.heap.size + 1, 4, none⟩ = some (.int .i64 x.ttl) ∧ W.cell? ⟨w.heap.size + 1, 5, none⟩ = some (.int .u64 x.number) ∧ W.cell? ⟨w.heap.size + 1, 6, none⟩ = some (.bool x.stale) ∧ W.cell? ⟨w.heap.size + 1, 7, none⟩ = some (.bool x.won) ∧ W.cell? ⟨w.heap.size + 1, 8, none⟩ = some (.bool x.lost)) : Aside0 (Below w.heap.size w W.drew) ∧ Aside0 (W.drew.heap[w.heap.size]? = some (.cells #[.slice (some ⟨ab, ao, none⟩) mq c0, .int .i64 q.form.dialect, .string q.form.verb, .int .i64 q.form.code, .int .u32 q.form.opq, .bool bq, .bool q.form.withcas, .string q.form.flags, .slice A8 q.form.tokens.length c8, .slice A9 q.form.keys.length c9, .bool q.form.base64] 28 (0, 0))) ∧ Aside0 (W.drew.heap[w.heap.size + 1]? = some (.cells #[.int .i64 x.status, .slice B3 x.value.length d3, .int .u32 x.flags, .int .u64 x.cas, .int .i64 x.ttl, .int .u64 x.number, .bool x.stale, .bool x.won, .bool x.lost] 33 (0, 0))) ∧ W.drew.cell? ⟨w.heap.size, 0, none⟩ = some (.slice (some ⟨ab, ao, none⟩) mq c0) ∧ W.drew.cell? ⟨w.heap.size, 1, none⟩ = some (.int .i64 q.form.dialect) ∧ W.drew.cell? ⟨w.heap.size, 2, none⟩ = some (.string q.form.verb) ∧ W.drew.cell? ⟨w.heap.size, 3, none⟩ = some (.int .i64 q.form.code) ∧ W.drew.cell? ⟨w.heap.size, 4, none⟩ = some (.int .u32 q.form.opq) ∧ W.drew.cell? ⟨w.heap.size, 5, none⟩ = some (.bool bq) ∧ W.drew.cell? ⟨w.heap.size, 6, none⟩ = some (.bool q.form.withcas) ∧ W.drew.cell? ⟨w.heap.size, 7, none⟩ = some (.string q.form.flags) ∧ W.drew.cell? ⟨w.heap.size, 8, none⟩ = some (.slice A8 q.form.tokens.length c8) ∧ W.drew.cell? ⟨w.heap.size, 9, none⟩ = some (.slice A9 q.form.keys.length c9) ∧ W.drew.cell? ⟨w.heap.size, 10, none⟩ = some (.bool q.form.base64) ∧ W.drew.cell? ⟨w.heap.size + 1, 0, none⟩ = some (.int .i64 x.status) ∧ W.drew.cell? ⟨w.heap.size + 1, 1, none⟩ = some (.slice B3 x.value.length d3) ∧ W.drew.cell? ⟨w.heap.size + 1, 2, none⟩ = some (.int .u32 x.flags) ∧ W.drew.cell? ⟨w.heap.size + 1, 3, none⟩ = some (.int .u64 x.cas) ∧ W.drew.cell? ⟨w.heap.size + 1, 4, none⟩ = some (.int .i64 x.ttl) ∧ W.drew.cell? ⟨w.heap.size + 1, 5, none⟩ = some (.int .u64 x.number) ∧ W.drew.cell? ⟨w.heap.size + 1, 6, none⟩ = some (.bool x.stale) ∧ W.drew.cell? ⟨w.heap.size + 1, 7, none⟩ = some (.bool x.won) ∧ W.drew.cell? ⟨w.heap.size + 1, 8, none⟩ = some (.bool x.lost) := sqx_mk (below_drew1 h.1.out) h.2.1.out h.2.2.1.out
theorem sqx_b {w W : World} {q : Request} {x : Result} {ab ao mq c0 c8 c9 d3 : Nat} {bq : Bool} {A8 A9 B3 : Option Addr} (h : Aside0 (Below w.heap.size w W) ∧ Aside0 (W.heap[w.heap.size]? = some (.cells #[.slice (some ⟨ab, ao, none⟩) mq c0, .int .i64 q.form.dialect, .string q.form.verb, .int .i64 q.form.code, .int .u32 q.form.opq, .bool bq, .bool q.form.withcas, .string q.form.flags, .slice A8 q.form.tokens.length c8, .slice A9 q.form.keys.length c9, .bool q.form.base64] 28 (0, 0))) ∧ Aside0 (W.heap[w.heap.size + 1]? = some (.cells #[.int .i64 x.status, .slice B3 x.value.length d3, .int .u32 x.flags, .int .u64 x.cas, .int .i64 x.ttl, .int .u64 x.number, .bool x.stale, .bool x.won, .bool x.lost] 33 (0, 0))) ∧ W.cell? ⟨w.heap.size, 0, none⟩ = some (.slice (some ⟨ab, ao, none⟩) mq c0) ∧ W.cell? ⟨w.heap.size, 1, none⟩ = some (.int .i64 q.form.dialect) ∧ W.cell? ⟨w.heap.size, 2, none⟩ = some (.string q.form.verb) ∧ W.cell? ⟨w.heap.size, 3, none⟩ = some (.int .i64 q.form.code) ∧ W.cell? ⟨w.heap.size, 4, none⟩ = some (.int .u32 q.form.opq) ∧ W.cell? ⟨w.heap.size, 5, none⟩ = some (.bool bq) ∧ W.cell? ⟨w.heap.size, 6, none⟩ = some (.bool q.form.withcas) ∧ W.cell? ⟨w.heap.size, 7, none⟩ = some (.string q.form.flags) ∧ W.cell? ⟨w.heap.size, 8, none⟩ = some (.slice A8 q.form.tokens.length c8) ∧ W.cell? ⟨w.heap.size, 9, none⟩ = some (.slice A9 q.form.keys.length c9) ∧ W.cell? ⟨w.heap.size, 10, none⟩ = some (.bool q.form.base64) ∧ W.cell? ⟨w.heap.size + 1, 0, none⟩ = some (.int .i64 x.status) ∧ W.cell? ⟨w.heap.size + 1, 1, none⟩ = some (.slice B3 x.value.length d3) ∧ W.cell? ⟨w.heap.size + 1, 2, none⟩ = some (.int .u32 x.flags) ∧ W.cell? ⟨w.heap.size + 1, 3, none⟩ = some (.int .u64 x.cas) ∧ W.cell? ⟨w.heap.size + 1, 4, none⟩ = some (.int .i64 x.ttl) ∧ W.cell? ⟨w.heap.size + 1, 5, none⟩ = some (.int .u64 x.number) ∧ W.cell? ⟨w.heap.size + 1, 6, none⟩ = some (.bool x.stale) ∧ W.cell? ⟨w.heap.size + 1, 7, none⟩ = some (.bool x.won) ∧ W.cell? ⟨w.heap.size + 1, 8, none⟩ = some (.bool x.lost)) : Below w.heap.size w W := h.1.out
theorem mOne_full {q : Request} {op : Int} {x : Result} {b : Bool} (hb : q.form.quiet = b) (h1 : (b && mSilent op x.status) = false ∧ ¬ (op = 12 ∧ x.status = 1)) (hs : x.status = 0 ∨ x.status = 7) (hh : decide (0 ≤ Lib.indexByte q.form.flags.data.toList 118) = true) : mOne q op x = bytesOf (mFull q x) := by
  subst hb
  unfold mOne
  rw [if_neg (by rw [h1.1]; decide), if_neg h1.2, if_pos ⟨hs, hh⟩]
theorem mOne_none {q : Request} {op : Int} {x : Result} {b : Bool} (hb : q.form.quiet = b) (h1 : (b && mSilent op x.status) = false ∧ ¬ (op = 12 ∧ x.status = 1)) (h2 : ¬ ((x.status = 0 ∨ x.status = 7) ∧ mHas q = true)) (h3 : mTail q x = (⟨#[]⟩ : ByteArray)) : mOne q op x = [] := by
  subst hb
  unfold mOne
  rw [if_neg (by rw [h1.1]; decide), if_neg h1.2, if_neg h2, if_pos h3]
theorem mOne_line {q : Request} {op : Int} {x : Result} {b : Bool} (hb : q.form.quiet = b) (h1 : (b && mSilent op x.status) = false ∧ ¬ (op = 12 ∧ x.status = 1)) (h2 : ¬ ((x.status = 0 ∨ x.status = 7) ∧ mHas q = true)) (h3 : ¬ mTail q x = (⟨#[]⟩ : ByteArray)) : mOne q op x = bytesOf (mTail q x ++ (⟨#[13, 10]⟩ : ByteArray)) := by
  subst hb
  unfold mOne
  rw [if_neg (by rw [h1.1]; decide), if_neg h1.2, if_neg h2, if_neg h3]
theorem mTail_size (q : Request) (x : Result) (htold : ∀ c i, (mTold q x c i).1.size ≤ 1000) (hlen : q.form.flags.size ≤ 1000) : (mTail q x).size ≤ 1003000 := by
  have h1 := mFlags_size q x htold hlen
  have h2 := mWord_size x.status
  unfold mTail
  split
  · rw [ByteArray.size_append]; omega
  · omega
set_option maxHeartbeats 1000000 in
set_option maxRecDepth 100000 in
theorem mEncode_calls (q : Request) (l : List Result) (cq : List Value) (A1 : Option Addr) (n1 : Nat) (w : World) (hq : kRequest.K w q cq) (hn1 : l.length ≤ n1) (hL : kResult.C w A1 l.length l) (hw : ∀ x ∈ l, x.Wf) (hT : Tabs w)
    (hplain : ∀ c ∈ q.form.flags.data.toList, c.toNat < 128) (hlen : q.form.flags.size ≤ 1000) (htold : ∀ x ∈ l, ∀ c i, (mTold q x c i).1.size ≤ 1000) (hval : ∀ x ∈ l, x.value.length ≤ 1000000) :
    Calls Tryd.prog 10 #[.agg cq.toArray, .slice A1 l.length n1] w (RetBytes (mEncode q l) w) := by
  obtain ⟨A0, c0, A8, c8, A9, c9, rfl, hl0, hC0, hl8, hC8, hl9, hC9⟩ := kRequest_open hq
  have HQ := Aside0.mk (kRequest_mk w q hl0 hC0 hl8 hC8 hl9 hC9)
  have HT := Aside0.mk hT; have HW := Aside0.mk hw
  have HP := Aside0.mk hplain; have HTL := Aside0.mk htold
  cases hc : q.cmds with
  | nil =>
    have hm : mEncode q l = [] := by unfold mEncode; rw [hc]
    rw [hm]
    clear hT hq hw hC0 hC8 hC9 hplain htold hL
    have h0 : ((([] : List Cmd).length : Nat) : Int) = 0 := rfl
    go_enter Tryd.func10, Tryd.ntmps10
    go_wp2
    go_ret
    exact retNone (by repeat (first | exact Below.refl _ _ | apply below_alloc))
  | cons cm cs =>
    cases l with
    | nil =>
      have hm : mEncode q [] = [] := by unfold mEncode; rw [hc]
      rw [hm]
      clear hT hq hw hC0 hC8 hC9 hplain htold hL
      go_enter Tryd.func10, Tryd.ntmps10
      go_wp2
      go_ret
      exact retNone (by repeat (first | exact Below.refl _ _ | apply below_alloc))
    | cons x xs =>
      have hm : mEncode q (x :: xs) = mOne q cm.op x := by unfold mEncode; rw [hc]
      rw [hm]
      have h0q : 0 < q.cmds.length := by rw [hc]; simp
      obtain ⟨ad, B2, d2, rfl, k0, _⟩ := at_Cmd hC0 0 (by omega) (by omega)
      obtain ⟨bd, B3, d3, rfl, r0, r1, r2, r3, r4, r5, r6, r7, r8, hB3⟩ := at_Result hL 0 (by omega) (by simp)
      rw [show rd_Cmd q.cmds 0 = cm by unfold rd_Cmd; rw [hc]; rfl] at k0
      rw [show rd_Result (x :: xs) 0 = x from rfl] at r0 r1 r2 r3 r4 r5 r6 r7 r8 hB3
      have z0 : (0 : Int).toNat = 0 := rfl
      simp only [z0, Nat.zero_mul, Addr.add_zero'] at k0 r0 r1 r2 r3 r4 r5 r6 r7 r8
      obtain ⟨ab, ao, rfl, hab⟩ := addr_plain k0
      obtain ⟨bb, bo, rfl, hbb⟩ := addr_plain r0
      dsimp only at r1 r2 r3 r4 r5 r6 r7 r8
      have hwx := hw x (by simp)
      have hsz : (mValue x).size ≤ 1000020 := by
        unfold mValue
        split
        · have := showI_size x.number hwx.number.2; omega
        · rw [strOfNums_size]; have := hval x (by simp); omega
      have hsF := mFlags_size q x (htold x (by simp)) hlen
      have hsW := mWord_size x.status
      have hsS := showI_size ((mValue x).size : Int) (by omega)
      have HX := Aside0.mk (kResult_mk w x hB3.1 hB3.2)
      have HWX := Aside0.mk hwx; have HTLX := Aside0.mk (htold x (by simp))
      have h0l : 0 < (x :: xs).length := by simp
      have HB := Aside0.mk (Below.refl w.heap.size w)
      clear hT hq hw hC0 hC8 hC9 hplain htold hval hL hB3 HW HTL hwx z0 hm
      rw [← hc] at *
      clear hc
      generalize q.cmds.length = mq at *
      generalize (x :: xs).length = ml at *
      have hq1 : (mq == 0) = false := beq_eq_false_iff_ne.2 (by omega)
      have hq2 : ((mq : Int) == 0) = false := beq_eq_false_iff_ne.2 (by omega)
      have hl1 : (ml == 0) = false := beq_eq_false_iff_ne.2 (by omega)
      have hl2 : ((ml : Int) == 0) = false := beq_eq_false_iff_ne.2 (by omega)
      obtain ⟨bq, hbq⟩ : ∃ b, q.form.quiet = b := ⟨_, rfl⟩
      rw [hbq] at HQ ⊢
      have HBQ := Aside0.mk hbq
      clear hbq
      go_enter Tryd.func10, Tryd.ntmps10
      go_wp2
      go_region
      go_upto_block 0 with (fail)
      go_cut [5, 6] (fun v5 v6 wc => v5 = .int .i64 cm.op ∧ v6 = .pointer (some ⟨w.heap.size + 1, 0, none⟩) ∧ wc.heap[w.heap.size]? = some (.cells #[.slice (some ⟨ab, ao, none⟩) mq c0, .int .i64 q.form.dialect, .string q.form.verb, .int .i64 q.form.code, .int .u32 q.form.opq, .bool bq, .bool q.form.withcas, .string q.form.flags, .slice A8 q.form.tokens.length c8, .slice A9 q.form.keys.length c9, .bool q.form.base64] 28 (0, 0)) ∧ wc.heap[w.heap.size + 1]? = some (.cells #[.int .i64 x.status, .slice B3 x.value.length d3, .int .u32 x.flags, .int .u64 x.cas, .int .i64 x.ttl, .int .u64 x.number, .bool x.stale, .bool x.won, .bool x.lost] 33 (0, 0)) ∧ Below w.heap.size w wc ∧ Aside0 ((bq && mSilent cm.op x.status) = false ∧ ¬ (cm.op = 12 ∧ x.status = 1)))
      case first =>
        have fin : ¬ (cm.op = 12 ∧ x.status = 1) → (bq && mSilent cm.op x.status) = false → Aside0 ((bq && mSilent cm.op x.status) = false ∧ ¬ (cm.op = 12 ∧ x.status = 1)) := fun a b => ⟨⟨b, a⟩⟩
        have quietly : (q.form.quiet && mSilent cm.op x.status) = true → mOne q cm.op x = [] := fun h => by unfold mOne; rw [if_pos h]
        have enly : (q.form.quiet && mSilent cm.op x.status) = false → cm.op = 12 → x.status = 1 → mOne q cm.op x = [69, 78, 13, 10] := fun h h1 h2 => by unfold mOne; rw [if_neg (by rw [h]; decide), if_pos ⟨h1, h2⟩]
        rw [HBQ.out] at quietly enly
        by_cases hqs : (bq && mSilent cm.op x.status) = true
        · have HM := Aside0.mk (quietly hqs)
          rw [Bool.and_eq_true] at hqs
          obtain ⟨rfl, hs⟩ := hqs
          have HS := Aside0.mk hs
          clear hs quietly enly fin
          go_wp2_with (go_at_call 18; (with_reducible refine (mSilent_calls _ _ _).mono ?_); rintro e w1 ⟨rfl, rfl⟩; rw [HS.out])
          go_ret
          rw [HM.out]
          exact retNone (by repeat (first | exact Below.refl _ _ | apply below_drew1 | apply pw_below_drewN | apply below_alloc))
        · have hqf : (bq && mSilent cm.op x.status) = false := by simpa using hqs
          have HE := Aside0.mk (enly hqf)
          have HF := Aside0.mk (fun a => fin a hqf)
          clear quietly enly fin hqs
          cases hs : mSilent cm.op x.status
          all_goals cases bq
          all_goals first
            | (exfalso; rw [hs] at hqf; exact absurd hqf (by decide))
            | skip
          all_goals
            have HS := Aside0.mk hs
            clear hs hqf
            by_cases ho : cm.op = 12
            · have ho1 : (cm.op == 12) = true := beq_iff_eq.2 ho
              by_cases hx : x.status = 1
              · have hx1 : (x.status == 1) = true := beq_iff_eq.2 hx
                have HM := Aside0.mk (HE.out ho hx)
                clear ho hx
                go_wp2_with (first | (go_at_call 18; (with_reducible refine (mSilent_calls _ _ _).mono ?_); rintro e w1 ⟨rfl, rfl⟩; rw [HS.out]) | ((with_reducible refine gate_dst (N := 45) rfl ?_); (first | (refine wp_const_drew rfl _ _ _ rfl _ _ _ _ rfl ?_ Tryd.underlying30 Tryd.underlying5 ?_) | (refine wp_const rfl _ _ _ rfl _ _ _ _ rfl ?_ Tryd.underlying30 Tryd.underlying5 ?_)); (case _ => simp)))
                go_ret
                rw [HM.out]
                exact ⟨some ⟨w.heap.size + 1 + 1, 0, none⟩, 4, rfl, by decide, Bytes_at (ha_at (by simp)) _ (by decide) rfl, (by repeat (first | exact Below.refl _ _ | apply below_drew1 | apply pw_below_drewN | apply below_alloc))⟩
              · have hx1 : (x.status == 1) = false := beq_eq_false_iff_ne.2 hx
                have HN := Aside0.mk (HF.out (fun h => hx h.2))
                clear ho hx
                go_wp2_with (go_at_call 18; (with_reducible refine (mSilent_calls _ _ _).mono ?_); rintro e w1 ⟨rfl, rfl⟩; rw [HS.out])
                go_meet
                exact ⟨rfl, rfl, ha_old (ha_at rfl), ha_at (by simp), (by repeat (first | exact Below.refl _ _ | apply below_drew1 | apply pw_below_drewN | apply below_alloc)), HN.out⟩
            · have ho1 : (cm.op == 12) = false := beq_eq_false_iff_ne.2 ho
              have HN := Aside0.mk (HF.out (fun h => ho h.1))
              clear ho
              go_wp2_with (go_at_call 18; (with_reducible refine (mSilent_calls _ _ _).mono ?_); rintro e w1 ⟨rfl, rfl⟩; rw [HS.out])
              go_meet
              exact ⟨rfl, rfl, ha_old (ha_at rfl), ha_at (by simp), (by repeat (first | exact Below.refl _ _ | apply below_drew1 | apply pw_below_drewN | apply below_alloc)), HN.out⟩
      case rest =>
        obtain ⟨rfl, rfl, hqb, hxb, hbw, hno⟩ := hcut
        have hwsz := hbw.size
        have hlx : w.heap.size + 1 < wc.heap.size := (Array.getElem?_eq_some_iff.1 hxb).1
        clear HB
        have HB := Aside0.mk hbw; have HQB := Aside0.mk hqb; have HXB := Aside0.mk hxb
        have x0 := fun j v => blk_cells hxb j v
        have b0 := x0 0 _ rfl; have b1 := x0 1 _ rfl; have b2 := x0 2 _ rfl; have b3 := x0 3 _ rfl; have b4 := x0 4 _ rfl; have b5 := x0 5 _ rfl; have b6 := x0 6 _ rfl; have b7 := x0 7 _ rfl; have b8 := x0 8 _ rfl
        clear x0 hbw hxb hqb
        go_upto_block 1 with (first
          | (go_at_call 19; (with_reducible refine (mValue_calls x _ _ (kResult.K_below (by repeat (first | (with_reducible first | exact HB.out | apply below_alloc | apply pw_below_drewN | apply below_drew1) | exact HB.out)) HX.out) HWX.out (Tabs.below HT.out (by repeat (first | (with_reducible first | exact HB.out | apply below_alloc | apply pw_below_drewN | apply below_drew1) | exact HB.out)))).mono ?_); rintro e w1 ⟨rfl, hb⟩; have hs1 := hb.size; have HQ1 := Aside0.mk ((hb.block _ (by omega)).trans HQB.out); have HX1 := Aside0.mk ((hb.block _ (by omega)).trans HXB.out); obtain ⟨hbc, hbf⟩ := bcell hb; have HBn := Aside0.mk (below_step (by repeat (first | (with_reducible first | exact HB.out | apply below_alloc | apply pw_below_drewN | apply below_drew1) | exact HB.out)) hb); clear HB; have HB := HBn; clear HBn; clear hb)
          | (go_at_call 14; (with_reducible refine (mWord_calls _ _).mono ?_); rintro e w1 ⟨rfl, rfl⟩))
        go_cut [8] (fun v8 wd => v8 = .string (mTail q x) ∧ Below w.heap.size w wd ∧ Aside0 (¬ ((x.status = 0 ∨ x.status = 7) ∧ mHas q = true)))
        case first =>
          have y0 := fun j v => blk_cells HX1.out j v
          have z0 := fun j v => blk_cells HQ1.out j v
          have g0 := y0 0 _ rfl; have g1 := y0 1 _ rfl; have g2 := y0 2 _ rfl; have g3 := y0 3 _ rfl; have g4 := y0 4 _ rfl; have g5 := y0 5 _ rfl; have g6 := y0 6 _ rfl; have g7 := y0 7 _ rfl; have g8 := y0 8 _ rfl
          have f0 := z0 0 _ rfl; have f1 := z0 1 _ rfl; have f2 := z0 2 _ rfl; have f3 := z0 3 _ rfl; have f4 := z0 4 _ rfl; have f5 := z0 5 _ rfl; have f6 := z0 6 _ rfl; have f7 := z0 7 _ rfl; have f8 := z0 8 _ rfl; have f9 := z0 9 _ rfl; have f10 := z0 10 _ rfl
          clear y0 z0 hbc hbf b0 b1 b2 b3 b4 b5 b6 b7 b8
          have HNO : Aside0 (decide (0 ≤ Lib.indexByte q.form.flags.data.toList 118) = false → Aside0 (¬ ((x.status = 0 ∨ x.status = 7) ∧ mHas q = true))) := ⟨fun h => ⟨fun h2 => by have := h2.2; unfold mHas at this; rw [h] at this; exact absurd this (by decide)⟩⟩
          have HNS : Aside0 (¬ (x.status = 0 ∨ x.status = 7) → Aside0 (¬ ((x.status = 0 ∨ x.status = 7) ∧ mHas q = true))) := ⟨fun h => ⟨fun h2 => h h2.1⟩⟩
          cases hh : decide (0 ≤ Lib.indexByte q.form.flags.data.toList 118)
          · go_wp2_with (first
              | (go_at_call 20; (with_reducible refine (Tryd.strings_IndexByte _ _ _).mono ?_); rintro e w2 ⟨rfl, rfl⟩)
              | (go_at_call 12; (with_reducible refine (mFlags_calls q x _ _ _ (kRequest.K_below (by repeat (first | (with_reducible first | exact HB.out | apply below_alloc | apply pw_below_drewN | apply below_drew1) | exact HB.out)) HQ.out) (kResult.K_below (by repeat (first | (with_reducible first | exact HB.out | apply below_alloc | apply pw_below_drewN | apply below_drew1) | exact HB.out)) HX.out) HWX.out (Tabs.below HT.out (by repeat (first | (with_reducible first | exact HB.out | apply below_alloc | apply pw_below_drewN | apply below_drew1) | exact HB.out))) HP.out hlen HTLX.out).mono ?_); rintro e w2 ⟨rfl, hb⟩; have HBn := Aside0.mk (below_step (by repeat (first | (with_reducible first | exact HB.out | apply below_alloc | apply pw_below_drewN | apply below_drew1) | exact HB.out)) hb); clear HB; have HB := HBn; clear HBn; clear hb))
            all_goals go_meet
            all_goals exact ⟨by simp_all [mTail], (by repeat (first | (with_reducible first | exact HB.out | apply below_alloc | apply pw_below_drewN | apply below_drew1) | exact HB.out)), HNO.out hh⟩
          · go_wp2_with (first
              | (go_at_call 20; (with_reducible refine (Tryd.strings_IndexByte _ _ _).mono ?_); rintro e w2 ⟨rfl, rfl⟩)
              | (go_at_call 12; (with_reducible refine (mFlags_calls q x _ _ _ (kRequest.K_below (by repeat (first | (with_reducible first | exact HB.out | apply below_alloc | apply pw_below_drewN | apply below_drew1) | exact HB.out)) HQ.out) (kResult.K_below (by repeat (first | (with_reducible first | exact HB.out | apply below_alloc | apply pw_below_drewN | apply below_drew1) | exact HB.out)) HX.out) HWX.out (Tabs.below HT.out (by repeat (first | (with_reducible first | exact HB.out | apply below_alloc | apply pw_below_drewN | apply below_drew1) | exact HB.out))) HP.out hlen HTLX.out).mono ?_); rintro e w2 ⟨rfl, hb⟩; have HBn := Aside0.mk (below_step (by repeat (first | (with_reducible first | exact HB.out | apply below_alloc | apply pw_below_drewN | apply below_drew1) | exact HB.out)) hb); clear HB; have HB := HBn; clear HBn; clear hb))
            all_goals try (go_meet; exact ⟨by simp_all [mTail], (by repeat (first | (with_reducible first | exact HB.out | apply below_alloc | apply pw_below_drewN | apply below_drew1) | exact HB.out)), HNS.out (by simp_all)⟩)
            all_goals
              clear f0 f1 f2 f3 f4 f5 f6 f7 f8 f9 f10 g0 g1 g2 g3 g4 g5 g6 g7 g8
              have hwr : IntKind.u64.wrap ((mValue x).size : Int) = (mValue x).size := by rw [IntKind.wrap_u64]; omega
              have HST : Aside0 (x.status = 0 ∨ x.status = 7) := ⟨by first | exact Or.inl (eq_of_beq (by assumption)) | exact Or.inr (eq_of_beq (by assumption))⟩
              have hS := sqx_mk HB.out HQ1.out HX1.out
              have e1 : ¬ 9223372036854775807 < 3 + (showI ((mValue x).size : Int)).size := by omega
              have e2 : ¬ 9223372036854775807 < 3 + (showI ((mValue x).size : Int)).size + (mFlags q x).size := by omega
              have e3 : ¬ 9223372036854775807 < 3 + (showI ((mValue x).size : Int)).size + (mFlags q x).size + 2 := by omega
              have e4 : ¬ 9223372036854775807 < 3 + (showI ((mValue x).size : Int)).size + (mFlags q x).size + 2 + (mValue x).size := by omega
              have e5 : ¬ 9223372036854775807 < 3 + (showI ((mValue x).size : Int)).size + (mFlags q x).size + 2 + (mValue x).size + 2 := by omega
              (refine wp_region_noPanic ?_; refine wp_region_held_drew (S := (fun w' => Aside0 (Below w.heap.size w w') ∧ Aside0 (w'.heap[w.heap.size]? = some (.cells #[.slice (some ⟨ab, ao, none⟩) mq c0, .int .i64 q.form.dialect, .string q.form.verb, .int .i64 q.form.code, .int .u32 q.form.opq, .bool bq, .bool q.form.withcas, .string q.form.flags, .slice A8 q.form.tokens.length c8, .slice A9 q.form.keys.length c9, .bool q.form.base64] 28 (0, 0))) ∧ Aside0 (w'.heap[w.heap.size + 1]? = some (.cells #[.int .i64 x.status, .slice B3 x.value.length d3, .int .u32 x.flags, .int .u64 x.cas, .int .i64 x.ttl, .int .u64 x.number, .bool x.stale, .bool x.won, .bool x.lost] 33 (0, 0))) ∧ w'.cell? ⟨w.heap.size, 0, none⟩ = some (.slice (some ⟨ab, ao, none⟩) mq c0) ∧ w'.cell? ⟨w.heap.size, 1, none⟩ = some (.int .i64 q.form.dialect) ∧ w'.cell? ⟨w.heap.size, 2, none⟩ = some (.string q.form.verb) ∧ w'.cell? ⟨w.heap.size, 3, none⟩ = some (.int .i64 q.form.code) ∧ w'.cell? ⟨w.heap.size, 4, none⟩ = some (.int .u32 q.form.opq) ∧ w'.cell? ⟨w.heap.size, 5, none⟩ = some (.bool bq) ∧ w'.cell? ⟨w.heap.size, 6, none⟩ = some (.bool q.form.withcas) ∧ w'.cell? ⟨w.heap.size, 7, none⟩ = some (.string q.form.flags) ∧ w'.cell? ⟨w.heap.size, 8, none⟩ = some (.slice A8 q.form.tokens.length c8) ∧ w'.cell? ⟨w.heap.size, 9, none⟩ = some (.slice A9 q.form.keys.length c9) ∧ w'.cell? ⟨w.heap.size, 10, none⟩ = some (.bool q.form.base64) ∧ w'.cell? ⟨w.heap.size + 1, 0, none⟩ = some (.int .i64 x.status) ∧ w'.cell? ⟨w.heap.size + 1, 1, none⟩ = some (.slice B3 x.value.length d3) ∧ w'.cell? ⟨w.heap.size + 1, 2, none⟩ = some (.int .u32 x.flags) ∧ w'.cell? ⟨w.heap.size + 1, 3, none⟩ = some (.int .u64 x.cas) ∧ w'.cell? ⟨w.heap.size + 1, 4, none⟩ = some (.int .i64 x.ttl) ∧ w'.cell? ⟨w.heap.size + 1, 5, none⟩ = some (.int .u64 x.number) ∧ w'.cell? ⟨w.heap.size + 1, 6, none⟩ = some (.bool x.stale) ∧ w'.cell? ⟨w.heap.size + 1, 7, none⟩ = some (.bool x.won) ∧ w'.cell? ⟨w.heap.size + 1, 8, none⟩ = some (.bool x.lost))) (by kernel_rfl) (by (try dsimp only); (first | assumption | exact sqx_drew hS | exact sqx_below hb (by assumption))) ?_; intro hHeld)
              (refine wpAnyH_take (i := 0) (v := ?_) (by simp only [List.getElem?_toArray, List.getElem?_cons_succ, List.getElem?_cons_zero]; rfl) (by kernel_rfl) (by kernel_rfl) (by kernel_rfl) (fun _ _ _ h => h) (Or.inl ⟨by rfl, ?_⟩) (by assumption) ?_; rotate_left; (focus (intro w hSw; (try dsimp only at hSw); go_simp; (try with_reducible rfl); done)); (try simp only [Act.put, List.setIfInBounds_toArray, List.set_cons_zero, List.set_cons_succ]))
              (refine wpAnyH_take (i := 1) (v := ?_) (by simp only [List.getElem?_toArray, List.getElem?_cons_succ, List.getElem?_cons_zero]; rfl) (by kernel_rfl) (by kernel_rfl) (by kernel_rfl) (fun _ _ _ h => h) (Or.inl ⟨by rfl, ?_⟩) (by assumption) ?_; rotate_left; (focus (intro w hSw; (try dsimp only at hSw); go_simp; (try with_reducible rfl); done)); (try simp only [Act.put, List.setIfInBounds_toArray, List.set_cons_zero, List.set_cons_succ]))
              (refine wpAnyH_take (i := 2) (v := ?_) (by simp only [List.getElem?_toArray, List.getElem?_cons_succ, List.getElem?_cons_zero]; rfl) (by kernel_rfl) (by kernel_rfl) (by kernel_rfl) (fun _ _ _ h => h) (Or.inl ⟨by rfl, ?_⟩) (by assumption) ?_; rotate_left; (focus (intro w hSw; (try dsimp only at hSw); go_simp; (try with_reducible rfl); done)); (try simp only [Act.put, List.setIfInBounds_toArray, List.set_cons_zero, List.set_cons_succ]))
              (refine wpAnyH_take (i := 5) (v := ?_) (by simp only [List.getElem?_toArray, List.getElem?_cons_succ, List.getElem?_cons_zero]; rfl) (by kernel_rfl) (by kernel_rfl) (by kernel_rfl) (fun _ _ _ h => h) (Or.inl ⟨by rfl, ?_⟩) (by assumption) ?_; rotate_left; (focus (intro w hSw; (try dsimp only at hSw); go_simp; (try with_reducible rfl); done)); (try simp only [Act.put, List.setIfInBounds_toArray, List.set_cons_zero, List.set_cons_succ]))
              (refine wpAnyH_take (i := 6) (v := ?_) (by simp only [List.getElem?_toArray, List.getElem?_cons_succ, List.getElem?_cons_zero]; rfl) (by kernel_rfl) (by kernel_rfl) (by kernel_rfl) (fun _ _ _ h => h) (Or.inl ⟨by rfl, ?_⟩) (by assumption) ?_; rotate_left; (focus (intro w hSw; (try dsimp only at hSw); go_simp; (try with_reducible rfl); done)); (try simp only [Act.put, List.setIfInBounds_toArray, List.set_cons_zero, List.set_cons_succ]))
              (refine wpAnyH_take (i := 10) (v := ?_) (by simp only [List.getElem?_toArray, List.getElem?_cons_succ, List.getElem?_cons_zero]; rfl) (by kernel_rfl) (by kernel_rfl) (by kernel_rfl) (fun _ _ _ h => h) (Or.inl ⟨by rfl, ?_⟩) (by assumption) ?_; rotate_left; (focus (intro w hSw; (try dsimp only at hSw); go_simp; (try with_reducible rfl); done)); (try simp only [Act.put, List.setIfInBounds_toArray, List.set_cons_zero, List.set_cons_succ]))
              (refine wpAnyH_ready (rs := [3]) (by kernel_rfl) (by simp) ?_; refine AllReadyH.cons (by simp only [List.getElem?_toArray, List.getElem?_cons_succ, List.getElem?_cons_zero]; rfl) (fun K hK => ?_) AllReadyH.nil; go_simp; (go_at_call 21; (with_reducible refine (show_calls _ _ (by omega) (by omega) (Tabs.below HT.out (sqx_b (by assumption)))).mono ?_); rintro e w2 ⟨rfl, hb⟩); refine hK.out _ _ (by (try dsimp only); (first | assumption | exact sqx_drew hS | exact sqx_below hb (by assumption))) ?_; clear hK K hHeld; intro hHeld; (try simp only [Act.put, List.setIfInBounds_toArray, List.set_cons_zero, List.set_cons_succ]))
              (refine wpAnyH_take (i := 4) (v := ?_) (by simp only [List.getElem?_toArray, List.getElem?_cons_succ, List.getElem?_cons_zero]; rfl) (by kernel_rfl) (by kernel_rfl) (by kernel_rfl) (fun _ _ _ h => h) (Or.inl ⟨by rfl, ?_⟩) (by assumption) ?_; rotate_left; (focus (intro w hSw; (try dsimp only at hSw); go_simp; (try with_reducible rfl); done)); (try simp only [Act.put, List.setIfInBounds_toArray, List.set_cons_zero, List.set_cons_succ]))
              (refine wpAnyH_ready (rs := [7]) (by kernel_rfl) (by simp) ?_; refine AllReadyH.cons (by simp only [List.getElem?_toArray, List.getElem?_cons_succ, List.getElem?_cons_zero]; rfl) (fun K hK => ?_) AllReadyH.nil; go_simp; (go_at_call 12; (with_reducible refine (mFlags_calls q x _ _ _ (kRequest.K_below (sqx_b (by assumption)) HQ.out) (kResult.K_below (sqx_b (by assumption)) HX.out) HWX.out (Tabs.below HT.out (sqx_b (by assumption))) HP.out hlen HTLX.out).mono ?_); rintro e w2 ⟨rfl, hb⟩); refine hK.out _ _ (by (try dsimp only); (first | assumption | exact sqx_drew hS | exact sqx_below hb (by assumption))) ?_; clear hK K hHeld; intro hHeld; (try simp only [Act.put, List.setIfInBounds_toArray, List.set_cons_zero, List.set_cons_succ]))
              (refine wpAnyH_take (i := 8) (v := ?_) (by simp only [List.getElem?_toArray, List.getElem?_cons_succ, List.getElem?_cons_zero]; rfl) (by kernel_rfl) (by kernel_rfl) (by kernel_rfl) (fun _ _ _ h => h) (Or.inl ⟨by rfl, ?_⟩) (by assumption) ?_; rotate_left; (focus (intro w hSw; (try dsimp only at hSw); go_simp; (try with_reducible rfl); done)); (try simp only [Act.put, List.setIfInBounds_toArray, List.set_cons_zero, List.set_cons_succ]))
              (refine wpAnyH_take (i := 9) (v := ?_) (by simp only [List.getElem?_toArray, List.getElem?_cons_succ, List.getElem?_cons_zero]; rfl) (by kernel_rfl) (by kernel_rfl) (by kernel_rfl) (fun _ _ _ h => h) (Or.inl ⟨by rfl, ?_⟩) (by assumption) ?_; rotate_left; (focus (intro w hSw; (try dsimp only at hSw); go_simp; (try with_reducible rfl); done)); (try simp only [Act.put, List.setIfInBounds_toArray, List.set_cons_zero, List.set_cons_succ]))
              (refine wpAnyH_take (i := 11) (v := ?_) (by simp only [List.getElem?_toArray, List.getElem?_cons_succ, List.getElem?_cons_zero]; rfl) (by kernel_rfl) (by kernel_rfl) (by kernel_rfl) (fun _ _ _ h => h) (Or.inl ⟨by rfl, ?_⟩) (by assumption) ?_; rotate_left; (focus (intro w hSw; (try dsimp only at hSw); go_simp; (try with_reducible rfl); done)); (try simp only [Act.put, List.setIfInBounds_toArray, List.set_cons_zero, List.set_cons_succ]))
              (refine wpAnyH_take (i := 12) (v := ?_) (by simp only [List.getElem?_toArray, List.getElem?_cons_succ, List.getElem?_cons_zero]; rfl) (by kernel_rfl) (by kernel_rfl) (by kernel_rfl) (fun _ _ _ h => h) (Or.inl ⟨by rfl, ?_⟩) (by assumption) ?_; rotate_left; (focus (intro w hSw; (try dsimp only at hSw); go_simp; (try with_reducible rfl); done)); (try simp only [Act.put, List.setIfInBounds_toArray, List.set_cons_zero, List.set_cons_succ]))
              (refine wpAnyH_ready (rs := [13]) (by kernel_rfl) (by simp) ?_; refine AllReadyH.cons (by simp only [List.getElem?_toArray, List.getElem?_cons_succ, List.getElem?_cons_zero]; rfl) (fun K hK => ?_) AllReadyH.nil; go_simp; (refine upon_bytes 9 30 5 _ Tryd.underlying9 Tryd.underlying30 Tryd.underlying5 ?_ ?_; (case _ => simp only [ByteArray.size_append]; show 3 + _ + _ + 2 + _ + 2 ≤ _; omega); intro A c w3 hc3 hC3 hb; have HC3 := Aside0.mk (And.intro hc3 hC3); clear hc3 hC3); refine hK.out _ _ (by (try dsimp only); (first | assumption | exact sqx_drew hS | exact sqx_below hb (by assumption))) ?_; clear hK K hHeld; intro hHeld; (try simp only [Act.put, List.setIfInBounds_toArray, List.set_cons_zero, List.set_cons_succ]))
              (refine wpAnyH_take (i := 14) (v := ?_) (by simp only [List.getElem?_toArray, List.getElem?_cons_succ, List.getElem?_cons_zero]; rfl) (by kernel_rfl) (by kernel_rfl) (by kernel_rfl) (fun _ _ _ h => h) (Or.inl ⟨by rfl, ?_⟩) (by assumption) ?_; rotate_left; (focus (intro w hSw; (try dsimp only at hSw); go_simp; (try with_reducible rfl); done)); (try simp only [Act.put, List.setIfInBounds_toArray, List.set_cons_zero, List.set_cons_succ]))
              (refine wpAnyH_done (by kernel_rfl) ?_ _; refine NoPanic.normal ?_)
              go_wp2
              go_ret
              rw [mOne_full HBQ.out hno.out HST.out hh]
              exact ⟨A, c, rfl, HC3.out.1, HC3.out.2, below_step hHeld.1.out (Below.refl _ _)⟩
        case rest =>
          obtain ⟨rfl, hbw, hnf⟩ := hcut
          clear b0 b1 b2 b3 b4 b5 b6 b7 b8
          have hT2 := mTail_size q x HTLX.out hlen
          by_cases hz : mTail q x = (⟨#[]⟩ : ByteArray)
          · have hzb : (mTail q x).toList.isEmpty = true := (bs_nil _).2 hz
            go_wp2
            go_ret
            rw [mOne_none HBQ.out hno.out hnf.out hz]
            exact retNone (Below.trans (by assumption) (Below.refl _ _))
          · have hzb : (mTail q x).toList.isEmpty = false := Bool.eq_false_iff.2 (fun h => hz ((bs_nil _).1 h))
            have HZ := Aside0.mk hz
            clear hz
            go_wp2
            refine upon_bytes 9 30 5 _ Tryd.underlying9 Tryd.underlying30 Tryd.underlying5 ?_ ?_
            · rw [ByteArray.size_append]
              show _ + 2 ≤ _
              omega
            intro A c w3 hc3 hC3 hb
            have HC3 := Aside0.mk (And.intro hc3 hC3)
            clear hc3 hC3
            go_wp2
            go_ret
            rw [mOne_line HBQ.out hno.out hnf.out HZ.out]
            exact ⟨A, c, rfl, HC3.out.1, HC3.out.2, below_step hbw hb⟩
end Go.Proofs.YtfolaakllblhbaaDoor.X
