/- Printed by wip/tools/xprint.py (a program of this work, over the kit's printer): functions of this seat and their contracts. -/
import Derived.Test.YtkolleohenjhmaaDoorProg
import Derived.Below
import Derived.Deep.Draws
import Derived.Deep.AppendLies
import Derived.Maps.AppendAt
import Derived.OwnWalk
import Derived.Laws.BytesArg
import Derived.Laws.MakeOwn
import Derived.Laws.OwnMore
import Derived.Deep.OwnRows
import Derived.Tactics
import Derived.Lib.ConvBytes
import Derived.Laws.Slices
import Derived.WalkKit
import Derived.KernelRfl
import Derived.RowKit3
import Derived.Deep.LoopGhost
import Derived.Deep.QuietTactic
import Derived.BigQuiet
import Derived.WideLaws
import Derived.Deep.DeepCutAuto
import Derived.Deep.CutBlock
import Derived.Deep.RegionHeld3
import Derived.Laws.Rows
import Derived.Lib.AppendStr
import Derived.ArgAppend
import Derived.Laws.IdiomCopy
import Derived.OrdersHeld
import Derived.Laws.BitsLemmas
import Derived.RowKit
import Derived.Test.YtkolleohenjhmaaDoorT
import Derived.Test.YtkolleohenjhmaaDoorWWords
import Derived.Test.YtkolleohenjhmaaDoorWLast
import Derived.Test.YtkolleohenjhmaaDoorWTab
import Derived.Test.YtkolleohenjhmaaDoorWFour
import Derived.Test.YtkolleohenjhmaaDoorWQPut
import Derived.Test.YtkolleohenjhmaaDoorWApart
import Derived.Test.YtkolleohenjhmaaDoorWArr
import Derived.Test.YtkolleohenjhmaaDoorWZeros
import Derived.Test.YtkolleohenjhmaaDoorWFoot
import Derived.Test.YtkolleohenjhmaaDoorWKept
import Derived.Test.YtkolleohenjhmaaDoorWShare
import Derived.Test.YtkolleohenjhmaaDoorWN
import Derived.Test.YtkolleohenjhmaaDoorWFootNe
import Derived.Test.YtkolleohenjhmaaDoorWAt
import Derived.Test.YtkolleohenjhmaaDoorWEqStruct
import Derived.Test.YtkolleohenjhmaaDoorWRepsOne
import Derived.Test.YtkolleohenjhmaaDoorWInv
import Derived.Test.YtkolleohenjhmaaDoorWInvWords
import Derived.Test.YtkolleohenjhmaaDoorWGuard
import Derived.Test.YtkolleohenjhmaaDoorWNEv
import Derived.Test.YtkolleohenjhmaaDoorWMore
namespace Go.Proofs.YtkolleohenjhmaaDoor.X
open Go.RowKit Go.Proofs.YtkolleohenjhmaaDoorW.PrintWords Go.Proofs.YtkolleohenjhmaaDoorW.PrintLast Go.Proofs.YtkolleohenjhmaaDoorW.PrintMore
attribute [local go_sem] max2_int min2_int max_two min_two max_three min_three max_four min_four   -- for this text's walks alone
set_option linter.unusedVariables false
set_option linter.unusedSimpArgs false



def errW : Option Int → Value
  | none => .nilIface
  | some c => .iface 0 (.int .i64 c)
theorem errW_none : errW none = .nilIface := rfl
theorem errW_some (c : Int) : errW (some c) = .iface 0 (.int .i64 c) := rfl

theorem info5 : (Tryd.prog.info? 5).map (fun i => (i.zero, i.size, i.bytes)) = some (some (.int .u8 0), 1, 1) := by kernel_rfl
theorem info38 : (Tryd.prog.info? 38).map (fun i => (i.zero, i.size, i.bytes)) = some (some (.agg #[(.int .i64 0), (.string ⟨#[]⟩), (.slice none 0 0), (.int .u32 0), (.int .i64 0), (.int .u64 0), (.int .u64 0), (.int .u64 0), (.bool false), (.bool false)]), 10, 96) := by kernel_rfl
theorem info40 : (Tryd.prog.info? 40).map (fun i => (i.zero, i.size, i.bytes)) = some (some (.agg #[(.int .i64 0), (.slice none 0 0), (.int .u32 0), (.int .u64 0), (.int .i64 0), (.int .u64 0), (.bool false), (.bool false), (.bool false)]), 9, 72) := by kernel_rfl
-- the values' own types
def rd_L3 (xs : List (List ByteArray)) (i : Int) : (List ByteArray) := xs.getD i.toNat ([] : List ByteArray)
theorem at_L3 {w : World} {A : Option Addr} {n : Nat} {xs : List (List ByteArray)} (h : Kd.C (Kd.slice 9 Kd.string) w A n xs) (i : Int) (h0 : 0 ≤ i) (h1 : i < n) : ∃ ad A0 c0, A = some ad ∧ w.cell? (ad.add i.toNat) = some (.slice A0 (rd_L3 xs i).length c0) ∧ (rd_L3 xs i).length ≤ c0 ∧ Kd.string.C w A0 (rd_L3 xs i).length (rd_L3 xs i) := by
  obtain ⟨ad, c, e, _, hK, hc0⟩ := Kd.C_get h ([] : List ByteArray) i h0 h1
  have hc : ∀ j u, c[j]? = some u → w.cell? (ad.add (i.toNat * 1 + j)) = some u := hc0
  obtain ⟨A0, c0, rfl, l0, g0⟩ := hK
  exact ⟨ad, A0, c0, e, by have hq := hc 0 _ rfl; rwa [Nat.mul_one, Nat.add_zero] at hq, l0, g0⟩

def rd_L5 (xs : List (List Int)) (i : Int) : (List Int) := xs.getD i.toNat ([] : List Int)
theorem at_L5 {w : World} {A : Option Addr} {n : Nat} {xs : List (List Int)} (h : Kd.C (Kd.slice 5 (Kd.int .u8)) w A n xs) (i : Int) (h0 : 0 ≤ i) (h1 : i < n) : ∃ ad A0 c0, A = some ad ∧ w.cell? (ad.add i.toNat) = some (.slice A0 (rd_L5 xs i).length c0) ∧ (rd_L5 xs i).length ≤ c0 ∧ (Kd.int .u8).C w A0 (rd_L5 xs i).length (rd_L5 xs i) := by
  obtain ⟨ad, c, e, _, hK, hc0⟩ := Kd.C_get h ([] : List Int) i h0 h1
  have hc : ∀ j u, c[j]? = some u → w.cell? (ad.add (i.toNat * 1 + j)) = some u := hc0
  obtain ⟨A0, c0, rfl, l0, g0⟩ := hK
  exact ⟨ad, A0, c0, e, by have hq := hc 0 _ rfl; rwa [Nat.mul_one, Nat.add_zero] at hq, l0, g0⟩

/-! #### struct type 38 -/
structure S38 where
  f0 : Int
  f1 : ByteArray
  f2 : (List Int)
  f3 : Int
  f4 : Int
  f5 : Int
  f6 : Int
  f7 : Int
  f8 : Bool
  f9 : Bool
def z38 : S38 := ⟨(0 : Int), (⟨#[]⟩ : ByteArray), ([] : List Int), (0 : Int), (0 : Int), (0 : Int), (0 : Int), (0 : Int), false, false⟩
def k38 : Kd S38 := Kd.iso (Kd.pair (Kd.int .i64) (Kd.pair Kd.string (Kd.pair (Kd.slice 5 (Kd.int .u8)) (Kd.pair (Kd.int .u32) (Kd.pair (Kd.int .i64) (Kd.pair (Kd.int .u64) (Kd.pair (Kd.int .u64) (Kd.pair (Kd.int .u64) (Kd.pair Kd.bool Kd.bool))))))))) (fun x : S38 => (x.f0, x.f1, x.f2, x.f3, x.f4, x.f5, x.f6, x.f7, x.f8, x.f9))
theorem k38_open {w : World} {x : S38} {cs : List Value} (h : k38.K w x cs) : ∃ A2 c2, cs = [.int .i64 x.f0, .string x.f1, .slice A2 x.f2.length c2, .int .u32 x.f3, .int .i64 x.f4, .int .u64 x.f5, .int .u64 x.f6, .int .u64 x.f7, .bool x.f8, .bool x.f9] ∧ x.f2.length ≤ c2 ∧ (Kd.int .u8).C w A2 x.f2.length x.f2 := by
  obtain ⟨_, _, rfl, rfl, ⟨_, _, rfl, rfl, ⟨_, _, rfl, ⟨A2, c2, rfl, l2, g2⟩, ⟨_, _, rfl, rfl, ⟨_, _, rfl, rfl, ⟨_, _, rfl, rfl, ⟨_, _, rfl, rfl, ⟨_, _, rfl, rfl, ⟨_, _, rfl, rfl, rfl⟩⟩⟩⟩⟩⟩⟩⟩⟩ := h
  exact ⟨A2, c2, rfl, l2, g2⟩
theorem k38_openM {w : World} {base : Nat} {ok : Nat → Prop} {x : S38} {cs : List Value} (h : k38.M w base ok x cs) : ∃ v2, cs = [.int .i64 x.f0, .string x.f1, v2, .int .u32 x.f3, .int .i64 x.f4, .int .u64 x.f5, .int .u64 x.f6, .int .u64 x.f7, .bool x.f8, .bool x.f9] ∧ (Kd.int .u8).R 5 w base ok v2 x.f2 := by
  obtain ⟨_, _, rfl, rfl, ⟨_, _, rfl, rfl, ⟨_, _, rfl, ⟨v2, rfl, g2⟩, ⟨_, _, rfl, rfl, ⟨_, _, rfl, rfl, ⟨_, _, rfl, rfl, ⟨_, _, rfl, rfl, ⟨_, _, rfl, rfl, ⟨_, _, rfl, rfl, rfl⟩⟩⟩⟩⟩⟩⟩⟩⟩ := h
  exact ⟨v2, rfl, g2⟩
theorem k38_mk (w : World) (x : S38) {A2 : Option Addr} {c2 : Nat} (l2 : x.f2.length ≤ c2) (g2 : (Kd.int .u8).C w A2 x.f2.length x.f2) : k38.K w x [.int .i64 x.f0, .string x.f1, .slice A2 x.f2.length c2, .int .u32 x.f3, .int .i64 x.f4, .int .u64 x.f5, .int .u64 x.f6, .int .u64 x.f7, .bool x.f8, .bool x.f9] := ⟨[.int .i64 x.f0], [.string x.f1, .slice A2 x.f2.length c2, .int .u32 x.f3, .int .i64 x.f4, .int .u64 x.f5, .int .u64 x.f6, .int .u64 x.f7, .bool x.f8, .bool x.f9], rfl, rfl, ⟨[.string x.f1], [.slice A2 x.f2.length c2, .int .u32 x.f3, .int .i64 x.f4, .int .u64 x.f5, .int .u64 x.f6, .int .u64 x.f7, .bool x.f8, .bool x.f9], rfl, rfl, ⟨[.slice A2 x.f2.length c2], [.int .u32 x.f3, .int .i64 x.f4, .int .u64 x.f5, .int .u64 x.f6, .int .u64 x.f7, .bool x.f8, .bool x.f9], rfl, ⟨A2, c2, rfl, l2, g2⟩, ⟨[.int .u32 x.f3], [.int .i64 x.f4, .int .u64 x.f5, .int .u64 x.f6, .int .u64 x.f7, .bool x.f8, .bool x.f9], rfl, rfl, ⟨[.int .i64 x.f4], [.int .u64 x.f5, .int .u64 x.f6, .int .u64 x.f7, .bool x.f8, .bool x.f9], rfl, rfl, ⟨[.int .u64 x.f5], [.int .u64 x.f6, .int .u64 x.f7, .bool x.f8, .bool x.f9], rfl, rfl, ⟨[.int .u64 x.f6], [.int .u64 x.f7, .bool x.f8, .bool x.f9], rfl, rfl, ⟨[.int .u64 x.f7], [.bool x.f8, .bool x.f9], rfl, rfl, ⟨[.bool x.f8], [.bool x.f9], rfl, rfl, rfl⟩⟩⟩⟩⟩⟩⟩⟩⟩
theorem k38_mkM (w : World) (base : Nat) (ok : Nat → Prop) (x : S38) {v2 : Value} (g2 : (Kd.int .u8).R 5 w base ok v2 x.f2) : k38.M w base ok x [.int .i64 x.f0, .string x.f1, v2, .int .u32 x.f3, .int .i64 x.f4, .int .u64 x.f5, .int .u64 x.f6, .int .u64 x.f7, .bool x.f8, .bool x.f9] := ⟨[.int .i64 x.f0], [.string x.f1, v2, .int .u32 x.f3, .int .i64 x.f4, .int .u64 x.f5, .int .u64 x.f6, .int .u64 x.f7, .bool x.f8, .bool x.f9], rfl, rfl, ⟨[.string x.f1], [v2, .int .u32 x.f3, .int .i64 x.f4, .int .u64 x.f5, .int .u64 x.f6, .int .u64 x.f7, .bool x.f8, .bool x.f9], rfl, rfl, ⟨[v2], [.int .u32 x.f3, .int .i64 x.f4, .int .u64 x.f5, .int .u64 x.f6, .int .u64 x.f7, .bool x.f8, .bool x.f9], rfl, ⟨v2, rfl, g2⟩, ⟨[.int .u32 x.f3], [.int .i64 x.f4, .int .u64 x.f5, .int .u64 x.f6, .int .u64 x.f7, .bool x.f8, .bool x.f9], rfl, rfl, ⟨[.int .i64 x.f4], [.int .u64 x.f5, .int .u64 x.f6, .int .u64 x.f7, .bool x.f8, .bool x.f9], rfl, rfl, ⟨[.int .u64 x.f5], [.int .u64 x.f6, .int .u64 x.f7, .bool x.f8, .bool x.f9], rfl, rfl, ⟨[.int .u64 x.f6], [.int .u64 x.f7, .bool x.f8, .bool x.f9], rfl, rfl, ⟨[.int .u64 x.f7], [.bool x.f8, .bool x.f9], rfl, rfl, ⟨[.bool x.f8], [.bool x.f9], rfl, rfl, rfl⟩⟩⟩⟩⟩⟩⟩⟩⟩
theorem k38_openF {W : World} {ok : Nat → Prop} {x : S38} {cs : List Value} (h : Kd.FK k38 W ok x cs) : ∃ A2 c2, cs = [.int .i64 x.f0, .string x.f1, .slice A2 x.f2.length c2, .int .u32 x.f3, .int .i64 x.f4, .int .u64 x.f5, .int .u64 x.f6, .int .u64 x.f7, .bool x.f8, .bool x.f9] ∧ x.f2.length ≤ c2 ∧ Kd.F (Kd.int .u8) W ok A2 x.f2.length x.f2 := by
  obtain ⟨A2, c2, rfl, l2, _⟩ := k38_open (Kd.FK_now h)
  exact ⟨A2, c2, rfl, l2, (fun W' hW => by obtain ⟨A2_, c2_, he, l2_, g2_⟩ := k38_open (h W' hW); injection (Option.some.inj (show some (Value.slice A2 x.f2.length c2) = some (Value.slice A2_ x.f2.length c2_) from congrArg (fun l => l[2]?) he)) with ha_ _ _; rw [ha_]; exact g2_)⟩
theorem k38_mkF (W : World) (ok : Nat → Prop) (x : S38) {A2 : Option Addr} {c2 : Nat} (l2 : x.f2.length ≤ c2) (g2 : Kd.F (Kd.int .u8) W ok A2 x.f2.length x.f2) : Kd.FK k38 W ok x [.int .i64 x.f0, .string x.f1, .slice A2 x.f2.length c2, .int .u32 x.f3, .int .i64 x.f4, .int .u64 x.f5, .int .u64 x.f6, .int .u64 x.f7, .bool x.f8, .bool x.f9] := fun W2 hW => k38_mk W2 x l2 (g2 W2 hW)
def rd_T38 (xs : List S38) (i : Int) : S38 := xs.getD i.toNat z38
theorem at_T38 {w : World} {A : Option Addr} {n : Nat} {xs : List S38} (h : Kd.C k38 w A n xs) (i : Int) (h0 : 0 ≤ i) (h1 : i < n) : ∃ ad A2 c2, A = some ad ∧ w.cell? (ad.add (i.toNat * 10)) = some (.int .i64 (rd_T38 xs i).f0) ∧ w.cell? ⟨(ad.add (i.toNat * 10)).block, (ad.add (i.toNat * 10)).off + 1, none⟩ = some (.string (rd_T38 xs i).f1) ∧ w.cell? ⟨(ad.add (i.toNat * 10)).block, (ad.add (i.toNat * 10)).off + 2, none⟩ = some (.slice A2 (rd_T38 xs i).f2.length c2) ∧ w.cell? ⟨(ad.add (i.toNat * 10)).block, (ad.add (i.toNat * 10)).off + 3, none⟩ = some (.int .u32 (rd_T38 xs i).f3) ∧ w.cell? ⟨(ad.add (i.toNat * 10)).block, (ad.add (i.toNat * 10)).off + 4, none⟩ = some (.int .i64 (rd_T38 xs i).f4) ∧ w.cell? ⟨(ad.add (i.toNat * 10)).block, (ad.add (i.toNat * 10)).off + 5, none⟩ = some (.int .u64 (rd_T38 xs i).f5) ∧ w.cell? ⟨(ad.add (i.toNat * 10)).block, (ad.add (i.toNat * 10)).off + 6, none⟩ = some (.int .u64 (rd_T38 xs i).f6) ∧ w.cell? ⟨(ad.add (i.toNat * 10)).block, (ad.add (i.toNat * 10)).off + 7, none⟩ = some (.int .u64 (rd_T38 xs i).f7) ∧ w.cell? ⟨(ad.add (i.toNat * 10)).block, (ad.add (i.toNat * 10)).off + 8, none⟩ = some (.bool (rd_T38 xs i).f8) ∧ w.cell? ⟨(ad.add (i.toNat * 10)).block, (ad.add (i.toNat * 10)).off + 9, none⟩ = some (.bool (rd_T38 xs i).f9) ∧ (rd_T38 xs i).f2.length ≤ c2 ∧ (Kd.int .u8).C w A2 (rd_T38 xs i).f2.length (rd_T38 xs i).f2 := by
  obtain ⟨ad, c, e, _, hK, hc0⟩ := Kd.C_get h z38 i h0 h1
  have hc : ∀ j u, c[j]? = some u → w.cell? (ad.add (i.toNat * 10 + j)) = some u := hc0
  obtain ⟨A2, c2, rfl, l2, g2⟩ := k38_open hK
  exact ⟨ad, A2, c2, e, hc 0 _ rfl, by rw [← add_field _ _ 1 (by omega)]; exact hc 1 _ rfl, by rw [← add_field _ _ 2 (by omega)]; exact hc 2 _ rfl, by rw [← add_field _ _ 3 (by omega)]; exact hc 3 _ rfl, by rw [← add_field _ _ 4 (by omega)]; exact hc 4 _ rfl, by rw [← add_field _ _ 5 (by omega)]; exact hc 5 _ rfl, by rw [← add_field _ _ 6 (by omega)]; exact hc 6 _ rfl, by rw [← add_field _ _ 7 (by omega)]; exact hc 7 _ rfl, by rw [← add_field _ _ 8 (by omega)]; exact hc 8 _ rfl, by rw [← add_field _ _ 9 (by omega)]; exact hc 9 _ rfl, l2, g2⟩

def rd_L9 (xs : List (List S38)) (i : Int) : (List S38) := xs.getD i.toNat ([] : List S38)
theorem at_L9 {w : World} {A : Option Addr} {n : Nat} {xs : List (List S38)} (h : Kd.C (Kd.slice 38 k38) w A n xs) (i : Int) (h0 : 0 ≤ i) (h1 : i < n) : ∃ ad A0 c0, A = some ad ∧ w.cell? (ad.add i.toNat) = some (.slice A0 (rd_L9 xs i).length c0) ∧ (rd_L9 xs i).length ≤ c0 ∧ k38.C w A0 (rd_L9 xs i).length (rd_L9 xs i) := by
  obtain ⟨ad, c, e, _, hK, hc0⟩ := Kd.C_get h ([] : List S38) i h0 h1
  have hc : ∀ j u, c[j]? = some u → w.cell? (ad.add (i.toNat * 1 + j)) = some u := hc0
  obtain ⟨A0, c0, rfl, l0, g0⟩ := hK
  exact ⟨ad, A0, c0, e, by have hq := hc 0 _ rfl; rwa [Nat.mul_one, Nat.add_zero] at hq, l0, g0⟩

/-! #### struct type 26 -/
structure S26 where
  f0 : Int
  f1 : ByteArray
  f2 : Int
  f3 : Int
  f4 : Bool
  f5 : Bool
  f6 : ByteArray
  f7 : (List ByteArray)
  f8 : (List ByteArray)
  f9 : Bool
def z26 : S26 := ⟨(0 : Int), (⟨#[]⟩ : ByteArray), (0 : Int), (0 : Int), false, false, (⟨#[]⟩ : ByteArray), ([] : List ByteArray), ([] : List ByteArray), false⟩
def k26 : Kd S26 := Kd.iso (Kd.pair (Kd.int .i64) (Kd.pair Kd.string (Kd.pair (Kd.int .i64) (Kd.pair (Kd.int .u32) (Kd.pair Kd.bool (Kd.pair Kd.bool (Kd.pair Kd.string (Kd.pair (Kd.slice 9 Kd.string) (Kd.pair (Kd.slice 9 Kd.string) Kd.bool))))))))) (fun x : S26 => (x.f0, x.f1, x.f2, x.f3, x.f4, x.f5, x.f6, x.f7, x.f8, x.f9))
theorem k26_open {w : World} {x : S26} {cs : List Value} (h : k26.K w x cs) : ∃ A7 c7 A8 c8, cs = [.int .i64 x.f0, .string x.f1, .int .i64 x.f2, .int .u32 x.f3, .bool x.f4, .bool x.f5, .string x.f6, .slice A7 x.f7.length c7, .slice A8 x.f8.length c8, .bool x.f9] ∧ x.f7.length ≤ c7 ∧ Kd.string.C w A7 x.f7.length x.f7 ∧ x.f8.length ≤ c8 ∧ Kd.string.C w A8 x.f8.length x.f8 := by
  obtain ⟨_, _, rfl, rfl, ⟨_, _, rfl, rfl, ⟨_, _, rfl, rfl, ⟨_, _, rfl, rfl, ⟨_, _, rfl, rfl, ⟨_, _, rfl, rfl, ⟨_, _, rfl, rfl, ⟨_, _, rfl, ⟨A7, c7, rfl, l7, g7⟩, ⟨_, _, rfl, ⟨A8, c8, rfl, l8, g8⟩, rfl⟩⟩⟩⟩⟩⟩⟩⟩⟩ := h
  exact ⟨A7, c7, A8, c8, rfl, l7, g7, l8, g8⟩
theorem k26_openM {w : World} {base : Nat} {ok : Nat → Prop} {x : S26} {cs : List Value} (h : k26.M w base ok x cs) : ∃ v7 v8, cs = [.int .i64 x.f0, .string x.f1, .int .i64 x.f2, .int .u32 x.f3, .bool x.f4, .bool x.f5, .string x.f6, v7, v8, .bool x.f9] ∧ Kd.string.R 9 w base ok v7 x.f7 ∧ Kd.string.R 9 w base ok v8 x.f8 := by
  obtain ⟨_, _, rfl, rfl, ⟨_, _, rfl, rfl, ⟨_, _, rfl, rfl, ⟨_, _, rfl, rfl, ⟨_, _, rfl, rfl, ⟨_, _, rfl, rfl, ⟨_, _, rfl, rfl, ⟨_, _, rfl, ⟨v7, rfl, g7⟩, ⟨_, _, rfl, ⟨v8, rfl, g8⟩, rfl⟩⟩⟩⟩⟩⟩⟩⟩⟩ := h
  exact ⟨v7, v8, rfl, g7, g8⟩
theorem k26_mk (w : World) (x : S26) {A7 : Option Addr} {c7 : Nat} (l7 : x.f7.length ≤ c7) (g7 : Kd.string.C w A7 x.f7.length x.f7) {A8 : Option Addr} {c8 : Nat} (l8 : x.f8.length ≤ c8) (g8 : Kd.string.C w A8 x.f8.length x.f8) : k26.K w x [.int .i64 x.f0, .string x.f1, .int .i64 x.f2, .int .u32 x.f3, .bool x.f4, .bool x.f5, .string x.f6, .slice A7 x.f7.length c7, .slice A8 x.f8.length c8, .bool x.f9] := ⟨[.int .i64 x.f0], [.string x.f1, .int .i64 x.f2, .int .u32 x.f3, .bool x.f4, .bool x.f5, .string x.f6, .slice A7 x.f7.length c7, .slice A8 x.f8.length c8, .bool x.f9], rfl, rfl, ⟨[.string x.f1], [.int .i64 x.f2, .int .u32 x.f3, .bool x.f4, .bool x.f5, .string x.f6, .slice A7 x.f7.length c7, .slice A8 x.f8.length c8, .bool x.f9], rfl, rfl, ⟨[.int .i64 x.f2], [.int .u32 x.f3, .bool x.f4, .bool x.f5, .string x.f6, .slice A7 x.f7.length c7, .slice A8 x.f8.length c8, .bool x.f9], rfl, rfl, ⟨[.int .u32 x.f3], [.bool x.f4, .bool x.f5, .string x.f6, .slice A7 x.f7.length c7, .slice A8 x.f8.length c8, .bool x.f9], rfl, rfl, ⟨[.bool x.f4], [.bool x.f5, .string x.f6, .slice A7 x.f7.length c7, .slice A8 x.f8.length c8, .bool x.f9], rfl, rfl, ⟨[.bool x.f5], [.string x.f6, .slice A7 x.f7.length c7, .slice A8 x.f8.length c8, .bool x.f9], rfl, rfl, ⟨[.string x.f6], [.slice A7 x.f7.length c7, .slice A8 x.f8.length c8, .bool x.f9], rfl, rfl, ⟨[.slice A7 x.f7.length c7], [.slice A8 x.f8.length c8, .bool x.f9], rfl, ⟨A7, c7, rfl, l7, g7⟩, ⟨[.slice A8 x.f8.length c8], [.bool x.f9], rfl, ⟨A8, c8, rfl, l8, g8⟩, rfl⟩⟩⟩⟩⟩⟩⟩⟩⟩
theorem k26_mkM (w : World) (base : Nat) (ok : Nat → Prop) (x : S26) {v7 : Value} (g7 : Kd.string.R 9 w base ok v7 x.f7) {v8 : Value} (g8 : Kd.string.R 9 w base ok v8 x.f8) : k26.M w base ok x [.int .i64 x.f0, .string x.f1, .int .i64 x.f2, .int .u32 x.f3, .bool x.f4, .bool x.f5, .string x.f6, v7, v8, .bool x.f9] := ⟨[.int .i64 x.f0], [.string x.f1, .int .i64 x.f2, .int .u32 x.f3, .bool x.f4, .bool x.f5, .string x.f6, v7, v8, .bool x.f9], rfl, rfl, ⟨[.string x.f1], [.int .i64 x.f2, .int .u32 x.f3, .bool x.f4, .bool x.f5, .string x.f6, v7, v8, .bool x.f9], rfl, rfl, ⟨[.int .i64 x.f2], [.int .u32 x.f3, .bool x.f4, .bool x.f5, .string x.f6, v7, v8, .bool x.f9], rfl, rfl, ⟨[.int .u32 x.f3], [.bool x.f4, .bool x.f5, .string x.f6, v7, v8, .bool x.f9], rfl, rfl, ⟨[.bool x.f4], [.bool x.f5, .string x.f6, v7, v8, .bool x.f9], rfl, rfl, ⟨[.bool x.f5], [.string x.f6, v7, v8, .bool x.f9], rfl, rfl, ⟨[.string x.f6], [v7, v8, .bool x.f9], rfl, rfl, ⟨[v7], [v8, .bool x.f9], rfl, ⟨v7, rfl, g7⟩, ⟨[v8], [.bool x.f9], rfl, ⟨v8, rfl, g8⟩, rfl⟩⟩⟩⟩⟩⟩⟩⟩⟩
theorem k26_openF {W : World} {ok : Nat → Prop} {x : S26} {cs : List Value} (h : Kd.FK k26 W ok x cs) : ∃ A7 c7 A8 c8, cs = [.int .i64 x.f0, .string x.f1, .int .i64 x.f2, .int .u32 x.f3, .bool x.f4, .bool x.f5, .string x.f6, .slice A7 x.f7.length c7, .slice A8 x.f8.length c8, .bool x.f9] ∧ x.f7.length ≤ c7 ∧ Kd.F Kd.string W ok A7 x.f7.length x.f7 ∧ x.f8.length ≤ c8 ∧ Kd.F Kd.string W ok A8 x.f8.length x.f8 := by
  obtain ⟨A7, c7, A8, c8, rfl, l7, _, l8, _⟩ := k26_open (Kd.FK_now h)
  exact ⟨A7, c7, A8, c8, rfl, l7, (fun W' hW => by obtain ⟨A7_, c7_, A8_, c8_, he, l7_, g7_, l8_, g8_⟩ := k26_open (h W' hW); injection (Option.some.inj (show some (Value.slice A7 x.f7.length c7) = some (Value.slice A7_ x.f7.length c7_) from congrArg (fun l => l[7]?) he)) with ha_ _ _; rw [ha_]; exact g7_), l8, (fun W' hW => by obtain ⟨A7_, c7_, A8_, c8_, he, l7_, g7_, l8_, g8_⟩ := k26_open (h W' hW); injection (Option.some.inj (show some (Value.slice A8 x.f8.length c8) = some (Value.slice A8_ x.f8.length c8_) from congrArg (fun l => l[8]?) he)) with ha_ _ _; rw [ha_]; exact g8_)⟩
theorem k26_mkF (W : World) (ok : Nat → Prop) (x : S26) {A7 : Option Addr} {c7 : Nat} (l7 : x.f7.length ≤ c7) (g7 : Kd.F Kd.string W ok A7 x.f7.length x.f7) {A8 : Option Addr} {c8 : Nat} (l8 : x.f8.length ≤ c8) (g8 : Kd.F Kd.string W ok A8 x.f8.length x.f8) : Kd.FK k26 W ok x [.int .i64 x.f0, .string x.f1, .int .i64 x.f2, .int .u32 x.f3, .bool x.f4, .bool x.f5, .string x.f6, .slice A7 x.f7.length c7, .slice A8 x.f8.length c8, .bool x.f9] := fun W2 hW => k26_mk W2 x l7 (g7 W2 hW) l8 (g8 W2 hW)
def rd_T26 (xs : List S26) (i : Int) : S26 := xs.getD i.toNat z26
theorem at_T26 {w : World} {A : Option Addr} {n : Nat} {xs : List S26} (h : Kd.C k26 w A n xs) (i : Int) (h0 : 0 ≤ i) (h1 : i < n) : ∃ ad A7 c7 A8 c8, A = some ad ∧ w.cell? (ad.add (i.toNat * 10)) = some (.int .i64 (rd_T26 xs i).f0) ∧ w.cell? ⟨(ad.add (i.toNat * 10)).block, (ad.add (i.toNat * 10)).off + 1, none⟩ = some (.string (rd_T26 xs i).f1) ∧ w.cell? ⟨(ad.add (i.toNat * 10)).block, (ad.add (i.toNat * 10)).off + 2, none⟩ = some (.int .i64 (rd_T26 xs i).f2) ∧ w.cell? ⟨(ad.add (i.toNat * 10)).block, (ad.add (i.toNat * 10)).off + 3, none⟩ = some (.int .u32 (rd_T26 xs i).f3) ∧ w.cell? ⟨(ad.add (i.toNat * 10)).block, (ad.add (i.toNat * 10)).off + 4, none⟩ = some (.bool (rd_T26 xs i).f4) ∧ w.cell? ⟨(ad.add (i.toNat * 10)).block, (ad.add (i.toNat * 10)).off + 5, none⟩ = some (.bool (rd_T26 xs i).f5) ∧ w.cell? ⟨(ad.add (i.toNat * 10)).block, (ad.add (i.toNat * 10)).off + 6, none⟩ = some (.string (rd_T26 xs i).f6) ∧ w.cell? ⟨(ad.add (i.toNat * 10)).block, (ad.add (i.toNat * 10)).off + 7, none⟩ = some (.slice A7 (rd_T26 xs i).f7.length c7) ∧ w.cell? ⟨(ad.add (i.toNat * 10)).block, (ad.add (i.toNat * 10)).off + 8, none⟩ = some (.slice A8 (rd_T26 xs i).f8.length c8) ∧ w.cell? ⟨(ad.add (i.toNat * 10)).block, (ad.add (i.toNat * 10)).off + 9, none⟩ = some (.bool (rd_T26 xs i).f9) ∧ (rd_T26 xs i).f7.length ≤ c7 ∧ Kd.string.C w A7 (rd_T26 xs i).f7.length (rd_T26 xs i).f7 ∧ (rd_T26 xs i).f8.length ≤ c8 ∧ Kd.string.C w A8 (rd_T26 xs i).f8.length (rd_T26 xs i).f8 := by
  obtain ⟨ad, c, e, _, hK, hc0⟩ := Kd.C_get h z26 i h0 h1
  have hc : ∀ j u, c[j]? = some u → w.cell? (ad.add (i.toNat * 10 + j)) = some u := hc0
  obtain ⟨A7, c7, A8, c8, rfl, l7, g7, l8, g8⟩ := k26_open hK
  exact ⟨ad, A7, c7, A8, c8, e, hc 0 _ rfl, by rw [← add_field _ _ 1 (by omega)]; exact hc 1 _ rfl, by rw [← add_field _ _ 2 (by omega)]; exact hc 2 _ rfl, by rw [← add_field _ _ 3 (by omega)]; exact hc 3 _ rfl, by rw [← add_field _ _ 4 (by omega)]; exact hc 4 _ rfl, by rw [← add_field _ _ 5 (by omega)]; exact hc 5 _ rfl, by rw [← add_field _ _ 6 (by omega)]; exact hc 6 _ rfl, by rw [← add_field _ _ 7 (by omega)]; exact hc 7 _ rfl, by rw [← add_field _ _ 8 (by omega)]; exact hc 8 _ rfl, by rw [← add_field _ _ 9 (by omega)]; exact hc 9 _ rfl, l7, g7, l8, g8⟩

/-! #### struct type 28 -/
structure S28 where
  f0 : (List S38)
  f1 : S26
def z28 : S28 := ⟨([] : List S38), z26⟩
def k28 : Kd S28 := Kd.iso (Kd.pair (Kd.slice 38 k38) k26) (fun x : S28 => (x.f0, x.f1))
theorem k28_open {w : World} {x : S28} {cs : List Value} (h : k28.K w x cs) : ∃ A0 c0 A8 c8 A9 c9, cs = [.slice A0 x.f0.length c0, .int .i64 x.f1.f0, .string x.f1.f1, .int .i64 x.f1.f2, .int .u32 x.f1.f3, .bool x.f1.f4, .bool x.f1.f5, .string x.f1.f6, .slice A8 x.f1.f7.length c8, .slice A9 x.f1.f8.length c9, .bool x.f1.f9] ∧ x.f0.length ≤ c0 ∧ k38.C w A0 x.f0.length x.f0 ∧ x.f1.f7.length ≤ c8 ∧ Kd.string.C w A8 x.f1.f7.length x.f1.f7 ∧ x.f1.f8.length ≤ c9 ∧ Kd.string.C w A9 x.f1.f8.length x.f1.f8 := by
  obtain ⟨_, _, rfl, ⟨A0, c0, rfl, l0, g0⟩, s1⟩ := h
  obtain ⟨A8, c8, A9, c9, rfl, l8, g8, l9, g9⟩ := k26_open s1
  exact ⟨A0, c0, A8, c8, A9, c9, rfl, l0, g0, l8, g8, l9, g9⟩
theorem k28_openM {w : World} {base : Nat} {ok : Nat → Prop} {x : S28} {cs : List Value} (h : k28.M w base ok x cs) : ∃ v0 v8 v9, cs = [v0, .int .i64 x.f1.f0, .string x.f1.f1, .int .i64 x.f1.f2, .int .u32 x.f1.f3, .bool x.f1.f4, .bool x.f1.f5, .string x.f1.f6, v8, v9, .bool x.f1.f9] ∧ k38.R 38 w base ok v0 x.f0 ∧ Kd.string.R 9 w base ok v8 x.f1.f7 ∧ Kd.string.R 9 w base ok v9 x.f1.f8 := by
  obtain ⟨_, _, rfl, ⟨v0, rfl, g0⟩, s1⟩ := h
  obtain ⟨v8, v9, rfl, g8, g9⟩ := k26_openM s1
  exact ⟨v0, v8, v9, rfl, g0, g8, g9⟩
theorem k28_mk (w : World) (x : S28) {A0 : Option Addr} {c0 : Nat} (l0 : x.f0.length ≤ c0) (g0 : k38.C w A0 x.f0.length x.f0) {A8 : Option Addr} {c8 : Nat} (l8 : x.f1.f7.length ≤ c8) (g8 : Kd.string.C w A8 x.f1.f7.length x.f1.f7) {A9 : Option Addr} {c9 : Nat} (l9 : x.f1.f8.length ≤ c9) (g9 : Kd.string.C w A9 x.f1.f8.length x.f1.f8) : k28.K w x [.slice A0 x.f0.length c0, .int .i64 x.f1.f0, .string x.f1.f1, .int .i64 x.f1.f2, .int .u32 x.f1.f3, .bool x.f1.f4, .bool x.f1.f5, .string x.f1.f6, .slice A8 x.f1.f7.length c8, .slice A9 x.f1.f8.length c9, .bool x.f1.f9] := ⟨[.slice A0 x.f0.length c0], [.int .i64 x.f1.f0, .string x.f1.f1, .int .i64 x.f1.f2, .int .u32 x.f1.f3, .bool x.f1.f4, .bool x.f1.f5, .string x.f1.f6, .slice A8 x.f1.f7.length c8, .slice A9 x.f1.f8.length c9, .bool x.f1.f9], rfl, ⟨A0, c0, rfl, l0, g0⟩, (k26_mk w x.f1 l8 g8 l9 g9)⟩
theorem k28_mkM (w : World) (base : Nat) (ok : Nat → Prop) (x : S28) {v0 : Value} (g0 : k38.R 38 w base ok v0 x.f0) {v8 : Value} (g8 : Kd.string.R 9 w base ok v8 x.f1.f7) {v9 : Value} (g9 : Kd.string.R 9 w base ok v9 x.f1.f8) : k28.M w base ok x [v0, .int .i64 x.f1.f0, .string x.f1.f1, .int .i64 x.f1.f2, .int .u32 x.f1.f3, .bool x.f1.f4, .bool x.f1.f5, .string x.f1.f6, v8, v9, .bool x.f1.f9] := ⟨[v0], [.int .i64 x.f1.f0, .string x.f1.f1, .int .i64 x.f1.f2, .int .u32 x.f1.f3, .bool x.f1.f4, .bool x.f1.f5, .string x.f1.f6, v8, v9, .bool x.f1.f9], rfl, ⟨v0, rfl, g0⟩, (k26_mkM w base ok x.f1 g8 g9)⟩
theorem k28_openF {W : World} {ok : Nat → Prop} {x : S28} {cs : List Value} (h : Kd.FK k28 W ok x cs) : ∃ A0 c0 A8 c8 A9 c9, cs = [.slice A0 x.f0.length c0, .int .i64 x.f1.f0, .string x.f1.f1, .int .i64 x.f1.f2, .int .u32 x.f1.f3, .bool x.f1.f4, .bool x.f1.f5, .string x.f1.f6, .slice A8 x.f1.f7.length c8, .slice A9 x.f1.f8.length c9, .bool x.f1.f9] ∧ x.f0.length ≤ c0 ∧ Kd.F k38 W ok A0 x.f0.length x.f0 ∧ x.f1.f7.length ≤ c8 ∧ Kd.F Kd.string W ok A8 x.f1.f7.length x.f1.f7 ∧ x.f1.f8.length ≤ c9 ∧ Kd.F Kd.string W ok A9 x.f1.f8.length x.f1.f8 := by
  obtain ⟨A0, c0, A8, c8, A9, c9, rfl, l0, _, l8, _, l9, _⟩ := k28_open (Kd.FK_now h)
  exact ⟨A0, c0, A8, c8, A9, c9, rfl, l0, (fun W' hW => by obtain ⟨A0_, c0_, A8_, c8_, A9_, c9_, he, l0_, g0_, l8_, g8_, l9_, g9_⟩ := k28_open (h W' hW); injection (Option.some.inj (show some (Value.slice A0 x.f0.length c0) = some (Value.slice A0_ x.f0.length c0_) from congrArg (fun l => l[0]?) he)) with ha_ _ _; rw [ha_]; exact g0_), l8, (fun W' hW => by obtain ⟨A0_, c0_, A8_, c8_, A9_, c9_, he, l0_, g0_, l8_, g8_, l9_, g9_⟩ := k28_open (h W' hW); injection (Option.some.inj (show some (Value.slice A8 x.f1.f7.length c8) = some (Value.slice A8_ x.f1.f7.length c8_) from congrArg (fun l => l[8]?) he)) with ha_ _ _; rw [ha_]; exact g8_), l9, (fun W' hW => by obtain ⟨A0_, c0_, A8_, c8_, A9_, c9_, he, l0_, g0_, l8_, g8_, l9_, g9_⟩ := k28_open (h W' hW); injection (Option.some.inj (show some (Value.slice A9 x.f1.f8.length c9) = some (Value.slice A9_ x.f1.f8.length c9_) from congrArg (fun l => l[9]?) he)) with ha_ _ _; rw [ha_]; exact g9_)⟩
theorem k28_mkF (W : World) (ok : Nat → Prop) (x : S28) {A0 : Option Addr} {c0 : Nat} (l0 : x.f0.length ≤ c0) (g0 : Kd.F k38 W ok A0 x.f0.length x.f0) {A8 : Option Addr} {c8 : Nat} (l8 : x.f1.f7.length ≤ c8) (g8 : Kd.F Kd.string W ok A8 x.f1.f7.length x.f1.f7) {A9 : Option Addr} {c9 : Nat} (l9 : x.f1.f8.length ≤ c9) (g9 : Kd.F Kd.string W ok A9 x.f1.f8.length x.f1.f8) : Kd.FK k28 W ok x [.slice A0 x.f0.length c0, .int .i64 x.f1.f0, .string x.f1.f1, .int .i64 x.f1.f2, .int .u32 x.f1.f3, .bool x.f1.f4, .bool x.f1.f5, .string x.f1.f6, .slice A8 x.f1.f7.length c8, .slice A9 x.f1.f8.length c9, .bool x.f1.f9] := fun W2 hW => k28_mk W2 x l0 (g0 W2 hW) l8 (g8 W2 hW) l9 (g9 W2 hW)
def rd_T28 (xs : List S28) (i : Int) : S28 := xs.getD i.toNat z28
theorem at_T28 {w : World} {A : Option Addr} {n : Nat} {xs : List S28} (h : Kd.C k28 w A n xs) (i : Int) (h0 : 0 ≤ i) (h1 : i < n) : ∃ ad A0 c0 A8 c8 A9 c9, A = some ad ∧ w.cell? (ad.add (i.toNat * 11)) = some (.slice A0 (rd_T28 xs i).f0.length c0) ∧ w.cell? ⟨(ad.add (i.toNat * 11)).block, (ad.add (i.toNat * 11)).off + 1, none⟩ = some (.int .i64 (rd_T28 xs i).f1.f0) ∧ w.cell? ⟨(ad.add (i.toNat * 11)).block, (ad.add (i.toNat * 11)).off + 2, none⟩ = some (.string (rd_T28 xs i).f1.f1) ∧ w.cell? ⟨(ad.add (i.toNat * 11)).block, (ad.add (i.toNat * 11)).off + 3, none⟩ = some (.int .i64 (rd_T28 xs i).f1.f2) ∧ w.cell? ⟨(ad.add (i.toNat * 11)).block, (ad.add (i.toNat * 11)).off + 4, none⟩ = some (.int .u32 (rd_T28 xs i).f1.f3) ∧ w.cell? ⟨(ad.add (i.toNat * 11)).block, (ad.add (i.toNat * 11)).off + 5, none⟩ = some (.bool (rd_T28 xs i).f1.f4) ∧ w.cell? ⟨(ad.add (i.toNat * 11)).block, (ad.add (i.toNat * 11)).off + 6, none⟩ = some (.bool (rd_T28 xs i).f1.f5) ∧ w.cell? ⟨(ad.add (i.toNat * 11)).block, (ad.add (i.toNat * 11)).off + 7, none⟩ = some (.string (rd_T28 xs i).f1.f6) ∧ w.cell? ⟨(ad.add (i.toNat * 11)).block, (ad.add (i.toNat * 11)).off + 8, none⟩ = some (.slice A8 (rd_T28 xs i).f1.f7.length c8) ∧ w.cell? ⟨(ad.add (i.toNat * 11)).block, (ad.add (i.toNat * 11)).off + 9, none⟩ = some (.slice A9 (rd_T28 xs i).f1.f8.length c9) ∧ w.cell? ⟨(ad.add (i.toNat * 11)).block, (ad.add (i.toNat * 11)).off + 10, none⟩ = some (.bool (rd_T28 xs i).f1.f9) ∧ (rd_T28 xs i).f0.length ≤ c0 ∧ k38.C w A0 (rd_T28 xs i).f0.length (rd_T28 xs i).f0 ∧ (rd_T28 xs i).f1.f7.length ≤ c8 ∧ Kd.string.C w A8 (rd_T28 xs i).f1.f7.length (rd_T28 xs i).f1.f7 ∧ (rd_T28 xs i).f1.f8.length ≤ c9 ∧ Kd.string.C w A9 (rd_T28 xs i).f1.f8.length (rd_T28 xs i).f1.f8 := by
  obtain ⟨ad, c, e, _, hK, hc0⟩ := Kd.C_get h z28 i h0 h1
  have hc : ∀ j u, c[j]? = some u → w.cell? (ad.add (i.toNat * 11 + j)) = some u := hc0
  obtain ⟨A0, c0, A8, c8, A9, c9, rfl, l0, g0, l8, g8, l9, g9⟩ := k28_open hK
  exact ⟨ad, A0, c0, A8, c8, A9, c9, e, hc 0 _ rfl, by rw [← add_field _ _ 1 (by omega)]; exact hc 1 _ rfl, by rw [← add_field _ _ 2 (by omega)]; exact hc 2 _ rfl, by rw [← add_field _ _ 3 (by omega)]; exact hc 3 _ rfl, by rw [← add_field _ _ 4 (by omega)]; exact hc 4 _ rfl, by rw [← add_field _ _ 5 (by omega)]; exact hc 5 _ rfl, by rw [← add_field _ _ 6 (by omega)]; exact hc 6 _ rfl, by rw [← add_field _ _ 7 (by omega)]; exact hc 7 _ rfl, by rw [← add_field _ _ 8 (by omega)]; exact hc 8 _ rfl, by rw [← add_field _ _ 9 (by omega)]; exact hc 9 _ rfl, by rw [← add_field _ _ 10 (by omega)]; exact hc 10 _ rfl, l0, g0, l8, g8, l9, g9⟩

/-! #### struct type 40 -/
structure S40 where
  f0 : Int
  f1 : (List Int)
  f2 : Int
  f3 : Int
  f4 : Int
  f5 : Int
  f6 : Bool
  f7 : Bool
  f8 : Bool
def z40 : S40 := ⟨(0 : Int), ([] : List Int), (0 : Int), (0 : Int), (0 : Int), (0 : Int), false, false, false⟩
def k40 : Kd S40 := Kd.iso (Kd.pair (Kd.int .i64) (Kd.pair (Kd.slice 5 (Kd.int .u8)) (Kd.pair (Kd.int .u32) (Kd.pair (Kd.int .u64) (Kd.pair (Kd.int .i64) (Kd.pair (Kd.int .u64) (Kd.pair Kd.bool (Kd.pair Kd.bool Kd.bool)))))))) (fun x : S40 => (x.f0, x.f1, x.f2, x.f3, x.f4, x.f5, x.f6, x.f7, x.f8))
theorem k40_open {w : World} {x : S40} {cs : List Value} (h : k40.K w x cs) : ∃ A1 c1, cs = [.int .i64 x.f0, .slice A1 x.f1.length c1, .int .u32 x.f2, .int .u64 x.f3, .int .i64 x.f4, .int .u64 x.f5, .bool x.f6, .bool x.f7, .bool x.f8] ∧ x.f1.length ≤ c1 ∧ (Kd.int .u8).C w A1 x.f1.length x.f1 := by
  obtain ⟨_, _, rfl, rfl, ⟨_, _, rfl, ⟨A1, c1, rfl, l1, g1⟩, ⟨_, _, rfl, rfl, ⟨_, _, rfl, rfl, ⟨_, _, rfl, rfl, ⟨_, _, rfl, rfl, ⟨_, _, rfl, rfl, ⟨_, _, rfl, rfl, rfl⟩⟩⟩⟩⟩⟩⟩⟩ := h
  exact ⟨A1, c1, rfl, l1, g1⟩
theorem k40_openM {w : World} {base : Nat} {ok : Nat → Prop} {x : S40} {cs : List Value} (h : k40.M w base ok x cs) : ∃ v1, cs = [.int .i64 x.f0, v1, .int .u32 x.f2, .int .u64 x.f3, .int .i64 x.f4, .int .u64 x.f5, .bool x.f6, .bool x.f7, .bool x.f8] ∧ (Kd.int .u8).R 5 w base ok v1 x.f1 := by
  obtain ⟨_, _, rfl, rfl, ⟨_, _, rfl, ⟨v1, rfl, g1⟩, ⟨_, _, rfl, rfl, ⟨_, _, rfl, rfl, ⟨_, _, rfl, rfl, ⟨_, _, rfl, rfl, ⟨_, _, rfl, rfl, ⟨_, _, rfl, rfl, rfl⟩⟩⟩⟩⟩⟩⟩⟩ := h
  exact ⟨v1, rfl, g1⟩
theorem k40_mk (w : World) (x : S40) {A1 : Option Addr} {c1 : Nat} (l1 : x.f1.length ≤ c1) (g1 : (Kd.int .u8).C w A1 x.f1.length x.f1) : k40.K w x [.int .i64 x.f0, .slice A1 x.f1.length c1, .int .u32 x.f2, .int .u64 x.f3, .int .i64 x.f4, .int .u64 x.f5, .bool x.f6, .bool x.f7, .bool x.f8] := ⟨[.int .i64 x.f0], [.slice A1 x.f1.length c1, .int .u32 x.f2, .int .u64 x.f3, .int .i64 x.f4, .int .u64 x.f5, .bool x.f6, .bool x.f7, .bool x.f8], rfl, rfl, ⟨[.slice A1 x.f1.length c1], [.int .u32 x.f2, .int .u64 x.f3, .int .i64 x.f4, .int .u64 x.f5, .bool x.f6, .bool x.f7, .bool x.f8], rfl, ⟨A1, c1, rfl, l1, g1⟩, ⟨[.int .u32 x.f2], [.int .u64 x.f3, .int .i64 x.f4, .int .u64 x.f5, .bool x.f6, .bool x.f7, .bool x.f8], rfl, rfl, ⟨[.int .u64 x.f3], [.int .i64 x.f4, .int .u64 x.f5, .bool x.f6, .bool x.f7, .bool x.f8], rfl, rfl, ⟨[.int .i64 x.f4], [.int .u64 x.f5, .bool x.f6, .bool x.f7, .bool x.f8], rfl, rfl, ⟨[.int .u64 x.f5], [.bool x.f6, .bool x.f7, .bool x.f8], rfl, rfl, ⟨[.bool x.f6], [.bool x.f7, .bool x.f8], rfl, rfl, ⟨[.bool x.f7], [.bool x.f8], rfl, rfl, rfl⟩⟩⟩⟩⟩⟩⟩⟩
theorem k40_mkM (w : World) (base : Nat) (ok : Nat → Prop) (x : S40) {v1 : Value} (g1 : (Kd.int .u8).R 5 w base ok v1 x.f1) : k40.M w base ok x [.int .i64 x.f0, v1, .int .u32 x.f2, .int .u64 x.f3, .int .i64 x.f4, .int .u64 x.f5, .bool x.f6, .bool x.f7, .bool x.f8] := ⟨[.int .i64 x.f0], [v1, .int .u32 x.f2, .int .u64 x.f3, .int .i64 x.f4, .int .u64 x.f5, .bool x.f6, .bool x.f7, .bool x.f8], rfl, rfl, ⟨[v1], [.int .u32 x.f2, .int .u64 x.f3, .int .i64 x.f4, .int .u64 x.f5, .bool x.f6, .bool x.f7, .bool x.f8], rfl, ⟨v1, rfl, g1⟩, ⟨[.int .u32 x.f2], [.int .u64 x.f3, .int .i64 x.f4, .int .u64 x.f5, .bool x.f6, .bool x.f7, .bool x.f8], rfl, rfl, ⟨[.int .u64 x.f3], [.int .i64 x.f4, .int .u64 x.f5, .bool x.f6, .bool x.f7, .bool x.f8], rfl, rfl, ⟨[.int .i64 x.f4], [.int .u64 x.f5, .bool x.f6, .bool x.f7, .bool x.f8], rfl, rfl, ⟨[.int .u64 x.f5], [.bool x.f6, .bool x.f7, .bool x.f8], rfl, rfl, ⟨[.bool x.f6], [.bool x.f7, .bool x.f8], rfl, rfl, ⟨[.bool x.f7], [.bool x.f8], rfl, rfl, rfl⟩⟩⟩⟩⟩⟩⟩⟩
theorem k40_openF {W : World} {ok : Nat → Prop} {x : S40} {cs : List Value} (h : Kd.FK k40 W ok x cs) : ∃ A1 c1, cs = [.int .i64 x.f0, .slice A1 x.f1.length c1, .int .u32 x.f2, .int .u64 x.f3, .int .i64 x.f4, .int .u64 x.f5, .bool x.f6, .bool x.f7, .bool x.f8] ∧ x.f1.length ≤ c1 ∧ Kd.F (Kd.int .u8) W ok A1 x.f1.length x.f1 := by
  obtain ⟨A1, c1, rfl, l1, _⟩ := k40_open (Kd.FK_now h)
  exact ⟨A1, c1, rfl, l1, (fun W' hW => by obtain ⟨A1_, c1_, he, l1_, g1_⟩ := k40_open (h W' hW); injection (Option.some.inj (show some (Value.slice A1 x.f1.length c1) = some (Value.slice A1_ x.f1.length c1_) from congrArg (fun l => l[1]?) he)) with ha_ _ _; rw [ha_]; exact g1_)⟩
theorem k40_mkF (W : World) (ok : Nat → Prop) (x : S40) {A1 : Option Addr} {c1 : Nat} (l1 : x.f1.length ≤ c1) (g1 : Kd.F (Kd.int .u8) W ok A1 x.f1.length x.f1) : Kd.FK k40 W ok x [.int .i64 x.f0, .slice A1 x.f1.length c1, .int .u32 x.f2, .int .u64 x.f3, .int .i64 x.f4, .int .u64 x.f5, .bool x.f6, .bool x.f7, .bool x.f8] := fun W2 hW => k40_mk W2 x l1 (g1 W2 hW)
def rd_T40 (xs : List S40) (i : Int) : S40 := xs.getD i.toNat z40
theorem at_T40 {w : World} {A : Option Addr} {n : Nat} {xs : List S40} (h : Kd.C k40 w A n xs) (i : Int) (h0 : 0 ≤ i) (h1 : i < n) : ∃ ad A1 c1, A = some ad ∧ w.cell? (ad.add (i.toNat * 9)) = some (.int .i64 (rd_T40 xs i).f0) ∧ w.cell? ⟨(ad.add (i.toNat * 9)).block, (ad.add (i.toNat * 9)).off + 1, none⟩ = some (.slice A1 (rd_T40 xs i).f1.length c1) ∧ w.cell? ⟨(ad.add (i.toNat * 9)).block, (ad.add (i.toNat * 9)).off + 2, none⟩ = some (.int .u32 (rd_T40 xs i).f2) ∧ w.cell? ⟨(ad.add (i.toNat * 9)).block, (ad.add (i.toNat * 9)).off + 3, none⟩ = some (.int .u64 (rd_T40 xs i).f3) ∧ w.cell? ⟨(ad.add (i.toNat * 9)).block, (ad.add (i.toNat * 9)).off + 4, none⟩ = some (.int .i64 (rd_T40 xs i).f4) ∧ w.cell? ⟨(ad.add (i.toNat * 9)).block, (ad.add (i.toNat * 9)).off + 5, none⟩ = some (.int .u64 (rd_T40 xs i).f5) ∧ w.cell? ⟨(ad.add (i.toNat * 9)).block, (ad.add (i.toNat * 9)).off + 6, none⟩ = some (.bool (rd_T40 xs i).f6) ∧ w.cell? ⟨(ad.add (i.toNat * 9)).block, (ad.add (i.toNat * 9)).off + 7, none⟩ = some (.bool (rd_T40 xs i).f7) ∧ w.cell? ⟨(ad.add (i.toNat * 9)).block, (ad.add (i.toNat * 9)).off + 8, none⟩ = some (.bool (rd_T40 xs i).f8) ∧ (rd_T40 xs i).f1.length ≤ c1 ∧ (Kd.int .u8).C w A1 (rd_T40 xs i).f1.length (rd_T40 xs i).f1 := by
  obtain ⟨ad, c, e, _, hK, hc0⟩ := Kd.C_get h z40 i h0 h1
  have hc : ∀ j u, c[j]? = some u → w.cell? (ad.add (i.toNat * 9 + j)) = some u := hc0
  obtain ⟨A1, c1, rfl, l1, g1⟩ := k40_open hK
  exact ⟨ad, A1, c1, e, hc 0 _ rfl, by rw [← add_field _ _ 1 (by omega)]; exact hc 1 _ rfl, by rw [← add_field _ _ 2 (by omega)]; exact hc 2 _ rfl, by rw [← add_field _ _ 3 (by omega)]; exact hc 3 _ rfl, by rw [← add_field _ _ 4 (by omega)]; exact hc 4 _ rfl, by rw [← add_field _ _ 5 (by omega)]; exact hc 5 _ rfl, by rw [← add_field _ _ 6 (by omega)]; exact hc 6 _ rfl, by rw [← add_field _ _ 7 (by omega)]; exact hc 7 _ rfl, by rw [← add_field _ _ 8 (by omega)]; exact hc 8 _ rfl, l1, g1⟩

def rd_L13 (xs : List (List S40)) (i : Int) : (List S40) := xs.getD i.toNat ([] : List S40)
theorem at_L13 {w : World} {A : Option Addr} {n : Nat} {xs : List (List S40)} (h : Kd.C (Kd.slice 40 k40) w A n xs) (i : Int) (h0 : 0 ≤ i) (h1 : i < n) : ∃ ad A0 c0, A = some ad ∧ w.cell? (ad.add i.toNat) = some (.slice A0 (rd_L13 xs i).length c0) ∧ (rd_L13 xs i).length ≤ c0 ∧ k40.C w A0 (rd_L13 xs i).length (rd_L13 xs i) := by
  obtain ⟨ad, c, e, _, hK, hc0⟩ := Kd.C_get h ([] : List S40) i h0 h1
  have hc : ∀ j u, c[j]? = some u → w.cell? (ad.add (i.toNat * 1 + j)) = some u := hc0
  obtain ⟨A0, c0, rfl, l0, g0⟩ := hK
  exact ⟨ad, A0, c0, e, by have hq := hc 0 _ rfl; rwa [Nat.mul_one, Nat.add_zero] at hq, l0, g0⟩

end Go.Proofs.YtkolleohenjhmaaDoor.X
