/- Chapter 15's reference: its answer is the program's. -/
import Derived.Test.YtkolleohenjhmaaDoorRefV
import Derived.Test.YtkolleohenjhmaaDoorPSilent
import Derived.Deep.RegionHeld3
namespace Go.Proofs.YtkolleohenjhmaaDoor.X
open Go.RowKit Go.Proofs.YtkolleohenjhmaaDoorW.PrintWords Go.Proofs.YtkolleohenjhmaaDoorW.PrintMore
set_option linter.unusedVariables false
set_option linter.unusedSimpArgs false

theorem Ev.pos {α : Type} {c : Prop} [Decidable c] {f g : Nat → Option α} {r : α} (h : c) (k : Ev f r) : Ev (fun n => if c then f n else g n) r := by
  obtain ⟨K, hK⟩ := k
  exact ⟨K, fun n hn => by simp only [if_pos h]; exact hK n hn⟩
theorem Ev.neg {α : Type} {c : Prop} [Decidable c] {f g : Nat → Option α} {r : α} (h : ¬ c) (k : Ev g r) : Ev (fun n => if c then f n else g n) r := by
  obtain ⟨K, hK⟩ := k
  exact ⟨K, fun n hn => by simp only [if_neg h]; exact hK n hn⟩
theorem ev_to {α : Type} {g : Nat → Option α} {r s : α} (h : Ev g r) (e : r = s) : Ev g s := e ▸ h
theorem bs_add_nil (a : ByteArray) : a ++ (⟨#[]⟩ : ByteArray) = a := by
  rcases a with ⟨⟨l⟩⟩
  apply ByteArray.ext
  simp [ByteArray.data_append]
theorem bs_nil_add (a : ByteArray) : (⟨#[]⟩ : ByteArray) ++ a = a := by
  rcases a with ⟨⟨l⟩⟩
  apply ByteArray.ext
  simp [ByteArray.data_append]
theorem rShow_ev (n : Int) (h0 : 0 ≤ n) (h1 : n ≤ 18446744073709551615) : Ev (fun k => butteryref01_Show.f k n) (showI n) := by
  obtain ⟨k, hk⟩ := rShow_f n h0 h1
  exact Ev.of (butteryref01_Show.mono n) hk
theorem joinB_cons (a b : ByteArray) (r : List ByteArray) : joinB (a :: b :: r) = a ++ (⟨#[32]⟩ : ByteArray) ++ joinB (b :: r) := by
  apply ByteArray.ext
  apply Array.toList_inj.1
  unfold joinB
  simp [Lib.join_cons, Lib.joinTail]
theorem lineB_words (cas : Bool) (c : S38) (x : S40) : lineB (wordsOf cas c x) = (⟨#[86, 65, 76, 85, 69]⟩ : ByteArray) ++ (⟨#[32]⟩ : ByteArray) ++ (c.f1 ++ (⟨#[32]⟩ : ByteArray) ++ (showI x.f2 ++ (⟨#[32]⟩ : ByteArray) ++ ((showI (x.f1.length : Int)) ++ (if cas = true then (⟨#[32]⟩ : ByteArray) ++ showI x.f3 else (⟨#[]⟩ : ByteArray))))) ++ crlf := by
  unfold lineB wordsOf crlf
  cases cas
  · simp only [List.append_nil, List.cons_append, List.nil_append, joinB_cons, joinB_one, Bool.false_eq_true, if_false, bs_add_nil]
  · simp only [List.cons_append, List.nil_append, joinB_cons, joinB_one, if_true, ByteArray.append_assoc]
def valB (cas : Bool) (c : S38) (x : S40) : ByteArray := strOfNums (pieceI cas c x)
theorem u64w (n : Int) (h0 : 0 ≤ n) (h1 : n ≤ 18446744073709551615) : IntKind.u64.wrap n = n := by rw [IntKind.wrap_u64]; omega
theorem rvalue_f (cas : Bool) (c : S38) (x : S40) (hc : c.f1.size ≤ 3000) (hx : x.f1.length ≤ 3000 ∧ 0 ≤ x.f2 ∧ x.f2 ≤ 4294967295 ∧ 0 ≤ x.f3 ∧ x.f3 ≤ 18446744073709551615) :
    Ev (fun k => butteryref15_value.f k c.f1 x.f0 x.f1 x.f2 x.f3 x.f4 x.f5 x.f6 x.f7 x.f8 cas) (valB cas c x) := by
  obtain ⟨h1, h2, h3, h4, h5⟩ := hx
  have s2 := showI_size x.f2 (by omega)
  have s3 := showI_size x.f3 h5
  have sl := showI_size (x.f1.length : Int) (by omega)
  have e6 : ((⟨#[86, 65, 76, 85, 69, 32]⟩ : ByteArray) : ByteArray).size = 6 := rfl
  have e1 : ((⟨#[32]⟩ : ByteArray) : ByteArray).size = 1 := rfl
  have e2 : ((⟨#[13, 10]⟩ : ByteArray) : ByteArray).size = 2 := rfl
  have e0 : ((⟨#[]⟩ : ByteArray) : ByteArray).size = 0 := rfl
  unfold butteryref15_value.f
  refine Ev.pos (by omega) ?_
  refine Ev.pos (by simp only [ByteArray.size_append, e6, e1, e2, e0, strOfNums_size]; omega) ?_
  refine Ev.bind (by rw [u64w _ h2 (by omega)]; exact rShow_ev _ h2 (by omega)) ?_
  refine Ev.pos (by simp only [ByteArray.size_append, e6, e1, e2, e0, strOfNums_size]; omega) ?_
  refine Ev.pos (by simp only [ByteArray.size_append, e6, e1, e2, e0, strOfNums_size]; omega) ?_
  refine Ev.bind (by rw [u64w _ (by omega) (by omega)]; exact rShow_ev _ (by omega) (by omega)) ?_
  refine Ev.pos (by simp only [ByteArray.size_append, e6, e1, e2, e0, strOfNums_size]; omega) ?_
  have fin : valB cas c x = lineB (wordsOf cas c x) ++ (strOfNums x.f1 ++ crlf) := by
    unfold valB pieceI
    rw [strOfNums_app, strOfNums_bytesOf, strOfNums_app, strOfNums_bytesOf]
    rfl
  rw [lineB_words] at fin
  have e7 : (⟨#[86, 65, 76, 85, 69]⟩ : ByteArray) ++ (⟨#[32]⟩ : ByteArray) = (⟨#[86, 65, 76, 85, 69, 32]⟩ : ByteArray) := by decide
  cases cas
  · refine Ev.neg (by decide) ?_
    refine Ev.pos (by simp only [ByteArray.size_append, e6, e1, e2, e0, strOfNums_size]; omega) ?_
    refine Ev.pos (by simp only [ByteArray.size_append, e6, e1, e2, e0, strOfNums_size]; omega) ?_
    refine Ev.pos (by simp only [ByteArray.size_append, e6, e1, e2, e0, strOfNums_size]; omega) ?_
    refine ev_to (Ev.now _) ?_
    rw [fin, e7]
    simp only [Bool.false_eq_true, if_false, bs_add_nil, ByteArray.append_assoc, crlf]
  · refine Ev.pos rfl ?_
    refine Ev.pos (by simp only [ByteArray.size_append, e6, e1, e2, e0, strOfNums_size]; omega) ?_
    refine Ev.bind (rShow_ev _ h4 h5) ?_
    refine Ev.pos (by simp only [ByteArray.size_append, e6, e1, e2, e0, strOfNums_size]; omega) ?_
    refine Ev.pos (by simp only [ByteArray.size_append, e6, e1, e2, e0, strOfNums_size]; omega) ?_
    refine Ev.pos (by simp only [ByteArray.size_append, e6, e1, e2, e0, strOfNums_size]; omega) ?_
    refine Ev.pos (by simp only [ByteArray.size_append, e6, e1, e2, e0, strOfNums_size]; omega) ?_
    refine ev_to (Ev.now _) ?_
    rw [fin, e7]
    simp only [if_true, ByteArray.append_assoc, crlf]
theorem valB_size (cas : Bool) (c : S38) (x : S40) (hc : c.f1.size ≤ 3000) (hx : x.f1.length ≤ 3000 ∧ 0 ≤ x.f2 ∧ x.f2 ≤ 4294967295 ∧ 0 ≤ x.f3 ∧ x.f3 ≤ 18446744073709551615) : (valB cas c x).size ≤ 60000 := by
  have h2 := lineB_size _ (wordsOf_ok cas c x hc hx)
  have h4 : (⟨#[13, 10]⟩ : ByteArray).size = 2 := rfl
  unfold valB pieceI
  rw [strOfNums_size, List.length_append, List.length_append, bytesOf_len, bytesOf_len, h4]
  omega
def encT (c : S38) (a5 : Bool) (l1 : List S40) : List Int := if c.f0 = 16 then [] else if a5 = true then [] else match l1 with | [] => [] | x :: _ => oneI x.f0 x.f5
def rencI (l0 : List S38) (a5 a6 : Bool) (l1 : List S40) : List Int :=
  match l0 with
  | [] => []
  | c :: cs => if c.f0 = 0 ∨ c.f0 = 1 then bytesOf (strOfNums (valP a6 (c :: cs) l1) ++ (⟨#[69, 78, 68, 13, 10]⟩ : ByteArray)) else encT c a5 l1
theorem rencI_cons (c : S38) (cs : List S38) (a5 a6 : Bool) (l1 : List S40) : rencI (c :: cs) a5 a6 l1 = if c.f0 = 0 ∨ c.f0 = 1 then bytesOf (strOfNums (valP a6 (c :: cs) l1) ++ (⟨#[69, 78, 68, 13, 10]⟩ : ByteArray)) else encT c a5 l1 := rfl
theorem rencI_str (l0 : List S38) (a5 a6 : Bool) (l1 : List S40) : strOfNums (rencI l0 a5 a6 l1) = strOfNums (encI l0 a5 a6 l1) := by
  cases l0 with
  | nil => rfl
  | cons c cs =>
    rw [encI_cons, rencI_cons]
    by_cases h : c.f0 = 0 ∨ c.f0 = 1
    · rw [if_pos h, if_pos h, strOfNums_bytesOf, strOfNums_app, strOfNums_bytesOf]
      unfold lineB
      rw [joinB_one]
      rfl
    · rw [if_neg h, if_neg h]
      rfl
theorem rvalue_w (cas : Bool) (c : S38) (x : S40) (B : Option Addr) (d : Nat) (w : World) (hC : Bytes w B x.f1) (hd : x.f1.length ≤ d) (hc : c.f1.size ≤ 3000) (hx : x.f1.length ≤ 3000 ∧ 0 ≤ x.f2 ∧ x.f2 ≤ 4294967295 ∧ 0 ≤ x.f3 ∧ x.f3 ≤ 18446744073709551615) :
    Calls Tryd.prog 17 #[.string c.f1, .agg #[.int .i64 x.f0, .slice B x.f1.length d, .int .u32 x.f2, .int .u64 x.f3, .int .i64 x.f4, .int .u64 x.f5, .bool x.f6, .bool x.f7, .bool x.f8], .bool cas] w fun e w' => e = .returned (.string (valB cas c x)) ∧ Below w.heap.size w w' := by
  obtain ⟨K, hK⟩ := rvalue_f cas c x hc hx
  exact butteryref15_value.calls K _ _ B d _ _ _ _ _ _ _ _ _ _ w hC hd (hK K (Nat.le_refl _))
/-- The arguments of an answer are read as these values. -/
structure Args (A0 : Option Addr) (c0 : Nat) (l0 : List S38) (A8 : Option Addr) (c8 : Nat) (l8 : List ByteArray) (A9 : Option Addr) (c9 : Nat) (l9 : List ByteArray) (A1 : Option Addr) (k1 : Nat) (l1 : List S40) (w : World) : Prop where
  h0 : Kd.C k38 w A0 l0.length l0
  g0 : l0.length ≤ c0
  h8 : Kd.C Kd.string w A8 l8.length l8
  g8 : l8.length ≤ c8
  h9 : Kd.C Kd.string w A9 l9.length l9
  g9 : l9.length ≤ c9
  h1 : Kd.C k40 w A1 l1.length l1
  g1 : l1.length ≤ k1
section
variable (A0 : Option Addr) (c0 : Nat) (l0 : List S38) (a1 : Int) (a2 : ByteArray) (a3 a4 : Int) (a5 a6 : Bool) (a7 : ByteArray) (A8 : Option Addr) (c8 : Nat) (l8 : List ByteArray) (A9 : Option Addr) (c9 : Nat) (l9 : List ByteArray) (a10 : Bool) (A1 : Option Addr) (k1 : Nat) (l1 : List S40)
theorem Args.below {w w' : World} (h : Args A0 c0 l0 A8 c8 l8 A9 c9 l9 A1 k1 l1 w) (hb : Below w.heap.size w w') : Args A0 c0 l0 A8 c8 l8 A9 c9 l9 A1 k1 l1 w' :=
  ⟨Kd.C_below h.h0 hb, h.g0, Kd.C_below h.h8 hb, h.g8, Kd.C_below h.h9 hb, h.g9, Kd.C_below h.h1 hb, h.g1⟩
end
def Okl (l0 : List S38) (l1 : List S40) : Prop := okV l0 l1 = true ∧ ∀ x ∈ l1, 0 ≤ x.f5 ∧ x.f5 ≤ 18446744073709551615
def RB (w : World) (l : List Int) (e : Ending) (w' : World) : Prop := ∃ A c, e = .returned (.slice A l.length c) ∧ l.length ≤ c ∧ Bytes w' A l ∧ Below w.heap.size w w'
theorem RB_nil {w w' : World} (h : Below w.heap.size w w') : RB w [] (.returned (.slice none 0 0)) w' := ⟨none, 0, rfl, Nat.le_refl _, Kd.C_nil _ _, h⟩
set_option maxHeartbeats 2000000 in
set_option maxRecDepth 100000 in
theorem renc_nil (A0 : Option Addr) (c0 : Nat) (c0' : Nat) (a1 : Int) (a2 : ByteArray) (a3 a4 : Int) (a5 a6 : Bool) (a7 : ByteArray) (A8 : Option Addr) (c8 : Nat) (l8 : List ByteArray) (A9 : Option Addr) (c9 : Nat) (l9 : List ByteArray) (a10 : Bool) (A1 : Option Addr) (k1 : Nat) (l1 : List S40) (w : World) :
    Calls Tryd.prog 11 #[.agg #[.slice A0 0 c0, .int .i64 a1, .string a2, .int .i64 a3, .int .u32 a4, .bool a5, .bool a6, .string a7, .slice A8 l8.length c8, .slice A9 l9.length c9, .bool a10], .slice A1 l1.length k1] w (RB w []) := by
  have e1 : (decide ((0 : Int) < l1.length)) = decide ((0 : Int) < l1.length) := rfl
  cases l1 with
  | nil =>
    cases a5
    all_goals
      go_enter Tryd.func11, Tryd.ntmps11
      go_wp2
      go_ret
      exact RB_nil (by repeat (first | exact Below.refl _ _ | apply below_drew1 | apply pw_below_drewN | apply below_alloc))
  | cons x xs =>
    have hl : ((x :: xs).length : Int) = (xs.length : Int) + 1 := by simp
    have hp : (0 : Int) < ((x :: xs).length : Int) := by omega
    clear hl e1
    generalize (x :: xs).length = n at hp ⊢
    cases a5
    all_goals
      go_enter Tryd.func11, Tryd.ntmps11
      go_wp2
      go_ret
      exact RB_nil (by repeat (first | exact Below.refl _ _ | apply below_drew1 | apply pw_below_drewN | apply below_alloc))
end Go.Proofs.YtkolleohenjhmaaDoor.X
