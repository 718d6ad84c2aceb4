/- textout.line: words with a blank between two, and an end. -/
import Derived.Test.YtkolleohenjhmaaDoorx0
import Derived.Test.YtkolleohenjhmaaDoorShelf
import Derived.Test.YtkolleohenjhmaaDoorShow
import Derived.Shelf.Strings.OnBuilder
namespace Go.Proofs.YtkolleohenjhmaaDoor.X
open Go.RowKit Go.Proofs.YtkolleohenjhmaaDoorW.PrintWords Go.Proofs.YtkolleohenjhmaaDoorW.PrintMore
set_option linter.unusedVariables false
set_option linter.unusedSimpArgs false

def joinB (ws : List ByteArray) : ByteArray := ⟨(Lib.join (ws.map (·.data.toList)) [32]).toArray⟩
def okW (ws : List ByteArray) : Bool := decide (ws.length ≤ 10) && ws.all fun s => decide (s.size ≤ 4000)
def textout_line.f (ws : List ByteArray) : Option ByteArray := if okW ws = true then some (joinB ws ++ (⟨#[13, 10]⟩ : ByteArray)) else none
theorem joinTail_len : ∀ (r : List (List UInt8)), (∀ s ∈ r, s.length ≤ 4000) → (Lib.joinTail [32] r).length ≤ r.length * 4001
  | [], _ => by simp [Lib.joinTail]
  | s :: r, h => by
    have ih := joinTail_len r (fun t ht => h t (List.mem_cons_of_mem _ ht))
    have hs := h s (by simp)
    unfold Lib.joinTail at ih ⊢
    simp only [List.map_cons, List.flatten_cons, List.length_append, List.length_cons, List.length_nil] at ih ⊢
    omega
theorem join_len (ws : List ByteArray) (h : okW ws = true) : (Lib.join (ws.map (·.data.toList)) [32]).length ≤ 50000 := by
  unfold okW at h
  rw [Bool.and_eq_true, decide_eq_true_eq, List.all_eq_true] at h
  cases ws with
  | nil => simp [Lib.join_nil]
  | cons x r =>
    rw [List.map_cons, Lib.join_cons, List.length_append]
    have h1 := of_decide_eq_true (h.2 x (by simp))
    have h2 := joinTail_len (r.map (·.data.toList)) (fun s hs => by
      obtain ⟨t, ht, rfl⟩ := List.mem_map.1 hs
      have := of_decide_eq_true (h.2 t (List.mem_cons_of_mem _ ht))
      rw [Array.length_toList]
      exact this)
    have h3 := h.1
    rw [List.length_map] at h2
    rw [List.length_cons] at h3
    have h4 : x.data.toList.length = x.size := by rw [Array.length_toList]; rfl
    omega
theorem joinB_size (ws : List ByteArray) (h : okW ws = true) : (joinB ws).size ≤ 50000 := by
  have := join_len ws h
  unfold joinB ByteArray.size
  simpa using this
theorem S_cells {W : World} {b o : Nat} {xs : List ByteArray} (h : Kd.string.C W (some ⟨b, o, none⟩) xs.length xs) (hx : 0 < xs.length) : ∀ (j : Nat) x, xs[j]? = some x → W.cell? ⟨b, o + j, none⟩ = some (.string x) := fun j x hj => by
  obtain ⟨ad, e, hc⟩ := h.2.2 hx
  obtain rfl := Option.some.inj e
  obtain ⟨cs, hl, hK, hcell⟩ := hc j x hj
  obtain rfl := hK
  have h1 := hcell 0 _ rfl
  rw [show Kd.string.sz = 1 from rfl, Nat.mul_one, Nat.add_zero] at h1
  have ha : (⟨b, o, none⟩ : Addr).add j = ⟨b, o + j, none⟩ := by
    unfold Addr.add
    split <;> simp_all
  rwa [ha] at h1
set_option maxRecDepth 100000 in
theorem textout_line.calls (A : Option Addr) (c : Nat) (ws : List ByteArray) (r : ByteArray) (w : World) (hC : Kd.C Kd.string w A ws.length ws) (hc : ws.length ≤ c) (h : textout_line.f ws = some r) :
    Calls Tryd.prog 20 #[.slice A ws.length c] w fun e w' => e = .returned (.string r) ∧ Below w.heap.size w w' := by
  unfold textout_line.f at h
  split at h
  · next hok =>
    obtain rfl := Option.some.inj h
    have hjl := join_len ws hok
    have hjs := joinB_size ws hok
    have hok' := hok
    unfold okW at hok'
    rw [Bool.and_eq_true, decide_eq_true_eq] at hok'
    have hl10 := hok'.1
    have hcall : Calls Tryd.prog 26 #[.slice A ws.length c, .string (⟨#[32]⟩ : ByteArray)] w fun e w' => e = .returned (.string (joinB ws)) ∧ Below w.heap.size w w' := by
      cases ws with
      | nil =>
        refine (Tryd.strings_Join_none A c (⟨#[32]⟩ : ByteArray) w).mono ?_
        rintro e w' ⟨rfl, rfl⟩
        exact ⟨rfl, Below.refl _ _⟩
      | cons x xs =>
        have h0 : 0 < (x :: xs).length := by simp
        obtain ⟨ad, rfl, hc1⟩ := hC.2.2 h0
        obtain ⟨cs, hcl, hK, hcell⟩ := hc1 0 x rfl
        obtain rfl := hK
        obtain ⟨bb, bo, e, hbb⟩ := addr_plain (hcell 0 _ rfl)
        obtain ⟨ab, ao, s⟩ := ad
        rw [show Kd.string.sz = 1 from rfl, Nat.zero_mul, Nat.zero_add, Addr.add_zero'] at e
        have hs : s = none := by injection e
        subst hs
        have hbk : ab < w.heap.size := World.block_lt_of_cell? _ _ (S_cells hC h0 0 x rfl)
        exact Tryd.strings_Join ab ao c (x :: xs) (⟨#[32]⟩ : ByteArray) w (S_cells hC h0) hbk (by omega) hc (by exact Nat.le_trans hjl (by omega))
    have HC := Aside0.mk hcall
    clear hcall hjl hok' hok hC
    go_enter Tryd.func20, Tryd.ntmps20
    go_wp2_with (go_at_call 26; (with_reducible refine HC.out.mono ?_); rintro e w1 ⟨rfl, hb⟩)
    go_ret
    exact ⟨rfl, by assumption⟩
  · cases h
end Go.Proofs.YtkolleohenjhmaaDoor.X
