/- Texts of this work, merged in build order: Opens. -/
import Derived.Test.YtdjbbncoioghfaaGreatDoorZ5
import Derived.ChangeArms
import Derived.Deep.Slices
namespace Go.Proofs.YtdjbbncoioghfaaGreatDoor.X
open Go.RowKit Go.Proofs.YtdjbbncoioghfaaGreatDoorW.PrintWords Go.Deep
set_option linter.unusedVariables false
set_option linter.unusedSimpArgs false

def OpensAt (P : Program) (t : TypeId) {α : Type} (d : Kd α) (wf : α → Prop) : Prop :=
  ∀ (H : Type) (enc : TypeId × Value → H) (W : World) (fuel : Nat) (cs : List Value) (x : DataW H × List MemPlace), DataW.trod enc P W 0 (fun _ => true) true fuel t cs = some x → ∃ y, d.K W y cs ∧ wf y
def OpensFs (P : Program) (fs : List Field) (o : Nat) {α : Type} (d : Kd α) (wf : α → Prop) : Prop :=
  ∀ (H : Type) (enc : TypeId × Value → H) (W : World) (n : Nat) (cs : List Value), cs.length = o + d.sz →
    (∀ (i : Nat) (f : Field), fs[i]? = some f → ∃ x : DataW H × List MemPlace, DataW.trod enc P W 0 (fun _ => true) true n f.type ((cs.drop f.offset).take (P.cellsOf f.type)) = some x) → ∃ y, d.K W y (cs.drop o) ∧ wf y
section
variable {P : Program} {α β : Type} {d : Kd α} {e : Kd β} {wf : α → Prop} {wg : β → Prop}
theorem opens_int {t : TypeId} {k : IntKind} (ht : P.underlying t = some (.int k)) : OpensAt P t (Kd.int k) (fun n => (Lit.int k n).wf = true) := fun H enc W fuel cs x h => by
  obtain ⟨n, rfl, _, hw⟩ := DataW.trod_int ht h
  exact ⟨n, rfl, hw⟩
theorem opens_bool {t : TypeId} (ht : P.underlying t = some .bool) : OpensAt P t Kd.bool (fun _ => True) := fun H enc W fuel cs x h => by
  obtain ⟨b, rfl, _⟩ := DataW.trod_bool ht h
  exact ⟨b, rfl, trivial⟩
theorem opens_string {t : TypeId} (ht : P.underlying t = some .string) : OpensAt P t Kd.string (fun s => s.size ≤ 9223372036854775807) := fun H enc W fuel cs x h => by
  obtain ⟨s, rfl, _, hw⟩ := DataW.trod_string ht h
  exact ⟨s, rfl, hw⟩
theorem cells_some {W : World} {a : Addr} {n : Nat} {cs : List Value} (h : W.cells? 0 a n = some cs) : cs.length = n ∧ ∀ i u, cs[i]? = some u → W.cell? (a.add i) = some u := by
  unfold World.cells? at h
  rw [if_pos (Nat.zero_le _)] at h
  have hl : cs.length = n := by simpa using mapM_some_length h
  refine ⟨hl, fun i u hu => ?_⟩
  have hi : i < n := by rw [← hl]; exact (List.getElem?_eq_some_iff.1 hu).1
  have := mapM_some_get h i i (by simp [hi])
  rw [this, hu]
theorem opens_slice {t et : TypeId} (ht : P.underlying t = some (.slice et)) (hs : P.cellsOf et = d.sz) (he : OpensAt P et d wf) : OpensAt P t (Kd.slice et d) (fun l => l.length ≤ 9223372036854775807 ∧ ∀ y ∈ l, wf y) := fun H enc W fuel cs x h => by
  rcases open_slice ht h with ⟨rfl, _⟩ | ⟨a, len, cap, m, n, D, Pl, rfl, _, hl, hm, hmm, hxx, hel⟩
  · exact ⟨[], ⟨none, 0, rfl, Nat.le_refl _, ⟨rfl, Nat.zero_le _, fun h => absurd h (Nat.lt_irrefl _)⟩⟩, Nat.zero_le _, fun y hy => by cases hy⟩
  · have hmc : m = cap := by simpa using hmm
    have hex : ∀ i, i < len → ∃ y, (∃ cs', (cs'.length = d.sz ∧ ∀ j u, cs'[j]? = some u → W.cell? ((a.add (i * d.sz)).add j) = some u) ∧ d.K W y cs') ∧ wf y := fun i hi => by
      obtain ⟨cs', h1, h2⟩ := hel i (by omega)
      obtain ⟨y, hK, hw⟩ := he H enc W n cs' _ h2
      rw [hs] at h1
      exact ⟨y, ⟨cs', cells_some h1, hK⟩, hw⟩
    have hch : ∃ l : List α, l.length = len ∧ ∀ i y, l[i]? = some y → (∃ cs', (cs'.length = d.sz ∧ ∀ j u, cs'[j]? = some u → W.cell? ((a.add (i * d.sz)).add j) = some u) ∧ d.K W y cs') ∧ wf y := by
      clear hel h hmm hl hm hxx
      induction len with
      | zero => exact ⟨[], rfl, fun i y h => by simp at h⟩
      | succ k ih =>
        obtain ⟨l, hll, hl2⟩ := ih (fun i hi => hex i (by omega))
        obtain ⟨y, hy⟩ := hex k (by omega)
        refine ⟨l ++ [y], by simp [hll], fun i z hz => ?_⟩
        rcases Nat.lt_or_ge i l.length with hi | hi
        · rw [List.getElem?_append_left hi] at hz
          exact hl2 i z hz
        · have : i = k := by
            have := (List.getElem?_eq_some_iff.1 hz).1
            rw [List.length_append, List.length_singleton] at this
            omega
          subst this
          rw [List.getElem?_append_right hi, show i - l.length = 0 by omega] at hz
          obtain rfl := Option.some.inj hz
          exact hy
    obtain ⟨l, rfl, hl2⟩ := hch
    have hmx : l.length ≤ 9223372036854775807 := Nat.le_trans hl hm
    refine ⟨l, ⟨some a, cap, rfl, hl, rfl, hmx, fun _ => ⟨a, rfl, fun j p hj => ?_⟩⟩, hmx, fun y hy => ?_⟩
    · obtain ⟨⟨cs', ⟨hcl, hcc⟩, hK⟩, _⟩ := hl2 j p hj
      refine ⟨cs', hcl, hK, fun i u hu => ?_⟩
      have := hcc i u hu
      rwa [Go.Deep.add_add] at this
    · obtain ⟨i, hi, rfl⟩ := List.mem_iff_getElem.1 hy
      exact (hl2 i _ (List.getElem?_eq_getElem hi)).2
theorem opens_one {f : Field} {o : Nat} (ho : f.offset = o) (hs : P.cellsOf f.type = d.sz) (h : OpensAt P f.type d wf) : OpensFs P [f] o d wf := fun H enc W n cs hl hx => by
  obtain ⟨x, hx⟩ := hx 0 f rfl
  rw [ho, hs, List.take_of_length_le (by rw [List.length_drop]; omega)] at hx
  exact h H enc W n _ x hx
theorem opens_cons {f : Field} {fs : List Field} {o : Nat} (ho : f.offset = o) (hs : P.cellsOf f.type = d.sz) (h : OpensAt P f.type d wf) (hr : OpensFs P fs (o + d.sz) e wg) : OpensFs P (f :: fs) o (Kd.pair d e) (fun p => wf p.1 ∧ wg p.2) := fun H enc W n cs hl hx => by
  have hl' : cs.length = o + (d.sz + e.sz) := hl
  obtain ⟨x, h0⟩ := hx 0 f rfl
  rw [ho, hs] at h0
  obtain ⟨y, hK, hw⟩ := h H enc W n _ x h0
  obtain ⟨z, hKz, hwz⟩ := hr H enc W n cs (by omega) (fun i g hg => hx (i + 1) g hg)
  refine ⟨(y, z), ⟨_, _, ?_, hK, hKz⟩, hw, hwz⟩
  rw [← List.drop_drop, List.take_append_drop]
theorem opens_struct {t : TypeId} {fs : Array Field} (ht : P.underlying t = some (.struct fs)) (hs : P.cellsOf t = d.sz) (h : OpensFs P fs.toList 0 d wf) : OpensAt P t d wf := fun H enc W fuel cs x hx => by
  obtain ⟨xs, n, rfl, _, hl, hxl, hf⟩ := DataW.trod_struct ht hx
  have := h H enc W n cs (by omega) (fun i f hi => by
    have hi2 : fs[i]? = some f := by simpa using hi
    have hil : i < fs.size := (Array.getElem?_eq_some_iff.1 hi2).1
    rw [hf i f hi2]
    exact ⟨_, List.getElem?_eq_getElem (by omega)⟩)
  simpa using this
theorem opens_iso {t : TypeId} (h : OpensAt P t d wf) (f : β → α) (g : α → β) (hfg : ∀ y, f (g y) = y) : OpensAt P t (Kd.iso d f) (fun x => wf (f x)) := fun H enc W fuel cs x hx => by
  obtain ⟨y, hK, hw⟩ := h H enc W fuel cs x hx
  exact ⟨g y, by show d.K W (f (g y)) cs; rw [hfg]; exact hK, by show wf (f (g y)); rw [hfg]; exact hw⟩
theorem OpensAt.imp {t : TypeId} (h : OpensAt P t d wf) {wf' : α → Prop} (hi : ∀ x, wf x → wf' x) : OpensAt P t d wf' := fun H enc W fuel cs x hx => by
  obtain ⟨y, hK, hw⟩ := h H enc W fuel cs x hx
  exact ⟨y, hK, hi y hw⟩
end
theorem u64_lo {n : Int} (h : (Lit.int .u64 n).wf = true) : 0 ≤ n := by
  have e1 : IntKind.u64.min = 0 := rfl
  simp [Lit.wf, e1] at h
  omega
theorem u64_hi {n : Int} (h : (Lit.int .u64 n).wf = true) : n ≤ 18446744073709551615 := by
  have e1 : IntKind.u64.max = 18446744073709551615 := rfl
  simp [Lit.wf, e1] at h
  omega
theorem i64_lo {n : Int} (h : (Lit.int .i64 n).wf = true) : -9223372036854775808 ≤ n := by
  have e1 : IntKind.i64.min = -9223372036854775808 := rfl
  simp [Lit.wf, e1] at h
  omega
theorem i64_hi {n : Int} (h : (Lit.int .i64 n).wf = true) : n ≤ 9223372036854775807 := by
  have e1 : IntKind.i64.max = 9223372036854775807 := rfl
  simp [Lit.wf, e1] at h
  omega
theorem u8_lo {n : Int} (h : (Lit.int .u8 n).wf = true) : 0 ≤ n ∧ n < 256 := by
  have e1 : IntKind.u8.max = 255 := rfl
  have e0 : IntKind.u8.min = 0 := rfl
  simp [Lit.wf, e1, e0] at h
  omega
end Go.Proofs.YtdjbbncoioghfaaGreatDoor.X
