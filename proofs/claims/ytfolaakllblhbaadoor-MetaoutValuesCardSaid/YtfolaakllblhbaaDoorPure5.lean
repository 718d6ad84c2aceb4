/- What is told of a result as flags, as 'MetaoutFlags' and 'MetaoutValues' ask it: plain Lean. -/
import Derived.Test.YtfolaakllblhbaaDoorPure4
namespace Go.Proofs.YtfolaakllblhbaaDoor.X
open Go.RowKit Go.Proofs.YtfolaakllblhbaaDoorW.PrintWords
set_option linter.unusedVariables false
set_option linter.unusedSimpArgs false

/-- The signs that stand behind a blank. -/
def gotL : List UInt8 → List UInt8
  | a :: b :: r => (if a = 32 then [b] else []) ++ gotL (b :: r)
  | _ => []
theorem gotL_skip (r : List UInt8) : ∀ u : List UInt8, (∀ c ∈ u, c ≠ 32) → gotL (u ++ r) = gotL r
  | [], _ => rfl
  | [a], h => by
    have ha : a ≠ 32 := h a (by simp)
    cases r with
    | nil => rfl
    | cons b r => show (if a = 32 then [b] else []) ++ gotL (b :: r) = _; rw [if_neg ha]; rfl
  | a :: b :: u, h => by
    have ha : a ≠ 32 := h a (by simp)
    have ih := gotL_skip r (b :: u) (fun c hc => h c (by simp [List.mem_cons] at hc ⊢; exact Or.inr hc))
    show (if a = 32 then [b] else []) ++ gotL (b :: (u ++ r)) = _
    rw [if_neg ha]
    exact ih
theorem gotL_piece (c : UInt8) (t r : List UInt8) (hc : c ≠ 32) (ht : ∀ d ∈ t, d ≠ 32) : gotL (32 :: c :: (t ++ r)) = c :: gotL r := by
  show (if (32 : UInt8) = 32 then [c] else []) ++ gotL (c :: (t ++ r)) = _
  rw [if_pos rfl]
  have := gotL_skip r (c :: t) (fun d hd => by rcases List.mem_cons.1 hd with rfl | h; exact hc; exact ht d h)
  show [c] ++ gotL ((c :: t) ++ r) = _
  rw [this]
  rfl
theorem decDigits_noblank : ∀ (n : Nat), ∀ d ∈ Lib.decDigits n, d ≠ 32 := by
  intro n
  induction n using Nat.strongRecOn with
  | _ n ih =>
    intro d hd
    rw [Lib.decDigits] at hd
    split at hd
    · obtain rfl := List.mem_singleton.1 hd
      intro h
      have := congrArg UInt8.toNat h
      simp at this
      omega
    · rcases List.mem_append.1 hd with h | h
      · exact ih (n / 10) (by omega) d h
      · obtain rfl := List.mem_singleton.1 h
        intro h
        have := congrArg UInt8.toNat h
        simp at this
        omega
theorem showI_noblank (n : Int) : ∀ d ∈ (showI n).data.toList, d ≠ 32 := fun d hd => decDigits_noblank n.toNat d hd
def okLetter (c : UInt8) : Bool := c == 98 || c == 99 || c == 102 || c == 107 || c == 115 || c == 116
def signsL (x : Result) : List UInt8 := (if x.won then [87] else []) ++ ((if x.stale then [88] else []) ++ (if x.lost then [90] else []))
theorem gotL_signs (x : Result) : gotL (mSigns x) = signsL x := by
  unfold mSigns signsL
  cases x.won <;> cases x.stale <;> cases x.lost <;> decide
theorem told_ok (q : Request) (x : Result) (hk : q.form.keys = []) (c : UInt8) (i : Nat) (h : okLetter c = true) : c ≠ 32 ∧ (mTold q x c.toNat i).2 = true ∧ ∀ d ∈ (mTold q x c.toNat i).1.data.toList, d ≠ 32 := by
  have h1 := showI_noblank x.cas
  have h2 := showI_noblank x.flags
  have h3 := showI_noblank ((mValue x).size : Int)
  have h4 := showI_noblank x.ttl
  unfold okLetter at h
  simp only [Bool.or_eq_true, beq_iff_eq] at h
  rcases h with ((((rfl | rfl) | rfl) | rfl) | rfl) | rfl
  · exact ⟨by decide, rfl, fun d hd => absurd (show d ∈ ([] : List UInt8) from hd) (by simp)⟩
  · exact ⟨by decide, rfl, h1⟩
  · exact ⟨by decide, rfl, h2⟩
  · refine ⟨by decide, rfl, fun d hd => ?_⟩
    have hd' : d ∈ (atS q.form.keys 0).data.toList := hd
    rw [hk] at hd'
    exact absurd (show d ∈ ([] : List UInt8) from hd') (by simp)
  · exact ⟨by decide, rfl, h3⟩
  · have e : mTold q x ((116 : UInt8).toNat : Int) i = if x.ttl < 0 then ((⟨#[45, 49]⟩ : ByteArray), true) else (showI x.ttl, true) := rfl
    rw [e]
    refine ⟨by decide, ?_⟩
    split
    · exact ⟨rfl, by decide⟩
    · exact ⟨rfl, h4⟩
theorem gotL_pieces (q : Request) (x : Result) (hk : q.form.keys = []) : ∀ (l : List UInt8) (i : Nat), (∀ c ∈ l, okLetter c = true) → gotL (mPieces q x l i ++ mSigns x) = l ++ signsL x
  | [], i, _ => by rw [mPieces]; exact gotL_signs x
  | c :: r, i, h => by
    have ih := gotL_pieces q x hk r (i + 1) (fun d hd => h d (List.mem_cons_of_mem _ hd))
    obtain ⟨h1, h2, h3⟩ := told_ok q x hk c i (h c (by simp))
    simp only [mPieces]
    unfold mPiece
    rw [if_pos h2]
    show gotL (32 :: c :: ((mTold q x c.toNat i).1.data.toList ++ mPieces q x r (i + 1) ++ mSigns x)) = _
    rw [List.append_assoc, gotL_piece c _ _ h1 h3, ih]
    rfl
theorem gotL_flags (q : Request) (x : Result) (hk : q.form.keys = []) (h : ∀ c ∈ q.form.flags.data.toList, okLetter c = true) : gotL (mFlags q x).data.toList = q.form.flags.data.toList ++ signsL x := by
  show gotL (mFlagsL q x) = _
  exact gotL_pieces q x hk _ 0 h
/-- What 'MetaoutValues' compares. -/
theorem mFlags_v (q q2 : Request) (x : Result) (h : q.form.flags = (⟨#[118]⟩ : ByteArray)) (h2 : q2.form.flags = (⟨#[]⟩ : ByteArray)) : mFlags q x = mFlags q2 x := by
  unfold mFlags mFlagsL
  rw [h, h2]
  rfl
theorem mEncode_v (q : Request) (x : Result) (k : ByteArray) (hc : q.cmds = [{ zCmd with op := 12, key := k }]) (hf : q.form.flags = (⟨#[118]⟩ : ByteArray)) (hq : q.form.quiet = false) (hs : x.status = 0) : mEncode q [x] = bytesOf (mFull q x) := by
  unfold mEncode
  rw [hc]
  show mOne q 12 x = _
  unfold mOne
  rw [if_neg (by rw [hq]; simp), if_neg (by rw [hs]; decide), if_pos ⟨Or.inl hs, by unfold mHas; rw [hf]; decide⟩]
theorem mEncode_e (q : Request) (x : Result) (k : ByteArray) (hc : q.cmds = [{ zCmd with op := 12, key := k }]) (hf : q.form.flags = (⟨#[]⟩ : ByteArray)) (hq : q.form.quiet = false) (hs : x.status = 0) : mEncode q [x] = bytesOf ((⟨#[72, 68]⟩ : ByteArray) ++ mFlags q x ++ (⟨#[13, 10]⟩ : ByteArray)) := by
  unfold mEncode
  rw [hc]
  show mOne q 12 x = _
  have hw : mWord x.status = (⟨#[72, 68]⟩ : ByteArray) := by rw [hs]; rfl
  unfold mOne
  rw [if_neg (by rw [hq]; simp), if_neg (by rw [hs]; decide), if_neg (fun h => absurd h.2 (by unfold mHas; rw [hf]; decide)), if_neg (fun h => absurd ((mTail_nil4 q x).1 h) (by rw [hw]; decide))]
  unfold mTail
  rw [if_pos (Or.inl hs), hw]
end Go.Proofs.YtfolaakllblhbaaDoor.X
