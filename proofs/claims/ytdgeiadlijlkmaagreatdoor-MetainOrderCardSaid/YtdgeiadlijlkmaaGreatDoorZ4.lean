/- Texts of this work, merged in build order: Four, Three, Dec64, MparT, Steps, WdP, Pl, PlG, Pl3, LawA, Opens, Open32. -/
import Derived.Test.YtdgeiadlijlkmaaGreatDoorZ3
import Derived.Laws.BitsLemmas
import Derived.Deep.MidRow
import Derived.Laws.CopyOwn
import Derived.ChangeArms
import Derived.Deep.Slices
namespace Go.Proofs.YtdgeiadlijlkmaaGreatDoor.X
open Go.RowKit Go.Proofs.YtdgeiadlijlkmaaGreatDoorW.PrintWords Go.Proofs.YtdgeiadlijlkmaaGreatDoorW.PrintMore
set_option linter.unusedVariables false
set_option linter.unusedSimpArgs false
theorem wraps_i64 (n : Int) (h0 : 0 ≤ n) (h1 : n < 2 ^ 62) : IntKind.i64.wrap n = n := by rw [IntKind.wrap_i64]; omega
theorem i64_or8 {x y : Int} (hx0 : 0 ≤ x) (hx : x % 256 = 0) (hx1 : x < 1099511627776) (h0 : 0 ≤ y) (h1 : y < 256) : bits .or .i64 x y = x + y :=
  bits_join .i64 62 (by decide) wraps_i64 8 x y hx0 hx (by omega) h0 h1 (by omega)
theorem i64_or6 {x y : Int} (hx0 : 0 ≤ x) (hx : x % 64 = 0) (hx1 : x < 1099511627776) (h0 : 0 ≤ y) (h1 : y < 64) : bits .or .i64 x y = x + y :=
  bits_join .i64 62 (by decide) wraps_i64 6 x y hx0 hx (by omega) h0 h1 (by omega)
theorem i64_and63 {x : Int} (h0 : 0 ≤ x) (h1 : x < 1099511627776) : bits .and .i64 x 63 = x % 64 := bits_mask .i64 62 (by decide) wraps_i64 6 (by decide) x h0 (by omega)
/-- The number of the first k bytes of three. -/
def accB (l : List Int) : Nat → Int
  | 0 => 0
  | k + 1 => accB l k * 256 + l.getD k 0
theorem accB_in (l : List Int) (h8 : B8 l) : ∀ k, 0 ≤ accB l k ∧ accB l k < 256 ^ k
  | 0 => ⟨Int.le_refl 0, (by show (0 : Int) < 1; decide)⟩
  | k + 1 => by
    have ih := accB_in l h8 k
    have hz : 0 ≤ l.getD k 0 ∧ l.getD k 0 < 256 := by
      rw [List.getD_eq_getElem?_getD]
      cases h : l[k]? with
      | none => exact ⟨by decide, by decide⟩
      | some z => exact h8 z (List.mem_of_getElem? h)
    unfold accB
    have e : (256 : Int) ^ (k + 1) = 256 ^ k * 256 := Int.pow_succ _ _
    omega
/-- The sign of a number. -/
def sgZ (n : Int) : Int := (((⟨#[65, 66, 67, 68, 69, 70, 71, 72, 73, 74, 75, 76, 77, 78, 79, 80, 81, 82, 83, 84, 85, 86, 87, 88, 89, 90, 97, 98, 99, 100, 101, 102, 103, 104, 105, 106, 107, 108, 109, 110, 111, 112, 113, 114, 115, 116, 117, 118, 119, 120, 121, 122, 48, 49, 50, 51, 52, 53, 54, 55, 56, 57, 43, 47]⟩ : ByteArray) : ByteArray).data.toList.getD n.toNat 0).toNat
theorem idx_lt {i : Int} (h0 : 0 ≤ i) (h1 : i < 64) : i.toNat < ((⟨#[65, 66, 67, 68, 69, 70, 71, 72, 73, 74, 75, 76, 77, 78, 79, 80, 81, 82, 83, 84, 85, 86, 87, 88, 89, 90, 97, 98, 99, 100, 101, 102, 103, 104, 105, 106, 107, 108, 109, 110, 111, 112, 113, 114, 115, 116, 117, 118, 119, 120, 121, 122, 48, 49, 50, 51, 52, 53, 54, 55, 56, 57, 43, 47]⟩ : ByteArray) : ByteArray).size := by
  show i.toNat < 64
  omega
theorem sg_eq (i : Int) (h0 : 0 ≤ i) (h1 : i < 64) (h : i.toNat < ((⟨#[65, 66, 67, 68, 69, 70, 71, 72, 73, 74, 75, 76, 77, 78, 79, 80, 81, 82, 83, 84, 85, 86, 87, 88, 89, 90, 97, 98, 99, 100, 101, 102, 103, 104, 105, 106, 107, 108, 109, 110, 111, 112, 113, 114, 115, 116, 117, 118, 119, 120, 121, 122, 48, 49, 50, 51, 52, 53, 54, 55, 56, 57, 43, 47]⟩ : ByteArray) : ByteArray).size) : ((((⟨#[65, 66, 67, 68, 69, 70, 71, 72, 73, 74, 75, 76, 77, 78, 79, 80, 81, 82, 83, 84, 85, 86, 87, 88, 89, 90, 97, 98, 99, 100, 101, 102, 103, 104, 105, 106, 107, 108, 109, 110, 111, 112, 113, 114, 115, 116, 117, 118, 119, 120, 121, 122, 48, 49, 50, 51, 52, 53, 54, 55, 56, 57, 43, 47]⟩ : ByteArray) : ByteArray)[i.toNat]'h).toNat : Int) = sgZ i := by
  have hh : i.toNat < ((⟨#[65, 66, 67, 68, 69, 70, 71, 72, 73, 74, 75, 76, 77, 78, 79, 80, 81, 82, 83, 84, 85, 86, 87, 88, 89, 90, 97, 98, 99, 100, 101, 102, 103, 104, 105, 106, 107, 108, 109, 110, 111, 112, 113, 114, 115, 116, 117, 118, 119, 120, 121, 122, 48, 49, 50, 51, 52, 53, 54, 55, 56, 57, 43, 47]⟩ : ByteArray) : ByteArray).data.toList.length := by show i.toNat < 64; omega
  unfold sgZ
  rw [List.getD_eq_getElem?_getD, List.getElem?_eq_getElem hh]
  rfl
/-- The four signs of a number. -/
def sgsZ (n : Int) : List Int := [sgZ (n / 262144 % 64), sgZ (n / 4096 % 64), sgZ (n / 64 % 64), sgZ (n % 64)]
def cellsK (n : Int) (k : Nat) : Array Value := #[.int .u8 (if 0 < k then sgZ (n / 262144 % 64) else 0), .int .u8 (if 1 < k then sgZ (n / 4096 % 64) else 0), .int .u8 (if 2 < k then sgZ (n / 64 % 64) else 0), .int .u8 (if 3 < k then sgZ (n % 64) else 0)]
def pads (m : Nat) : ByteArray := if m = 1 then (⟨#[61, 61]⟩ : ByteArray) else if m = 2 then (⟨#[61]⟩ : ByteArray) else ⟨#[]⟩
/-- Up to three bytes as four signs. -/
def fourS (l : List Int) : ByteArray := strOfNums ((sgsZ (accB l 3)).take (l.length + 1)) ++ pads l.length
theorem rep_w (m : Nat) (h1 : 1 ≤ m) (h3 : m ≤ 3) (w : World) : Calls Tryz.prog 117 #[.string (⟨#[61]⟩ : ByteArray), .int .i64 (3 - (m : Int))] w fun e w' => e = .returned (.string (pads m)) ∧ Below w.heap.size w w' := by
  rcases (by omega : m = 1 ∨ m = 2 ∨ m = 3) with rfl | rfl | rfl
  · exact rep_2 w
  · exact (rep_1 w).mono fun e w' h => ⟨h.1, h.2 ▸ Below.refl _ _⟩
  · exact (rep_0 w).mono fun e w' h => ⟨h.1, h.2 ▸ Below.refl _ _⟩
theorem C_signs {W : World} {g m : Nat} {n : Int} (h : W.heap[g]? = some (.cells (cellsK n 4) 143 (0, 0))) (hm : m ≤ 4) : (Kd.int .u8).C W (some ⟨g, 0, none⟩) m ((sgsZ n).take m) := by
  refine ⟨by rw [List.length_take]; show min m 4 = m; omega, by omega, fun _ => ⟨_, rfl, fun j p hj => ⟨[.int .u8 p], rfl, rfl, fun i u hu => ?_⟩⟩⟩
  have hi : i = 0 := by
    have := (List.getElem?_eq_some_iff.1 hu).1
    simpa using this
  subst hi
  obtain rfl : Value.int .u8 p = u := by simpa using hu
  have hjl : j < m := by
    have := (List.getElem?_eq_some_iff.1 hj).1
    rw [List.length_take] at this
    omega
  rw [List.getElem?_take_of_lt hjl] at hj
  rw [add_plain, show 0 + (j * (Kd.int .u8).sz + 0) = j from by show 0 + (j * 1 + 0) = j; omega]
  refine (blk_cell h j).trans ?_
  rcases (by omega : j = 0 ∨ j = 1 ∨ j = 2 ∨ j = 3) with rfl | rfl | rfl | rfl
  all_goals
    obtain rfl := Option.some.inj hj
    rfl
set_option maxRecDepth 100000 in
set_option maxHeartbeats 4000000 in
theorem four_calls (l : List Int) (A : Option Addr) (c : Nat) (w : World) (hC : (Kd.int .u8).C w A l.length l) (hc : l.length ≤ c) (h8 : B8 l) (h1 : 1 ≤ l.length) (h3 : l.length ≤ 3) :
    Calls Tryz.prog 105 #[.slice A l.length c] w fun e w' => e = .returned (.string (fourS l)) ∧ Below w.heap.size w w' := by
  have HRP := Aside0.mk (fun w => rep_w l.length h1 h3 w)
  unfold fourS
  have HC := Aside0.mk hC
  have H8 := Aside0.mk h8
  clear hC h8
  go_enter Tryz.func105, Tryz.ntmps105
  go_wp2
  go_loopw [3, 7] (fun v3 v7 wr => ∃ k : Nat, v7 = .int .i64 k ∧ v3 = .int .i64 (accB l k) ∧ k ≤ 3 ∧ wr = w) (fun _ v7 _ => 3 - (intOf v7).toNat)
  case atStart => exact ⟨0, rfl, rfl, by omega, rfl⟩
  case round =>
    obtain ⟨k, rfl, rfl, hk, rfl⟩ := hrel
    by_cases hlt : k < 3
    · have hn0 := accB_in l H8.out k
      have hp : (256 : Int) ^ k ≤ 65536 := by
        rcases (by omega : k = 0 ∨ k = 1 ∨ k = 2) with rfl | rfl | rfl <;> decide
      by_cases hl : k < l.length
      · obtain ⟨b, o, rfl, hb0, hcell⟩ := C_cell HC.out k hl
        have hz0 : 0 ≤ l.getD k 0 ∧ l.getD k 0 < 256 := H8.out _ (by rw [List.getD_eq_getElem?_getD, List.getElem?_eq_getElem hl]; exact List.getElem_mem hl)
        have hacc : accB l (k + 1) = accB l k * 256 + l.getD k 0 := rfl
        obtain ⟨z, hz⟩ : ∃ z, l.getD k 0 = z := ⟨_, rfl⟩
        obtain ⟨n, hn⟩ : ∃ n, accB l k = n := ⟨_, rfl⟩
        rw [hz] at hcell hz0 hacc
        rw [hn] at hn0 hacc
        rw [hn]
        have HAC := Aside0.mk hacc
        have HN0 := Aside0.mk (And.intro hn0.1 (Int.lt_of_lt_of_le hn0.2 hp))
        have HZ0 := Aside0.mk hz0
        clear hz hn hacc hn0 hp hz0
        go_wp2
        go_round
        case rel => exact ⟨k + 1, by first | rfl | simp, by
          obtain ⟨hn1, hn2⟩ := HN0.out
          obtain ⟨hz1, hz2⟩ := HZ0.out
          rw [HAC.out, w64 (n * 256) (by omega) (by omega), w64 z (by omega) (by omega), i64_or8 (by omega) (by omega) (by omega) hz1 hz2], by omega, trivial⟩
        case measure => simp [intOf]; omega
      · have hacc : accB l (k + 1) = accB l k * 256 := by
          show accB l k * 256 + l.getD k 0 = _
          rw [List.getD_eq_getElem?_getD, List.getElem?_eq_none (by omega)]
          simp
        obtain ⟨n, hn⟩ : ∃ n, accB l k = n := ⟨_, rfl⟩
        rw [hn] at hn0 hacc
        rw [hn]
        have HAC := Aside0.mk hacc
        have HN0 := Aside0.mk (And.intro hn0.1 (Int.lt_of_lt_of_le hn0.2 hp))
        clear hn hacc hn0 hp
        go_wp2
        go_round
        case rel => exact ⟨k + 1, by first | rfl | simp, by
          obtain ⟨hn1, hn2⟩ := HN0.out
          rw [HAC.out]
          first | rfl | rw [w64 (n * 256) (by omega) (by omega)], by omega, trivial⟩
        case measure => simp [intOf]; omega
    · obtain rfl : k = 3 := by omega
      obtain ⟨w0, rfl⟩ : ∃ w0, w0 = wr := ⟨_, rfl⟩
      have hn0 := accB_in l H8.out 3
      obtain ⟨n, hn⟩ : ∃ n, accB l 3 = n := ⟨_, rfl⟩
      rw [hn] at hn0
      rw [hn]
      have HNN := Aside0.mk hn
      clear hn
      have hn1 : 0 ≤ n := hn0.1
      have hn2 : n < 16777216 := hn0.2
      clear hn0
      go_wp2
      go_loopw [24] (fun v24 wx => ∃ k : Nat, v24 = .int .i64 k ∧ k ≤ 4 ∧ Aside0 (wx.heap[w0.heap.size]? = some (.cells (cellsK n k) 143 (0, 0)) ∧ Below w0.heap.size w0 wx)) (fun v24 _ => 4 - (intOf v24).toNat)
      case atStart => exact ⟨0, rfl, by omega, ⟨blk_at_new _ _ _ rfl, (Below.refl _ _).alloc (Nat.le_refl _) _⟩⟩
      case round =>
        obtain ⟨k, rfl, hk, HI⟩ := hrel
        by_cases hlt : k < 4
        · rcases (by omega : k = 0 ∨ k = 1 ∨ k = 2 ∨ k = 3) with rfl | rfl | rfl | rfl
          · have hb := i64_and63 (x := n / 262144) (by omega) (by omega)
            obtain ⟨i, hi⟩ : ∃ i, n / 262144 % 64 = i := ⟨_, rfl⟩
            have hi0 : 0 ≤ i := by omega
            have hi1 : i < 64 := by omega
            rw [hi] at hb
            have hs := sg_eq i hi0 hi1 (idx_lt hi0 hi1)
            obtain ⟨s, hsz⟩ : ∃ s, sgZ i = s := ⟨_, rfl⟩
            rw [hsz] at hs
            have BX := Aside0.mk HI.out.1
            have HB := Aside0.mk HI.out.2
            have HSZ := Aside0.mk (hi ▸ hsz : sgZ (n / 262144 % 64) = s)
            clear HI hi hsz
            go_wp2_with (first | (refine wpList_store_1 rfl 5 _ _ rfl w0.heap.size 0 (.int .u8 s) rfl rfl rfl 143 (cellsK n 0) (cellsK n 1) BX.out (by simp [cellsK]) (by kernel_rfl) (by rw [← HSZ.out]; rfl) ?_; intro w2 hbk hst; have BX2 := Aside0.mk hbk; have HB2 := Aside0.mk (hst.up HB.out (Nat.le_refl _)); clear hbk hst))
            go_round
            case rel => exact ⟨1, by first | rfl | simp, by omega, ⟨BX2.out, HB2.out⟩⟩
            case measure => simp [intOf]
          · have hb := i64_and63 (x := n / 4096) (by omega) (by omega)
            obtain ⟨i, hi⟩ : ∃ i, n / 4096 % 64 = i := ⟨_, rfl⟩
            have hi0 : 0 ≤ i := by omega
            have hi1 : i < 64 := by omega
            rw [hi] at hb
            have hs := sg_eq i hi0 hi1 (idx_lt hi0 hi1)
            obtain ⟨s, hsz⟩ : ∃ s, sgZ i = s := ⟨_, rfl⟩
            rw [hsz] at hs
            have BX := Aside0.mk HI.out.1
            have HB := Aside0.mk HI.out.2
            have HSZ := Aside0.mk (hi ▸ hsz : sgZ (n / 4096 % 64) = s)
            clear HI hi hsz
            go_wp2_with (first | (refine wpList_store_1 rfl 5 _ _ rfl w0.heap.size 1 (.int .u8 s) rfl rfl rfl 143 (cellsK n 1) (cellsK n 2) BX.out (by simp [cellsK]) (by kernel_rfl) (by rw [← HSZ.out]; rfl) ?_; intro w2 hbk hst; have BX2 := Aside0.mk hbk; have HB2 := Aside0.mk (hst.up HB.out (Nat.le_refl _)); clear hbk hst))
            go_round
            case rel => exact ⟨2, by first | rfl | simp, by omega, ⟨BX2.out, HB2.out⟩⟩
            case measure => simp [intOf]
          · have hb := i64_and63 (x := n / 64) (by omega) (by omega)
            obtain ⟨i, hi⟩ : ∃ i, n / 64 % 64 = i := ⟨_, rfl⟩
            have hi0 : 0 ≤ i := by omega
            have hi1 : i < 64 := by omega
            rw [hi] at hb
            have hs := sg_eq i hi0 hi1 (idx_lt hi0 hi1)
            obtain ⟨s, hsz⟩ : ∃ s, sgZ i = s := ⟨_, rfl⟩
            rw [hsz] at hs
            have BX := Aside0.mk HI.out.1
            have HB := Aside0.mk HI.out.2
            have HSZ := Aside0.mk (hi ▸ hsz : sgZ (n / 64 % 64) = s)
            clear HI hi hsz
            go_wp2_with (first | (refine wpList_store_1 rfl 5 _ _ rfl w0.heap.size 2 (.int .u8 s) rfl rfl rfl 143 (cellsK n 2) (cellsK n 3) BX.out (by simp [cellsK]) (by kernel_rfl) (by rw [← HSZ.out]; rfl) ?_; intro w2 hbk hst; have BX2 := Aside0.mk hbk; have HB2 := Aside0.mk (hst.up HB.out (Nat.le_refl _)); clear hbk hst))
            go_round
            case rel => exact ⟨3, by first | rfl | simp, by omega, ⟨BX2.out, HB2.out⟩⟩
            case measure => simp [intOf]
          · have hb := i64_and63 (x := n) (by omega) (by omega)
            obtain ⟨i, hi⟩ : ∃ i, n % 64 = i := ⟨_, rfl⟩
            have hi0 : 0 ≤ i := by omega
            have hi1 : i < 64 := by omega
            rw [hi] at hb
            have hs := sg_eq i hi0 hi1 (idx_lt hi0 hi1)
            obtain ⟨s, hsz⟩ : ∃ s, sgZ i = s := ⟨_, rfl⟩
            rw [hsz] at hs
            have BX := Aside0.mk HI.out.1
            have HB := Aside0.mk HI.out.2
            have HSZ := Aside0.mk (hi ▸ hsz : sgZ (n % 64) = s)
            clear HI hi hsz
            go_wp2_with (first | (refine wpList_store_1 rfl 5 _ _ rfl w0.heap.size 3 (.int .u8 s) rfl rfl rfl 143 (cellsK n 3) (cellsK n 4) BX.out (by simp [cellsK]) (by kernel_rfl) (by rw [← HSZ.out]; rfl) ?_; intro w2 hbk hst; have BX2 := Aside0.mk hbk; have HB2 := Aside0.mk (hst.up HB.out (Nat.le_refl _)); clear hbk hst))
            go_round
            case rel => exact ⟨4, by first | rfl | simp, by omega, ⟨BX2.out, HB2.out⟩⟩
            case measure => simp [intOf]
        · obtain rfl : k = 4 := by omega
          have BX := Aside0.mk HI.out.1
          have HB := Aside0.mk HI.out.2
          clear HI
          obtain ⟨W, hW⟩ : ∃ W, W = wr := ⟨_, rfl⟩
          rw [← hW] at BX HB ⊢
          clear hW
          have hcs : (Kd.int .u8).C W (some ⟨w0.heap.size, 0, none⟩) (l.length + 1) ((sgsZ n).take (l.length + 1)) := C_signs BX.out (by omega)
          have HCS := Aside0.mk hcs
          have hm1 : (1 : Int) ≤ ↑l.length := by omega
          have hm3 : (l.length : Int) ≤ 3 := by omega
          have hal : Tryz.prog.arrayLen 143 = 4 := by kernel_rfl
          have hw1 : IntKind.i64.wrap ((l.length : Int) + 1) = (l.length : Int) + 1 := by rw [IntKind.wrap_i64]; omega
          have hw2 : IntKind.i64.wrap (3 - (l.length : Int)) = 3 - (l.length : Int) := by rw [IntKind.wrap_i64]; omega
          have hle4 : (l.length : Int) + 1 ≤ 4 := by omega
          have hge0 : (0 : Int) ≤ (l.length : Int) + 1 := by omega
          go_upto_region 15 with fail
          (refine wp_region_noPanic ?_; refine wp_region_held_drew (S := fun w' => Below W.heap.size W w') (by kernel_rfl) (by (try dsimp only); exact below_drew1 (Below.refl _ _)) ?_; intro hHeld)
          (refine wpAnyH_take (i := 0) (v := ?_) (by simp only [List.getElem?_toArray, List.getElem?_cons_succ, List.getElem?_cons_zero]; rfl) (by kernel_rfl) (by kernel_rfl) (by kernel_rfl) (fun _ _ _ h => h) (Or.inl ⟨by rfl, ?_⟩) (by assumption) ?_; rotate_left; (focus (intro w hSw; (try dsimp only at hSw); go_simp; (try with_reducible rfl); done)); (try simp only [Act.put, List.setIfInBounds_toArray, List.set_cons_zero, List.set_cons_succ]))
          (refine wpAnyH_take (i := 1) (v := ?_) (by simp only [List.getElem?_toArray, List.getElem?_cons_succ, List.getElem?_cons_zero]; rfl) (by kernel_rfl) (by kernel_rfl) (by kernel_rfl) (fun _ _ _ h => h) (Or.inl ⟨by rfl, ?_⟩) (by assumption) ?_; rotate_left; (focus (intro w hSw; (try dsimp only at hSw); go_simp; (try with_reducible rfl); done)); (try simp only [Act.put, List.setIfInBounds_toArray, List.set_cons_zero, List.set_cons_succ]))
          (refine wpAnyH_take (i := 2) (v := ?_) (by simp only [List.getElem?_toArray, List.getElem?_cons_succ, List.getElem?_cons_zero]; rfl) (by kernel_rfl) (by kernel_rfl) (by kernel_rfl) (fun _ _ _ h => h) (Or.inl ⟨by rfl, ?_⟩) (by assumption) ?_; rotate_left; (focus (intro w hSw; (try dsimp only at hSw); go_simp; (try with_reducible rfl); done)); (try simp only [Act.put, List.setIfInBounds_toArray, List.set_cons_zero, List.set_cons_succ]))
          (refine wpAnyH_take (i := 3) (v := ?_) (by simp only [List.getElem?_toArray, List.getElem?_cons_succ, List.getElem?_cons_zero]; rfl) (by kernel_rfl) (by kernel_rfl) (by kernel_rfl) (fun _ _ _ h => h) (Or.inl ⟨by rfl, ?_⟩) (by assumption) ?_; rotate_left; (focus (intro w hSw; (try dsimp only at hSw); go_simp; (try with_reducible rfl); done)); (try simp only [Act.put, List.setIfInBounds_toArray, List.set_cons_zero, List.set_cons_succ]))
          (refine wpAnyH_take (i := 5) (v := ?_) (by simp only [List.getElem?_toArray, List.getElem?_cons_succ, List.getElem?_cons_zero]; rfl) (by kernel_rfl) (by kernel_rfl) (by kernel_rfl) (fun _ _ _ h => h) (Or.inl ⟨by rfl, ?_⟩) (by assumption) ?_; rotate_left; (focus (intro w hSw; (try dsimp only at hSw); go_simp; (try with_reducible rfl); done)); (try simp only [Act.put, List.setIfInBounds_toArray, List.set_cons_zero, List.set_cons_succ]))
          (refine wpAnyH_take (i := 6) (v := ?_) (by simp only [List.getElem?_toArray, List.getElem?_cons_succ, List.getElem?_cons_zero]; rfl) (by kernel_rfl) (by kernel_rfl) (by kernel_rfl) (fun _ _ _ h => h) (Or.inl ⟨by rfl, ?_⟩) (by assumption) ?_; rotate_left; (focus (intro w hSw; (try dsimp only at hSw); go_simp; (try with_reducible rfl); done)); (try simp only [Act.put, List.setIfInBounds_toArray, List.set_cons_zero, List.set_cons_succ]))
          (refine wpAnyH_take (i := 7) (v := ?_) (by simp only [List.getElem?_toArray, List.getElem?_cons_succ, List.getElem?_cons_zero]; rfl) (by kernel_rfl) (by kernel_rfl) (by kernel_rfl) (fun _ _ _ h => h) (Or.inl ⟨by rfl, ?_⟩) (by assumption) ?_; rotate_left; (focus (intro w hSw; (try dsimp only at hSw); go_simp; (try with_reducible rfl); done)); (try simp only [Act.put, List.setIfInBounds_toArray, List.set_cons_zero, List.set_cons_succ]))
          (refine wpAnyH_take (i := 4) (v := ?_) (by simp only [List.getElem?_toArray, List.getElem?_cons_succ, List.getElem?_cons_zero]; rfl) (by kernel_rfl) (by kernel_rfl) (by kernel_rfl) (fun _ _ _ h => h) (Or.inl ⟨by rfl, ?_⟩) (by exact hHeld) ?_; rotate_left; (focus (intro w' hSw; have hcv : (convert 22 9 (.slice (some ⟨w0.heap.size, 0, none⟩) (l.length + 1) 4)).run Tryz.prog w' = .ok (.string (strOfNums ((sgsZ n).take (l.length + 1)))) w' := Kd.C_string Tryz.underlying22 Tryz.underlying5 Tryz.underlying9 (Kd.C_below HCS.out hSw); go_simp; (try with_reducible rfl); done)); (try simp only [Act.put, List.setIfInBounds_toArray, List.set_cons_zero, List.set_cons_succ]))
          obtain ⟨sg, hsg⟩ : ∃ x, strOfNums ((sgsZ n).take (l.length + 1)) = x := ⟨_, rfl⟩
          obtain ⟨pd, hpd⟩ : ∃ x, pads l.length = x := ⟨_, rfl⟩
          have hcat : ¬ 9223372036854775807 < sg.size + pd.size := by
            rw [← hsg, ← hpd]
            have e1 : (strOfNums ((sgsZ n).take (l.length + 1))).size ≤ 4 := by
              unfold strOfNums
              show (List.map _ _).toArray.size ≤ 4
              rw [List.size_toArray, List.length_map, List.length_take]
              show min _ 4 ≤ 4
              omega
            have e2 : (pads l.length).size ≤ 2 := by
              unfold pads
              split
              · decide
              split <;> decide
            omega
          have HSG := Aside0.mk hsg
          have HPD := Aside0.mk hpd
          rw [hpd] at HRP
          rw [hsg]
          clear hsg hpd hal hw1
          refine wpAnyH_ready (rs := [8]) (by kernel_rfl) (by simp) ?_
          refine AllReadyH.cons (by simp only [List.getElem?_toArray, List.getElem?_cons_succ, List.getElem?_cons_zero]; rfl) (fun K hK => ?_) AllReadyH.nil
          go_simp
          (go_at_call 117; (with_reducible refine (HRP.out _).mono ?_); rintro e w5 ⟨rfl, hb⟩)
          have hS5 := below_step hHeld hb
          refine hK.out _ _ hS5 ?_
          have HB5 := Aside0.mk (below_step HB.out hS5)
          clear hK K hHeld hb hS5
          intro hHeld
          (try simp only [Act.put, List.setIfInBounds_toArray, List.set_cons_zero, List.set_cons_succ])
          (refine wpAnyH_take (i := 9) (v := ?_) (by simp only [List.getElem?_toArray, List.getElem?_cons_succ, List.getElem?_cons_zero]; rfl) (by kernel_rfl) (by kernel_rfl) (by kernel_rfl) (fun _ _ _ h => h) (Or.inl ⟨by rfl, ?_⟩) (by assumption) ?_; rotate_left; (focus (intro w hSw; (try dsimp only at hSw); go_simp; (try with_reducible rfl); done)); (try simp only [Act.put, List.setIfInBounds_toArray, List.set_cons_zero, List.set_cons_succ]))
          (refine wpAnyH_take (i := 10) (v := ?_) (by simp only [List.getElem?_toArray, List.getElem?_cons_succ, List.getElem?_cons_zero]; rfl) (by kernel_rfl) (by kernel_rfl) (by kernel_rfl) (fun _ _ _ h => h) (Or.inl ⟨by rfl, ?_⟩) (by assumption) ?_; rotate_left; (focus (intro w hSw; (try dsimp only at hSw); go_simp; (try with_reducible rfl); done)); (try simp only [Act.put, List.setIfInBounds_toArray, List.set_cons_zero, List.set_cons_succ]))
          (refine wpAnyH_done (by kernel_rfl) ?_ _; refine NoPanic.normal ?_)
          go_wp2
          go_ret
          exact ⟨by first | (rw [HNN.out, HSG.out, HPD.out]; rfl) | (rw [HSG.out, HPD.out]; rfl), HB5.out⟩
end Go.Proofs.YtdgeiadlijlkmaaGreatDoor.X
namespace Go.Proofs.YtdgeiadlijlkmaaGreatDoor.X
open Go.RowKit Go.Proofs.YtdgeiadlijlkmaaGreatDoorW.PrintWords Go.Proofs.YtdgeiadlijlkmaaGreatDoorW.PrintMore
set_option linter.unusedVariables false
set_option linter.unusedSimpArgs false
/-- The number of a sign; -1: it is none. -/
def valZ (c : UInt8) : Int := Lib.indexByte ((⟨#[65, 66, 67, 68, 69, 70, 71, 72, 73, 74, 75, 76, 77, 78, 79, 80, 81, 82, 83, 84, 85, 86, 87, 88, 89, 90, 97, 98, 99, 100, 101, 102, 103, 104, 105, 106, 107, 108, 109, 110, 111, 112, 113, 114, 115, 116, 117, 118, 119, 120, 121, 122, 48, 49, 50, 51, 52, 53, 54, 55, 56, 57, 43, 47]⟩ : ByteArray) : ByteArray).data.toList c
theorem indexByte_lt (l : List UInt8) (c : UInt8) : -1 ≤ Lib.indexByte l c ∧ Lib.indexByte l c < l.length ∨ l = [] ∧ Lib.indexByte l c = -1 := by
  induction l with
  | nil => exact .inr ⟨rfl, rfl⟩
  | cons b l ih =>
    left
    unfold Lib.indexByte
    rw [List.length_cons]
    by_cases hb : b = c
    · first | (simp [hb]; done) | (simp [hb]; omega)
    · have hb2 : (b == c) = false := beq_eq_false_iff_ne.2 hb
      rw [hb2]
      by_cases h2 : Lib.indexByte l c = -1
      · rw [h2]; simp; omega
      · have h3 : (Lib.indexByte l c == -1) = false := beq_eq_false_iff_ne.2 h2
        rw [if_neg (by simp), if_neg (by simp [h3])]
        rcases ih with ih | ih
        · omega
        · exact absurd ih.2 h2
theorem valZ_in (c : UInt8) : -1 ≤ valZ c ∧ valZ c < 64 := by
  rcases indexByte_lt ((⟨#[65, 66, 67, 68, 69, 70, 71, 72, 73, 74, 75, 76, 77, 78, 79, 80, 81, 82, 83, 84, 85, 86, 87, 88, 89, 90, 97, 98, 99, 100, 101, 102, 103, 104, 105, 106, 107, 108, 109, 110, 111, 112, 113, 114, 115, 116, 117, 118, 119, 120, 121, 122, 48, 49, 50, 51, 52, 53, 54, 55, 56, 57, 43, 47]⟩ : ByteArray) : ByteArray).data.toList c with h | h
  · exact h
  · cases h.1
def accV (f : List UInt8) : Nat → Int
  | 0 => 0
  | k + 1 => accV f k * 64 + (if k < f.length then valZ (f.getD k 0) else 0)
def okV (f : List UInt8) (k : Nat) : Bool := (f.take k).all fun c => decide (0 ≤ valZ c)
theorem okV_succ (f : List UInt8) (k : Nat) (h : k < f.length) : okV f (k + 1) = (okV f k && decide (0 ≤ valZ (f.getD k 0))) := by
  unfold okV
  rw [List.take_succ_eq_append_getElem h, List.all_append, List.getD_eq_getElem?_getD, List.getElem?_eq_getElem h]
  simp
theorem okV_end (f : List UInt8) (k : Nat) (h : f.length ≤ k) : okV f (k + 1) = okV f k := by
  unfold okV
  rw [List.take_of_length_le (by omega), List.take_of_length_le h]
theorem accV_in (f : List UInt8) : ∀ k, okV f k = true → 0 ≤ accV f k ∧ accV f k < 64 ^ k
  | 0, _ => ⟨Int.le_refl 0, (by show (0 : Int) < 1; decide)⟩
  | k + 1, h => by
    unfold accV
    have e : (64 : Int) ^ (k + 1) = 64 ^ k * 64 := Int.pow_succ _ _
    by_cases hk : k < f.length
    · rw [okV_succ f k hk, Bool.and_eq_true] at h
      have ih := accV_in f k h.1
      have hv := of_decide_eq_true h.2
      have hv2 := (valZ_in (f.getD k 0)).2
      rw [if_pos hk]
      omega
    · rw [okV_end f k (by omega)] at h
      have ih := accV_in f k h
      rw [if_neg hk]
      omega
theorem okV_false (f : List UInt8) (k j : Nat) (h : okV f k = false) : okV f (k + j) = false := by
  induction j with
  | zero => exact h
  | succ j ih =>
    show okV f (k + j + 1) = false
    by_cases hk : k + j < f.length
    · rw [okV_succ f _ hk, ih]; rfl
    · rw [okV_end f _ (by omega)]; exact ih
def bytes3 (n : Int) : List Int := [n / 65536 % 256, n / 256 % 256, n % 256]
theorem C_bytes3 {W : World} {g m : Nat} {n : Int} (h : W.heap[g]? = some (.cells #[.int .u8 (n / 65536 % 256), .int .u8 (n / 256 % 256), .int .u8 (n % 256)] 5 (0, 0))) (hm : m ≤ 3) : (Kd.int .u8).C W (some ⟨g, 0, none⟩) m ((bytes3 n).take m) := by
  refine ⟨by rw [List.length_take]; show min m 3 = m; omega, by omega, fun _ => ⟨_, rfl, fun j p hj => ⟨[.int .u8 p], rfl, rfl, fun i u hu => ?_⟩⟩⟩
  have hi : i = 0 := by
    have := (List.getElem?_eq_some_iff.1 hu).1
    simpa using this
  subst hi
  obtain rfl : Value.int .u8 p = u := by simpa using hu
  have hjl : j < m := by
    have := (List.getElem?_eq_some_iff.1 hj).1
    rw [List.length_take] at this
    omega
  rw [List.getElem?_take_of_lt hjl] at hj
  rw [add_plain, show 0 + (j * (Kd.int .u8).sz + 0) = j from by show 0 + (j * 1 + 0) = j; omega]
  refine (blk_cell h j).trans ?_
  rcases (by omega : j = 0 ∨ j = 1 ∨ j = 2) with rfl | rfl | rfl
  all_goals
    obtain rfl := Option.some.inj hj
    rfl
/-- Four signs as up to three bytes. -/
def threeS (s : ByteArray) : Option (List Int) :=
  if okV (Lib.trimRightB s.data.toList 61) 4 = true ∧ 2 ≤ (Lib.trimRightB s.data.toList 61).length ∧ fourS ((bytes3 (accV (Lib.trimRightB s.data.toList 61) 4)).take ((Lib.trimRightB s.data.toList 61).length - 1)) = s
  then some ((bytes3 (accV (Lib.trimRightB s.data.toList 61) 4)).take ((Lib.trimRightB s.data.toList 61).length - 1)) else none
def ThreeP (r : Option (List Int)) (w : World) (e : Ending) (w' : World) : Prop := Below w.heap.size w w' ∧ match r with
  | none => e = .returned (.tuple #[.slice none 0 0, .bool false])
  | some l => ∃ A c, e = .returned (.tuple #[.slice A l.length c, .bool true]) ∧ l.length ≤ c ∧ (Kd.int .u8).C w' A l.length l
set_option maxRecDepth 100000 in
set_option maxHeartbeats 4000000 in
theorem three_calls (s : ByteArray) (w : World) (hs : s.size = 4) :
    Calls Tryz.prog 84 #[.string s] w (ThreeP (threeS s) w) := by
  obtain ⟨F, hF⟩ : ∃ F : ByteArray, (⟨(Lib.trimRightB s.data.toList 61).toArray⟩ : ByteArray) = F := ⟨_, rfl⟩
  have HTR : Aside0 (∀ w', Calls Tryz.prog 104 #[.string s, .string (⟨#[61]⟩ : ByteArray)] w' fun e w'' => e = .returned (.string F) ∧ w'' = w') := ⟨fun w' => hF ▸ Tryz.strings_TrimRight_one s 61 (by decide) w' (by omega)⟩
  obtain ⟨R, hR⟩ : ∃ R, threeS s = R := ⟨_, rfl⟩
  rw [hR]
  unfold threeS at hR
  obtain ⟨f, hf⟩ : ∃ f, Lib.trimRightB s.data.toList 61 = f := ⟨_, rfl⟩
  rw [hf] at hR hF
  have hFl : F.size = f.length := by rw [← hF]; exact List.size_toArray
  have hfl : f.length ≤ 4 := by
    rw [← hf]
    have h1 : (Lib.trimRightB s.data.toList 61).length ≤ s.data.toList.length := by
      unfold Lib.trimRightB
      have := (List.dropWhile_suffix (fun x : UInt8 => x == 61) (l := s.data.toList.reverse)).length_le
      simpa using this
    have h2 : s.data.toList.length = 4 := hs
    omega
  have HR := Aside0.mk hR
  have HFF := Aside0.mk hF
  have HFL := Aside0.mk hFl
  clear hR hf hF hFl
  go_enter Tryz.func84, Tryz.ntmps84
  go_wp2_with (first | (go_at_call 104; (with_reducible refine (HTR.out _).mono ?_); rintro e w1 ⟨rfl, rfl⟩))
  go_loopw [5, 11] (fun v5 v11 wr => ∃ k : Nat, v11 = .int .i64 k ∧ v5 = .int .i64 (accV f k) ∧ k ≤ 4 ∧ Aside0 (okV f k = true) ∧ wr = w1) (fun _ v11 _ => 4 - (intOf v11).toNat)
  case atStart => exact ⟨0, rfl, rfl, by omega, ⟨rfl⟩, rfl⟩
  case round =>
    obtain ⟨k, rfl, rfl, hk, HOK, rfl⟩ := hrel
    by_cases hlt : k < 4
    · have hac := accV_in f k HOK.out
      have hp : (64 : Int) ^ k ≤ 262144 := by
        rcases (by omega : k = 0 ∨ k = 1 ∨ k = 2 ∨ k = 3) with rfl | rfl | rfl | rfl <;> decide
      have HACC : Aside0 (accV f (k + 1) = accV f k * 64 + (if k < f.length then valZ (f.getD k 0) else 0)) := ⟨rfl⟩
      obtain ⟨n, hn⟩ : ∃ n, accV f k = n := ⟨_, rfl⟩
      rw [hn] at hac HACC ⊢
      have HN := Aside0.mk (And.intro hac.1 (Int.lt_of_lt_of_le hac.2 hp))
      clear hn hac hp
      by_cases hl : k < F.size
      · have hkf : k < f.length := HFL.out ▸ hl
        obtain ⟨ch, hch⟩ : ∃ ch, f.getD k 0 = ch := ⟨_, rfl⟩
        have hz : ((F[k]'hl).toNat : Int) = (ch.toNat : Int) := by
          subst hch
          have hFF := HFF.out
          subst hFF
          rw [List.getD_eq_getElem?_getD, List.getElem?_eq_getElem hkf]
          rfl
        have hin := valZ_in ch
        have HIX : Aside0 (∀ w', Calls Tryz.prog 57 #[.string (⟨#[65, 66, 67, 68, 69, 70, 71, 72, 73, 74, 75, 76, 77, 78, 79, 80, 81, 82, 83, 84, 85, 86, 87, 88, 89, 90, 97, 98, 99, 100, 101, 102, 103, 104, 105, 106, 107, 108, 109, 110, 111, 112, 113, 114, 115, 116, 117, 118, 119, 120, 121, 122, 48, 49, 50, 51, 52, 53, 54, 55, 56, 57, 43, 47]⟩ : ByteArray), .int .u8 (ch.toNat : Int)] w' fun e w'' => e = .returned (.int .i64 (valZ ch)) ∧ w'' = w') := ⟨fun w' => by
          have := Tryz.strings_IndexByte (⟨#[65, 66, 67, 68, 69, 70, 71, 72, 73, 74, 75, 76, 77, 78, 79, 80, 81, 82, 83, 84, 85, 86, 87, 88, 89, 90, 97, 98, 99, 100, 101, 102, 103, 104, 105, 106, 107, 108, 109, 110, 111, 112, 113, 114, 115, 116, 117, 118, 119, 120, 121, 122, 48, 49, 50, 51, 52, 53, 54, 55, 56, 57, 43, 47]⟩ : ByteArray) (ch.toNat : Int) w'
          have e : (ch.toNat : Int).toNat.toUInt8 = ch := by simp
          rw [e] at this
          exact this⟩
        have HOS := Aside0.mk (okV_succ f k hkf)
        rw [hch] at HOS
        have HA2 := HACC.out
        rw [if_pos hkf, hch] at HA2
        have HACC2 := Aside0.mk HA2
        have hkF : (k : Int) < ↑F.size := by omega
        obtain ⟨v, hv⟩ : ∃ v, valZ ch = v := ⟨_, rfl⟩
        rw [hv] at hin HIX HOS HACC2
        have HIN := Aside0.mk hin
        clear hin hch hkf HACC HA2 hv
        by_cases hv0 : v < 0
        · go_wp2_with (first | (go_at_call 57; (with_reducible refine (HIX.out _).mono ?_); rintro e w2 ⟨rfl, rfl⟩))
          go_ret2
          have hno : okV f 4 = false := by
            have h1 : okV f (k + 1) = false := by rw [HOS.out, decide_eq_false (by omega), Bool.and_false]
            have := okV_false f (k + 1) (3 - k) h1
            rwa [show k + 1 + (3 - k) = 4 by omega] at this
          have hR := HR.out
          rw [if_neg (fun h => by rw [hno] at h; exact absurd h.1 (by decide))] at hR
          subst hR
          exact ⟨Below.refl _ _, rfl⟩
        · have hv1 : 0 ≤ v := by omega
          go_wp2_with (first | (go_at_call 57; (with_reducible refine (HIX.out _).mono ?_); rintro e w2 ⟨rfl, rfl⟩))
          go_round
          case rel => exact ⟨k + 1, by first | rfl | simp, by
            obtain ⟨hn1, hn2⟩ := HN.out
            rw [HACC2.out, w64 (n * 64) (by omega) (by omega), i64_or6 (by omega) (by omega) (by omega) hv1 HIN.out.2], by omega, ⟨by rw [HOS.out, HOK.out, decide_eq_true hv1]; rfl⟩, trivial⟩
          case measure => simp [intOf]; omega
      · have hkf : ¬ k < f.length := fun h => hl (HFL.out ▸ h)
        have HA2 := HACC.out
        rw [if_neg hkf, Int.add_zero] at HA2
        have HACC2 := Aside0.mk HA2
        have HOS := Aside0.mk (okV_end f k (by omega))
        have hkF : ¬ (k : Int) < ↑F.size := by omega
        clear hkf HACC HA2
        go_wp2
        go_round
        case rel => exact ⟨k + 1, by first | rfl | simp, by
          obtain ⟨hn1, hn2⟩ := HN.out
          rw [HACC2.out]
          first | rfl | rw [w64 (n * 64) (by omega) (by omega)], by omega, ⟨by rw [HOS.out]; exact HOK.out⟩, trivial⟩
        case measure => simp [intOf]; omega
    · obtain rfl : k = 4 := by omega
      have hac := accV_in f 4 HOK.out
      have hR := HR.out
      obtain ⟨n, hn⟩ : ∃ n, accV f 4 = n := ⟨_, rfl⟩
      rw [hn] at hac hR ⊢
      have hn1 : 0 ≤ n := hac.1
      have hn2 : n < 16777216 := hac.2
      have hu1 : IntKind.u8.wrap (n / 65536) = n / 65536 % 256 := IntKind.wrap_u8 _
      have hu2 : IntKind.u8.wrap (n / 256) = n / 256 % 256 := IntKind.wrap_u8 _
      have hu3 : IntKind.u8.wrap n = n % 256 := IntKind.wrap_u8 _
      clear hn hac
      by_cases h2 : f.length < 2
      · rw [if_neg (fun h => by omega)] at hR
        subst hR
        have hF2 : (F.size : Int) < 2 := by have := HFL.out; omega
        go_wp2
        go_ret2
        exact ⟨(Below.refl _ _).alloc (Nat.le_refl _) _, rfl⟩
      · have hF2 : ¬ (F.size : Int) < 2 := by have := HFL.out; omega
        obtain ⟨m, hm⟩ : ∃ m, f.length - 1 = m := ⟨_, rfl⟩
        have hFm : (F.size : Int) = (m : Int) + 1 := by have := HFL.out; omega
        rw [hm] at hR
        have hm1 : 1 ≤ m := by omega
        have hm3 : m ≤ 3 := by omega
        have HR2 := Aside0.mk hR
        have HFM := Aside0.mk hFm
        clear hR hm
        go_upto_region 14 with fail
        obtain ⟨g, hg⟩ : ∃ g, wr.heap.size = g := ⟨_, rfl⟩
        obtain ⟨W, hW⟩ : ∃ W, wr.alloc (.cells #[.int .u8 (n / 65536 % 256), .int .u8 (n / 256 % 256), .int .u8 (n % 256)] 5) = W := ⟨_, rfl⟩
        have BX := Aside0.mk (show W.heap[g]? = some (.cells #[.int .u8 (n / 65536 % 256), .int .u8 (n / 256 % 256), .int .u8 (n % 256)] 5 (0, 0)) from hW ▸ blk_at_new _ _ _ hg.symm)
        have HB := Aside0.mk (show Below wr.heap.size wr W from hW ▸ (Below.refl _ _).alloc (Nat.le_refl _) _)
        rw [hW, hg]
        have hml : ((bytes3 n).take m).length = m := by rw [List.length_take]; show min m 3 = m; omega
        have HC3 := Aside0.mk (C_bytes3 (m := m) BX.out hm3)
        have h83 : B8 ((bytes3 n).take m) := fun z hz => by
          have := List.mem_of_mem_take hz
          simp only [bytes3, List.mem_cons, List.not_mem_nil, or_false] at this
          rcases this with rfl | rfl | rfl <;> omega
        have HFO : Aside0 (Calls Tryz.prog 105 #[.slice (some ⟨g, 0, none⟩) m 3] W fun e w' => e = .returned (.string (fourS ((bytes3 n).take m))) ∧ Below W.heap.size W w') := ⟨by
          have := four_calls ((bytes3 n).take m) (some ⟨g, 0, none⟩) 3 W (by rw [hml]; exact HC3.out) (by omega) h83 (by omega) (by omega)
          rw [hml] at this
          exact this⟩
        obtain ⟨x, hx⟩ : ∃ x, fourS ((bytes3 n).take m) = x := ⟨_, rfl⟩
        have hR := HR2.out
        rw [hx] at HFO hR
        obtain ⟨q, hq⟩ : ∃ q, (x.toList == s.toList) = q := ⟨_, rfl⟩
        have hmi1 : (1 : Int) ≤ ↑m := by omega
        have hmi3 : (m : Int) ≤ 3 := by omega
        have hFm := HFM.out
        have HML := Aside0.mk hml
        have HQ := Aside0.mk hq
        clear hW hg h83 hx hml
        cases q
        · rw [if_neg (fun h => by rw [h.2.2] at hq; simp at hq)] at hR
          subst hR
          go_wp2_with (first | (go_at_call 105; (with_reducible refine (HFO.out).mono ?_); rintro e w5 ⟨rfl, hb⟩))
          go_ret2
          exact ⟨below_step HB.out hb, rfl⟩
        · have hxs : x = s := by
            have := beq_iff_eq.1 hq
            rw [ByteArray.toList_eq, ByteArray.toList_eq] at this
            rcases x with ⟨⟨a⟩⟩
            rcases s with ⟨⟨b⟩⟩
            have : a = b := this
            rw [this]
          rw [if_pos ⟨HOK.out, by omega, hxs⟩] at hR
          subst hR
          go_wp2_with (first | (go_at_call 105; (with_reducible refine (HFO.out).mono ?_); rintro e w5 ⟨rfl, hb⟩))
          go_ret2
          exact ⟨below_step HB.out hb, some ⟨g, 0, none⟩, 3, by rw [HML.out]; rfl, by rw [HML.out]; omega, by rw [HML.out]; exact Kd.C_below HC3.out hb⟩
end Go.Proofs.YtdgeiadlijlkmaaGreatDoor.X
namespace Go.Proofs.YtdgeiadlijlkmaaGreatDoor.X
open Go.RowKit Go.Proofs.YtdgeiadlijlkmaaGreatDoorW.PrintWords Go.Proofs.YtdgeiadlijlkmaaGreatDoorW.PrintMore
set_option linter.unusedVariables false
set_option linter.unusedSimpArgs false
/-- The bytes of a text of sixty-four signs, behind those that are there. -/
def dec64 (s : ByteArray) (acc : List Int) : Option (List Int) :=
  if h0 : s.size = 0 then some acc else if h4 : s.size < 4 then none else match threeS (s.extract 0 4) with
    | none => none
    | some b => if b.length < 3 ∧ 4 < s.size then none else dec64 (s.extract 4 s.size) (acc ++ b)
termination_by s.size
decreasing_by rw [ByteArray.size_extract]; omega
def b64S (s : ByteArray) : Option (List Int) := dec64 s []
theorem dec64_nil (s : ByteArray) (acc : List Int) (h : s.size = 0) : dec64 s acc = some acc := by rw [dec64, dif_pos h]
theorem dec64_few (s : ByteArray) (acc : List Int) (h : s.size ≠ 0) (h4 : s.size < 4) : dec64 s acc = none := by rw [dec64, dif_neg h, dif_pos h4]
theorem dec64_none (s : ByteArray) (acc : List Int) (h4 : 4 ≤ s.size) (h : threeS (s.extract 0 4) = none) : dec64 s acc = none := by rw [dec64, dif_neg (by omega), dif_neg (by omega), h]
theorem dec64_some (s : ByteArray) (acc b : List Int) (h4 : 4 ≤ s.size) (h : threeS (s.extract 0 4) = some b) : dec64 s acc = if b.length < 3 ∧ 4 < s.size then none else dec64 (s.extract 4 s.size) (acc ++ b) := by rw [dec64, dif_neg (by omega), dif_neg (by omega), h]
theorem threeS_len {s : ByteArray} {b : List Int} (h : threeS s = some b) : b.length ≤ 3 := by
  unfold threeS at h
  split at h
  · cases h
    rw [List.length_take]
    show min _ 3 ≤ 3
    omega
  · cases h
set_option maxRecDepth 100000 in
set_option maxHeartbeats 4000000 in
theorem decode_calls (s : ByteArray) (w : World) (hs : s.size ≤ 1000000) :
    Calls Tryz.prog 60 #[.string s] w (DecP (b64S s) w) := by
  obtain ⟨R, hR⟩ : ∃ R, b64S s = R := ⟨_, rfl⟩
  rw [hR]
  unfold b64S at hR
  have HR := Aside0.mk hR
  clear hR
  go_enter Tryz.func60, Tryz.ntmps60
  go_wp2
  go_loopw [0, 4] (fun v0 v4 wr => ∃ (s' : ByteArray) (acc : List Int), v0 = .string s' ∧ s'.size + acc.length ≤ 1000000 ∧ Aside0 (dec64 s' acc = R) ∧ Aside0 (wr.ownsRow w.heap.size 5 1 v4 acc.length (encs (Value.int .u8) acc) ∧ Below w.heap.size w wr)) (fun v0 _ _ => strSz v0)
  case atStart => exact ⟨s, [], rfl, by simpa using hs, HR, ⟨World.ownsRow_nil _ _ _ _, Below.refl _ _⟩⟩
  case round =>
    obtain ⟨s', acc, rfl, hsz, HD, HI⟩ := hrel
    have HOW := Aside0.mk HI.out.1
    have HB := Aside0.mk HI.out.2
    clear HI
    by_cases h0 : s'.size = 0
    · obtain rfl : s' = ⟨#[]⟩ := by rcases s' with ⟨⟨l⟩⟩; cases l with | nil => rfl | cons a b => cases h0
      have hR := HD.out
      rw [dec64_nil _ _ rfl] at hR
      subst hR
      go_wp2
      go_ret2
      exact ⟨_, rfl, HOW.out, HB.out⟩
    have hne : s'.toList.isEmpty = false := by
      rw [Bool.eq_false_iff]
      intro h
      rw [(bs_nil _).1 h] at h0
      exact h0 rfl
    by_cases h4 : s'.size < 4
    · have hR := HD.out
      rw [dec64_few _ _ h0 h4] at hR
      subst hR
      have h4i : (s'.size : Int) < 4 := by omega
      go_wp2
      go_ret2
      exact ⟨rfl, HB.out⟩
    have h4i : ¬ (s'.size : Int) < 4 := by omega
    have h4j : (4 : Int) ≤ ↑s'.size := by omega
    have h4s : (s'.extract 0 4).size = 4 := by rw [ByteArray.size_extract]; omega
    have HTH0 := fun w => three_calls (s'.extract 0 4) w h4s
    cases ht : threeS (s'.extract 0 4) with
    | none =>
      have hR := HD.out
      rw [dec64_none _ _ (by omega) ht] at hR
      subst hR
      rw [ht] at HTH0
      have HTH := Aside0.mk HTH0
      clear HTH0 ht h4s
      go_wp2_with (first | ((go_at_call 84; (with_reducible refine (HTH.out _).mono ?_); rintro e w5 htp); obtain ⟨hb, rfl⟩ := htp))
      go_ret2
      exact ⟨rfl, below_step HB.out hb⟩
    | some b =>
      have hR := HD.out
      rw [dec64_some _ _ b (by omega) ht] at hR
      rw [ht] at HTH0
      have HTH := Aside0.mk HTH0
      have hbl := threeS_len ht
      clear HTH0 ht h4s
      by_cases hb3 : b.length < 3
      · by_cases hs5 : 4 < s'.size
        · rw [if_pos ⟨hb3, hs5⟩] at hR
          subst hR
          have hb3i : (b.length : Int) < 3 := by omega
          have hs5i : (s'.size : Int) > 4 := by omega
          go_wp2_with (first | ((go_at_call 84; (with_reducible refine (HTH.out _).mono ?_); rintro e w5 htp); obtain ⟨hb, A5, c5, rfl, hc5, hC5⟩ := htp))
          go_ret2
          exact ⟨rfl, below_step HB.out hb⟩
        · rw [if_neg (fun h => hs5 h.2)] at hR
          have HR2 := Aside0.mk hR
          have hb3i : (b.length : Int) < 3 := by omega
          have hs5i : ¬ (s'.size : Int) > 4 := by omega
          clear hR
          go_wp2_with (first | ((go_at_call 84; (with_reducible refine (HTH.out _).mono ?_); rintro e w5 htp); obtain ⟨hb, A5, c5, rfl, hc5, hC5⟩ := htp; have HO5 := Aside0.mk (own_up HOW.out hb); have HB5 := Aside0.mk (below_step HB.out hb); have HC5 := Aside0.mk hC5; clear hb hC5) | ((with_reducible refine gate_builtin (b := .append) (xs := #[.tmp 30, .tmp 31]) rfl ?_); at_builtin; refine print_append_row_of (w0 := w5) (W := w5) (Value.int .u8) (0 : Int) w.heap.size rfl (.tmp 30) (.tmp 31) 22 5 (.int .u8 0) 1 rfl Tryz.underlying22 info5 rfl (by decide) (fun _ => rfl) _ acc b A5 b.length c5 rfl rfl HO5.out (Kd.reads_of_C (h1 := fun _ => rfl) HC5.out) (Below.refl _ _) HB5.out.size (by omega) ?_; intro v1 w6 ho6 hb6 hg6 hat6; have HO6 := Aside0.mk ho6; have HB6 := Aside0.mk (HB5.out.trans hb6); clear ho6 hb6 hg6 hat6)); go_round; (case rel => exact ⟨s'.extract 4 s'.size, acc ++ b, (by first | rfl | simp), (by rw [ByteArray.size_extract, List.length_append]; omega), HR2, ⟨HO6.out, HB6.out⟩⟩); (case measure => (show (s'.extract 4 s'.size).size < s'.size; rw [ByteArray.size_extract]; omega))
      · rw [if_neg (fun h => hb3 h.1)] at hR
        have HR2 := Aside0.mk hR
        have hb3i : ¬ (b.length : Int) < 3 := by omega
        clear hR
        go_wp2_with (first | ((go_at_call 84; (with_reducible refine (HTH.out _).mono ?_); rintro e w5 htp); obtain ⟨hb, A5, c5, rfl, hc5, hC5⟩ := htp; have HO5 := Aside0.mk (own_up HOW.out hb); have HB5 := Aside0.mk (below_step HB.out hb); have HC5 := Aside0.mk hC5; clear hb hC5) | ((with_reducible refine gate_builtin (b := .append) (xs := #[.tmp 30, .tmp 31]) rfl ?_); at_builtin; refine print_append_row_of (w0 := w5) (W := w5) (Value.int .u8) (0 : Int) w.heap.size rfl (.tmp 30) (.tmp 31) 22 5 (.int .u8 0) 1 rfl Tryz.underlying22 info5 rfl (by decide) (fun _ => rfl) _ acc b A5 b.length c5 rfl rfl HO5.out (Kd.reads_of_C (h1 := fun _ => rfl) HC5.out) (Below.refl _ _) HB5.out.size (by omega) ?_; intro v1 w6 ho6 hb6 hg6 hat6; have HO6 := Aside0.mk ho6; have HB6 := Aside0.mk (HB5.out.trans hb6); clear ho6 hb6 hg6 hat6)); go_round; (case rel => exact ⟨s'.extract 4 s'.size, acc ++ b, (by first | rfl | simp), (by rw [ByteArray.size_extract, List.length_append]; omega), HR2, ⟨HO6.out, HB6.out⟩⟩); (case measure => (show (s'.extract 4 s'.size).size < s'.size; rw [ByteArray.size_extract]; omega))
end Go.Proofs.YtdgeiadlijlkmaaGreatDoor.X
namespace Go.Proofs.YtdgeiadlijlkmaaGreatDoor.X
open Go.RowKit Go.Proofs.YtdgeiadlijlkmaaGreatDoorW.PrintWords Go.Proofs.YtdgeiadlijlkmaaGreatDoorW.PrintMore
set_option linter.unusedVariables false
set_option linter.unusedSimpArgs false
/-- What the first bytes of a connection are. -/
def parseMP (l : List Int) : Step :=
  if (lineS l).2.2 = 3 then stepM else if (lineS l).2.2 = 4 then stepFS (lineS l).2.1 longT 0 (l.getD ((lineS l).2.1.toNat - 1) 0 != 10)
  else parseMWP b64S (lineS l).2.1 (l.drop (lineS l).2.1.toNat) (wordsB (lineS l).1)
theorem lineS_cases (l : List Int) : lineS l = (⟨#[]⟩, 0, 3) ∨ (∃ m : Nat, m < l.length ∧ lineS l = (⟨#[]⟩, (m : Int) + 1, 4)) ∨ (∃ (m : Nat) (t : ByteArray), m < l.length ∧ lineS l = (t, (m : Int) + 1, 0) ∧ t.size ≤ 2048) := by
  unfold lineS
  cases h : nlI l with
  | none =>
    dsimp only
    by_cases h1 : l.length > 2049
    · rw [if_pos h1]
      refine .inr (.inl ⟨l.length - 1, by omega, ?_⟩)
      have : ((l.length - 1 : Nat) : Int) + 1 = l.length := by omega
      rw [this]
    · rw [if_neg h1]
      exact .inl rfl
  | some i =>
    have hi := (nlI_lt l i h).1
    dsimp only
    generalize he : (if 0 < i ∧ l.getD (i - 1) 0 = 13 then i - 1 else i) = e
    by_cases h1 : e > 2048
    · rw [if_pos h1]
      exact .inr (.inl ⟨i, hi, rfl⟩)
    · rw [if_neg h1]
      refine .inr (.inr ⟨i, _, hi, rfl, ?_⟩)
      have : (strOfNums (l.take e)).size = (l.take e).length := by
        unfold strOfNums
        simp [ByteArray.size]
      rw [this, List.length_take]
      omega
theorem parse_calls (l : List Int) (A : Option Addr) (c : Nat) (w : World) (hC : (Kd.int .u8).C w A l.length l) (hc : l.length ≤ c) (hl : l.length ≤ 900000) (h8 : B8 l) (hT : Tabs w) :
    Calls Tryz.prog 11 #[.slice A l.length c] w (StepR (fun _ => False) w (parseMP l)) := by
  unfold parseMP
  rcases lineS_cases l with h | ⟨m, hm, h⟩ | ⟨m, t, hm, h, ht⟩
  · rw [h, if_pos rfl]
    exact parse_more l A c _ w hC hc (by omega) h8 h
  · rw [h, if_neg (show ¬ ((4 : Int) = 3) by decide), if_pos rfl]
    have := parse_long l A c m (fun _ => False) w hC hc (by omega) h8 h hm
    rw [show ((m : Int) + 1).toNat - 1 = m by omega]
    exact this
  · rw [h, if_neg (show ¬ ((0 : Int) = 3) by decide), if_neg (show ¬ ((0 : Int) = 4) by decide)]
    have := parse_go b64S l A c m t w hC hc hl h8 h hm (by omega) hT (fun k hk w => decode_calls k w hk)
    rw [show ((m : Int) + 1).toNat = m + 1 by omega]
    exact this
end Go.Proofs.YtdgeiadlijlkmaaGreatDoor.X
namespace Go.Proofs.YtdgeiadlijlkmaaGreatDoor.X
open Go.RowKit Go.Proofs.YtdgeiadlijlkmaaGreatDoorW.PrintWords Go.Proofs.YtdgeiadlijlkmaaGreatDoorW.PrintMore Go.Proofs.YtdgeiadlijlkmaaGreatDoorW.PrintLast
set_option linter.unusedVariables false
set_option linter.unusedSimpArgs false
theorem texts_ev (a : List ByteArray) (hl : a.length ≤ 9223372036854775807) : Ev (fun k => butterylaw14_texts.f k a a) true := by
  have g : ∀ (d i : Nat), i + d = a.length → Ev (fun k => butterylaw14_texts.l0 k a a i) true := by
    intro d
    induction d with
    | zero =>
      intro i hd
      exact Ev.step (fun k => by rw [butterylaw14_texts.l0]) (Ev.neg (by omega) (Ev.now _))
    | succ d ih =>
      intro i hd
      refine Ev.step (fun k => by rw [butterylaw14_texts.l0]) (Ev.pos (by omega) (Ev.pos (by omega) (Ev.pos (by omega) (Ev.pos rfl ?_))))
      rw [w64 _ (by omega) (by omega)]
      exact ih (i + 1) (by omega)
  unfold butterylaw14_texts.f
  exact Ev.pos rfl (g a.length 0 (by omega))
theorem texts_same (l : List ByteArray) (A B : Option Addr) (n c d : Nat) (w : World) (hn : l.length = n) (hA : Kd.string.C w A n l) (hc : n ≤ c) (hB : Kd.string.C w B n l) (hd : n ≤ d) :
    Calls Tryz.prog 30 #[.slice A n c, .slice B n d] w fun e w' => e = .returned (.bool true) ∧ Below w.heap.size w w' := by
  subst hn
  obtain ⟨K, hK⟩ := texts_ev l hA.2.1
  exact (butterylaw14_texts.calls K A c l B d l true w hA hc hB hd (hK K (Nat.le_refl _))).mono fun e w' ⟨he, hd⟩ => ⟨he, hd.below⟩
section
variable {P : Program} {ops : Array Oper} {rest : List Oper} {o : Oper} {a : Act} {Q : Exit → Act → World → Prop} {W : World}
/-- An arm: 'string(b)' under a guard that says yes. -/
theorem wp_strofG (hw : Region.wanted o (yielded ops a.tmps) = true) (src dst e : TypeId) (x : Operand) (ho : o.op = .convert src dst x) (A : Option Addr) (n c : Nat) (xs : List Int) (hx : a.eval x = .slice A n c)
    (hs : P.underlying src = some (.slice e)) (he : P.underlying e = some (.int .u8)) (hd : P.underlying dst = some .string) (hC : (Kd.int .u8).C W A n xs)
    (h : wpList P ops Q rest (a.put o.dst (.string (strOfNums xs))) W) : wpList P ops Q (o :: rest) a W := by
  have hr := Kd.C_string (c := c) hs he hd hC
  rw [wpList, if_pos hw]
  left
  unfold Oper.wp
  have hrun : (execOp a.eval o).run P W = .ok (.value (.string (strOfNums xs))) W := by simp [execOp, ho, hx, hr]
  rw [hrun]
  exact h
end
set_option maxRecDepth 100000 in
set_option maxHeartbeats 1000000 in
theorem cmds_same (x : Cmd) (cx cy : List Value) (w : World) (hx : kCmd.K w x cx) (hy : kCmd.K w x cy) :
    Calls Tryz.prog 29 #[.agg cx.toArray, .agg cy.toArray] w fun e w' => e = .returned (.bool true) ∧ Below w.heap.size w w' := by
  have HB := Aside0.mk (Below.refl w.heap.size w)
  obtain ⟨A2, c2, rfl, hl2, hg2⟩ := kCmd_open hx
  obtain ⟨A3, c3, rfl, hl3, hg3⟩ := kCmd_open hy
  have HX := Aside0.mk hg2
  have HY := Aside0.mk hg3
  have r2 : (convert 22 9 (.slice A2 x.value.length c2)).run Tryz.prog ((w.alloc (.cells #[.int .i64 x.op, .string x.key, .slice A2 x.value.length c2, .int .u32 x.flags, .int .i64 x.exp, .int .u64 x.cas, .int .u64 x.delta, .int .u64 x.initial, .bool x.makes, .bool x.sets] 40 (0, 0))).alloc (.cells #[.int .i64 x.op, .string x.key, .slice A3 x.value.length c3, .int .u32 x.flags, .int .i64 x.exp, .int .u64 x.cas, .int .u64 x.delta, .int .u64 x.initial, .bool x.makes, .bool x.sets] 40 (0, 0))) = .ok (.string (strOfNums x.value)) ((w.alloc (.cells #[.int .i64 x.op, .string x.key, .slice A2 x.value.length c2, .int .u32 x.flags, .int .i64 x.exp, .int .u64 x.cas, .int .u64 x.delta, .int .u64 x.initial, .bool x.makes, .bool x.sets] 40 (0, 0))).alloc (.cells #[.int .i64 x.op, .string x.key, .slice A3 x.value.length c3, .int .u32 x.flags, .int .i64 x.exp, .int .u64 x.cas, .int .u64 x.delta, .int .u64 x.initial, .bool x.makes, .bool x.sets] 40 (0, 0))) := Kd.C_string Tryz.underlying22 Tryz.underlying5 Tryz.underlying9 (Kd.C_below HX.out (by repeat (first | (with_reducible first | exact HB.out | apply below_alloc | apply pw_below_drewN | apply below_drew1) | exact HB.out)))
  have r3 : (convert 22 9 (.slice A3 x.value.length c3)).run Tryz.prog ((w.alloc (.cells #[.int .i64 x.op, .string x.key, .slice A2 x.value.length c2, .int .u32 x.flags, .int .i64 x.exp, .int .u64 x.cas, .int .u64 x.delta, .int .u64 x.initial, .bool x.makes, .bool x.sets] 40 (0, 0))).alloc (.cells #[.int .i64 x.op, .string x.key, .slice A3 x.value.length c3, .int .u32 x.flags, .int .i64 x.exp, .int .u64 x.cas, .int .u64 x.delta, .int .u64 x.initial, .bool x.makes, .bool x.sets] 40 (0, 0))) = .ok (.string (strOfNums x.value)) ((w.alloc (.cells #[.int .i64 x.op, .string x.key, .slice A2 x.value.length c2, .int .u32 x.flags, .int .i64 x.exp, .int .u64 x.cas, .int .u64 x.delta, .int .u64 x.initial, .bool x.makes, .bool x.sets] 40 (0, 0))).alloc (.cells #[.int .i64 x.op, .string x.key, .slice A3 x.value.length c3, .int .u32 x.flags, .int .i64 x.exp, .int .u64 x.cas, .int .u64 x.delta, .int .u64 x.initial, .bool x.makes, .bool x.sets] 40 (0, 0))) := Kd.C_string Tryz.underlying22 Tryz.underlying5 Tryz.underlying9 (Kd.C_below HY.out (by repeat (first | (with_reducible first | exact HB.out | apply below_alloc | apply pw_below_drewN | apply below_drew1) | exact HB.out)))
  clear hx hy hg2 hg3
  go_enter Tryz.func29, Tryz.ntmps29
  go_wp2
  go_ret
  exact ⟨rfl, (by repeat (first | (with_reducible first | exact HB.out | apply below_alloc | apply pw_below_drewN | apply below_drew1) | exact HB.out))⟩

/-- A command in a row of them. -/
theorem cmd_v {w : World} {A : Option Addr} {n : Nat} {xs : List Cmd} (h : kCmd.C w A n xs) (i : Nat) (x : Cmd) (hx : xs[i]? = some x) : ∃ b o A2 c2, A = some ⟨b, o, none⟩ ∧ b < w.heap.size ∧
    w.rangeAt b (o + i * 10) [.int .i64 x.op, .string x.key, .slice A2 x.value.length c2, .int .u32 x.flags, .int .i64 x.exp, .int .u64 x.cas, .int .u64 x.delta, .int .u64 x.initial, .bool x.makes, .bool x.sets] ∧ x.value.length ≤ c2 ∧ (Kd.int .u8).C w A2 x.value.length x.value := by
  have hlt := (List.getElem?_eq_some_iff.1 hx).1
  obtain ⟨ad, rfl, hc⟩ := h.2.2 (by rw [← h.1]; omega)
  obtain ⟨cs, hlen, hK, hcell⟩ := hc i x hx
  obtain ⟨A2, c2, rfl, hl2, hC2⟩ := kCmd_open hK
  obtain ⟨cs0, hlen0, hK0, hcell0⟩ := hc 0 _ (List.getElem?_eq_getElem (show 0 < xs.length by omega))
  have h0 := hcell0 0 _ (List.getElem?_eq_getElem (show 0 < cs0.length by rw [hlen0]; decide))
  rw [Nat.zero_mul, Nat.zero_add, Addr.add_zero'] at h0
  obtain ⟨b, o, rfl, hb0⟩ := addr_plain h0
  refine ⟨b, o, A2, c2, rfl, hb0, fun j v hj => ?_, hl2, hC2⟩
  have := hcell j v hj
  have e1 : (⟨b, o, none⟩ : Addr).add (i * kCmd.sz + j) = ⟨b, o + i * 10 + j, none⟩ := by
    rw [Addr.add_mid]
    congr 1
    show o + (i * 10 + j) = o + i * 10 + j
    omega
  rw [e1] at this
  exact this
set_option maxRecDepth 100000 in
set_option maxHeartbeats 2000000 in
theorem requests_same (q : Request) (cx cy : List Value) (w : World) (hx : kRequest.K w q cx) (hy : kRequest.K w q cy) :
    Calls Tryz.prog 14 #[.agg cx.toArray, .agg cy.toArray] w fun e w' => e = .returned (.bool true) ∧ Below w.heap.size w w' := by
  obtain ⟨A0, c0, A8, c8, A9, c9, rfl, hl0, hC0, hl8, hC8, hl9, hC9⟩ := kRequest_open hx
  obtain ⟨D0, d0, D8, d8, D9, d9, rfl, hm0, hD0, hm8, hD8, hm9, hD9⟩ := kRequest_open hy
  have hcl : q.cmds.length ≤ 9223372036854775807 := hC0.2.1
  have HCX := Aside0.mk hC0
  have HCY := Aside0.mk hD0
  have HT := Aside0.mk (And.intro hC8 (And.intro hD8 (And.intro hC9 hD9)))
  clear hx hy hC0 hC8 hC9 hD0 hD8 hD9
  go_enter Tryz.func14, Tryz.ntmps14
  go_upto_region 3 with fail
  obtain ⟨W0, hW0⟩ : ∃ W0, (((w.alloc (.cells #[.slice A0 q.cmds.length c0, .int .i64 q.form.dialect, .string q.form.verb, .int .i64 q.form.code, .int .u32 q.form.opq, .bool q.form.quiet, .bool q.form.withcas, .string q.form.flags, .slice A8 q.form.tokens.length c8, .slice A9 q.form.keys.length c9, .bool q.form.base64] 31 (0, 0))).alloc (.cells #[.slice D0 q.cmds.length d0, .int .i64 q.form.dialect, .string q.form.verb, .int .i64 q.form.code, .int .u32 q.form.opq, .bool q.form.quiet, .bool q.form.withcas, .string q.form.flags, .slice D8 q.form.tokens.length d8, .slice D9 q.form.keys.length d9, .bool q.form.base64] 31 (0, 0))).alloc (.cells #[.int .i64 q.form.dialect, .string q.form.verb, .int .i64 q.form.code, .int .u32 q.form.opq, .bool q.form.quiet, .bool q.form.withcas, .string q.form.flags, .slice A8 q.form.tokens.length c8, .slice A9 q.form.keys.length c9, .bool q.form.base64] 29 (0, 0))).alloc (.cells #[.int .i64 q.form.dialect, .string q.form.verb, .int .i64 q.form.code, .int .u32 q.form.opq, .bool q.form.quiet, .bool q.form.withcas, .string q.form.flags, .slice D8 q.form.tokens.length d8, .slice D9 q.form.keys.length d9, .bool q.form.base64] 29 (0, 0)) = W0 := ⟨_, rfl⟩
  rw [hW0]
  have B2 := Aside0.mk (show W0.heap[w.heap.size]? = _ from hW0 ▸ blk_alloc (blk_alloc (blk_alloc (blk_at_new _ _ _ rfl) _) _) _)
  have B3 := Aside0.mk (show W0.heap[w.heap.size + 1]? = _ from hW0 ▸ blk_alloc (blk_alloc (blk_at_new _ _ _ (by simp)) _) _)
  have B5 := Aside0.mk (show W0.heap[w.heap.size + 1 + 1]? = _ from hW0 ▸ blk_alloc (blk_at_new _ _ _ (by simp)) _)
  have B6 := Aside0.mk (show W0.heap[w.heap.size + 1 + 1 + 1]? = _ from hW0 ▸ blk_at_new _ _ _ (by simp))
  have HBW : Aside0 (Below w.heap.size w W0) := ⟨hW0 ▸ below_alloc (below_alloc (below_alloc (below_alloc (Below.refl _ _) _) _) _) _⟩
  have HB0 := Aside0.mk (Below.refl W0.heap.size W0)
  have l0 := Aside0.mk (blk_lt B2.out)
  have l1 := Aside0.mk (blk_lt B3.out)
  have l2 := Aside0.mk (blk_lt B5.out)
  have l3 := Aside0.mk (blk_lt B6.out)
  have HCX0 := Aside0.mk (Kd.C_below HCX.out HBW.out)
  have HCY0 := Aside0.mk (Kd.C_below HCY.out HBW.out)
  have HTX : Aside0 (∀ w', Below W0.heap.size W0 w' → Calls Tryz.prog 30 #[.slice A8 q.form.tokens.length c8, .slice D8 q.form.tokens.length d8] w' fun e w'' => e = .returned (.bool true) ∧ Below w'.heap.size w' w'') := ⟨fun w' hb => texts_same _ _ _ _ _ _ w' rfl (Kd.C_below (Kd.C_below HT.out.1 HBW.out) hb) hl8 (Kd.C_below (Kd.C_below HT.out.2.1 HBW.out) hb) hm8⟩
  have HTY : Aside0 (∀ w', Below W0.heap.size W0 w' → Calls Tryz.prog 30 #[.slice A9 q.form.keys.length c9, .slice D9 q.form.keys.length d9] w' fun e w'' => e = .returned (.bool true) ∧ Below w'.heap.size w' w'') := ⟨fun w' hb => texts_same _ _ _ _ _ _ w' rfl (Kd.C_below (Kd.C_below HT.out.2.2.1 HBW.out) hb) hl9 (Kd.C_below (Kd.C_below HT.out.2.2.2 HBW.out) hb) hm9⟩
  clear hW0 HCX HCY HT hl8 hl9 hm8 hm9
  obtain ⟨g0, hg0⟩ : ∃ g, w.heap.size = g := ⟨_, rfl⟩
  rw [hg0] at B2 B3 B5 B6 l0 l1 l2 l3 HBW ⊢
  obtain ⟨g1, hg1⟩ : ∃ g, g0 + 1 = g := ⟨_, rfl⟩
  rw [hg1] at B3 B5 B6 l1 l2 l3 ⊢
  obtain ⟨g2, hg2⟩ : ∃ g, g1 + 1 = g := ⟨_, rfl⟩
  rw [hg2] at B5 B6 l2 l3 ⊢
  obtain ⟨g3, hg3⟩ : ∃ g, g2 + 1 = g := ⟨_, rfl⟩
  rw [hg3] at B6 l3 ⊢
  have HG0 := Aside0.mk hg0
  clear hg0 hg1 hg2 hg3
  have t0 : W0.cell? ⟨g0, 0, none⟩ = some (.slice A0 q.cmds.length c0) := (blk_cell B2.out 0).trans rfl
  have t1 : W0.cell? ⟨g1, 0, none⟩ = some (.slice D0 q.cmds.length d0) := (blk_cell B3.out 0).trans rfl
  have f0 : W0.cell? ⟨g2, 0, none⟩ = some (.int .i64 q.form.dialect) := (blk_cell B5.out 0).trans rfl
  have f1 : W0.cell? ⟨g2, 1, none⟩ = some (.string q.form.verb) := (blk_cell B5.out 1).trans rfl
  have f2 : W0.cell? ⟨g2, 2, none⟩ = some (.int .i64 q.form.code) := (blk_cell B5.out 2).trans rfl
  have f3 : W0.cell? ⟨g2, 3, none⟩ = some (.int .u32 q.form.opq) := (blk_cell B5.out 3).trans rfl
  have f4 : W0.cell? ⟨g2, 4, none⟩ = some (.bool q.form.quiet) := (blk_cell B5.out 4).trans rfl
  have f5 : W0.cell? ⟨g2, 5, none⟩ = some (.bool q.form.withcas) := (blk_cell B5.out 5).trans rfl
  have f6 : W0.cell? ⟨g2, 6, none⟩ = some (.string q.form.flags) := (blk_cell B5.out 6).trans rfl
  have f9 : W0.cell? ⟨g2, 9, none⟩ = some (.bool q.form.base64) := (blk_cell B5.out 9).trans rfl
  have h0 : W0.cell? ⟨g3, 0, none⟩ = some (.int .i64 q.form.dialect) := (blk_cell B6.out 0).trans rfl
  have h1 : W0.cell? ⟨g3, 1, none⟩ = some (.string q.form.verb) := (blk_cell B6.out 1).trans rfl
  have h2 : W0.cell? ⟨g3, 2, none⟩ = some (.int .i64 q.form.code) := (blk_cell B6.out 2).trans rfl
  have h3 : W0.cell? ⟨g3, 3, none⟩ = some (.int .u32 q.form.opq) := (blk_cell B6.out 3).trans rfl
  have h4 : W0.cell? ⟨g3, 4, none⟩ = some (.bool q.form.quiet) := (blk_cell B6.out 4).trans rfl
  have h5 : W0.cell? ⟨g3, 5, none⟩ = some (.bool q.form.withcas) := (blk_cell B6.out 5).trans rfl
  have h6 : W0.cell? ⟨g3, 6, none⟩ = some (.string q.form.flags) := (blk_cell B6.out 6).trans rfl
  have h9 : W0.cell? ⟨g3, 9, none⟩ = some (.bool q.form.base64) := (blk_cell B6.out 9).trans rfl
  go_wp2
  clear f0 f1 f2 f3 f4 f5 f6 f9 h0 h1 h2 h3 h4 h5 h6 h9 t0 t1
  go_loopw [7] (fun v wr => ∃ k : Nat, v = .int .i64 k ∧ k ≤ q.cmds.length ∧ Aside0 (Below W0.heap.size W0 wr)) (fun v _ => q.cmds.length - (intOf v).toNat)
  case atStart => exact ⟨0, rfl, by omega, ⟨Below.refl _ _⟩⟩
  case round =>
    obtain ⟨k, rfl, hk, HI⟩ := hrel
    clear HB0
    have HB0 := HI
    clear HI
    have t0 : wr.cell? ⟨g0, 0, none⟩ = some (.slice A0 q.cmds.length c0) := (Below.cell HB0.out (p := ⟨g0, 0, none⟩) l0.out).trans ((blk_cell B2.out 0).trans rfl)
    have t1 : wr.cell? ⟨g1, 0, none⟩ = some (.slice D0 q.cmds.length d0) := (Below.cell HB0.out (p := ⟨g1, 0, none⟩) l1.out).trans ((blk_cell B3.out 0).trans rfl)
    by_cases hlt : k < q.cmds.length
    · obtain ⟨x, hx⟩ : ∃ x, q.cmds[k]? = some x := ⟨_, List.getElem?_eq_getElem hlt⟩
      obtain ⟨b1, o1, A2, c2, rfl, hb1, hr1, hl2, hC2⟩ := cmd_v HCX0.out k x hx
      obtain ⟨b2, o2, A3, c3, rfl, hb2, hr2, hl3, hC3⟩ := cmd_v HCY0.out k x hx
      have HR1 := Aside0.mk hr1
      have HR2 := Aside0.mk hr2
      have HK : Aside0 (∀ w', Below W0.heap.size W0 w' → Calls Tryz.prog 29 #[.agg #[.int .i64 x.op, .string x.key, .slice A2 x.value.length c2, .int .u32 x.flags, .int .i64 x.exp, .int .u64 x.cas, .int .u64 x.delta, .int .u64 x.initial, .bool x.makes, .bool x.sets], .agg #[.int .i64 x.op, .string x.key, .slice A3 x.value.length c3, .int .u32 x.flags, .int .i64 x.exp, .int .u64 x.cas, .int .u64 x.delta, .int .u64 x.initial, .bool x.makes, .bool x.sets]] w' fun e w'' => e = .returned (.bool true) ∧ Below w'.heap.size w' w'') := ⟨fun w' hb => cmds_same x _ _ w' (kCmd_mk w' x hl2 (Kd.C_below hC2 hb)) (kCmd_mk w' x hl3 (Kd.C_below hC3 hb))⟩
      have hki : (k : Int) < ↑q.cmds.length := by omega
      clear hx hr1 hr2 hC2 hC3 hl2 hl3
      go_wp2
      (refine wp_region_noPanic ?_; refine wp_region_held_drew (S := fun w' => Below W0.heap.size W0 w') (by kernel_rfl) (below_drew1 HB0.out) ?_; intro hHeld)
      clear t0 t1
      (refine wpAnyH_take (i := 0) (v := ?_) (by simp only [List.getElem?_toArray, List.getElem?_cons_succ, List.getElem?_cons_zero]; rfl) (by kernel_rfl) (by kernel_rfl) (by kernel_rfl) (fun _ _ _ h => h) (Or.inl ⟨by rfl, ?_⟩) (by exact hHeld) ?_; rotate_left; (focus (intro w' hSw; have t0 : w'.cell? ⟨g0, 0, none⟩ = some (.slice (some ⟨b1, o1, none⟩) q.cmds.length c0) := (Below.cell hSw (p := ⟨g0, 0, none⟩) l0.out).trans ((blk_cell B2.out 0).trans rfl); have t1 : w'.cell? ⟨g1, 0, none⟩ = some (.slice (some ⟨b2, o2, none⟩) q.cmds.length d0) := (Below.cell hSw (p := ⟨g1, 0, none⟩) l1.out).trans ((blk_cell B3.out 0).trans rfl); clear hSw; go_simp; (try with_reducible rfl); done)); (try simp only [Act.put, List.setIfInBounds_toArray, List.set_cons_zero, List.set_cons_succ]))
      (refine wpAnyH_take (i := 1) (v := ?_) (by simp only [List.getElem?_toArray, List.getElem?_cons_succ, List.getElem?_cons_zero]; rfl) (by kernel_rfl) (by kernel_rfl) (by kernel_rfl) (fun _ _ _ h => h) (Or.inl ⟨by rfl, ?_⟩) (by exact hHeld) ?_; rotate_left; (focus (intro w' hSw; have t0 : w'.cell? ⟨g0, 0, none⟩ = some (.slice (some ⟨b1, o1, none⟩) q.cmds.length c0) := (Below.cell hSw (p := ⟨g0, 0, none⟩) l0.out).trans ((blk_cell B2.out 0).trans rfl); have t1 : w'.cell? ⟨g1, 0, none⟩ = some (.slice (some ⟨b2, o2, none⟩) q.cmds.length d0) := (Below.cell hSw (p := ⟨g1, 0, none⟩) l1.out).trans ((blk_cell B3.out 0).trans rfl); clear hSw; go_simp; (try with_reducible rfl); done)); (try simp only [Act.put, List.setIfInBounds_toArray, List.set_cons_zero, List.set_cons_succ]))
      (refine wpAnyH_take (i := 2) (v := ?_) (by simp only [List.getElem?_toArray, List.getElem?_cons_succ, List.getElem?_cons_zero]; rfl) (by kernel_rfl) (by kernel_rfl) (by kernel_rfl) (fun _ _ _ h => h) (Or.inl ⟨by rfl, ?_⟩) (by exact hHeld) ?_; rotate_left; (focus (intro w' hSw; have t0 : w'.cell? ⟨g0, 0, none⟩ = some (.slice (some ⟨b1, o1, none⟩) q.cmds.length c0) := (Below.cell hSw (p := ⟨g0, 0, none⟩) l0.out).trans ((blk_cell B2.out 0).trans rfl); have t1 : w'.cell? ⟨g1, 0, none⟩ = some (.slice (some ⟨b2, o2, none⟩) q.cmds.length d0) := (Below.cell hSw (p := ⟨g1, 0, none⟩) l1.out).trans ((blk_cell B3.out 0).trans rfl); clear hSw; go_simp; (try with_reducible rfl); done)); (try simp only [Act.put, List.setIfInBounds_toArray, List.set_cons_zero, List.set_cons_succ]))
      (refine wpAnyH_take (i := 3) (v := ?_) (by simp only [List.getElem?_toArray, List.getElem?_cons_succ, List.getElem?_cons_zero]; rfl) (by kernel_rfl) (by kernel_rfl) (by kernel_rfl) (fun _ _ _ h => h) (Or.inl ⟨by rfl, ?_⟩) (by exact hHeld) ?_; rotate_left; (focus (intro w' hSw; have t0 : w'.cell? ⟨g0, 0, none⟩ = some (.slice (some ⟨b1, o1, none⟩) q.cmds.length c0) := (Below.cell hSw (p := ⟨g0, 0, none⟩) l0.out).trans ((blk_cell B2.out 0).trans rfl); have t1 : w'.cell? ⟨g1, 0, none⟩ = some (.slice (some ⟨b2, o2, none⟩) q.cmds.length d0) := (Below.cell hSw (p := ⟨g1, 0, none⟩) l1.out).trans ((blk_cell B3.out 0).trans rfl); clear hSw; go_simp; (try with_reducible rfl); done)); (try simp only [Act.put, List.setIfInBounds_toArray, List.set_cons_zero, List.set_cons_succ]))
      (refine wpAnyH_take (i := 4) (v := .agg #[.int .i64 x.op, .string x.key, .slice A2 x.value.length c2, .int .u32 x.flags, .int .i64 x.exp, .int .u64 x.cas, .int .u64 x.delta, .int .u64 x.initial, .bool x.makes, .bool x.sets]) (by simp only [List.getElem?_toArray, List.getElem?_cons_succ, List.getElem?_cons_zero]; rfl) (by kernel_rfl) (by kernel_rfl) (by kernel_rfl) (fun _ _ _ h => h) (yieldsIf_load_mid (by rfl) _ _ rfl b1 (o1 + k * 10) rfl _ _ (fun w' hS => range_below HR1.out hS hb1) Tryz.underlying40 rfl (by kernel_rfl)) (by exact hHeld) ?_; (try simp only [Act.put, List.setIfInBounds_toArray, List.set_cons_zero, List.set_cons_succ]))
      (refine wpAnyH_take (i := 5) (v := ?_) (by simp only [List.getElem?_toArray, List.getElem?_cons_succ, List.getElem?_cons_zero]; rfl) (by kernel_rfl) (by kernel_rfl) (by kernel_rfl) (fun _ _ _ h => h) (Or.inl ⟨by rfl, ?_⟩) (by exact hHeld) ?_; rotate_left; (focus (intro w' hSw; have t0 : w'.cell? ⟨g0, 0, none⟩ = some (.slice (some ⟨b1, o1, none⟩) q.cmds.length c0) := (Below.cell hSw (p := ⟨g0, 0, none⟩) l0.out).trans ((blk_cell B2.out 0).trans rfl); have t1 : w'.cell? ⟨g1, 0, none⟩ = some (.slice (some ⟨b2, o2, none⟩) q.cmds.length d0) := (Below.cell hSw (p := ⟨g1, 0, none⟩) l1.out).trans ((blk_cell B3.out 0).trans rfl); clear hSw; go_simp; (try with_reducible rfl); done)); (try simp only [Act.put, List.setIfInBounds_toArray, List.set_cons_zero, List.set_cons_succ]))
      (refine wpAnyH_take (i := 6) (v := ?_) (by simp only [List.getElem?_toArray, List.getElem?_cons_succ, List.getElem?_cons_zero]; rfl) (by kernel_rfl) (by kernel_rfl) (by kernel_rfl) (fun _ _ _ h => h) (Or.inl ⟨by rfl, ?_⟩) (by exact hHeld) ?_; rotate_left; (focus (intro w' hSw; have t0 : w'.cell? ⟨g0, 0, none⟩ = some (.slice (some ⟨b1, o1, none⟩) q.cmds.length c0) := (Below.cell hSw (p := ⟨g0, 0, none⟩) l0.out).trans ((blk_cell B2.out 0).trans rfl); have t1 : w'.cell? ⟨g1, 0, none⟩ = some (.slice (some ⟨b2, o2, none⟩) q.cmds.length d0) := (Below.cell hSw (p := ⟨g1, 0, none⟩) l1.out).trans ((blk_cell B3.out 0).trans rfl); clear hSw; go_simp; (try with_reducible rfl); done)); (try simp only [Act.put, List.setIfInBounds_toArray, List.set_cons_zero, List.set_cons_succ]))
      (refine wpAnyH_take (i := 7) (v := ?_) (by simp only [List.getElem?_toArray, List.getElem?_cons_succ, List.getElem?_cons_zero]; rfl) (by kernel_rfl) (by kernel_rfl) (by kernel_rfl) (fun _ _ _ h => h) (Or.inl ⟨by rfl, ?_⟩) (by exact hHeld) ?_; rotate_left; (focus (intro w' hSw; have t0 : w'.cell? ⟨g0, 0, none⟩ = some (.slice (some ⟨b1, o1, none⟩) q.cmds.length c0) := (Below.cell hSw (p := ⟨g0, 0, none⟩) l0.out).trans ((blk_cell B2.out 0).trans rfl); have t1 : w'.cell? ⟨g1, 0, none⟩ = some (.slice (some ⟨b2, o2, none⟩) q.cmds.length d0) := (Below.cell hSw (p := ⟨g1, 0, none⟩) l1.out).trans ((blk_cell B3.out 0).trans rfl); clear hSw; go_simp; (try with_reducible rfl); done)); (try simp only [Act.put, List.setIfInBounds_toArray, List.set_cons_zero, List.set_cons_succ]))
      (refine wpAnyH_take (i := 8) (v := ?_) (by simp only [List.getElem?_toArray, List.getElem?_cons_succ, List.getElem?_cons_zero]; rfl) (by kernel_rfl) (by kernel_rfl) (by kernel_rfl) (fun _ _ _ h => h) (Or.inl ⟨by rfl, ?_⟩) (by exact hHeld) ?_; rotate_left; (focus (intro w' hSw; have t0 : w'.cell? ⟨g0, 0, none⟩ = some (.slice (some ⟨b1, o1, none⟩) q.cmds.length c0) := (Below.cell hSw (p := ⟨g0, 0, none⟩) l0.out).trans ((blk_cell B2.out 0).trans rfl); have t1 : w'.cell? ⟨g1, 0, none⟩ = some (.slice (some ⟨b2, o2, none⟩) q.cmds.length d0) := (Below.cell hSw (p := ⟨g1, 0, none⟩) l1.out).trans ((blk_cell B3.out 0).trans rfl); clear hSw; go_simp; (try with_reducible rfl); done)); (try simp only [Act.put, List.setIfInBounds_toArray, List.set_cons_zero, List.set_cons_succ]))
      (refine wpAnyH_take (i := 9) (v := .agg #[.int .i64 x.op, .string x.key, .slice A3 x.value.length c3, .int .u32 x.flags, .int .i64 x.exp, .int .u64 x.cas, .int .u64 x.delta, .int .u64 x.initial, .bool x.makes, .bool x.sets]) (by simp only [List.getElem?_toArray, List.getElem?_cons_succ, List.getElem?_cons_zero]; rfl) (by kernel_rfl) (by kernel_rfl) (by kernel_rfl) (fun _ _ _ h => h) (yieldsIf_load_mid (by rfl) _ _ rfl b2 (o2 + k * 10) rfl _ _ (fun w' hS => range_below HR2.out hS hb2) Tryz.underlying40 rfl (by kernel_rfl)) (by exact hHeld) ?_; (try simp only [Act.put, List.setIfInBounds_toArray, List.set_cons_zero, List.set_cons_succ]))
      refine wpAnyH_ready (rs := [10]) (by kernel_rfl) (by simp) ?_
      refine AllReadyH.cons (by simp only [List.getElem?_toArray, List.getElem?_cons_succ, List.getElem?_cons_zero]; rfl) (fun K hK => ?_) AllReadyH.nil
      go_simp
      (go_at_call 29; (with_reducible refine (HK.out _ hHeld).mono ?_); rintro e w5 ⟨rfl, hb⟩)
      have HB5 := Aside0.mk (below_step hHeld hb)
      refine hK.out _ _ HB5.out ?_
      clear hK K hHeld hb HB0
      have HB0 := HB5
      clear HB5
      intro hHeld
      (try simp only [Act.put, List.setIfInBounds_toArray, List.set_cons_zero, List.set_cons_succ])
      (refine wpAnyH_take (i := 11) (v := ?_) (by simp only [List.getElem?_toArray, List.getElem?_cons_succ, List.getElem?_cons_zero]; rfl) (by kernel_rfl) (by kernel_rfl) (by kernel_rfl) (fun _ _ _ h => h) (Or.inl ⟨by rfl, ?_⟩) (by exact hHeld) ?_; rotate_left; (focus (intro w' hSw; skip; clear hSw; go_simp; (try with_reducible rfl); done)); (try simp only [Act.put, List.setIfInBounds_toArray, List.set_cons_zero, List.set_cons_succ]))
      (refine wpAnyH_done (by kernel_rfl) ?_ _; refine NoPanic.normal ?_)
      go_wp2
      go_roundw
      case rel => exact ⟨k + 1, by first | rfl | simp, by omega, ⟨HB0.out⟩⟩
      case measure => simp [intOf]; omega
    · have hki : ¬ (k : Int) < ↑q.cmds.length := by omega
      have f7 : wr.cell? ⟨g2, 7, none⟩ = some (.slice A8 q.form.tokens.length c8) := (Below.cell HB0.out (p := ⟨g2, 7, none⟩) l2.out).trans (blk_cell B5.out 7); have f8 : wr.cell? ⟨g2, 8, none⟩ = some (.slice A9 q.form.keys.length c9) := (Below.cell HB0.out (p := ⟨g2, 8, none⟩) l2.out).trans (blk_cell B5.out 8); have h7 : wr.cell? ⟨g3, 7, none⟩ = some (.slice D8 q.form.tokens.length d8) := (Below.cell HB0.out (p := ⟨g3, 7, none⟩) l3.out).trans (blk_cell B6.out 7); have h8 : wr.cell? ⟨g3, 8, none⟩ = some (.slice D9 q.form.keys.length d9) := (Below.cell HB0.out (p := ⟨g3, 8, none⟩) l3.out).trans (blk_cell B6.out 8)
      go_wp2_with (first | (go_at_call 30; (with_reducible refine (HTX.out _ HB0.out).mono ?_); rintro e w5 ⟨rfl, hb⟩; have HBn := Aside0.mk (below_step HB0.out hb); clear HB0 hb; have HB0 := HBn; clear HBn; have f7 : w5.cell? ⟨g2, 7, none⟩ = some (.slice A8 q.form.tokens.length c8) := (Below.cell HB0.out (p := ⟨g2, 7, none⟩) l2.out).trans (blk_cell B5.out 7); have f8 : w5.cell? ⟨g2, 8, none⟩ = some (.slice A9 q.form.keys.length c9) := (Below.cell HB0.out (p := ⟨g2, 8, none⟩) l2.out).trans (blk_cell B5.out 8); have h7 : w5.cell? ⟨g3, 7, none⟩ = some (.slice D8 q.form.tokens.length d8) := (Below.cell HB0.out (p := ⟨g3, 7, none⟩) l3.out).trans (blk_cell B6.out 7); have h8 : w5.cell? ⟨g3, 8, none⟩ = some (.slice D9 q.form.keys.length d9) := (Below.cell HB0.out (p := ⟨g3, 8, none⟩) l3.out).trans (blk_cell B6.out 8)) | (go_at_call 30; (with_reducible refine (HTY.out _ HB0.out).mono ?_); rintro e w5 ⟨rfl, hb⟩; have HBn := Aside0.mk (below_step HB0.out hb); clear HB0 hb; have HB0 := HBn; clear HBn; have f7 : w5.cell? ⟨g2, 7, none⟩ = some (.slice A8 q.form.tokens.length c8) := (Below.cell HB0.out (p := ⟨g2, 7, none⟩) l2.out).trans (blk_cell B5.out 7); have f8 : w5.cell? ⟨g2, 8, none⟩ = some (.slice A9 q.form.keys.length c9) := (Below.cell HB0.out (p := ⟨g2, 8, none⟩) l2.out).trans (blk_cell B5.out 8); have h7 : w5.cell? ⟨g3, 7, none⟩ = some (.slice D8 q.form.tokens.length d8) := (Below.cell HB0.out (p := ⟨g3, 7, none⟩) l3.out).trans (blk_cell B6.out 7); have h8 : w5.cell? ⟨g3, 8, none⟩ = some (.slice D9 q.form.keys.length d9) := (Below.cell HB0.out (p := ⟨g3, 8, none⟩) l3.out).trans (blk_cell B6.out 8)))
      go_ret
      exact ⟨rfl, HG0.out ▸ HBW.out.trans (HB0.out.mono (by have := HBW.out.size; have := HG0.out; omega))⟩
set_option maxRecDepth 100000 in
set_option maxHeartbeats 2000000 in
theorem steps_same (s : Step) (cx cy : List Value) (w : World) (hx : kStep.K w s cx) (hy : kStep.K w s cy) :
    Calls Tryz.prog 10 #[.agg cx.toArray, .agg cy.toArray] w fun e w' => e = .returned (.bool true) ∧ Below w.heap.size w w' := by
  have HB := Aside0.mk (Below.refl w.heap.size w)
  obtain ⟨A0, c0, A8, c8, A9, c9, rfl, hl0, hC0, hl8, hC8, hl9, hC9⟩ := kStep_open hx
  obtain ⟨D0, d0, D8, d8, D9, d9, rfl, hm0, hD0, hm8, hD8, hm9, hD9⟩ := kStep_open hy
  have HR : Aside0 (∀ w', Below w.heap.size w w' → Calls Tryz.prog 14 #[.agg #[.slice A0 s.req.cmds.length c0, .int .i64 s.req.form.dialect, .string s.req.form.verb, .int .i64 s.req.form.code, .int .u32 s.req.form.opq, .bool s.req.form.quiet, .bool s.req.form.withcas, .string s.req.form.flags, .slice A8 s.req.form.tokens.length c8, .slice A9 s.req.form.keys.length c9, .bool s.req.form.base64], .agg #[.slice D0 s.req.cmds.length d0, .int .i64 s.req.form.dialect, .string s.req.form.verb, .int .i64 s.req.form.code, .int .u32 s.req.form.opq, .bool s.req.form.quiet, .bool s.req.form.withcas, .string s.req.form.flags, .slice D8 s.req.form.tokens.length d8, .slice D9 s.req.form.keys.length d9, .bool s.req.form.base64]] w' fun e w'' => e = .returned (.bool true) ∧ Below w'.heap.size w' w'') := ⟨fun w' hb => requests_same s.req _ _ w' (kRequest_mk w' s.req hl0 (Kd.C_below hC0 hb) hl8 (Kd.C_below hC8 hb) hl9 (Kd.C_below hC9 hb)) (kRequest_mk w' s.req hm0 (Kd.C_below hD0 hb) hm8 (Kd.C_below hD8 hb) hm9 (Kd.C_below hD9 hb))⟩
  clear hx hy hC0 hC8 hC9 hD0 hD8 hD9
  go_enter Tryz.func10, Tryz.ntmps10
  go_wp2_with (first | (go_at_call 14; (with_reducible refine (HR.out _ (by repeat (first | (with_reducible first | exact HB.out | apply below_alloc | apply pw_below_drewN | apply below_drew1) | exact HB.out))).mono ?_); rintro e w1 ⟨rfl, hb⟩; have B2 := Aside0.mk (blk_below (g := w.heap.size) (o := .cells #[.slice A0 s.req.cmds.length c0, .int .i64 s.req.form.dialect, .string s.req.form.verb, .int .i64 s.req.form.code, .int .u32 s.req.form.opq, .bool s.req.form.quiet, .bool s.req.form.withcas, .string s.req.form.flags, .slice A8 s.req.form.tokens.length c8, .slice A9 s.req.form.keys.length c9, .bool s.req.form.base64, .string s.reply, .int .i64 s.used, .int .i64 s.skip, .bool s.line, .int .i64 s.e] 34 (0, 0)) (by repeat (first | exact blk_at_new _ _ _ (by simp; done) | exact blk_at_new _ _ _ rfl | refine blk_alloc ?_ _ | refine blk_drew ?_ | refine blk_drewN ?_ _)) hb); have B3 := Aside0.mk (blk_below (g := w.heap.size + 1) (o := .cells #[.slice D0 s.req.cmds.length d0, .int .i64 s.req.form.dialect, .string s.req.form.verb, .int .i64 s.req.form.code, .int .u32 s.req.form.opq, .bool s.req.form.quiet, .bool s.req.form.withcas, .string s.req.form.flags, .slice D8 s.req.form.tokens.length d8, .slice D9 s.req.form.keys.length d9, .bool s.req.form.base64, .string s.reply, .int .i64 s.used, .int .i64 s.skip, .bool s.line, .int .i64 s.e] 34 (0, 0)) (by repeat (first | exact blk_at_new _ _ _ (by simp; done) | exact blk_at_new _ _ _ rfl | refine blk_alloc ?_ _ | refine blk_drew ?_ | refine blk_drewN ?_ _)) hb); have HBn := Aside0.mk (below_step (by repeat (first | (with_reducible first | exact HB.out | apply below_alloc | apply pw_below_drewN | apply below_drew1) | exact HB.out)) hb); clear HB; have HB := HBn; clear HBn; clear hb; have $Xr : w1.cell? ⟨w.heap.size, 11, none⟩ = some (.string s.reply) := (blk_cell B2.out 11).trans rfl; have $Xu : w1.cell? ⟨w.heap.size, 12, none⟩ = some (.int .i64 s.used) := (blk_cell B2.out 12).trans rfl; have $Xk : w1.cell? ⟨w.heap.size, 13, none⟩ = some (.int .i64 s.skip) := (blk_cell B2.out 13).trans rfl; have $Xl : w1.cell? ⟨w.heap.size, 14, none⟩ = some (.bool s.line) := (blk_cell B2.out 14).trans rfl; have $Xe : w1.cell? ⟨w.heap.size, 15, none⟩ = some (.int .i64 s.e) := (blk_cell B2.out 15).trans rfl; have $Xr : w1.cell? ⟨w.heap.size + 1, 11, none⟩ = some (.string s.reply) := (blk_cell B3.out 11).trans rfl; have $Xu : w1.cell? ⟨w.heap.size + 1, 12, none⟩ = some (.int .i64 s.used) := (blk_cell B3.out 12).trans rfl; have $Xk : w1.cell? ⟨w.heap.size + 1, 13, none⟩ = some (.int .i64 s.skip) := (blk_cell B3.out 13).trans rfl; have $Xl : w1.cell? ⟨w.heap.size + 1, 14, none⟩ = some (.bool s.line) := (blk_cell B3.out 14).trans rfl; have $Xe : w1.cell? ⟨w.heap.size + 1, 15, none⟩ = some (.int .i64 s.e) := (blk_cell B3.out 15).trans rfl))
  go_ret
  exact ⟨rfl, (by repeat (first | (with_reducible first | exact HB.out | apply below_alloc | apply pw_below_drewN | apply below_drew1) | exact HB.out))⟩
end Go.Proofs.YtdgeiadlijlkmaaGreatDoor.X
namespace Go.Proofs.YtdgeiadlijlkmaaGreatDoor.X
set_option linter.unusedVariables false
set_option linter.unusedSimpArgs false
def NoB (w : List UInt8) : Prop := w ≠ [] ∧ ∀ b ∈ w, b ≠ 32
def jn : List (List UInt8) → List UInt8
  | [] => []
  | [w] => w
  | w :: v :: r => w ++ 32 :: jn (v :: r)
theorem jn_snoc : ∀ (p : List (List UInt8)) (w : List UInt8), p ≠ [] → jn (p ++ [w]) = jn p ++ 32 :: w
  | [], _, h => absurd rfl h
  | [v], w, _ => rfl
  | v :: u :: r, w, _ => by
    have ih := jn_snoc (u :: r) w (by simp)
    show v ++ 32 :: jn ((u :: r) ++ [w]) = (v ++ 32 :: jn (u :: r)) ++ 32 :: w
    rw [ih]
    simp
theorem trimL_head (b : UInt8) (l : List UInt8) (h : b ≠ 32) : trimL (b :: l) = b :: l := by
  unfold trimL Lib.trimLeftB
  simp [List.dropWhile_cons, h]
theorem headW_app (w r : List UInt8) (h : ∀ b ∈ w, b ≠ 32) : headW (w ++ 32 :: r) = w := by
  induction w with
  | nil => simp [headW]
  | cons b w ih =>
    have hb := h b (by simp)
    have := ih (fun c hc => h c (by simp [hc]))
    unfold headW at this ⊢
    simp [hb, this]
theorem headW_all (w : List UInt8) (h : ∀ b ∈ w, b ≠ 32) : headW w = w := by
  induction w with
  | nil => rfl
  | cons b w ih =>
    have hb := h b (by simp)
    have := ih (fun c hc => h c (by simp [hc]))
    unfold headW at this ⊢
    simp [hb, this]
theorem wordsL_jn : ∀ (ws : List (List UInt8)), (∀ w ∈ ws, NoB w) → wordsL (jn ws) = ws
  | [], _ => wordsL_nil _ rfl
  | [w], h => by
    obtain ⟨h1, h2⟩ := h w (by simp)
    obtain ⟨b, r, rfl⟩ := List.exists_cons_of_ne_nil h1
    show wordsL (b :: r) = _
    have ht := trimL_head b r (h2 b (by simp))
    rw [wordsL_cons _ (by rw [ht]; simp), ht, headW_all _ h2]
    have : tailW (b :: r) = [] := by
      unfold tailW
      rw [headW_all _ h2]
      exact List.drop_eq_nil_of_le (by omega)
    rw [this, wordsL_nil _ rfl]
  | w :: v :: rs, h => by
    have ih := wordsL_jn (v :: rs) (fun x hx => h x (by simp at hx ⊢; right; exact hx))
    obtain ⟨h1, h2⟩ := h w (by simp)
    obtain ⟨b, r, rfl⟩ := List.exists_cons_of_ne_nil h1
    show wordsL ((b :: r) ++ 32 :: jn (v :: rs)) = _
    have ht : trimL ((b :: r) ++ 32 :: jn (v :: rs)) = (b :: r) ++ 32 :: jn (v :: rs) := trimL_head b _ (h2 b (by simp))
    rw [wordsL_cons _ (by rw [ht]; simp), ht, headW_app _ _ h2]
    have : tailW ((b :: r) ++ 32 :: jn (v :: rs)) = jn (v :: rs) := by
      unfold tailW
      rw [headW_app _ _ h2, show (b :: r) ++ 32 :: jn (v :: rs) = ((b :: r) ++ [32]) ++ jn (v :: rs) by simp, List.drop_left' (by simp)]
    rw [this, ih]
theorem trimL_first (l : List UInt8) (b : UInt8) (r : List UInt8) (h : trimL l = b :: r) : b ≠ 32 := by
  intro e
  have := List.head?_dropWhile_not (fun x : UInt8 => x == 32) l
  unfold trimL Lib.trimLeftB at h
  rw [h] at this
  simp [e] at this
theorem headW_ne (l : List UInt8) : ∀ c ∈ headW l, c ≠ 32 := by
  induction l with
  | nil => intro c hc; simp [headW] at hc
  | cons b l ih =>
    intro c hc
    unfold headW at hc ih
    by_cases hb : b = 32
    · simp [hb] at hc
    · have hb2 : (b != 32) = true := by simp [hb]
      rw [List.takeWhile_cons, hb2] at hc
      rcases List.mem_cons.1 hc with rfl | hc
      · exact hb
      · exact ih c hc
theorem wordsL_ok (l : List UInt8) : ∀ w ∈ wordsL l, NoB w := by
  induction h : l.length using Nat.strongRecOn generalizing l with
  | _ n ih =>
    by_cases h0 : trimL l = []
    · rw [wordsL_nil _ h0]; simp
    · rw [wordsL_cons _ h0]
      intro w hw
      rcases List.mem_cons.1 hw with rfl | hw
      · obtain ⟨b, r, hb⟩ := List.exists_cons_of_ne_nil h0
        have hb2 := trimL_first l b r hb
        refine ⟨?_, fun c hc => ?_⟩
        · rw [hb]
          unfold headW
          simp [hb2]
        · exact headW_ne _ c hc
      · exact ih _ (by have := tailW_lt l h0; omega) _ rfl w hw
theorem headW_stop (m : List UInt8) (h : (headW m).length < m.length) : m[(headW m).length] = 32 := by
  induction m with
  | nil => simp at h
  | cons b m ih =>
    by_cases hb : b = 32
    · subst hb
      simp [headW]
    · have e : headW (b :: m) = b :: headW m := by unfold headW; simp [hb]
      have h2 : (headW m).length < m.length := by rw [e] at h; simpa using h
      have := ih h2
      simp only [e, List.length_cons, List.getElem_cons_succ]
      exact this
theorem headW_in (m : List UInt8) (i : Nat) (h : i < (headW m).length) : m[i]'(by have := headW_len m; omega) ≠ 32 := by
  have h1 := headW_ne m (headW m)[i] (List.getElem_mem _)
  have h2 : (headW m)[i] = m[i]'(by have := headW_len m; omega) := by
    have e := headW_take m
    have h3 : (m.take (headW m).length)[i]? = (headW m)[i]? := by rw [e]
    rw [List.getElem?_take_of_lt h, List.getElem?_eq_getElem h, List.getElem?_eq_getElem (by have := headW_len m; omega)] at h3
    exact (Option.some.inj h3).symm
  rw [← h2]
  exact h1
theorem wordsL_blank (r : List UInt8) : wordsL (32 :: r) = wordsL r := by
  have e : trimL (32 :: r) = trimL r := by unfold trimL Lib.trimLeftB; simp
  by_cases h : trimL r = []
  · rw [wordsL_nil _ h, wordsL_nil _ (by rw [e]; exact h)]
  · rw [wordsL_cons _ h, wordsL_cons _ (by rw [e]; exact h), e]
theorem wordsL_step (m : List UInt8) (hm : m ≠ []) : wordsL m = (if 0 < (headW m).length then [headW m] else []) ++ wordsL (tailW m) := by
  obtain ⟨b, r, rfl⟩ := List.exists_cons_of_ne_nil hm
  by_cases hb : b = 32
  · subst hb
    have e : headW (32 :: r) = [] := by simp [headW]
    have e2 : tailW (32 :: r) = r := by unfold tailW; rw [e]; rfl
    rw [wordsL_blank, e, e2]
    simp
  · have e : headW (b :: r) = b :: headW r := by unfold headW; simp [hb]
    have ht := trimL_head b r hb
    rw [wordsL_cons _ (by rw [ht]; simp), ht, if_pos (by rw [e]; simp)]
    rfl
theorem headW_lt_app (a x : List UInt8) (h : (headW a).length < a.length) : headW (a ++ x) = headW a := by
  induction a with
  | nil => simp at h
  | cons b a ih =>
    by_cases hb : b = 32
    · subst hb
      simp [headW]
    · have e : ∀ l : List UInt8, headW (b :: l) = b :: headW l := fun l => by unfold headW; simp [hb]
      have h2 : (headW a).length < a.length := by rw [e] at h; simpa using h
      rw [List.cons_append, e, e, ih h2]
/-- A line that is put together of two with a blank between has the words of both. -/
theorem wordsL_cat (a b : List UInt8) : wordsL (a ++ 32 :: b) = wordsL a ++ wordsL b := by
  induction h : a.length using Nat.strongRecOn generalizing a with
  | _ n ih =>
    by_cases ha : a = []
    · subst ha
      rw [List.nil_append, wordsL_blank, wordsL_nil [] rfl]
      rfl
    · have hle := headW_len a
      have hpos : 0 < a.length := List.length_pos_iff.2 ha
      rw [wordsL_step _ (show a ++ 32 :: b ≠ [] by simp), wordsL_step a ha]
      by_cases hlt : (headW a).length < a.length
      · have e1 := headW_lt_app a (32 :: b) hlt
        have e2 : tailW (a ++ 32 :: b) = tailW a ++ 32 :: b := by
          unfold tailW
          rw [e1, List.drop_append_of_le_length (by omega)]
        rw [e1, e2, ih _ (by unfold tailW; rw [List.length_drop]; omega) (tailW a) rfl, List.append_assoc]
      · have hall : headW a = a := by
          have := headW_take a
          rw [show (headW a).length = a.length by omega, List.take_length] at this
          exact this.symm
        have hn : ∀ c ∈ a, c ≠ 32 := by rw [← hall]; exact headW_ne a
        have e1 := headW_app a b hn
        have e2 : tailW (a ++ 32 :: b) = b := by
          unfold tailW
          rw [e1, show a ++ 32 :: b = (a ++ [32]) ++ b by simp, List.drop_left' (by simp)]
        have e3 : tailW a = [] := by
          unfold tailW
          rw [hall]
          exact List.drop_eq_nil_of_le (by omega)
        rw [e1, e2, e3, hall, wordsL_nil [] rfl, List.append_nil]
theorem wordsL_rep (k : Nat) (l : List UInt8) : wordsL (List.replicate k 32 ++ l) = wordsL l := by
  induction k with
  | zero => rfl
  | succ k ih => rw [List.replicate_succ, List.cons_append, wordsL_blank, ih]
theorem wordsL_end (k : Nat) (l : List UInt8) : wordsL (l ++ List.replicate k 32) = wordsL l := by
  cases k with
  | zero => rw [List.replicate_zero, List.append_nil]
  | succ k =>
    have := wordsL_rep k []
    rw [List.append_nil] at this
    rw [List.replicate_succ, wordsL_cat, this, wordsL_nil [] rfl, List.append_nil]
/-- Each blank made k blanks wider. -/
def exB (k : Nat) (l : List UInt8) : List UInt8 := l.flatMap fun b => (if b = 32 then List.replicate k 32 else []) ++ [b]
theorem exB_none (k : Nat) : ∀ (l : List UInt8), (∀ c ∈ l, c ≠ 32) → exB k l = l
  | [], _ => rfl
  | c :: l, h => by
    have ih := exB_none k l (fun x hx => h x (List.mem_cons_of_mem _ hx))
    unfold exB at ih ⊢
    rw [List.flatMap_cons, ih, if_neg (h c (by simp))]
    rfl
theorem exB_app (k : Nat) (a b : List UInt8) : exB k (a ++ b) = exB k a ++ exB k b := List.flatMap_append
theorem rep_snoc (k : Nat) (l : List UInt8) : (List.replicate k 32 ++ [32]) ++ l = 32 :: (List.replicate k 32 ++ l) := by
  rw [← List.replicate_succ', List.replicate_succ]
  rfl
theorem wordsL_ex (k : Nat) (l : List UInt8) : wordsL (exB k l) = wordsL l := by
  induction h : l.length using Nat.strongRecOn generalizing l with
  | _ n ih =>
    have hle := headW_len l
    by_cases hlt : (headW l).length < l.length
    · have hs := headW_stop l hlt
      have hl : l = headW l ++ 32 :: tailW l := by
        unfold tailW
        conv => lhs; rw [← List.take_append_drop (headW l).length l, headW_take, List.drop_eq_getElem_cons hlt, hs]
      have e : exB k l = headW l ++ 32 :: (List.replicate k 32 ++ exB k (tailW l)) := by
        conv => lhs; rw [hl, exB_app, exB_none k _ (headW_ne l)]
        rw [← rep_snoc]
        rfl
      rw [e, wordsL_cat, wordsL_rep, ih _ (by unfold tailW; rw [List.length_drop]; omega) (tailW l) rfl]
      conv => rhs; rw [hl, wordsL_cat]
    · have hall : headW l = l := by
        have := headW_take l
        rw [show (headW l).length = l.length by omega, List.take_length] at this
        exact this.symm
      rw [exB_none k l (by rw [← hall]; exact headW_ne l)]
theorem wordsL_one (w : List UInt8) (h : NoB w) : wordsL w = [w] := wordsL_jn [w] (fun x hx => by obtain rfl := List.mem_singleton.1 hx; exact h)
theorem exB_len (k : Nat) : ∀ (l : List UInt8), (exB k l).length ≤ (k + 1) * l.length
  | [] => by simp [exB]
  | c :: l => by
    have ih := exB_len k l
    unfold exB at ih ⊢
    rw [List.flatMap_cons, List.length_append, List.length_cons, Nat.mul_add]
    have : ((if c = 32 then List.replicate k 32 else []) ++ [c]).length ≤ k + 1 := by
      rw [List.length_append]
      split
      · simp
      · simp
    omega
end Go.Proofs.YtdgeiadlijlkmaaGreatDoor.X
namespace Go.Proofs.YtdgeiadlijlkmaaGreatDoor.X
open Go.RowKit Go.Proofs.YtdgeiadlijlkmaaGreatDoorW.PrintWords Go.Proofs.YtdgeiadlijlkmaaGreatDoorW.PrintMore
set_option linter.unusedVariables false
set_option linter.unusedSimpArgs false
def shiftU (d : Int) (s : Step) : Step := if s.e = 3 then s else { s with used := s.used + d }
theorem sh_ite (d : Int) (c : Prop) [Decidable c] (a b : Step) : shiftU d (if c then a else b) = if c then shiftU d a else shiftU d b := by split <;> rfl
theorem sh_FS (d used : Int) (r : ByteArray) (k : Int) (b : Bool) : shiftU d (stepFS used r k b) = stepFS (used + d) r k b := if_neg (show ¬ (2 : Int) = 3 by decide)
theorem sh_O (d used : Int) (f : Form) (c : Cmd) : shiftU d (stepO used f c) = stepO (used + d) f c := if_neg (show ¬ (0 : Int) = 3 by decide)
theorem sh_M (d : Int) : shiftU d stepM = stepM := if_pos rfl
theorem sh_stores (d : Int) (b : ByteArray → Option (List Int)) (u : Int) (r : List Int) (k n : ByteArray) (ws : List ByteArray) : shiftU d (storesP b u r k n ws) = storesP b (u + d) r k n ws := by
  unfold storesP
  cases readP b (⟨#[109, 115]⟩ : ByteArray) k ws with
  | error e => exact sh_FS ..
  | ok x =>
    dsimp only
    simp only [sh_ite, sh_FS, sh_O, sh_M, Int.add_right_comm]
theorem sh_W (d : Int) (b : ByteArray → Option (List Int)) (u : Int) (r : List Int) (ws : List ByteArray) : shiftU d (parseMWP b u r ws) = parseMWP b (u + d) r ws := by
  rcases ws with _ | ⟨v, _ | ⟨k, ws⟩⟩
  · exact sh_FS ..
  · unfold parseMWP
    dsimp only
    rw [sh_ite, sh_O, sh_FS]
  · unfold parseMWP
    dsimp only
    rw [sh_ite, sh_FS, sh_ite]
    congr 1
    congr 1
    · rcases ws with _ | ⟨n, ws⟩
      · exact sh_FS ..
      · exact sh_stores ..
    · cases readP b v k ws with
      | error e => exact sh_FS ..
      | ok x => exact sh_O ..
theorem body_more (l m : List Int) (n : Int) : (bodyS l n).2.2 = 3 ∨ bodyS (l ++ m) n = bodyS l n := by
  unfold bodyS
  by_cases h0 : n < 0 ∨ n > 1000
  · right; simp only [if_pos h0]
  by_cases h1 : (l.length : Int) < n + 2
  · left; simp only [if_neg h0, if_pos h1]
  · right
    have h2 : ¬ ((l ++ m).length : Int) < n + 2 := by rw [List.length_append]; omega
    have g : ∀ j, j < l.length → (l ++ m).getD j 0 = l.getD j 0 := fun j hj => by
      rw [List.getD_eq_getElem?_getD, List.getD_eq_getElem?_getD, List.getElem?_append_left hj]
    simp only [if_neg h0, if_neg h1, if_neg h2]
    rw [g _ (by omega), g _ (by omega), List.take_append_of_le_length (by omega)]
theorem stores_more (m : List Int) (b : ByteArray → Option (List Int)) (u : Int) (r : List Int) (k n : ByteArray) (ws : List ByteArray) : (storesP b u r k n ws).e = 3 ∨ storesP b u (r ++ m) k n ws = storesP b u r k n ws := by
  unfold storesP
  cases readP b (⟨#[109, 115]⟩ : ByteArray) k ws with
  | error e => exact .inr rfl
  | ok x =>
    dsimp only
    by_cases h1 : (decS n).2 = false
    · right; simp only [if_pos h1]
    by_cases h2 : ((decS n).1 : Int) > 1000
    · right; simp only [if_neg h1, if_pos h2]
    rcases body_more r m ((decS n).1 : Int) with h | h
    · left; simp only [if_neg h1, if_neg h2, if_pos h]; rfl
    · right; rw [h]
theorem W_more (m : List Int) (b : ByteArray → Option (List Int)) (u : Int) (r : List Int) (ws : List ByteArray) : (parseMWP b u r ws).e = 3 ∨ parseMWP b u (r ++ m) ws = parseMWP b u r ws := by
  rcases ws with _ | ⟨v, _ | ⟨k, ws⟩⟩
  · exact .inr rfl
  · exact .inr rfl
  · unfold parseMWP
    dsimp only
    by_cases h1 : isVerb v.toList = false
    · right; simp only [if_pos h1]
    by_cases h2 : v.toList = [109, 115]
    · simp only [if_neg h1, if_pos h2]
      rcases ws with _ | ⟨n, ws⟩
      · exact .inr rfl
      · exact stores_more ..
    · right; simp only [if_neg h1, if_neg h2]
theorem parse_M {l : List Int} (h : lineS l = (⟨#[]⟩, 0, 3)) : parseMP l = stepM := by
  unfold parseMP
  rw [h]
  rfl
theorem parse_L {l : List Int} {m : Nat} (h : lineS l = (⟨#[]⟩, (m : Int) + 1, 4)) : parseMP l = stepFS ((m : Int) + 1) longT 0 (l.getD m 0 != 10) := by
  unfold parseMP
  rw [h, if_neg (by dsimp only; decide), if_pos rfl]
  dsimp only
  rw [show ((m : Int) + 1).toNat - 1 = m by omega]
theorem parse_T {l : List Int} {m : Nat} {t : ByteArray} (h : lineS l = (t, (m : Int) + 1, 0)) : parseMP l = parseMWP b64S ((m : Int) + 1) (l.drop (m + 1)) (wordsB t) := by
  unfold parseMP
  rw [h, if_neg (by dsimp only; decide), if_neg (by dsimp only; decide)]
  dsimp only
  rw [show ((m : Int) + 1).toNat = m + 1 by omega]
def numsL (l : List UInt8) : List Int := l.map fun b => (b.toNat : Int)
theorem numsL_app (a b : List UInt8) : numsL (a ++ b) = numsL a ++ numsL b := List.map_append
theorem numsL_len (l : List UInt8) : (numsL l).length = l.length := List.length_map ..
theorem B8_nums (l : List UInt8) : B8 (numsL l) := fun z hz => by
  obtain ⟨b, _, rfl⟩ := List.mem_map.1 hz
  have := b.toNat_lt
  omega
theorem str_nums (l : List UInt8) : strOfNums (numsL l) = baOf l := by
  unfold strOfNums baOf numsL
  congr 1
  simp
  exact (List.map_congr_left (fun b _ => by simp)).trans (List.map_id l)
theorem nlI_app (l r : List Int) (h : ∀ z ∈ l, z ≠ 10) : nlI (l ++ 10 :: r) = some l.length := by
  induction l with
  | nil => simp [nlI]
  | cons z l ih =>
    have h1 := h z (by simp)
    rw [List.cons_append, nlI, if_neg h1, ih (fun x hx => h x (by simp [hx]))]
    rfl
def NoNl (l : List UInt8) : Prop := ∀ b ∈ l, b ≠ 10 ∧ b ≠ 13
theorem nums_ne {l : List UInt8} {c : UInt8} {k : Int} (hk : (c.toNat : Int) = k) (h : ∀ b ∈ l, b ≠ c) : ∀ z ∈ numsL l, z ≠ k := fun z hz e => by
  obtain ⟨b, hb, rfl⟩ := List.mem_map.1 hz
  have : b = c := by
    apply UInt8.toNat_inj.1
    have e : (b.toNat : Int) = k := e
    omega
  exact h b hb this
theorem line_crlf (l : List UInt8) (r : List Int) (h : ∀ b ∈ l, b ≠ 10) (hl : l.length ≤ 2048) : lineS (numsL l ++ 13 :: 10 :: r) = (baOf l, ((l.length + 1 : Nat) : Int) + 1, 0) := by
  have hn : nlI (numsL l ++ 13 :: 10 :: r) = some (l.length + 1) := by
    have := nlI_app (numsL l ++ [13]) r (fun z hz => by
      rcases List.mem_append.1 hz with hz | hz
      · exact nums_ne (c := 10) (by decide) h z hz
      · obtain rfl := List.mem_singleton.1 hz
        decide)
    rw [List.length_append, numsL_len, List.append_assoc] at this
    exact this
  unfold lineS
  rw [hn]
  dsimp only
  have e1 : (numsL l ++ 13 :: 10 :: r).getD (l.length + 1 - 1) 0 = 13 := by
    rw [Nat.add_sub_cancel, List.getD_eq_getElem?_getD, List.getElem?_append_right (by rw [numsL_len]; omega), numsL_len, Nat.sub_self]
    rfl
  rw [show (if 0 < l.length + 1 ∧ (numsL l ++ 13 :: 10 :: r).getD (l.length + 1 - 1) 0 = 13 then l.length + 1 - 1 else l.length + 1) = l.length from (if_pos ⟨by omega, e1⟩).trans (Nat.add_sub_cancel ..), if_neg (by omega), List.take_left' (numsL_len l), str_nums]
theorem wordsB_ba (l : List UInt8) : wordsB (baOf l) = (wordsL l).map baOf := rfl
theorem parse_crlf (l : List UInt8) (r : List Int) (h : ∀ b ∈ l, b ≠ 10) (hl : l.length ≤ 2048) : parseMP (numsL l ++ 13 :: 10 :: r) = parseMWP b64S ((l.length : Int) + 2) r ((wordsL l).map baOf) := by
  rw [parse_T (line_crlf l r h hl), wordsB_ba]
  have e : (numsL l ++ 13 :: 10 :: r).drop (l.length + 1 + 1) = r := by
    rw [show numsL l ++ 13 :: 10 :: r = (numsL l ++ [13, 10]) ++ r by simp]
    exact List.drop_left' (by rw [List.length_append, numsL_len]; rfl)
  rw [e, show (((l.length + 1 : Nat) : Int) + 1) = (l.length : Int) + 2 by omega]
theorem sh_e (d : Int) (s : Step) : (shiftU d s).e = s.e := by unfold shiftU; split <;> rfl
theorem sh_used {d : Int} {s : Step} (h : s.e ≠ 3) : shiftU d s = { s with used := s.used + d } := if_neg h
theorem blanks_law (l : List UInt8) (k : Nat) (h : NoNl l) (hl : l.length ≤ 300) (hk : k ≤ 3) : parseMP (numsL ((List.replicate k 32 ++ exB k l) ++ List.replicate k 32) ++ [13, 10]) = shiftU (((List.replicate k 32 ++ exB k l).length : Int) + k - l.length) (parseMP (numsL l ++ [13, 10])) := by
  have hx : ∀ b ∈ exB k l, b ≠ 10 ∧ b ≠ 13 := fun b hb => by
    unfold exB at hb
    obtain ⟨c, hc, hb⟩ := List.mem_flatMap.1 hb
    rcases List.mem_append.1 hb with hb | hb
    · split at hb
      · obtain rfl := List.eq_of_mem_replicate hb
        decide
      · cases hb
    · obtain rfl := List.mem_singleton.1 hb
      exact h _ hc
  have hr : ∀ b ∈ List.replicate k (32 : UInt8), b ≠ 10 ∧ b ≠ 13 := fun b hb => by
    obtain rfl := List.eq_of_mem_replicate hb
    decide
  have hn : NoNl ((List.replicate k 32 ++ exB k l) ++ List.replicate k 32) := fun b hb => by
    rcases List.mem_append.1 hb with hb | hb
    · rcases List.mem_append.1 hb with hb | hb
      · exact hr b hb
      · exact hx b hb
    · exact hr b hb
  have hle := exB_len k l
  have hle2 : (k + 1) * l.length ≤ 4 * l.length := Nat.mul_le_mul_right _ (by omega)
  rw [parse_crlf _ [] (fun b hb => (hn b hb).1) (by rw [List.length_append, List.length_append, List.length_replicate]; omega), parse_crlf l [] (fun b hb => (h b hb).1) (by omega), sh_W, wordsL_end, wordsL_rep, wordsL_ex]
  congr 1
  rw [List.length_append, List.length_replicate]
  omega
theorem nlI_more : ∀ (l m : List Int) (k : Nat), nlI l = some k → nlI (l ++ m) = some k
  | [], _, _, h => by cases h
  | z :: l, m, k, h => by
    rw [List.cons_append]
    unfold nlI at h ⊢
    by_cases hz : z = 10
    · rw [if_pos hz] at h ⊢
      exact h
    · rw [if_neg hz] at h ⊢
      cases hl : nlI l with
      | none => rw [hl] at h; cases h
      | some j =>
        rw [nlI_more l m j hl]
        rw [hl] at h
        exact h
theorem nlI_beyond : ∀ (l m : List Int) (k : Nat), nlI l = none → nlI (l ++ m) = some k → l.length ≤ k
  | [], _, _, _, _ => Nat.zero_le _
  | z :: l, m, k, h, hk => by
    rw [List.cons_append] at hk
    unfold nlI at h hk
    by_cases hz : z = 10
    · rw [if_pos hz] at h
      cases h
    · rw [if_neg hz] at h hk
      have h' : nlI l = none := by
        cases hl : nlI l with
        | none => rfl
        | some j => rw [hl] at h; cases h
      cases hl : nlI (l ++ m) with
      | none => rw [hl] at hk; cases hk
      | some j =>
        have := nlI_beyond l m j h' hl
        rw [hl] at hk
        have e : j + 1 = k := by simpa using hk
        rw [List.length_cons]
        omega
/-- More must come; or more bytes change nothing; or a line is too long that has no end. -/
def MoreR (l : List Int) (s t : Step) : Prop := s.e = 3 ∨ t = s ∨ (∃ u b, s = stepFS l.length longT 0 true ∧ t = stepFS u longT 0 b)
theorem more_law (l m : List Int) : MoreR l (parseMP l) (parseMP (l ++ m)) := by
  cases h : nlI l with
  | none =>
    by_cases h1 : l.length > 2049
    · have e : lineS l = (⟨#[]⟩, ((l.length - 1 : Nat) : Int) + 1, 4) := by
        unfold lineS
        rw [h]
        dsimp only
        rw [if_pos h1, show ((l.length - 1 : Nat) : Int) + 1 = l.length by omega]
      have hs := parse_L e
      rw [show ((l.length - 1 : Nat) : Int) + 1 = l.length by omega] at hs
      have hb : (l.getD (l.length - 1) 0 != 10) = true := by
        have hlt : l.length - 1 < l.length := by omega
        have := nlI_none l h l[l.length - 1] (List.getElem_mem hlt)
        rw [List.getD_eq_getElem?_getD, List.getElem?_eq_getElem hlt]
        simpa using this
      rw [hb] at hs
      have ht : ∃ m', lineS (l ++ m) = (⟨#[]⟩, ((m' : Nat) : Int) + 1, 4) := by
        unfold lineS
        cases h2 : nlI (l ++ m) with
        | none =>
          dsimp only
          refine ⟨(l ++ m).length - 1, ?_⟩
          have hl2 : (l ++ m).length = l.length + m.length := List.length_append
          rw [if_pos (by omega), show (((l ++ m).length - 1 : Nat) : Int) + 1 = (l ++ m).length by omega]
        | some k =>
          have hk := nlI_beyond l m k h h2
          dsimp only
          refine ⟨k, ?_⟩
          rw [if_pos (by split <;> omega)]
      obtain ⟨m', ht⟩ := ht
      exact .inr (.inr ⟨_, _, hs, parse_L ht⟩)
    · left
      have e : lineS l = (⟨#[]⟩, 0, 3) := by
        unfold lineS
        rw [h]
        dsimp only
        rw [if_neg h1]
      rw [parse_M e]
      rfl
  | some k =>
    obtain ⟨hk, hk10⟩ := nlI_lt l k h
    have g : ∀ j, j < l.length → (l ++ m).getD j 0 = l.getD j 0 := fun j hj => by
      rw [List.getD_eq_getElem?_getD, List.getD_eq_getElem?_getD, List.getElem?_append_left hj]
    have e : lineS (l ++ m) = lineS l := by
      unfold lineS
      rw [h, nlI_more l m k h]
      dsimp only
      rw [g (k - 1) (by omega)]
      generalize he : (if 0 < k ∧ l.getD (k - 1) 0 = 13 then k - 1 else k) = e
      have hek : e ≤ k := by rw [← he]; split <;> omega
      rw [List.take_append_of_le_length (by omega)]
    have hcase := lineS_cases l
    rcases hcase with h3 | ⟨m', hm', h4⟩ | ⟨m', t, hm', h0, ht⟩
    · left
      rw [parse_M h3]
      rfl
    · right; left
      rw [parse_L h4, parse_L (e.trans h4), g m' hm']
    · rw [parse_T h0, parse_T (e.trans h0), List.drop_append_of_le_length (by omega)]
      rcases W_more m b64S ((m' : Int) + 1) (l.drop (m' + 1)) (wordsB t) with h | h
      · exact .inl h
      · exact .inr (.inl h)
end Go.Proofs.YtdgeiadlijlkmaaGreatDoor.X
namespace Go.Proofs.YtdgeiadlijlkmaaGreatDoor.X
open Go.RowKit Go.Proofs.YtdgeiadlijlkmaaGreatDoorW.PrintWords Go.Proofs.YtdgeiadlijlkmaaGreatDoorW.PrintMore
set_option linter.unusedVariables false
set_option linter.unusedSimpArgs false
theorem nodup_le {α : Type} [BEq α] [LawfulBEq α] : ∀ (l m : List α), l.Nodup → (∀ x ∈ l, x ∈ m) → l.length ≤ m.length
  | [], _, _, _ => Nat.zero_le _
  | a :: l, m, h, hs => by
    obtain ⟨h1, h2⟩ := List.nodup_cons.1 h
    have ha : a ∈ m := hs a (by simp)
    have ih := nodup_le l (m.erase a) h2 (fun x hx => (List.mem_erase_of_ne (fun e => h1 (by rw [← e]; exact hx))).2 (hs x (by simp [hx])))
    rw [List.length_erase_of_mem ha] at ih
    have := List.length_pos_of_mem ha
    rw [List.length_cons]
    omega
theorem mem_hasZ {s : ByteArray} {b : UInt8} : hasZ s (b.toNat : Int) = true ↔ b ∈ s.data.toList := by
  unfold hasZ
  rw [List.any_eq_true]
  constructor
  · rintro ⟨c, hc, h⟩
    have h := of_decide_eq_true h
    have : c = b := UInt8.toNat_inj.1 (by omega)
    exact this ▸ hc
  · intro h
    exact ⟨b, h, decide_eq_true rfl⟩
structure InvL (x : Ln) : Prop where
  op : 0 ≤ x.c.op ∧ x.c.op ≤ 16
  exp : -1099511627776 ≤ x.c.exp ∧ x.c.exp ≤ 1099511627776
  value : x.c.value = []
  len : x.f.flags.size = x.f.tokens.length
  told : ∀ b ∈ x.f.flags.data.toList, b ∈ toldT.data.toList
  seen : ∀ b ∈ x.f.flags.data.toList, b ∈ x.seen.data.toList
  nodup : x.f.flags.data.toList.Nodup
theorem InvL.few {x : Ln} (h : InvL x) : x.f.flags.size ≤ 8 := nodup_le _ _ h.nodup h.told
theorem sgn_in (s : ByteArray) : -1099511627776 ≤ (sgnS s).1 ∧ (sgnS s).1 ≤ 1099511627776 := by
  unfold sgnS sgnOf
  split
  · rename_i h
    have := h.2
    dsimp only
    split <;> omega
  · exact ⟨by decide, by decide⟩
theorem modeP_in (l : List UInt8) (z : Int) (h : modeP l = some z) : 0 ≤ z ∧ z ≤ 16 := by
  unfold modeP at h
  repeat' split at h
  all_goals first | (injection h with h; subst h; exact ⟨by decide, by decide⟩) | cases h
theorem load_inv (v : ByteArray) (z : Int) (s : ByteArray) (c : Cmd) (ho : 0 ≤ c.op ∧ c.op ≤ 16) (he : -1099511627776 ≤ c.exp ∧ c.exp ≤ 1099511627776) : (0 ≤ (loadP v z s c).2.op ∧ (loadP v z s c).2.op ≤ 16) ∧ -1099511627776 ≤ (loadP v z s c).2.exp ∧ (loadP v z s c).2.exp ≤ 1099511627776 := by
  unfold loadP
  split
  · exact ⟨ho, he⟩
  split
  · exact ⟨ho, sgn_in s⟩
  split
  · refine ⟨?_, he⟩
    show 0 ≤ (modeP (v ++ s).toList).getD c.op ∧ (modeP (v ++ s).toList).getD c.op ≤ 16
    cases h : modeP (v ++ s).toList with
    | none => exact ho
    | some q => exact modeP_in _ _ h
  split
  · exact ⟨ho, he⟩
  dsimp only
  split
  · exact ⟨ho, he⟩
  split
  · exact ⟨ho, he⟩
  split
  · exact ⟨ho, he⟩
  · exact ⟨ho, he⟩
theorem word_cases (t : ByteArray) : (letter t = 0 ∧ t.data.toList = []) ∨ ∃ (b : UInt8) (l : List UInt8), t.data.toList = b :: l ∧ letter t = (b.toNat : Int) ∧ (firstW t).data.toList = [b] := by
  obtain ⟨⟨l⟩⟩ := t
  cases l with
  | nil => exact .inl ⟨rfl, rfl⟩
  | cons b l =>
    refine .inr ⟨b, l, rfl, rfl, ?_⟩
    unfold firstW
    rw [ByteArray.data_extract]
    simp
theorem go_inv {x : Ln} {c : Cmd} {t : ByteArray} (h : InvL x) (hs : hasZ x.seen (letter t) = false) (ho : 0 ≤ c.op ∧ c.op ≤ 16) (he : -1099511627776 ≤ c.exp ∧ c.exp ≤ 1099511627776) (hv : c.value = []) : InvL (goS x c (letter t) t) := by
  have hc : (0 ≤ (goS x c (letter t) t).c.op ∧ (goS x c (letter t) t).c.op ≤ 16) ∧ (-1099511627776 ≤ (goS x c (letter t) t).c.exp ∧ (goS x c (letter t) t).c.exp ≤ 1099511627776) ∧ (goS x c (letter t) t).c.value = [] := by
    unfold goS
    dsimp only
    split
    · exact ⟨⟨by show (0 : Int) ≤ 9; decide, by show (9 : Int) ≤ 16; decide⟩, he, hv⟩
    · exact ⟨ho, he, hv⟩
  by_cases ht : hasZ toldT (letter t) = true
  · rcases word_cases t with ⟨h0, -⟩ | ⟨b, l, -, hb, hf⟩
    · rw [h0] at ht
      exact absurd ht (by decide)
    have e1 : (goS x c (letter t) t).f.flags = x.f.flags ++ firstW t := by unfold goS; dsimp only; rw [if_pos ht]
    have e2 : (goS x c (letter t) t).f.tokens = x.f.tokens ++ [tokenW t] := by unfold goS; dsimp only; rw [if_pos ht]
    have e3 : (goS x c (letter t) t).seen = x.seen ++ firstW t := rfl
    have e4 : (x.f.flags ++ firstW t).data.toList = x.f.flags.data.toList ++ [b] := by rw [ByteArray.data_append, Array.toList_append, hf]
    have e5 : (x.seen ++ firstW t).data.toList = x.seen.data.toList ++ [b] := by rw [ByteArray.data_append, Array.toList_append, hf]
    rw [hb] at ht hs
    have hbt := mem_hasZ.1 ht
    have hbn : b ∉ x.seen.data.toList := fun hm => by
      rw [mem_hasZ.2 hm] at hs
      cases hs
    refine ⟨hc.1, hc.2.1, hc.2.2, ?_, ?_, ?_, ?_⟩
    · rw [e1, e2, ByteArray.size_append, List.length_append, h.len]
      have : (firstW t).size = 1 := by
        have : (firstW t).size = (firstW t).data.toList.length := rfl
        rw [this, hf]
        rfl
      rw [this]
      rfl
    · rw [e1, e4]
      intro q hq
      rcases List.mem_append.1 hq with hq | hq
      · exact h.told q hq
      · rw [List.mem_singleton.1 hq]; exact hbt
    · rw [e1, e4, e3, e5]
      intro q hq
      rcases List.mem_append.1 hq with hq | hq
      · exact List.mem_append_left _ (h.seen q hq)
      · exact List.mem_append_right _ hq
    · rw [e1, e4]
      refine List.nodup_append.2 ⟨h.nodup, by simp, ?_⟩
      intro a ha q hq e
      rw [List.mem_singleton.1 hq] at e
      exact hbn (h.seen _ (e ▸ ha))
  · have e1 : (goS x c (letter t) t).f.flags = x.f.flags := by unfold goS; dsimp only; rw [if_neg ht]
    have e2 : (goS x c (letter t) t).f.tokens = x.f.tokens := by unfold goS; dsimp only; rw [if_neg ht]
    have e3 : (goS x c (letter t) t).seen = x.seen ++ firstW t := rfl
    refine ⟨hc.1, hc.2.1, hc.2.2, by rw [e1, e2, h.len], by rw [e1]; exact h.told, ?_, by rw [e1]; exact h.nodup⟩
    rw [e1, e3]
    intro q hq
    rw [ByteArray.data_append, Array.toList_append]
    exact List.mem_append_left _ (h.seen q hq)
theorem flag_inv {x y : Ln} {t : ByteArray} (h : InvL x) (hy : flagP x t = .ok y) : InvL y := by
  unfold flagP at hy
  split at hy
  · cases hy
  split at hy
  · cases hy
  rename_i hs
  split at hy
  · cases hy
  cases hy
  have hs : hasZ x.seen (letter t) = false := by revert hs; cases hasZ x.seen (letter t) <;> simp
  refine go_inv h hs ?_ ?_ ?_
  · split
    · exact (load_inv _ _ _ _ h.op h.exp).1
    · exact h.op
  · split
    · exact (load_inv _ _ _ _ h.op h.exp).2
    · exact h.exp
  · split
    · rw [loadP_value]; exact h.value
    · exact h.value
theorem flags_inv : ∀ (ws : List ByteArray) (x y : Ln), InvL x → flagsP x ws = .ok y → InvL y
  | [], x, y, h, hy => by
    have : x = y := by injection hy
    exact this ▸ h
  | t :: ws, x, y, h, hy => by
    unfold flagsP at hy
    cases hx : flagP x t with
    | error e => rw [hx] at hy; cases hy
    | ok z =>
      rw [hx] at hy
      exact flags_inv ws z y (flag_inv h hx) hy
theorem begun_inv (v : ByteArray) : InvL (begunL v) := by
  refine ⟨?_, ?_, ?_, rfl, (fun b hb => by cases hb), (fun b hb => by cases hb), List.nodup_nil⟩
  · show 0 ≤ (begunC v.toList).op ∧ (begunC v.toList).op ≤ 16
    unfold begunC
    repeat' split
    all_goals exact ⟨by decide, by decide⟩
  · show -1099511627776 ≤ (begunC v.toList).exp ∧ (begunC v.toList).exp ≤ 1099511627776
    unfold begunC
    repeat' split
    all_goals exact ⟨by decide, by decide⟩
  · show (begunC v.toList).value = []
    unfold begunC
    repeat' split
    all_goals rfl
def KeyG (y : Ln) : Prop := keyS y.c.key = true ∨ y.f.base64 = true ∧ keyedS y.c.key = true
theorem keyM_inv {b : ByteArray → Option (List Int)} {x y : Ln} {k : ByteArray} (h : InvL x) (hy : keyM b x k = .ok y) : InvL y ∧ KeyG y := by
  unfold keyM at hy
  by_cases h0 : x.f.base64 = false
  · rw [if_pos h0] at hy
    by_cases h1 : keyS k = true
    · rw [if_pos h1] at hy
      cases hy
      exact ⟨⟨h.op, h.exp, h.value, h.len, h.told, h.seen, h.nodup⟩, .inl h1⟩
    · rw [if_neg h1] at hy
      cases hy
  · rw [if_neg h0] at hy
    cases hb : b k with
    | none => rw [hb] at hy; cases hy
    | some l =>
      rw [hb] at hy
      dsimp only at hy
      by_cases h1 : keyedS (strOfNums l) = true
      · rw [if_pos h1] at hy
        cases hy
        exact ⟨⟨h.op, h.exp, h.value, h.len, h.told, h.seen, h.nodup⟩, .inr ⟨by revert h0; cases x.f.base64 <;> simp, h1⟩⟩
      · rw [if_neg h1] at hy
        cases hy
theorem read_inv {b : ByteArray → Option (List Int)} {v k : ByteArray} {ws : List ByteArray} {y : Ln} (hy : readP b v k ws = .ok y) : InvL y ∧ KeyG y := by
  unfold readP at hy
  split at hy
  · cases hy
  cases hx : flagsP (begunL v) ws with
  | error e => rw [hx] at hy; cases hy
  | ok x =>
    rw [hx] at hy
    exact keyM_inv (flags_inv ws _ _ (begun_inv v) hx) hy
def MayM (c : Cmd) (b : Bool) : Prop := (keyS c.key = true ∨ 13 ≤ c.op ∧ c.key.size = 0 ∨ b = true ∧ keyedS c.key = true) ∧ c.value.length ≤ 1000 ∧ -1099511627776 ≤ c.exp ∧ c.exp ≤ 1099511627776 ∧ 0 ≤ c.op ∧ c.op ≤ 16
def GoodM (lo hi : Int) (s : Step) : Prop :=
  s = stepM ∨ (∃ u r k b, s = stepFS u r k b ∧ lo ≤ u ∧ u ≤ hi ∧ 0 ≤ k ∧ 0 < r.size ∧ r.size ≤ 1000) ∨
  (∃ u f c, s = stepO u f c ∧ lo ≤ u ∧ u ≤ hi ∧ f.flags.size = f.tokens.length ∧ f.flags.size ≤ 8 ∧ MayM c f.base64)
theorem good_FS {lo hi u k : Int} {r : ByteArray} {b : Bool} (h0 : lo ≤ u) (h1 : u ≤ hi) (hk : 0 ≤ k) (h2 : 0 < r.size) (h3 : r.size ≤ 1000) : GoodM lo hi (stepFS u r k b) := .inr (.inl ⟨u, r, k, b, rfl, h0, h1, hk, h2, h3⟩)
theorem size_pos {e : ByteArray} (h : e.toList.isEmpty = false) : 0 < e.size := by
  obtain ⟨⟨l⟩⟩ := e
  rw [ByteArray.toList_eq] at h
  cases l with
  | nil => cases h
  | cons a l => show 0 < (a :: l).length; simp
theorem good_read {lo hi u : Int} {b : ByteArray → Option (List Int)} {v k : ByteArray} {ws : List ByteArray} {y : Ln} (hy : readP b v k ws = .ok y) (h0 : lo ≤ u) (h1 : u ≤ hi) (val : List Int) (hv : val.length ≤ 1000) : GoodM lo hi (stepO u y.f { y.c with value := val }) := by
  obtain ⟨h, hk⟩ := read_inv hy
  refine .inr (.inr ⟨u, _, _, rfl, h0, h1, h.len, h.few, ?_, hv, h.exp.1, h.exp.2, h.op.1, h.op.2⟩)
  rcases hk with hk | hk
  · exact .inl hk
  · exact .inr (.inr hk)
theorem good_stores {lo u : Int} (b : ByteArray → Option (List Int)) (r : List Int) (k n : ByteArray) (ws : List ByteArray) (h0 : lo ≤ u) : GoodM lo (u + r.length) (storesP b u r k n ws) := by
  have hsk : 0 ≤ skipN (decS n) := by
    unfold skipN
    split <;> omega
  unfold storesP
  cases hy : readP b (⟨#[109, 115]⟩ : ByteArray) k ws with
  | error e =>
    have := readP_err hy
    exact good_FS h0 (by omega) hsk (size_pos this.1) this.2
  | ok x =>
    dsimp only
    split
    · exact good_FS h0 (by omega) hsk (by decide) (by decide)
    split
    · exact good_FS h0 (by omega) hsk (by decide) (by decide)
    rename_i hl
    have hz1 : ((decS n).1 : Int) ≤ 1000 := by omega
    generalize decS n = z at *
    have hB : (bodyS r z.1).2.2 = 3 ∨ (0 ≤ (bodyS r z.1).2.1 ∧ (bodyS r z.1).2.1 ≤ r.length ∧ (bodyS r z.1).1.length ≤ 1000) := by
      unfold bodyS
      rw [if_neg (by omega)]
      split
      · exact .inl rfl
      · rename_i hn
        right
        split
        · dsimp only
          rw [List.length_take]
          omega
        · dsimp only
          simp only [List.length_nil]
          omega
    split
    · exact .inl rfl
    rename_i h3
    obtain ⟨hB0, hB1, hB2⟩ := hB.resolve_left h3
    split
    · exact good_FS (by omega) (by omega) (by decide) (by decide) (by decide)
    · exact good_read hy (by omega) (by omega) _ hB2
theorem good_W {lo u : Int} (b : ByteArray → Option (List Int)) (r : List Int) (ws : List ByteArray) (h0 : lo ≤ u) : GoodM lo (u + r.length) (parseMWP b u r ws) := by
  have h1 : u ≤ u + r.length := by omega
  rcases ws with _ | ⟨v, _ | ⟨k, ws⟩⟩
  · exact good_FS h0 h1 (by decide) (by decide) (by decide)
  · unfold parseMWP
    dsimp only
    split
    · refine .inr (.inr ⟨u, _, _, rfl, h0, h1, rfl, by show 0 ≤ 8; decide, .inr (.inl ⟨by show (13 : Int) ≤ 14; decide, rfl⟩), by show ([] : List Int).length ≤ 1000; decide, by show _ ≤ (0 : Int); decide, by show (0 : Int) ≤ _; decide, by show (0 : Int) ≤ 14; decide, by show (14 : Int) ≤ 16; decide⟩)
    · exact good_FS h0 h1 (by decide) (by decide) (by decide)
  · unfold parseMWP
    dsimp only
    split
    · exact good_FS h0 h1 (by decide) (by decide) (by decide)
    split
    · rcases ws with _ | ⟨n, ws⟩
      · exact good_FS h0 h1 (by decide) (by decide) (by decide)
      · exact good_stores b r k n ws h0
    · cases hy : readP b v k ws with
      | error e =>
        have := readP_err hy
        exact good_FS h0 h1 (by decide) (size_pos this.1) this.2
      | ok x =>
        have := good_read hy h0 h1 x.c.value (by rw [(read_inv hy).1.value]; decide)
        exact this
theorem good_parse (l : List Int) : GoodM 1 l.length (parseMP l) := by
  unfold parseMP
  rcases lineS_cases l with h | ⟨m, hm, h⟩ | ⟨m, t, hm, h, ht⟩
  · rw [h]
    exact .inl rfl
  · rw [h, if_neg (by dsimp only; decide), if_pos rfl]
    exact good_FS (by dsimp only; omega) (by dsimp only; omega) (by decide) (by decide) (by decide)
  · rw [h, if_neg (by dsimp only; decide), if_neg (by dsimp only; decide)]
    dsimp only
    have := good_W (lo := 1) (u := (m : Int) + 1) b64S (l.drop ((m : Int) + 1).toNat) (wordsB t) (by omega)
    rw [List.length_drop, show ((m : Int) + 1 + ((l.length - ((m : Int) + 1).toNat : Nat) : Int)) = l.length by omega] at this
    exact this
end Go.Proofs.YtdgeiadlijlkmaaGreatDoor.X
namespace Go.Proofs.YtdgeiadlijlkmaaGreatDoor.X
open Go.RowKit Go.Proofs.YtdgeiadlijlkmaaGreatDoorW.PrintWords Go.Proofs.YtdgeiadlijlkmaaGreatDoorW.PrintMore
set_option linter.unusedVariables false
set_option linter.unusedSimpArgs false
instance (w : List UInt8) : Decidable (NoB w) := by unfold NoB; infer_instance
instance (w : List UInt8) : Decidable (NoNl w) := by unfold NoNl; infer_instance
theorem dec_show (u : Nat) (hu : u < 18446744073709551616) : decS (showI u) = (u, true) := by
  unfold decS showI
  rw [Int.toNat_natCast]
  have hl : (⟨(Lib.decDigits u).toArray⟩ : ByteArray).size = Lib.nDigits u := by
    rw [← Lib.decDigits_length]
    simp [ByteArray.size]
  have h1 : (⟨(Lib.decDigits u).toArray⟩ : ByteArray).data.toList = Lib.decDigits u := rfl
  have h0 : 1 ≤ (Lib.decDigits u).length := by
    have := decDigits_mono u 0 (by omega)
    rw [Lib.decDigits_one (show 0 < 10 by omega)] at this
    exact this
  have h2 : (Lib.decDigits u).length ≤ 20 := by
    have := decDigits_mono 18446744073709551615 u (by omega)
    have e : (Lib.decDigits 18446744073709551615).length = 20 := by decide +kernel
    omega
  rw [Lib.decDigits_length] at h0 h2
  rw [if_neg (by omega), h1, rDecL_dec u hu]
theorem dig_ok (u : Nat) : ∀ b ∈ Lib.decDigits u, 48 ≤ b.toNat ∧ b.toNat ≤ 57 := by
  induction u using Nat.strongRecOn with
  | _ u ih =>
    intro b hb
    rw [Lib.decDigits] at hb
    split at hb
    · obtain rfl := List.mem_singleton.1 hb
      rename_i h
      have : (UInt8.ofNat (48 + u)).toNat = 48 + u := by
        rw [UInt8.toNat_ofNat']
        omega
      first | omega | (simp; omega)
    · rename_i h
      rcases List.mem_append.1 hb with hb | hb
      · exact ih (u / 10) (by omega) b hb
      · obtain rfl := List.mem_singleton.1 hb
        have : (UInt8.ofNat (48 + u % 10)).toNat = 48 + u % 10 := by
          rw [UInt8.toNat_ofNat']
          omega
        first | omega | (simp; omega)
theorem dig_ne (u : Nat) : Lib.decDigits u ≠ [] := by
  intro h
  have := decDigits_mono u 0 (by omega)
  rw [Lib.decDigits_one (show 0 < 10 by omega), h] at this
  exact absurd this (by decide)
theorem dig_len (u : Nat) (hu : u < 18446744073709551616) : (Lib.decDigits u).length ≤ 20 := by
  have := decDigits_mono 18446744073709551615 u (by omega)
  have e : (Lib.decDigits 18446744073709551615).length = 20 := by decide +kernel
  omega
theorem dig_NoB (u : Nat) : NoB (Lib.decDigits u) := ⟨dig_ne u, fun b hb e => by
  have := dig_ok u b hb
  subst e
  exact absurd this.1 (by decide)⟩
theorem dig_NoNl (u : Nat) : NoNl (Lib.decDigits u) := fun b hb => by
  have := dig_ok u b hb
  constructor
  · intro e
    subst e
    exact absurd this.1 (by decide)
  · intro e
    subst e
    exact absurd this.1 (by decide)
theorem sgn_show (u : Nat) (hu : u ≤ 4294967295) : sgnS (showI u) = ((u : Int), true) := by
  have hp : isNeg (showI u) = false := by
    show Lib.hasPrefix (Lib.decDigits (Int.toNat (u : Int))) [45] = false
    rw [Int.toNat_natCast]
    have h0 := dig_ok u
    have h1 := dig_ne u
    generalize Lib.decDigits u = l at *
    cases l with
    | nil => exact absurd rfl h1
    | cons b l =>
      have := h0 b (by simp)
      have hb : b ≠ 45 := fun e => by subst e; exact absurd this.1 (by decide)
      rw [Bool.eq_false_iff]
      intro hp
      simp [Lib.hasPrefix] at hp
      exact hb hp.symm
  have hn : unsigned (showI u) = showI u := by
    unfold unsigned Lib.trimPrefix
    unfold isNeg at hp
    rw [hp]
    rfl
  unfold sgnS
  rw [hn, hp, dec_show u (by omega)]
  unfold sgnOf
  rw [if_pos ⟨rfl, by show u ≤ 1099511627776; omega⟩]
  rfl
theorem nonl_app {a b : List UInt8} (ha : NoNl a) (hb : NoNl b) : NoNl (a ++ b) := fun x hx => by
  rcases List.mem_append.1 hx with h | h
  · exact ha x h
  · exact hb x h
/-! ### One flag -/
theorem mg_list : ((⟨#[109, 103]⟩ : ByteArray) : ByteArray).toList = [109, 103] := by rw [ByteArray.toList_eq]
theorem ms_list : ((⟨#[109, 115]⟩ : ByteArray) : ByteArray).toList = [109, 115] := by rw [ByteArray.toList_eq]
theorem flag_ok {x : Ln} {w : ByteArray} {l : List UInt8} (hv : x.f.verb.toList = l) (hi : (!hasZ (bareL l) (letter w) && !hasZ (loadL l) (letter w)) = false) (hb : (hasZ (bareL l) (letter w) && !(tokenW w).toList.isEmpty) = false) (hs : hasZ x.seen (letter w) = false) (c : Cmd)
    (hc : (if hasZ (loadL l) (letter w) = true then loadP x.f.verb (letter w) (tokenW w) x.c else (true, x.c)) = (true, c)) : flagP x w = .ok (goS x c (letter w) w) := by
  subst hv
  unfold flagP
  rw [hi, hb]
  by_cases h : hasZ (loadL x.f.verb.toList) (letter w) = true
  · rw [if_pos h] at hc
    rw [h, hs, hc]
    rfl
  · have h' : hasZ (loadL x.f.verb.toList) (letter w) = false := by revert h; cases hasZ (loadL x.f.verb.toList) (letter w) <;> simp
    rw [if_neg h] at hc
    rw [h', hs, if_neg (by decide), if_neg (by decide), if_neg (by simp), if_neg (by decide), (Prod.mk.inj hc).2]
theorem token_cons (b : UInt8) (l : List UInt8) : tokenW (baOf (b :: l)) = baOf l := by
  unfold tokenW baOf
  apply ByteArray.ext
  rw [ByteArray.data_extract]
  simp
  exact List.take_of_length_le (by show l.length ≤ (b :: l).length - 1; simp)
theorem letter_cons (b : UInt8) (l : List UInt8) : letter (baOf (b :: l)) = (b.toNat : Int) := rfl
theorem empty_list : (baOf []).toList = [] := by rw [ByteArray.toList_eq]; rfl
/-- A flag of get without a token. -/
theorem mg_bare {x : Ln} (b : UInt8) (hv : x.f.verb = (⟨#[109, 103]⟩ : ByteArray)) (hb : hasZ (⟨#[98, 99, 102, 107, 113, 115, 116, 118]⟩ : ByteArray) (b.toNat : Int) = true) (hl : hasZ (⟨#[79, 84, 78]⟩ : ByteArray) (b.toNat : Int) = false) (hs : hasZ x.seen (b.toNat : Int) = false) : flagP x (baOf [b]) = .ok (goS x x.c (b.toNat : Int) (baOf [b])) := by
  have hv2 : x.f.verb.toList = [109, 103] := by rw [hv]; exact mg_list
  refine flag_ok (w := baOf [b]) hv2 ?_ ?_ hs x.c ?_
  · show (!hasZ (⟨#[98, 99, 102, 107, 113, 115, 116, 118]⟩ : ByteArray) (b.toNat : Int) && !hasZ (⟨#[79, 84, 78]⟩ : ByteArray) (b.toNat : Int)) = false
    rw [hb]
    rfl
  · rw [token_cons, empty_list]
    exact Bool.and_false _
  · show (if hasZ (⟨#[79, 84, 78]⟩ : ByteArray) (b.toNat : Int) = true then _ else _) = _
    rw [hl]
    rfl
/-! ### The chapter's examples -/
def fmM (v k : ByteArray) : Form := { zForm with dialect := 3, verb := v, keys := [k] }
theorem parse_mg (l : List UInt8) (h : ∀ b ∈ l, b ≠ 10) (hl : l.length ≤ 2048) (k : ByteArray) (ws : List ByteArray) (hw : (wordsL l).map baOf = (⟨#[109, 103]⟩ : ByteArray) :: k :: ws) : parseMP (numsL l ++ [13, 10]) = (match readP b64S (⟨#[109, 103]⟩ : ByteArray) k ws with | .error e => stepFS ((l.length : Int) + 2) e 0 false | .ok x => stepO ((l.length : Int) + 2) x.f x.c) := by
  rw [parse_crlf l [] h hl, hw]
  unfold parseMWP
  dsimp only
  rw [mg_list, if_neg (by decide), if_neg (by decide)]
  rfl
theorem ex_a : parseMP (numsL [109, 103, 32, 107, 32, 116, 32, 118, 32, 113, 13, 10]) = stepO 12 { fmM (⟨#[109, 103]⟩ : ByteArray) (⟨#[107]⟩ : ByteArray) with quiet := true, flags := (⟨#[116, 118]⟩ : ByteArray), tokens := [⟨#[]⟩, ⟨#[]⟩] } { zCmd with op := 12, key := (⟨#[107]⟩ : ByteArray) } := by
  rw [show numsL [109, 103, 32, 107, 32, 116, 32, 118, 32, 113, 13, 10] = numsL [109, 103, 32, 107, 32, 116, 32, 118, 32, 113] ++ [13, 10] from rfl, parse_mg [109, 103, 32, 107, 32, 116, 32, 118, 32, 113] (by decide) (by decide) (⟨#[107]⟩ : ByteArray) [baOf [116], baOf [118], baOf [113]] (congrArg (List.map baOf) (wordsL_jn [[109, 103], [107], [116], [118], [113]] (by decide)))]
  have h : flagsP (begunL (⟨#[109, 103]⟩ : ByteArray)) [baOf [116], baOf [118], baOf [113]] = .ok ⟨{ zCmd with op := 12 }, { zForm with dialect := 3, verb := (⟨#[109, 103]⟩ : ByteArray), quiet := true, flags := (⟨#[116, 118]⟩ : ByteArray), tokens := [⟨#[]⟩, ⟨#[]⟩] }, (⟨#[116, 118, 113]⟩ : ByteArray)⟩ := by
    unfold flagsP
    rw [mg_bare 116 rfl (by decide) (by decide) (by decide)]
    dsimp only
    unfold flagsP
    rw [mg_bare 118 rfl (by decide) (by decide) (by decide)]
    dsimp only
    unfold flagsP
    rw [mg_bare 113 rfl (by decide) (by decide) (by decide)]
    dsimp only
    unfold flagsP
    have e : begunC ((⟨#[109, 103]⟩ : ByteArray) : ByteArray).toList = { zCmd with op := 12 } := by rw [mg_list]; rfl
    unfold begunL
    rw [e]
    rfl
  unfold readP
  rw [if_neg (by decide), h]
  rfl
theorem ex_c : parseMP (numsL [109, 103, 32, 107, 32, 116, 32, 116, 13, 10]) = stepFS 10 duplicateT 0 false := by
  rw [show numsL [109, 103, 32, 107, 32, 116, 32, 116, 13, 10] = numsL [109, 103, 32, 107, 32, 116, 32, 116] ++ [13, 10] from rfl, parse_mg [109, 103, 32, 107, 32, 116, 32, 116] (by decide) (by decide) (⟨#[107]⟩ : ByteArray) [baOf [116], baOf [116]] (congrArg (List.map baOf) (wordsL_jn [[109, 103], [107], [116], [116]] (by decide)))]
  have h : flagsP (begunL (⟨#[109, 103]⟩ : ByteArray)) [baOf [116], baOf [116]] = .error duplicateT := by
    unfold flagsP
    rw [mg_bare 116 rfl (by decide) (by decide) (by decide)]
    dsimp only
    unfold flagsP flagP
    rw [show (goS (begunL (⟨#[109, 103]⟩ : ByteArray)) (begunL (⟨#[109, 103]⟩ : ByteArray)).c ((116 : UInt8).toNat : Int) (baOf [116])).f.verb = (⟨#[109, 103]⟩ : ByteArray) from rfl, mg_list, token_cons, empty_list]
    rfl
  unfold readP
  rw [if_neg (by decide), h]
  rfl
theorem sgn5 : sgnS (⟨#[53]⟩ : ByteArray) = (5, true) := by decide
theorem ex_b : parseMP (numsL [109, 115, 32, 107, 32, 50, 32, 84, 53, 13, 10, 120, 121, 13, 10]) = stepO 15 (fmM (⟨#[109, 115]⟩ : ByteArray) (⟨#[107]⟩ : ByteArray)) { zCmd with op := 3, key := (⟨#[107]⟩ : ByteArray), exp := 5, value := [120, 121] } := by
  rw [show numsL [109, 115, 32, 107, 32, 50, 32, 84, 53, 13, 10, 120, 121, 13, 10] = numsL [109, 115, 32, 107, 32, 50, 32, 84, 53] ++ 13 :: 10 :: [120, 121, 13, 10] from rfl, parse_crlf _ _ (by decide) (by decide), show wordsL [109, 115, 32, 107, 32, 50, 32, 84, 53] = [[109, 115], [107], [50], [84, 53]] from wordsL_jn [[109, 115], [107], [50], [84, 53]] (by decide)]
  show parseMWP _ _ _ ((⟨#[109, 115]⟩ : ByteArray) :: (⟨#[107]⟩ : ByteArray) :: (⟨#[50]⟩ : ByteArray) :: [(⟨#[84, 53]⟩ : ByteArray)]) = _
  unfold parseMWP
  dsimp only
  rw [ms_list, if_neg (by decide), if_pos rfl]
  have h : readP b64S (⟨#[109, 115]⟩ : ByteArray) (⟨#[107]⟩ : ByteArray) [(⟨#[84, 53]⟩ : ByteArray)] = .ok ⟨{ zCmd with op := 3, key := (⟨#[107]⟩ : ByteArray), exp := 5 }, fmM (⟨#[109, 115]⟩ : ByteArray) (⟨#[107]⟩ : ByteArray), (⟨#[84]⟩ : ByteArray)⟩ := by
    have hf : flagsP (begunL (⟨#[109, 115]⟩ : ByteArray)) [(⟨#[84, 53]⟩ : ByteArray)] = .ok ⟨{ zCmd with op := 3, exp := 5 }, { zForm with dialect := 3, verb := (⟨#[109, 115]⟩ : ByteArray) }, (⟨#[84]⟩ : ByteArray)⟩ := by
      unfold flagsP
      have e : begunC ((⟨#[109, 115]⟩ : ByteArray) : ByteArray).toList = { zCmd with op := 3 } := by rw [ms_list]; rfl
      have e5 : tokenW (⟨#[84, 53]⟩ : ByteArray) = (⟨#[53]⟩ : ByteArray) := by decide
      rw [flag_ok (x := begunL (⟨#[109, 115]⟩ : ByteArray)) (l := [109, 115]) (w := (⟨#[84, 53]⟩ : ByteArray)) ms_list (by decide) (by decide) (by decide) { zCmd with op := 3, exp := 5 } (by
        rw [if_pos (by decide)]
        unfold loadP timeC begunL
        dsimp only
        rw [e, e5, sgn5, ms_list]
        rfl)]
      unfold begunL
      rw [e]
      rfl
    unfold readP
    rw [if_neg (by decide), hf]
    rfl
  unfold storesP
  rw [h, show decS (⟨#[50]⟩ : ByteArray) = (2, true) by decide]
  rfl
/-! ### The order of two flags -/
def timeT (t : Bool) : UInt8 := if t = true then 84 else 78
def cmdT (u : Nat) (t : Bool) : Cmd := { zCmd with op := 12, exp := u, makes := !t, sets := t }
theorem mg_time {x : Ln} (u : Nat) (t : Bool) (hu : u ≤ 4294967295) (hv : x.f.verb = (⟨#[109, 103]⟩ : ByteArray)) (hs : hasZ x.seen ((timeT t).toNat : Int) = false) (hc : x.c = { zCmd with op := 12 }) : flagP x (baOf (timeT t :: Lib.decDigits u)) = .ok (goS x (cmdT u t) ((timeT t).toNat : Int) (baOf (timeT t :: Lib.decDigits u))) := by
  have hv2 : x.f.verb.toList = [109, 103] := by rw [hv]; exact mg_list
  have hd : sgnS (baOf (Lib.decDigits u)) = ((u : Int), true) := by
    have := sgn_show u hu
    unfold showI at this
    rw [Int.toNat_natCast] at this
    exact this
  refine flag_ok (w := baOf (timeT t :: Lib.decDigits u)) hv2 ?_ ?_ hs _ ?_
  · rw [letter_cons]
    cases t <;> rfl
  · rw [letter_cons]
    cases t <;> rfl
  · rw [letter_cons, token_cons, hc, hv]
    unfold loadP timeC
    rw [hd, mg_list]
    cases t <;> rfl
theorem order_a (u : Nat) (t : Bool) (hu : u ≤ 4294967295) : ∃ s, flagsP (begunL (⟨#[109, 103]⟩ : ByteArray)) [baOf [113], baOf (timeT t :: Lib.decDigits u)] = .ok ⟨cmdT u t, { zForm with dialect := 3, verb := (⟨#[109, 103]⟩ : ByteArray), quiet := true }, s⟩ := by
  have e : begunL (⟨#[109, 103]⟩ : ByteArray) = ⟨{ zCmd with op := 12 }, { zForm with dialect := 3, verb := (⟨#[109, 103]⟩ : ByteArray) }, ⟨#[]⟩⟩ := by
    unfold begunL
    rw [mg_list]
    rfl
  rw [e]
  unfold flagsP
  rw [mg_bare 113 rfl (by decide) (by decide) (by decide)]
  dsimp only
  unfold flagsP
  rw [mg_time u t hu rfl (by cases t <;> decide) rfl]
  dsimp only
  unfold flagsP
  cases t
  · exact ⟨_, rfl⟩
  · exact ⟨_, rfl⟩
theorem first_cons (b : UInt8) (l : List UInt8) : firstW (baOf (b :: l)) = baOf [b] := by
  unfold firstW baOf
  apply ByteArray.ext
  rw [ByteArray.data_extract]
  simp
theorem order_b (u : Nat) (t : Bool) (hu : u ≤ 4294967295) : ∃ s, flagsP (begunL (⟨#[109, 103]⟩ : ByteArray)) [baOf (timeT t :: Lib.decDigits u), baOf [113]] = .ok ⟨cmdT u t, { zForm with dialect := 3, verb := (⟨#[109, 103]⟩ : ByteArray), quiet := true }, s⟩ := by
  have e : begunL (⟨#[109, 103]⟩ : ByteArray) = ⟨{ zCmd with op := 12 }, { zForm with dialect := 3, verb := (⟨#[109, 103]⟩ : ByteArray) }, ⟨#[]⟩⟩ := by
    unfold begunL
    rw [mg_list]
    rfl
  rw [e]
  unfold flagsP
  rw [mg_time u t hu rfl (by cases t <;> decide) rfl]
  dsimp only
  unfold flagsP
  rw [mg_bare 113 (by cases t <;> rfl) (by decide) (by decide) (by
    show hasZ (⟨#[]⟩ ++ firstW (baOf (timeT t :: Lib.decDigits u))) _ = false
    rw [first_cons]
    cases t <;> decide)]
  dsimp only
  unfold flagsP
  cases t
  · exact ⟨_, rfl⟩
  · exact ⟨_, rfl⟩
def orderF (k : List UInt8) : Form := { fmM (⟨#[109, 103]⟩ : ByteArray) (baOf k) with quiet := true }
def orderC (k : List UInt8) (u : Nat) (t : Bool) : Cmd := { cmdT u t with key := baOf k }
/-- What both lines are. -/
def orderS (k : List UInt8) (u : Nat) (t : Bool) (n : Int) : Step := if keyS (baOf k) = true then stepO n (orderF k) (orderC k u t) else stepFS n badT 0 false
def lineA (k : List UInt8) (u : Nat) (t : Bool) : List UInt8 := [109, 103, 32] ++ k ++ [32, 113, 32] ++ [timeT t] ++ Lib.decDigits u
def lineB (k : List UInt8) (u : Nat) (t : Bool) : List UInt8 := [109, 103, 32] ++ k ++ [32] ++ [timeT t] ++ Lib.decDigits u ++ [32, 113]
theorem keyM_plain {b64 : ByteArray → Option (List Int)} {x : Ln} {k : ByteArray} (h : x.f.base64 = false) : keyM b64 x k = if keyS k = true then .ok { x with f := { x.f with keys := [k] }, c := { x.c with key := k } } else .error badT := by
  unfold keyM
  rw [if_pos h]
theorem order_read (k : List UInt8) (u : Nat) (t : Bool) (ws : List ByteArray) (n : Int) (hn : ws.length ≤ 16) (s : ByteArray) (h : flagsP (begunL (⟨#[109, 103]⟩ : ByteArray)) ws = .ok ⟨cmdT u t, { zForm with dialect := 3, verb := (⟨#[109, 103]⟩ : ByteArray), quiet := true }, s⟩) : (match readP b64S (⟨#[109, 103]⟩ : ByteArray) (baOf k) ws with | .error e => stepFS n e 0 false | .ok x => stepO n x.f x.c) = orderS k u t n := by
  unfold readP orderS
  rw [if_neg (by omega), h]
  dsimp only
  rw [keyM_plain rfl]
  by_cases hk : keyS (baOf k) = true
  · rw [if_pos hk, if_pos hk]
    rfl
  · rw [if_neg hk, if_neg hk]
theorem time_NoB (u : Nat) (t : Bool) : NoB (timeT t :: Lib.decDigits u) := ⟨by simp, fun b hb e => by
  rcases List.mem_cons.1 hb with h | h
  · rw [e] at h
    revert h
    cases t <;> decide
  · exact (dig_NoB u).2 b h e⟩
theorem no_app {a b : List UInt8} (ha : ∀ x ∈ a, x ≠ 10) (hb : ∀ x ∈ b, x ≠ 10) : ∀ x ∈ a ++ b, x ≠ 10 := fun x hx => by
  rcases List.mem_append.1 hx with h | h
  · exact ha x h
  · exact hb x h
theorem order_law (k : List UInt8) (u : Nat) (t : Bool) (hu : u ≤ 1000000000) (hk0 : k ≠ []) (hk : ∀ b ∈ k, b ≠ 32 ∧ b ≠ 10) (hl : k.length ≤ 300) :
    parseMP (numsL (lineA k u t) ++ [13, 10]) = orderS k u t ((lineA k u t).length + 2) ∧ parseMP (numsL (lineB k u t) ++ [13, 10]) = orderS k u t ((lineA k u t).length + 2) := by
  have hd := dig_len u (by omega)
  have hdn : ∀ b ∈ Lib.decDigits u, b ≠ 10 := fun b hb => (dig_NoNl u b hb).1
  have ht10 : timeT t ≠ 10 := by cases t <;> decide
  have la : (lineA k u t).length = k.length + (Lib.decDigits u).length + 7 := by
    unfold lineA
    simp
    omega
  have lb : (lineB k u t).length = k.length + (Lib.decDigits u).length + 7 := by
    unfold lineB
    simp
    omega
  have hNk : NoB k := ⟨hk0, fun b hb => (hk b hb).1⟩
  constructor
  · obtain ⟨s, hs⟩ := order_a u t (by omega)
    rw [parse_mg (lineA k u t) (by
      unfold lineA
      exact no_app (no_app (no_app (no_app (by decide) (fun b hb => (hk b hb).2)) (by decide)) (fun b hb => by rw [List.mem_singleton.1 hb]; exact ht10)) hdn) (by omega) (baOf k) [baOf [113], baOf (timeT t :: Lib.decDigits u)] ?_]
    · exact order_read k u t _ _ (by simp) s hs
    · have := wordsL_jn [[109, 103], k, [113], timeT t :: Lib.decDigits u] (fun w hw => by
        simp only [List.mem_cons, List.not_mem_nil, or_false] at hw
        rcases hw with rfl | rfl | rfl | rfl
        · decide
        · exact hNk
        · decide
        · exact time_NoB u t)
      have e : jn [[109, 103], k, [113], timeT t :: Lib.decDigits u] = lineA k u t := by
        unfold lineA jn jn jn jn
        simp
      rw [← e, this]
      rfl
  · obtain ⟨s, hs⟩ := order_b u t (by omega)
    rw [parse_mg (lineB k u t) (by
      unfold lineB
      exact no_app (no_app (no_app (no_app (no_app (by decide) (fun b hb => (hk b hb).2)) (by decide)) (fun b hb => by rw [List.mem_singleton.1 hb]; exact ht10)) hdn) (by decide)) (by omega) (baOf k) [baOf (timeT t :: Lib.decDigits u), baOf [113]] ?_]
    · rw [lb, la]
      exact order_read k u t _ _ (by simp) s hs
    · have := wordsL_jn [[109, 103], k, timeT t :: Lib.decDigits u, [113]] (fun w hw => by
        simp only [List.mem_cons, List.not_mem_nil, or_false] at hw
        rcases hw with rfl | rfl | rfl | rfl
        · decide
        · exact hNk
        · exact time_NoB u t
        · decide)
      have e : jn [[109, 103], k, timeT t :: Lib.decDigits u, [113]] = lineB k u t := by
        unfold lineB jn jn jn jn
        simp
      rw [← e, this]
      rfl
/-! ### A flag told twice -/
def TwiceR (a b : Step) : Prop := (∃ u u' f c, a = stepO u f c ∧ b = stepFS u' duplicateT 0 false) ∨ ∃ u u' r r', a = stepFS u r 0 false ∧ b = stepFS u' r' 0 false
theorem seen_go (x : Ln) (c : Cmd) (b : UInt8) (w : ByteArray) (hw : (firstW w).data.toList = [b]) : hasZ (goS x c (letter w) w).seen (b.toNat : Int) = true := by
  refine mem_hasZ.2 ?_
  show b ∈ (x.seen ++ firstW w).data.toList
  rw [ByteArray.data_append, Array.toList_append, hw]
  simp
theorem twice_flag (x y : Ln) (b : UInt8) (h : flagP x (baOf [b]) = .ok y) : flagP y (baOf [b]) = .error duplicateT := by
  have hg := (flagP_grew h).verb
  have hse : hasZ y.seen (letter (baOf [b])) = true := by
    unfold flagP at h
    split at h
    · cases h
    split at h
    · cases h
    split at h
    · cases h
    cases h
    exact seen_go _ _ b _ (by rw [first_cons]; rfl)
  unfold flagP at h ⊢
  rw [hg, hse]
  by_cases hi : ((!hasZ (bareL x.f.verb.toList) (letter (baOf [b])) && !hasZ (loadL x.f.verb.toList) (letter (baOf [b]))) || (hasZ (bareL x.f.verb.toList) (letter (baOf [b])) && !(tokenW (baOf [b])).toList.isEmpty)) = true
  · rw [if_pos hi] at h
    cases h
  · rw [if_neg hi, if_pos rfl]
theorem twice_law (b : UInt8) (h0 : 32 < b.toNat) : TwiceR (parseMP (numsL ([109, 103, 32, 107, 32] ++ [b]) ++ [13, 10])) (parseMP (numsL ([109, 103, 32, 107, 32] ++ [b] ++ [32] ++ [b]) ++ [13, 10])) := by
  have h32 : b ≠ 32 := fun e => by subst e; exact absurd h0 (by decide)
  have h10 : b ≠ 10 := fun e => by subst e; exact absurd h0 (by decide)
  have hB : NoB [b] := ⟨by simp, fun c hc => by rw [List.mem_singleton.1 hc]; exact h32⟩
  have hw1 : (wordsL ([109, 103, 32, 107, 32] ++ [b])).map baOf = [(⟨#[109, 103]⟩ : ByteArray), (⟨#[107]⟩ : ByteArray), baOf [b]] := by
    have := wordsL_jn [[109, 103], [107], [b]] (fun w hw => by
      simp only [List.mem_cons, List.not_mem_nil, or_false] at hw
      rcases hw with rfl | rfl | rfl
      · decide
      · decide
      · exact hB)
    rw [show [109, 103, 32, 107, 32] ++ [b] = jn [[109, 103], [107], [b]] from rfl, this]
    rfl
  have hw2 : (wordsL ([109, 103, 32, 107, 32] ++ [b] ++ [32] ++ [b])).map baOf = [(⟨#[109, 103]⟩ : ByteArray), (⟨#[107]⟩ : ByteArray), baOf [b], baOf [b]] := by
    have := wordsL_jn [[109, 103], [107], [b], [b]] (fun w hw => by
      simp only [List.mem_cons, List.not_mem_nil, or_false] at hw
      rcases hw with rfl | rfl | rfl | rfl
      · decide
      · decide
      · exact hB
      · exact hB)
    rw [show [109, 103, 32, 107, 32] ++ [b] ++ [32] ++ [b] = jn [[109, 103], [107], [b], [b]] from rfl, this]
    rfl
  rw [parse_mg _ (no_app (by decide) (fun c hc => by rw [List.mem_singleton.1 hc]; exact h10)) (by simp) (⟨#[107]⟩ : ByteArray) [baOf [b]] hw1,
    parse_mg _ (no_app (no_app (no_app (by decide) (fun c hc => by rw [List.mem_singleton.1 hc]; exact h10)) (by decide)) (fun c hc => by rw [List.mem_singleton.1 hc]; exact h10)) (by simp) (⟨#[107]⟩ : ByteArray) [baOf [b], baOf [b]] hw2]
  unfold readP
  rw [if_neg (by simp), if_neg (by simp)]
  unfold flagsP
  cases hx : flagP (begunL (⟨#[109, 103]⟩ : ByteArray)) (baOf [b]) with
  | error e => exact .inr ⟨_, _, _, _, rfl, rfl⟩
  | ok y =>
    dsimp only
    unfold flagsP
    rw [twice_flag _ _ b hx]
    dsimp only
    cases hk : keyM b64S y (⟨#[107]⟩ : ByteArray) with
    | error e => exact .inr ⟨_, _, _, _, rfl, rfl⟩
    | ok z => exact .inl ⟨_, _, _, _, rfl, rfl⟩
end Go.Proofs.YtdgeiadlijlkmaaGreatDoor.X
namespace Go.Proofs.YtdgeiadlijlkmaaGreatDoor.X
open Go.RowKit Go.Proofs.YtdgeiadlijlkmaaGreatDoorW.PrintWords Go.Proofs.YtdgeiadlijlkmaaGreatDoorW.PrintMore Go.Proofs.YtdgeiadlijlkmaaGreatDoorW.PrintLast
set_option linter.unusedVariables false
set_option linter.unusedSimpArgs false
/-- A step as the laws read it: some of its cells, and that it is the step. -/
def PV (w : World) (st : Step) (n : Nat) (q : Bool) (r : ByteArray) (u k : Int) (b : Bool) (er : Int) (e : Ending) (w' : World) : Prop := ∃ (A0 : Option Addr) (c0 : Nat) (x1 : Int) (x2 : ByteArray) (x3 x4 : Int) (x6 : Bool) (x7 : ByteArray) (A8 : Option Addr) (n8 c8 : Nat) (A9 : Option Addr) (n9 c9 : Nat) (x10 : Bool), e = .returned (.agg ([.slice A0 n c0, .int .i64 x1, .string x2, .int .i64 x3, .int .u32 x4, .bool q, .bool x6, .string x7, .slice A8 n8 c8, .slice A9 n9 c9, .bool x10, .string r, .int .i64 u, .int .i64 k, .bool b, .int .i64 er] : List Value).toArray) ∧ kStep.K w' st [.slice A0 n c0, .int .i64 x1, .string x2, .int .i64 x3, .int .u32 x4, .bool q, .bool x6, .string x7, .slice A8 n8 c8, .slice A9 n9 c9, .bool x10, .string r, .int .i64 u, .int .i64 k, .bool b, .int .i64 er] ∧ Below w.heap.size w w'
theorem parse_v (l : List Int) (N : Nat) (hN : l.length = N) (st : Step) (hst : parseMP l = st) (n : Nat) (q : Bool) (r : ByteArray) (u k : Int) (b : Bool) (er : Int) (hn : st.req.cmds.length = n) (hq : st.req.form.quiet = q) (hr : st.reply = r) (hu : st.used = u) (hk : st.skip = k) (hb : st.line = b) (he : st.e = er)
    (A : Option Addr) (c : Nat) (w : World) (hC : (Kd.int .u8).C w A l.length l) (hc : N ≤ c) (hl : l.length ≤ 900000) (h8 : B8 l) (hT : Tabs w) : Calls Tryz.prog 11 #[.slice A N c] w (PV w st n q r u k b er) := by
  subst hN hst hn hq hr hu hk hb he
  refine (parse_calls l A c w hC hc hl h8 hT).mono ?_
  rintro e w' ⟨⟨cs, rfl, hk⟩, hb⟩
  have hK := hk.now
  obtain ⟨A0, c0, A8, c8, A9, c9, rfl, -⟩ := kStep_open hK
  exact ⟨A0, c0, _, _, _, _, _, _, A8, _, c8, A9, _, c9, _, rfl, hK, hb⟩
theorem step_C {w : World} {st : Step} {A0 : Option Addr} {n c0 : Nat} {cs : List Value} (h : kStep.K w st (.slice A0 n c0 :: cs)) : kCmd.C w A0 st.req.cmds.length st.req.cmds := by
  obtain ⟨A0', c0', A8, c8, A9, c9, e, h1, h2, -⟩ := kStep_open h
  obtain ⟨rfl, -, -⟩ := Value.slice.inj (List.cons.inj e).1
  exact h2
theorem step_set {w : World} {st : Step} {A0 : Option Addr} {n c0 : Nat} {x1 : Int} {x2 : ByteArray} {x3 x4 : Int} {x6 : Bool} {x7 : ByteArray} {A8 : Option Addr} {n8 c8 : Nat} {A9 : Option Addr} {n9 c9 : Nat} {x10 q : Bool} {r : ByteArray} {u k : Int} {b : Bool} {er : Int} (h : kStep.K w st [.slice A0 n c0, .int .i64 x1, .string x2, .int .i64 x3, .int .u32 x4, .bool q, .bool x6, .string x7, .slice A8 n8 c8, .slice A9 n9 c9, .bool x10, .string r, .int .i64 u, .int .i64 k, .bool b, .int .i64 er]) (u' : Int) (q' : Bool) :
    kStep.K w { st with used := u', req := { st.req with form := { st.req.form with quiet := q' } } } [.slice A0 n c0, .int .i64 x1, .string x2, .int .i64 x3, .int .u32 x4, .bool q', .bool x6, .string x7, .slice A8 n8 c8, .slice A9 n9 c9, .bool x10, .string r, .int .i64 u', .int .i64 k, .bool b, .int .i64 er] := by
  obtain ⟨A0', c0', A8', c8', A9', c9', e, l0, g0, l8, g8, l9, g9⟩ := kStep_open h
  simp only [List.cons.injEq, Value.slice.injEq, Value.int.injEq, Value.string.injEq, Value.bool.injEq, and_true, true_and] at e
  obtain ⟨⟨rfl, rfl, rfl⟩, rfl, rfl, rfl, rfl, rfl, rfl, rfl, ⟨rfl, rfl, rfl⟩, ⟨rfl, rfl, rfl⟩, rfl, rfl, rfl, rfl, rfl, rfl⟩ := e
  exact kStep_mk w { st with used := u', req := { st.req with form := { st.req.form with quiet := q' } } } l0 g0 l8 g8 l9 g9
/-- A step as the laws read it that ask for its flags. -/
def PVF (w : World) (st : Step) (n : Nat) (q : Bool) (fl : ByteArray) (nt : Nat) (b6 : Bool) (r : ByteArray) (u k : Int) (b : Bool) (er : Int) (e : Ending) (w' : World) : Prop := ∃ (A0 : Option Addr) (c0 : Nat) (x1 : Int) (x2 : ByteArray) (x3 x4 : Int) (x6 : Bool) (A8 : Option Addr) (c8 : Nat) (A9 : Option Addr) (n9 c9 : Nat), e = .returned (.agg ([.slice A0 n c0, .int .i64 x1, .string x2, .int .i64 x3, .int .u32 x4, .bool q, .bool x6, .string fl, .slice A8 nt c8, .slice A9 n9 c9, .bool b6, .string r, .int .i64 u, .int .i64 k, .bool b, .int .i64 er] : List Value).toArray) ∧ kStep.K w' st [.slice A0 n c0, .int .i64 x1, .string x2, .int .i64 x3, .int .u32 x4, .bool q, .bool x6, .string fl, .slice A8 nt c8, .slice A9 n9 c9, .bool b6, .string r, .int .i64 u, .int .i64 k, .bool b, .int .i64 er] ∧ Below w.heap.size w w'
theorem parse_vf (l : List Int) (N : Nat) (hN : l.length = N) (st : Step) (hst : parseMP l = st) (n : Nat) (q : Bool) (fl : ByteArray) (nt : Nat) (b6 : Bool) (r : ByteArray) (u k : Int) (b : Bool) (er : Int) (hn : st.req.cmds.length = n) (hq : st.req.form.quiet = q) (hf : st.req.form.flags = fl) (ht : st.req.form.tokens.length = nt) (h6 : st.req.form.base64 = b6) (hr : st.reply = r) (hu : st.used = u) (hk : st.skip = k) (hb : st.line = b) (he : st.e = er)
    (A : Option Addr) (c : Nat) (w : World) (hC : (Kd.int .u8).C w A l.length l) (hc : N ≤ c) (hl : l.length ≤ 900000) (h8 : B8 l) (hT : Tabs w) : Calls Tryz.prog 11 #[.slice A N c] w (PVF w st n q fl nt b6 r u k b er) := by
  subst hN hst hn hq hf ht h6 hr hu hk hb he
  refine (parse_calls l A c w hC hc hl h8 hT).mono ?_
  rintro e w' ⟨⟨cs, rfl, hk⟩, hb⟩
  have hK := hk.now
  obtain ⟨A0, c0, A8, c8, A9, c9, rfl, -⟩ := kStep_open hK
  exact ⟨A0, c0, _, _, _, _, _, A8, c8, A9, _, c9, rfl, hK, hb⟩
def cmdA : Cmd := { zCmd with op := 12, key := (⟨#[107]⟩ : ByteArray) }
def cmdB : Cmd := { zCmd with op := 3, key := (⟨#[107]⟩ : ByteArray), exp := 5, value := [120, 121] }
def awA : List Int := numsL [109, 103, 32, 107, 32, 116, 32, 118, 32, 113, 13, 10]
def awB : List Int := numsL [109, 115, 32, 107, 32, 50, 32, 84, 53, 13, 10, 120, 121, 13, 10]
def awC : List Int := numsL [109, 103, 32, 107, 32, 116, 32, 116, 13, 10]
theorem awA_at {W : World} {b : Nat} {e : TypeId} {fr : Nat × Nat} (hb : W.heap[b]? = some (.cells #[.int .u8 109, .int .u8 103, .int .u8 32, .int .u8 107, .int .u8 32, .int .u8 116, .int .u8 32, .int .u8 118, .int .u8 32, .int .u8 113, .int .u8 13, .int .u8 10] e fr)) : Bytes W (some ⟨b, 0, none⟩) awA := Bytes_at hb awA (by decide) rfl
theorem awB_at {W : World} {b : Nat} {e : TypeId} {fr : Nat × Nat} (hb : W.heap[b]? = some (.cells #[.int .u8 109, .int .u8 115, .int .u8 32, .int .u8 107, .int .u8 32, .int .u8 50, .int .u8 32, .int .u8 84, .int .u8 53, .int .u8 13, .int .u8 10, .int .u8 120, .int .u8 121, .int .u8 13, .int .u8 10] e fr)) : Bytes W (some ⟨b, 0, none⟩) awB := Bytes_at hb awB (by decide) rfl
theorem awC_at {W : World} {b : Nat} {e : TypeId} {fr : Nat × Nat} (hb : W.heap[b]? = some (.cells #[.int .u8 109, .int .u8 103, .int .u8 32, .int .u8 107, .int .u8 32, .int .u8 116, .int .u8 32, .int .u8 116, .int .u8 13, .int .u8 10] e fr)) : Bytes W (some ⟨b, 0, none⟩) awC := Bytes_at hb awC (by decide) rfl
theorem xy_eq : (strOfNums [120, 121]).toList = [120, 121] := by
  rw [ByteArray.toList_eq]
  rfl
set_option maxRecDepth 100000 in
set_option maxHeartbeats 2000000 in
theorem awake_calls (w : World) (hT : Tabs w) : Calls Tryz.prog 9 #[] w fun e w' => e = .returned (.bool true) ∧ Below w.heap.size w w' := by
  have HB := Aside0.mk (Below.refl w.heap.size w)
  have HT := Aside0.mk hT
  have HPA := Aside0.mk (fun (A : Option Addr) (c : Nat) (w' : World) (hC : Bytes w' A awA) (hc : 12 ≤ c) (hT : Tabs w') => parse_vf awA 12 rfl _ ex_a 1 true (⟨#[116, 118]⟩ : ByteArray) 2 false ⟨#[]⟩ 12 0 false 0 rfl rfl rfl rfl rfl rfl rfl rfl rfl rfl A c w' hC hc (by decide) (B8_nums _) hT)
  have HPB := Aside0.mk (fun (A : Option Addr) (c : Nat) (w' : World) (hC : Bytes w' A awB) (hc : 15 ≤ c) (hT : Tabs w') => parse_vf awB 15 rfl _ ex_b 1 false ⟨#[]⟩ 0 false ⟨#[]⟩ 15 0 false 0 rfl rfl rfl rfl rfl rfl rfl rfl rfl rfl A c w' hC hc (by decide) (B8_nums _) hT)
  have HPC := Aside0.mk (fun (A : Option Addr) (c : Nat) (w' : World) (hC : Bytes w' A awC) (hc : 10 ≤ c) (hT : Tabs w') => parse_vf awC 10 rfl _ ex_c 0 false ⟨#[]⟩ 0 false (⟨#[67, 76, 73, 69, 78, 84, 95, 69, 82, 82, 79, 82, 32, 100, 117, 112, 108, 105, 99, 97, 116, 101, 32, 102, 108, 97, 103, 13, 10]⟩ : ByteArray) 10 0 false 2 rfl rfl rfl rfl rfl rfl rfl rfl rfl rfl A c w' hC hc (by decide) (B8_nums _) hT)
  clear hT
  go_enter Tryz.func9, Tryz.ntmps9
  go_wp2_with (first
    | ((with_reducible refine gate_dst (N := 5) rfl ?_); (first | (refine wp_const_drew rfl _ _ _ rfl _ _ _ _ rfl ?_ Tryz.underlying22 Tryz.underlying5 ?_) | (refine wp_const rfl _ _ _ rfl _ _ _ _ rfl ?_ Tryz.underlying22 Tryz.underlying5 ?_)); (case _ => simp)) | ((with_reducible refine gate_dst (N := 8) rfl ?_); (first | (refine wp_const_drew rfl _ _ _ rfl _ _ _ _ rfl ?_ Tryz.underlying22 Tryz.underlying5 ?_) | (refine wp_const rfl _ _ _ rfl _ _ _ _ rfl ?_ Tryz.underlying22 Tryz.underlying5 ?_)); (case _ => simp)) | ((with_reducible refine gate_dst (N := 11) rfl ?_); (first | (refine wp_const_drew rfl _ _ _ rfl _ _ _ _ rfl ?_ Tryz.underlying22 Tryz.underlying5 ?_) | (refine wp_const rfl _ _ _ rfl _ _ _ _ rfl ?_ Tryz.underlying22 Tryz.underlying5 ?_)); (case _ => simp))
    | (go_at_call 11; (with_reducible refine (HPA.out _ _ _ (awA_at (by repeat first | (apply ha_at; (simp; done)) | apply ha_old)) (by decide) (Tabs.below HT.out (by repeat (first | (with_reducible first | exact HB.out | apply below_alloc | apply pw_below_drewN | apply below_drew1) | exact HB.out)))).mono ?_); rintro e w1 ⟨A0, c0, x1, x2, x3, x4, x6, A8, c8, A9, n9, c9, rfl, hk, hb⟩; have HBn := Aside0.mk (below_step (by repeat (first | (with_reducible first | exact HB.out | apply below_alloc | apply pw_below_drewN | apply below_drew1) | exact HB.out)) hb); clear HB; have HB := HBn; clear HBn; have HK1 := Aside0.mk hk; have HB1 := Aside0.mk (Below.refl w1.heap.size w1); clear hk hb)
    | (go_at_call 11; (with_reducible refine (HPB.out _ _ _ (awB_at (by repeat first | (apply ha_at; (simp; done)) | apply ha_old)) (by decide) (Tabs.below HT.out (by repeat (first | (with_reducible first | exact HB.out | apply below_alloc | apply pw_below_drewN | apply below_drew1) | exact HB.out)))).mono ?_); rintro e w2 ⟨B0, d0, y1, y2, y3, y4, y6, B8, d8, B9, m9, d9, rfl, hk, hb⟩; have B1 := Aside0.mk (blk_below (g := w1.heap.size) (o := .cells #[.slice A0 1 c0, .int .i64 x1, .string x2, .int .i64 x3, .int .u32 x4, .bool true, .bool x6, .string (⟨#[116, 118]⟩ : ByteArray), .slice A8 2 c8, .slice A9 n9 c9, .bool false, .string ⟨#[]⟩, .int .i64 12, .int .i64 0, .bool false, .int .i64 0] 34 (0, 0)) (by repeat (first | exact blk_at_new _ _ _ (by simp; done) | exact blk_at_new _ _ _ rfl | refine blk_alloc ?_ _ | refine blk_drew ?_ | refine blk_drewN ?_ _)) hb); have HB1n := Aside0.mk (below_step (by repeat (first | (with_reducible first | exact HB1.out | apply below_alloc | apply pw_below_drewN | apply below_drew1) | exact HB1.out)) hb); clear HB1; have HB1 := HB1n; clear HB1n; have HBn := Aside0.mk (below_step (by repeat (first | (with_reducible first | exact HB.out | apply below_alloc | apply pw_below_drewN | apply below_drew1) | exact HB.out)) hb); clear HB; have HB := HBn; clear HBn; have HK2 := Aside0.mk hk; have HB2 := Aside0.mk (Below.refl w2.heap.size w2); clear hk hb)
    | (go_at_call 11; (with_reducible refine (HPC.out _ _ _ (awC_at (by repeat first | (apply ha_at; (simp; done)) | apply ha_old)) (by decide) (Tabs.below HT.out (by repeat (first | (with_reducible first | exact HB.out | apply below_alloc | apply pw_below_drewN | apply below_drew1) | exact HB.out)))).mono ?_); rintro e w3 ⟨C0, e0, z1, z2, z3, z4, z6, C8, e8, C9, k9, e9, rfl, hk, hb⟩; have B1n := Aside0.mk (blk_below (g := w1.heap.size) (o := .cells #[.slice A0 1 c0, .int .i64 x1, .string x2, .int .i64 x3, .int .u32 x4, .bool true, .bool x6, .string (⟨#[116, 118]⟩ : ByteArray), .slice A8 2 c8, .slice A9 n9 c9, .bool false, .string ⟨#[]⟩, .int .i64 12, .int .i64 0, .bool false, .int .i64 0] 34 (0, 0)) (by repeat (first | exact B1.out | refine blk_alloc ?_ _ | refine blk_drew ?_ | refine blk_drewN ?_ _)) hb); have B2 := Aside0.mk (blk_below (g := w2.heap.size) (o := .cells #[.slice B0 1 d0, .int .i64 y1, .string y2, .int .i64 y3, .int .u32 y4, .bool false, .bool y6, .string ⟨#[]⟩, .slice B8 0 d8, .slice B9 m9 d9, .bool false, .string ⟨#[]⟩, .int .i64 15, .int .i64 0, .bool false, .int .i64 0] 34 (0, 0)) (by repeat (first | exact blk_at_new _ _ _ (by simp; done) | exact blk_at_new _ _ _ rfl | refine blk_alloc ?_ _ | refine blk_drew ?_ | refine blk_drewN ?_ _)) hb); have HB1n := Aside0.mk (below_step (by repeat (first | (with_reducible first | exact HB1.out | apply below_alloc | apply pw_below_drewN | apply below_drew1) | exact HB1.out)) hb); clear HB1; have HB1 := HB1n; clear HB1n; have HB2n := Aside0.mk (below_step (by repeat (first | (with_reducible first | exact HB2.out | apply below_alloc | apply pw_below_drewN | apply below_drew1) | exact HB2.out)) hb); clear HB2; have HB2 := HB2n; clear HB2n; have HBn := Aside0.mk (below_step (by repeat (first | (with_reducible first | exact HB.out | apply below_alloc | apply pw_below_drewN | apply below_drew1) | exact HB.out)) hb); clear HB; have HB := HBn; clear HBn; clear hk hb; (have l1 : w1.heap.size < w3.heap.size := blk_lt B1n.out; have l2 : w2.heap.size < w3.heap.size := blk_lt B2.out; obtain ⟨b1, o1, E1, f1, rfl, hb1, hr1, -, -⟩ := cmd_v (step_C HK1.out) 0 cmdA rfl; obtain ⟨b2, o2, E2, f2, rfl, hb2, hr2, hl2, hC2⟩ := cmd_v (step_C HK2.out) 0 cmdB rfl; have HC2 : Aside0 ((Kd.int .u8).C w2 E2 2 [120, 121]) := ⟨hC2⟩; have lb1 : b1 < w3.heap.size := Nat.lt_of_lt_of_le hb1 HB1.out.size; have lb2 : b2 < w3.heap.size := Nat.lt_of_lt_of_le hb2 HB2.out.size; have k1 : w3.cell? ⟨b1, o1, none⟩ = some (.int .i64 12) := (HB1.out.cell (p := ⟨b1, o1, none⟩) hb1).trans (hr1 0 _ rfl); have k2 : w3.cell? ⟨b2, o2 + 4, none⟩ = some (.int .i64 5) := (HB2.out.cell (p := ⟨b2, o2 + 4, none⟩) hb2).trans (hr2 4 _ rfl); have k3 : w3.cell? ⟨b2, o2 + 2, none⟩ = some (.slice E2 2 f2) := (HB2.out.cell (p := ⟨b2, o2 + 2, none⟩) hb2).trans (hr2 2 _ rfl); clear hr1 hr2 hC2 hl2; have a0 : w3.cell? ⟨w1.heap.size, 0, none⟩ = some (.slice (some ⟨b1, o1, none⟩) 1 c0) := (blk_cell B1n.out 0).trans rfl; have a5 : w3.cell? ⟨w1.heap.size, 5, none⟩ = some (.bool true) := (blk_cell B1n.out 5).trans rfl; have a7 : w3.cell? ⟨w1.heap.size, 7, none⟩ = some (.string (⟨#[116, 118]⟩ : ByteArray)) := (blk_cell B1n.out 7).trans rfl; have g0 : w3.cell? ⟨w2.heap.size, 0, none⟩ = some (.slice (some ⟨b2, o2, none⟩) 1 d0) := (blk_cell B2.out 0).trans rfl; have r2 : (convert 22 9 (.slice E2 2 f2)).run Tryz.prog (w3.alloc (.cells #[.slice C0 0 e0, .int .i64 z1, .string z2, .int .i64 z3, .int .u32 z4, .bool false, .bool z6, .string ⟨#[]⟩, .slice C8 0 e8, .slice C9 k9 e9, .bool false, .string (⟨#[67, 76, 73, 69, 78, 84, 95, 69, 82, 82, 79, 82, 32, 100, 117, 112, 108, 105, 99, 97, 116, 101, 32, 102, 108, 97, 103, 13, 10]⟩ : ByteArray), .int .i64 10, .int .i64 0, .bool false, .int .i64 2] 34 (0, 0))) = .ok (.string (strOfNums [120, 121])) (w3.alloc (.cells #[.slice C0 0 e0, .int .i64 z1, .string z2, .int .i64 z3, .int .u32 z4, .bool false, .bool z6, .string ⟨#[]⟩, .slice C8 0 e8, .slice C9 k9 e9, .bool false, .string (⟨#[67, 76, 73, 69, 78, 84, 95, 69, 82, 82, 79, 82, 32, 100, 117, 112, 108, 105, 99, 97, 116, 101, 32, 102, 108, 97, 103, 13, 10]⟩ : ByteArray), .int .i64 10, .int .i64 0, .bool false, .int .i64 2] 34 (0, 0))) := Kd.C_string Tryz.underlying22 Tryz.underlying5 Tryz.underlying9 (Kd.C_below HC2.out (by repeat (first | (with_reducible first | exact HB2.out | apply below_alloc | apply pw_below_drewN | apply below_drew1) | exact HB2.out))); have hxy : ((strOfNums [120, 121]).toList == [120, 121]) = true := beq_iff_eq.2 xy_eq)))
  go_ret
  exact ⟨rfl, (by repeat (first | (with_reducible first | exact HB.out | apply below_alloc | apply pw_below_drewN | apply below_drew1) | exact HB.out))⟩
end Go.Proofs.YtdgeiadlijlkmaaGreatDoor.X
namespace Go.Proofs.YtdgeiadlijlkmaaGreatDoor.X
open Go.RowKit Go.Proofs.YtdgeiadlijlkmaaGreatDoorW.PrintWords Go.Deep
set_option linter.unusedVariables false
set_option linter.unusedSimpArgs false

def OpensAt (P : Program) (t : TypeId) {α : Type} (d : Kd α) (wf : α → Prop) : Prop :=
  ∀ (H : Type) (enc : TypeId × Value → H) (W : World) (fuel : Nat) (cs : List Value) (x : DataW H × List MemPlace), DataW.trod enc P W 0 (fun _ => true) true fuel t cs = some x → ∃ y, d.K W y cs ∧ wf y
def OpensFs (P : Program) (fs : List Field) (o : Nat) {α : Type} (d : Kd α) (wf : α → Prop) : Prop :=
  ∀ (H : Type) (enc : TypeId × Value → H) (W : World) (n : Nat) (cs : List Value), cs.length = o + d.sz →
    (∀ (i : Nat) (f : Field), fs[i]? = some f → ∃ x : DataW H × List MemPlace, DataW.trod enc P W 0 (fun _ => true) true n f.type ((cs.drop f.offset).take (P.cellsOf f.type)) = some x) → ∃ y, d.K W y (cs.drop o) ∧ wf y
section
variable {P : Program} {α β : Type} {d : Kd α} {e : Kd β} {wf : α → Prop} {wg : β → Prop}
theorem opens_int {t : TypeId} {k : IntKind} (ht : P.underlying t = some (.int k)) : OpensAt P t (Kd.int k) (fun n => (Lit.int k n).wf = true) := fun H enc W fuel cs x h => by
  obtain ⟨n, rfl, _, hw⟩ := DataW.trod_int ht h
  exact ⟨n, rfl, hw⟩
theorem opens_bool {t : TypeId} (ht : P.underlying t = some .bool) : OpensAt P t Kd.bool (fun _ => True) := fun H enc W fuel cs x h => by
  obtain ⟨b, rfl, _⟩ := DataW.trod_bool ht h
  exact ⟨b, rfl, trivial⟩
theorem opens_string {t : TypeId} (ht : P.underlying t = some .string) : OpensAt P t Kd.string (fun s => s.size ≤ 9223372036854775807) := fun H enc W fuel cs x h => by
  obtain ⟨s, rfl, _, hw⟩ := DataW.trod_string ht h
  exact ⟨s, rfl, hw⟩
theorem cells_some {W : World} {a : Addr} {n : Nat} {cs : List Value} (h : W.cells? 0 a n = some cs) : cs.length = n ∧ ∀ i u, cs[i]? = some u → W.cell? (a.add i) = some u := by
  unfold World.cells? at h
  rw [if_pos (Nat.zero_le _)] at h
  have hl : cs.length = n := by simpa using mapM_some_length h
  refine ⟨hl, fun i u hu => ?_⟩
  have hi : i < n := by rw [← hl]; exact (List.getElem?_eq_some_iff.1 hu).1
  have := mapM_some_get h i i (by simp [hi])
  rw [this, hu]
theorem opens_slice {t et : TypeId} (ht : P.underlying t = some (.slice et)) (hs : P.cellsOf et = d.sz) (he : OpensAt P et d wf) : OpensAt P t (Kd.slice et d) (fun l => l.length ≤ 9223372036854775807 ∧ ∀ y ∈ l, wf y) := fun H enc W fuel cs x h => by
  rcases open_slice ht h with ⟨rfl, _⟩ | ⟨a, len, cap, m, n, D, Pl, rfl, _, hl, hm, hmm, hxx, hel⟩
  · exact ⟨[], ⟨none, 0, rfl, Nat.le_refl _, ⟨rfl, Nat.zero_le _, fun h => absurd h (Nat.lt_irrefl _)⟩⟩, Nat.zero_le _, fun y hy => by cases hy⟩
  · have hmc : m = cap := by simpa using hmm
    have hex : ∀ i, i < len → ∃ y, (∃ cs', (cs'.length = d.sz ∧ ∀ j u, cs'[j]? = some u → W.cell? ((a.add (i * d.sz)).add j) = some u) ∧ d.K W y cs') ∧ wf y := fun i hi => by
      obtain ⟨cs', h1, h2⟩ := hel i (by omega)
      obtain ⟨y, hK, hw⟩ := he H enc W n cs' _ h2
      rw [hs] at h1
      exact ⟨y, ⟨cs', cells_some h1, hK⟩, hw⟩
    have hch : ∃ l : List α, l.length = len ∧ ∀ i y, l[i]? = some y → (∃ cs', (cs'.length = d.sz ∧ ∀ j u, cs'[j]? = some u → W.cell? ((a.add (i * d.sz)).add j) = some u) ∧ d.K W y cs') ∧ wf y := by
      clear hel h hmm hl hm hxx
      induction len with
      | zero => exact ⟨[], rfl, fun i y h => by simp at h⟩
      | succ k ih =>
        obtain ⟨l, hll, hl2⟩ := ih (fun i hi => hex i (by omega))
        obtain ⟨y, hy⟩ := hex k (by omega)
        refine ⟨l ++ [y], by simp [hll], fun i z hz => ?_⟩
        rcases Nat.lt_or_ge i l.length with hi | hi
        · rw [List.getElem?_append_left hi] at hz
          exact hl2 i z hz
        · have : i = k := by
            have := (List.getElem?_eq_some_iff.1 hz).1
            rw [List.length_append, List.length_singleton] at this
            omega
          subst this
          rw [List.getElem?_append_right hi, show i - l.length = 0 by omega] at hz
          obtain rfl := Option.some.inj hz
          exact hy
    obtain ⟨l, rfl, hl2⟩ := hch
    have hmx : l.length ≤ 9223372036854775807 := Nat.le_trans hl hm
    refine ⟨l, ⟨some a, cap, rfl, hl, rfl, hmx, fun _ => ⟨a, rfl, fun j p hj => ?_⟩⟩, hmx, fun y hy => ?_⟩
    · obtain ⟨⟨cs', ⟨hcl, hcc⟩, hK⟩, _⟩ := hl2 j p hj
      refine ⟨cs', hcl, hK, fun i u hu => ?_⟩
      have := hcc i u hu
      rwa [Go.Deep.add_add] at this
    · obtain ⟨i, hi, rfl⟩ := List.mem_iff_getElem.1 hy
      exact (hl2 i _ (List.getElem?_eq_getElem hi)).2
theorem opens_one {f : Field} {o : Nat} (ho : f.offset = o) (hs : P.cellsOf f.type = d.sz) (h : OpensAt P f.type d wf) : OpensFs P [f] o d wf := fun H enc W n cs hl hx => by
  obtain ⟨x, hx⟩ := hx 0 f rfl
  rw [ho, hs, List.take_of_length_le (by rw [List.length_drop]; omega)] at hx
  exact h H enc W n _ x hx
theorem opens_cons {f : Field} {fs : List Field} {o : Nat} (ho : f.offset = o) (hs : P.cellsOf f.type = d.sz) (h : OpensAt P f.type d wf) (hr : OpensFs P fs (o + d.sz) e wg) : OpensFs P (f :: fs) o (Kd.pair d e) (fun p => wf p.1 ∧ wg p.2) := fun H enc W n cs hl hx => by
  have hl' : cs.length = o + (d.sz + e.sz) := hl
  obtain ⟨x, h0⟩ := hx 0 f rfl
  rw [ho, hs] at h0
  obtain ⟨y, hK, hw⟩ := h H enc W n _ x h0
  obtain ⟨z, hKz, hwz⟩ := hr H enc W n cs (by omega) (fun i g hg => hx (i + 1) g hg)
  refine ⟨(y, z), ⟨_, _, ?_, hK, hKz⟩, hw, hwz⟩
  rw [← List.drop_drop, List.take_append_drop]
theorem opens_struct {t : TypeId} {fs : Array Field} (ht : P.underlying t = some (.struct fs)) (hs : P.cellsOf t = d.sz) (h : OpensFs P fs.toList 0 d wf) : OpensAt P t d wf := fun H enc W fuel cs x hx => by
  obtain ⟨xs, n, rfl, _, hl, hxl, hf⟩ := DataW.trod_struct ht hx
  have := h H enc W n cs (by omega) (fun i f hi => by
    have hi2 : fs[i]? = some f := by simpa using hi
    have hil : i < fs.size := (Array.getElem?_eq_some_iff.1 hi2).1
    rw [hf i f hi2]
    exact ⟨_, List.getElem?_eq_getElem (by omega)⟩)
  simpa using this
theorem opens_iso {t : TypeId} (h : OpensAt P t d wf) (f : β → α) (g : α → β) (hfg : ∀ y, f (g y) = y) : OpensAt P t (Kd.iso d f) (fun x => wf (f x)) := fun H enc W fuel cs x hx => by
  obtain ⟨y, hK, hw⟩ := h H enc W fuel cs x hx
  exact ⟨g y, by show d.K W (f (g y)) cs; rw [hfg]; exact hK, by show wf (f (g y)); rw [hfg]; exact hw⟩
theorem OpensAt.imp {t : TypeId} (h : OpensAt P t d wf) {wf' : α → Prop} (hi : ∀ x, wf x → wf' x) : OpensAt P t d wf' := fun H enc W fuel cs x hx => by
  obtain ⟨y, hK, hw⟩ := h H enc W fuel cs x hx
  exact ⟨y, hK, hi y hw⟩
end
theorem u64_lo {n : Int} (h : (Lit.int .u64 n).wf = true) : 0 ≤ n := by
  have e1 : IntKind.u64.min = 0 := rfl
  simp [Lit.wf, e1] at h
  omega
theorem u64_hi {n : Int} (h : (Lit.int .u64 n).wf = true) : n ≤ 18446744073709551615 := by
  have e1 : IntKind.u64.max = 18446744073709551615 := rfl
  simp [Lit.wf, e1] at h
  omega
theorem i64_lo {n : Int} (h : (Lit.int .i64 n).wf = true) : -9223372036854775808 ≤ n := by
  have e1 : IntKind.i64.min = -9223372036854775808 := rfl
  simp [Lit.wf, e1] at h
  omega
theorem i64_hi {n : Int} (h : (Lit.int .i64 n).wf = true) : n ≤ 9223372036854775807 := by
  have e1 : IntKind.i64.max = 9223372036854775807 := rfl
  simp [Lit.wf, e1] at h
  omega
theorem u8_lo {n : Int} (h : (Lit.int .u8 n).wf = true) : 0 ≤ n ∧ n < 256 := by
  have e1 : IntKind.u8.max = 255 := rfl
  have e0 : IntKind.u8.min = 0 := rfl
  simp [Lit.wf, e1, e0] at h
  omega
end Go.Proofs.YtdgeiadlijlkmaaGreatDoor.X
namespace Go.Proofs.YtdgeiadlijlkmaaGreatDoor.X
open Go.RowKit Go.Proofs.YtdgeiadlijlkmaaGreatDoorW.PrintWords Go.Deep
set_option linter.unusedVariables false
theorem u32_lo {n : Int} (h : (Lit.int .u32 n).wf = true) : 0 ≤ n := by
  have e1 : IntKind.u32.min = 0 := rfl
  simp [Lit.wf, e1] at h
  omega
theorem u32_hi {n : Int} (h : (Lit.int .u32 n).wf = true) : n ≤ 4294967295 := by
  have e1 : IntKind.u32.max = 4294967295 := rfl
  simp [Lit.wf, e1] at h
  omega
end Go.Proofs.YtdgeiadlijlkmaaGreatDoor.X
