/- What a row's reading finds, for this seat's structures (laid by wip/tools/opens.py). -/
import Derived.Test.YtfolaakllblhbaaDoorOpens
namespace Go.Proofs.YtfolaakllblhbaaDoor.X
open Go.RowKit Go.Proofs.YtfolaakllblhbaaDoorW.PrintWords
set_option linter.unusedVariables false

theorem lit_i64 {n : Int} (h : (Lit.int .i64 n).wf = true) : -9223372036854775808 ≤ n ∧ n ≤ 9223372036854775807 := by
  simp [Lit.wf, IntKind.min, IntKind.max, IntKind.signed, IntKind.bits] at h
  omega
theorem lit_u8 {n : Int} (h : (Lit.int .u8 n).wf = true) : 0 ≤ n ∧ n ≤ 255 := by
  simp [Lit.wf, IntKind.min, IntKind.max, IntKind.signed, IntKind.bits] at h
  omega
theorem lit_u32 {n : Int} (h : (Lit.int .u32 n).wf = true) : 0 ≤ n ∧ n ≤ 4294967295 := by
  simp [Lit.wf, IntKind.min, IntKind.max, IntKind.signed, IntKind.bits] at h
  omega
theorem lit_u64 {n : Int} (h : (Lit.int .u64 n).wf = true) : 0 ≤ n ∧ n ≤ 18446744073709551615 := by
  simp [Lit.wf, IntKind.min, IntKind.max, IntKind.signed, IntKind.bits] at h
  omega
theorem lit_i32 {n : Int} (h : (Lit.int .i32 n).wf = true) : -2147483648 ≤ n ∧ n ≤ 2147483647 := by
  simp [Lit.wf, IntKind.min, IntKind.max, IntKind.signed, IntKind.bits] at h
  omega
theorem kCmd_opens : OpensAt Tryd.prog 42 kCmd Cmd.Wf :=
  (opens_iso (opens_struct Tryd.underlying42 (by kernel_rfl) (opens_cons rfl (by kernel_rfl) (opens_int Tryd.underlying3) (opens_cons rfl (by kernel_rfl) (opens_string Tryd.underlying9) (opens_cons rfl (by kernel_rfl) (opens_slice Tryd.underlying30 (by kernel_rfl) (opens_int Tryd.underlying5)) (opens_cons rfl (by kernel_rfl) (opens_int Tryd.underlying23) (opens_cons rfl (by kernel_rfl) (opens_int Tryd.underlying3) (opens_cons rfl (by kernel_rfl) (opens_int Tryd.underlying31) (opens_cons rfl (by kernel_rfl) (opens_int Tryd.underlying31) (opens_cons rfl (by kernel_rfl) (opens_int Tryd.underlying31) (opens_cons rfl (by kernel_rfl) (opens_bool Tryd.underlying4) (opens_one rfl (by kernel_rfl) (opens_bool Tryd.underlying4)))))))))))) _ (fun y => ⟨y.1, y.2.1, y.2.2.1, y.2.2.2.1, y.2.2.2.2.1, y.2.2.2.2.2.1, y.2.2.2.2.2.2.1, y.2.2.2.2.2.2.2.1, y.2.2.2.2.2.2.2.2.1, y.2.2.2.2.2.2.2.2.2⟩) (fun _ => rfl)).imp (fun x h => ⟨(lit_i64 h.1), h.2.1, ⟨h.2.2.1.1, fun y hy => (lit_u8 (h.2.2.1.2 y hy))⟩, (lit_u32 h.2.2.2.1), (lit_i64 h.2.2.2.2.1), (lit_u64 h.2.2.2.2.2.1), (lit_u64 h.2.2.2.2.2.2.1), (lit_u64 h.2.2.2.2.2.2.2.1)⟩)
theorem kForm_opens : OpensAt Tryd.prog 26 kForm Form.Wf :=
  (opens_iso (opens_struct Tryd.underlying26 (by kernel_rfl) (opens_cons rfl (by kernel_rfl) (opens_int Tryd.underlying3) (opens_cons rfl (by kernel_rfl) (opens_string Tryd.underlying9) (opens_cons rfl (by kernel_rfl) (opens_int Tryd.underlying3) (opens_cons rfl (by kernel_rfl) (opens_int Tryd.underlying23) (opens_cons rfl (by kernel_rfl) (opens_bool Tryd.underlying4) (opens_cons rfl (by kernel_rfl) (opens_bool Tryd.underlying4) (opens_cons rfl (by kernel_rfl) (opens_string Tryd.underlying9) (opens_cons rfl (by kernel_rfl) (opens_slice Tryd.underlying24 (by kernel_rfl) (opens_string Tryd.underlying9)) (opens_cons rfl (by kernel_rfl) (opens_slice Tryd.underlying24 (by kernel_rfl) (opens_string Tryd.underlying9)) (opens_one rfl (by kernel_rfl) (opens_bool Tryd.underlying4)))))))))))) _ (fun y => ⟨y.1, y.2.1, y.2.2.1, y.2.2.2.1, y.2.2.2.2.1, y.2.2.2.2.2.1, y.2.2.2.2.2.2.1, y.2.2.2.2.2.2.2.1, y.2.2.2.2.2.2.2.2.1, y.2.2.2.2.2.2.2.2.2⟩) (fun _ => rfl)).imp (fun x h => ⟨(lit_i64 h.1), h.2.1, (lit_i64 h.2.2.1), (lit_u32 h.2.2.2.1), h.2.2.2.2.2.2.1, h.2.2.2.2.2.2.2.1, h.2.2.2.2.2.2.2.2.1⟩)
theorem kRequest_opens : OpensAt Tryd.prog 28 kRequest Request.Wf :=
  (opens_iso (opens_struct Tryd.underlying28 (by kernel_rfl) (opens_cons rfl (by kernel_rfl) (opens_slice Tryd.underlying22 (by kernel_rfl) kCmd_opens) (opens_one rfl (by kernel_rfl) kForm_opens))) _ (fun y => ⟨y.1, y.2⟩) (fun _ => rfl)).imp (fun x h => ⟨h.1, h.2⟩)
theorem kResult_opens : OpensAt Tryd.prog 33 kResult Result.Wf :=
  (opens_iso (opens_struct Tryd.underlying33 (by kernel_rfl) (opens_cons rfl (by kernel_rfl) (opens_int Tryd.underlying3) (opens_cons rfl (by kernel_rfl) (opens_slice Tryd.underlying30 (by kernel_rfl) (opens_int Tryd.underlying5)) (opens_cons rfl (by kernel_rfl) (opens_int Tryd.underlying23) (opens_cons rfl (by kernel_rfl) (opens_int Tryd.underlying31) (opens_cons rfl (by kernel_rfl) (opens_int Tryd.underlying3) (opens_cons rfl (by kernel_rfl) (opens_int Tryd.underlying31) (opens_cons rfl (by kernel_rfl) (opens_bool Tryd.underlying4) (opens_cons rfl (by kernel_rfl) (opens_bool Tryd.underlying4) (opens_one rfl (by kernel_rfl) (opens_bool Tryd.underlying4))))))))))) _ (fun y => ⟨y.1, y.2.1, y.2.2.1, y.2.2.2.1, y.2.2.2.2.1, y.2.2.2.2.2.1, y.2.2.2.2.2.2.1, y.2.2.2.2.2.2.2.1, y.2.2.2.2.2.2.2.2⟩) (fun _ => rfl)).imp (fun x h => ⟨(lit_i64 h.1), ⟨h.2.1.1, fun y hy => (lit_u8 (h.2.1.2 y hy))⟩, (lit_u32 h.2.2.1), (lit_u64 h.2.2.2.1), (lit_i64 h.2.2.2.2.1), (lit_u64 h.2.2.2.2.2.1)⟩)
end Go.Proofs.YtfolaakllblhbaaDoor.X
