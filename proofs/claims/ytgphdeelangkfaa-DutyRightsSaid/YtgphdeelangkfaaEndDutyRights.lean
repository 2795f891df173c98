/-
  Every Right and Stand is the document's; what is handed in stays as it is. Every two lists: no condition.
-/
import Derived.Test.YtgphdeelangkfaaDutyOp
import Derived.Test.YtgphdeelangkfaaDutyRight
namespace Go.Proofs.Ytgphdeelangkfaa.PDuty
open Go.RowKit Go.Proofs.YtgphdeelangkfaaW.PrintWords Go.Proofs.YtgphdeelangkfaaW.PrintLast
set_option linter.unusedVariables false
namespace EndDutyRights
theorem by32 : Try.prog.bytesOf 32 = 16 := by kernel_rfl
theorem by51 : Try.prog.bytesOf 51 = 32 := by kernel_rfl
end EndDutyRights
open EndDutyRights
theorem DutyRights_walk (A0 : Option Addr) (c0 : Nat) (l0 : List S51) (A1 : Option Addr) (c1 : Nat) (l1 : List S32) (W : World) (hr0 : Kd.C k51 W A0 l0.length l0) (hc0 : l0.length ≤ c0) (b0 : l0.length * Try.prog.bytesOf 51 ≤ 140737488351232 ∧ ∀ y ∈ l0, B51 y) (hr1 : Kd.C k32 W A1 l1.length l1) (hc1 : l1.length ≤ c1) (b1 : l1.length * Try.prog.bytesOf 32 ≤ 140737488351232 ∧ ∀ y ∈ l1, B32 y) : Calls Try.prog 3 #[.slice A0 l0.length c0, .slice A1 l1.length c1] W fun e W' => e = .returned (.bool true) ∧ Below W.heap.size W W' := by
  have h0 := b0.1
  have h1 := b1.1
  rw [by51] at h0
  rw [by32] at h1
  obtain ⟨k, hk⟩ := DutyRights_tells l0 l1 (by omega) (by omega) (fun y hy => (b0.2 y hy).1)
  exact sojournlaw15_DutyRights.calls k A0 c0 l0 A1 c1 l1 true W hr0 hc0 hr1 hc1 hk
end Go.Proofs.Ytgphdeelangkfaa.PDuty
