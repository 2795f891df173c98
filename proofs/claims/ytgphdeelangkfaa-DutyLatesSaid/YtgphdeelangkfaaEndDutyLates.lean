/-
  Every Late and First is the document's. Every list, every tick: no condition.
-/
import Derived.Test.YtgphdeelangkfaaDutyOp
import Derived.Test.YtgphdeelangkfaaDutyRight
import Derived.Test.YtgphdeelangkfaaPDutyx12
namespace Go.Proofs.Ytgphdeelangkfaa.PDuty
open Go.RowKit Go.Proofs.YtgphdeelangkfaaW.PrintWords Go.Proofs.YtgphdeelangkfaaW.PrintLast
set_option linter.unusedVariables false
namespace EndDutyLates
theorem by32 : Try.prog.bytesOf 32 = 16 := by kernel_rfl
theorem by51 : Try.prog.bytesOf 51 = 32 := by kernel_rfl
end EndDutyLates
open EndDutyLates
theorem DutyLates_walk (A0 : Option Addr) (c0 : Nat) (l0 : List S32) (a1 : Int) (W : World) (hr0 : Kd.C k32 W A0 l0.length l0) (hc0 : l0.length ≤ c0) (b0 : l0.length * Try.prog.bytesOf 32 ≤ 140737488351232 ∧ ∀ y ∈ l0, B32 y) (b1 : (Lit.int .i64 a1).wf = true) : Calls Try.prog 7 #[.slice A0 l0.length c0, .int .i64 a1] W fun e W' => e = .returned (.bool true) ∧ Below W.heap.size W W' := by
  have h0 := b0.1
  rw [by32] at h0
  obtain ⟨k, hk⟩ := DutyLates_tells l0 a1 (by omega)
  exact sojournlaw15_DutyLates.calls k A0 c0 l0 a1 true W hr0 hc0 hk
end Go.Proofs.Ytgphdeelangkfaa.PDuty
