/-
  Every Begin is the document's; what it told is its owner's. Every list, every tick: no condition.
-/
import Derived.Test.YtgphdeelangkfaaDutyOp
import Derived.Test.YtgphdeelangkfaaDutyDone
namespace Go.Proofs.Ytgphdeelangkfaa.PDuty
open Go.RowKit Go.Proofs.YtgphdeelangkfaaW.PrintWords Go.Proofs.YtgphdeelangkfaaW.PrintLast
set_option linter.unusedVariables false
namespace EndDutyBegins
theorem by32 : Try.prog.bytesOf 32 = 16 := by kernel_rfl
theorem by51 : Try.prog.bytesOf 51 = 32 := by kernel_rfl
end EndDutyBegins
open EndDutyBegins
theorem DutyBegins_walk (A0 : Option Addr) (c0 : Nat) (l0 : List S51) (a1 : Int) (W : World) (hr0 : Kd.C k51 W A0 l0.length l0) (hc0 : l0.length ≤ c0) (b0 : l0.length * Try.prog.bytesOf 51 ≤ 140737488351232 ∧ ∀ y ∈ l0, B51 y) (b1 : (Lit.int .i64 a1).wf = true) : Calls Try.prog 4 #[.slice A0 l0.length c0, .int .i64 a1] W fun e W' => e = .returned (.bool true) ∧ Below W.heap.size W W' := by
  have h0 := b0.1
  rw [by51] at h0
  obtain ⟨k, hk⟩ := DutyBegins_tells l0 a1 (Go.Proofs.YtgphdeelangkfaaPlain.In.of_wf b1) (fun y hy => Go.Proofs.YtgphdeelangkfaaPlain.In.of_wf (b0.2 y hy).2.1) (fun y hy => (b0.2 y hy).1) (by omega)
  exact sojournlaw15_DutyBegins.calls k A0 c0 l0 a1 true W hr0 hc0 hk
end Go.Proofs.Ytgphdeelangkfaa.PDuty
