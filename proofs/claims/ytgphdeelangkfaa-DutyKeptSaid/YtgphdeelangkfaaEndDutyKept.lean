/-
  What is done in time is never late. Every list, every tick, every later ticks: no condition.
-/
import Derived.Test.YtgphdeelangkfaaDutyOp
import Derived.Test.YtgphdeelangkfaaDutyKept
namespace Go.Proofs.Ytgphdeelangkfaa.PDuty
open Go.RowKit Go.Proofs.YtgphdeelangkfaaW.PrintWords Go.Proofs.YtgphdeelangkfaaW.PrintLast
set_option linter.unusedVariables false
namespace EndDutyKept
theorem by32 : Try.prog.bytesOf 32 = 16 := by kernel_rfl
theorem by51 : Try.prog.bytesOf 51 = 32 := by kernel_rfl
end EndDutyKept
open EndDutyKept
theorem DutyKept_walk (A0 : Option Addr) (c0 : Nat) (l0 : List S51) (a1 : Int) (A2 : Option Addr) (c2 : Nat) (l2 : List Int) (W : World) (hr0 : Kd.C k51 W A0 l0.length l0) (hc0 : l0.length ≤ c0) (b0 : l0.length * Try.prog.bytesOf 51 ≤ 140737488351232 ∧ ∀ y ∈ l0, B51 y) (b1 : (Lit.int .i64 a1).wf = true) (hr2 : Kd.C (Kd.int .i64) W A2 l2.length l2) (hc2 : l2.length ≤ c2) (b2 : l2.length * Try.prog.bytesOf 3 ≤ 140737488351232 ∧ ∀ y ∈ l2, (Lit.int .i64 y).wf = true) : Calls Try.prog 6 #[.slice A0 l0.length c0, .int .i64 a1, .slice A2 l2.length c2] W fun e W' => e = .returned (.bool true) ∧ Below W.heap.size W W' := by
  have h2 := b2.1
  rw [show Try.prog.bytesOf 3 = 8 from by kernel_rfl] at h2
  obtain ⟨k, hk⟩ := DutyKept_tells l0 a1 l2 (Go.Proofs.YtgphdeelangkfaaPlain.In.of_wf b1) (by omega) (fun t ht => Go.Proofs.YtgphdeelangkfaaPlain.In.of_wf (b2.2 t ht)) (fun y hy => Go.Proofs.YtgphdeelangkfaaPlain.In.of_wf (b0.2 y hy).2.1) (fun y hy => (b0.2 y hy).1)
  exact sojournlaw15_DutyKept.calls k A0 c0 l0 a1 A2 c2 l2 true W hr0 hc0 hr2 hc2 hk
end Go.Proofs.Ytgphdeelangkfaa.PDuty
