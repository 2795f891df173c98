/-
  Every Done is the document's; what is handed in stays as it is. Every lists, every call: no condition.
-/
import Derived.Test.YtgphdeelangkfaaDutyOp
import Derived.Test.YtgphdeelangkfaaDutyDone
namespace Go.Proofs.Ytgphdeelangkfaa.PDuty
open Go.RowKit Go.Proofs.YtgphdeelangkfaaW.PrintWords Go.Proofs.YtgphdeelangkfaaW.PrintLast
set_option linter.unusedVariables false
namespace EndDutyDones
theorem by32 : Try.prog.bytesOf 32 = 16 := by kernel_rfl
theorem by51 : Try.prog.bytesOf 51 = 32 := by kernel_rfl
end EndDutyDones
open EndDutyDones
theorem DutyDones_walk (A0 : Option Addr) (c0 : Nat) (l0 : List S51) (A1 : Option Addr) (c1 : Nat) (l1 : List S32) (cs2 : Array Value) (x2 : S42) (W : World) (hr0 : Kd.C k51 W A0 l0.length l0) (hc0 : l0.length ≤ c0) (b0 : l0.length * Try.prog.bytesOf 51 ≤ 140737488351232 ∧ ∀ y ∈ l0, B51 y) (hr1 : Kd.C k32 W A1 l1.length l1) (hc1 : l1.length ≤ c1) (b1 : l1.length * Try.prog.bytesOf 32 ≤ 140737488351232 ∧ ∀ y ∈ l1, B32 y) (hr2 : k42.K W x2 cs2.toList) (b2 : B42 x2) : Calls Try.prog 5 #[.slice A0 l0.length c0, .slice A1 l1.length c1, .agg cs2] W fun e W' => e = .returned (.bool true) ∧ Below W.heap.size W W' := by
  have h0 := b0.1
  have h1 := b1.1
  rw [by51] at h0
  rw [by32] at h1
  have e := k42_cells hr2
  subst e
  obtain ⟨k, hk⟩ := DutyDones_tells l0 l1 (by omega) (by omega) (fun y hy => Go.Proofs.YtgphdeelangkfaaPlain.In.of_wf (b0.2 y hy).2.1) (fun y hy => (b0.2 y hy).1) x2.f0 x2.f1.f0 x2.f1.f1 x2.f2 x2.f3.f0 x2.f3.f1 x2.f3.f2 x2.f4.f0 x2.f4.f1 x2.f4.f2 x2.f4.f3 x2.f4.f4 x2.f5 x2.f6 x2.f7 x2.f8 x2.f9 x2.f10 x2.f11 (Go.Proofs.YtgphdeelangkfaaPlain.In.of_wf (by simpa only [B42] using b2.2.2.2.2.2.2.2.2.2.2.2))
  exact sojournlaw15_DutyDones.calls k A0 c0 l0 A1 c1 l1 _ _ _ _ _ _ _ _ _ _ _ _ _ _ _ _ _ _ _ true W hr0 hc0 hr1 hc1 hk
end Go.Proofs.Ytgphdeelangkfaa.PDuty
