/-
  Which floats are rates: what the code tells, by the bits alone. Every bits: no condition.
-/
import Derived.Test.YtelpppmnakblmaaOpen
import Derived.WalkKit
import Derived.WalkLawsBesides
import Derived.Laws.Externs
import Derived.Below
import Derived.Deep.RegionWith
import Derived.Lib.Hide
import Derived.KernelRfl
namespace Go.Proofs.Ytelpppmnakblmaa.Hand
open Go.RowKit Go.Proofs.YtelpppmnakblmaaW.PrintWords
set_option linter.unusedVariables false
set_option linter.unusedSimpArgs false
theorem call22 (b : Nat) (w : World) : (callFunc 22 #[.float .f64 b]).run Try.prog w = .ok (.value (.int .u64 b)) w := by
  rw [run_callFunc_extern (e := Extern.MathFloatBits.float64bits) Try.func22 (by kernel_rfl) (by kernel_rfl) (by kernel_rfl) (by kernel_rfl)]
  rfl
theorem call23 (b : Int) (w : World) : (callFunc 23 #[.int .u64 b]).run Try.prog w = .ok (.value (.float .f64 b.toNat)) w := by
  rw [run_callFunc_extern (e := Extern.MathFloatBits.float64frombits) Try.func23 (by kernel_rfl) (by kernel_rfl) (by kernel_rfl) (by kernel_rfl)]
  rfl
attribute [local go_sem] call22 call23
abbrev ord (a b : Nat) : Option Ordering := FloatKind.f64.format.order a b
theorem isNaN_calls (x : Nat) (w : World) : Calls Try.prog 18 #[.float .f64 x] w fun e w' => e = .returned (.bool (ord x x != some .eq)) ∧ w' = w := by
  go_enter Try.func18, Try.ntmps18
  go_wp2
  go_ret
  exact ⟨rfl, rfl⟩
def sgnV (x : Nat) : Bool := decide (RowKit.wrap64 (x : Int) < 0)
def absV (x : Nat) : Nat := (bits BinOp.andNot IntKind.u64 (x : Int) 9223372036854775808).toNat
def infV (x : Nat) : Bool := ord (absV x) 9218868437227405311 == some .gt
def rateB (x : Nat) : Bool := (ord x x == some .eq) && (!infV x && !((ord x 0 == some .eq) && sgnV x))
theorem signbit_calls (x : Nat) (w : World) : Calls Try.prog 20 #[.float .f64 x] w fun e w' => e = .returned (.bool (sgnV x)) ∧ w' = w := by
  go_enter Try.func20, Try.ntmps20
  go_wp2
  go_ret
  exact ⟨rfl, rfl⟩
theorem abs_calls (x : Nat) (w : World) : Calls Try.prog 21 #[.float .f64 x] w fun e w' => e = .returned (.float .f64 (absV x)) ∧ w' = w := by
  go_enter Try.func21, Try.ntmps21
  go_wp2
  go_ret
  exact ⟨rfl, rfl⟩
theorem isInf_calls (x : Nat) (w : World) : Calls Try.prog 19 #[.float .f64 x, .int .i64 0] w fun e w' => e = .returned (.bool (infV x)) ∧ w' = w := by
  go_enter Try.func19, Try.ntmps19
  go_wp2_with fail
  refine (abs_calls x _).mono ?_
  rintro e w1 ⟨rfl, rfl⟩
  go_wp2
  go_ret
  exact ⟨rfl, rfl⟩
theorem rate_Right_calls (x : Nat) (w : World) : Calls Try.prog 17 #[.float .f64 x] w fun e w' => e = .returned (.bool (rateB x)) ∧ w' = w := by
  by_cases h1 : ord x x = some .eq
  · have e1 : (ord x x != some .eq) = false := by simp [h1]
    cases h2 : infV x
    · by_cases h3 : ord x 0 = some .eq
      · go_enter Try.func17, Try.ntmps17
        go_wp2_with (first | (refine (isNaN_calls x _).mono ?_; rintro e w1 ⟨rfl, rfl⟩; simp only [e1]) | (refine (isInf_calls x _).mono ?_; rintro e w1 ⟨rfl, rfl⟩; simp only [h2]) | (refine (signbit_calls x _).mono ?_; rintro e w1 ⟨rfl, rfl⟩))
        all_goals first
          | contradiction
          | (go_ret; exact ⟨by simp [rateB, h1, h2, h3], rfl⟩)
      · go_enter Try.func17, Try.ntmps17
        go_wp2_with (first | (refine (isNaN_calls x _).mono ?_; rintro e w1 ⟨rfl, rfl⟩; simp only [e1]) | (refine (isInf_calls x _).mono ?_; rintro e w1 ⟨rfl, rfl⟩; simp only [h2]) | (refine (signbit_calls x _).mono ?_; rintro e w1 ⟨rfl, rfl⟩))
        all_goals first
          | contradiction
          | (go_ret; exact ⟨by simp [rateB, h1, h2, h3], rfl⟩)
    · go_enter Try.func17, Try.ntmps17
      go_wp2_with (first | (refine (isNaN_calls x _).mono ?_; rintro e w1 ⟨rfl, rfl⟩; simp only [e1]) | (refine (isInf_calls x _).mono ?_; rintro e w1 ⟨rfl, rfl⟩; simp only [h2]))
      all_goals first
        | contradiction
        | (go_ret; exact ⟨by simp [rateB, h1, h2], rfl⟩)
  · have e1 : (ord x x != some .eq) = true := by simp [h1]
    go_enter Try.func17, Try.ntmps17
    go_wp2_with (first | (refine (isNaN_calls x _).mono ?_; rintro e w1 ⟨rfl, rfl⟩; simp only [e1]))
    all_goals first
      | contradiction
      | (go_ret; exact ⟨by simp [rateB, h1], rfl⟩)
end Go.Proofs.Ytelpppmnakblmaa.Hand
