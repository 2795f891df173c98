-- PRINTED by print.py (a twelfth state) out of the translation. Not trusted: Lean checks it.
import Derived.Test.YtgphdeelangkfaaPDutyx0
import Derived.Test.YtgphdeelangkfaaPDutyx4
import Derived.Test.YtgphdeelangkfaaPDutyx5
import Derived.Test.YtgphdeelangkfaaDone
namespace Go.Proofs.Ytgphdeelangkfaa.PDuty
open Go.RowKit Go.Proofs.YtgphdeelangkfaaW.PrintWords Go.Proofs.YtgphdeelangkfaaW.PrintLast Go.Proofs.YtgphdeelangkfaaW.PrintMore
attribute [local go_sem] max2_int min2_int max_two min_two max_three min_three max_four min_four   -- for this text's walks alone
set_option linter.unusedVariables false
set_option linter.unusedSimpArgs false

/-! ### sojournlaw15_DutyKept: function 6 -/
mutual
def sojournlaw15_DutyKept.j0 : Nat → List (S51) → Int → List Int → List (S32) → Bool → Bool → Option (Bool)
  | 0, _, _, _, _, _, _ => none
  | k + 1, x0, x1, x2, x7, x8, x37 => if x37 = true then (some false) else (if x8 = true then ((duty_Late.f k x7 x1).bind fun bt253 => ((duty_Stand.f k x0 x7).bind fun t255 => (if bt253.2 = true then (sojournlaw15_DutyKept.j1 k x0 x2 x7 true) else (sojournlaw15_DutyKept.j1 k x0 x2 x7 (!t255))))) else (some ((x7.length : Int) == 0)))
def sojournlaw15_DutyKept.j1 : Nat → List (S51) → List Int → List (S32) → Bool → Option (Bool)
  | 0, _, _, _, _ => none
  | k + 1, x0, x2, x7, x56 => if x56 = true then (some false) else (sojournlaw15_DutyKept.l0 k x0 x7 x2 (x2.length : Int) 0)
def sojournlaw15_DutyKept.l0 : Nat → List (S51) → List (S32) → List Int → Int → Int → Option (Bool)
  | 0, _, _, _, _, _ => none
  | k + 1, x0, x7, x57, x58, x59 => if x59 < x58 then (if 0 ≤ x59 then (if x59 < (x57.length : Int) then (sojournlaw15_DutyKept.l1 k x0 x7 (rd x57 x59) x57 x58 x59 (x0.length : Int) 0) else (none)) else (none)) else (some true)
def sojournlaw15_DutyKept.l1 : Nat → List (S51) → List (S32) → Int → List Int → Int → Int → Int → Int → Option (Bool)
  | 0, _, _, _, _, _, _, _, _ => none
  | k + 1, x0, x7, x13, x57, x58, x59, x64, x65 => if x65 < x64 then (if 0 ≤ x65 then (if x65 < (x0.length : Int) then ((duty_Done.f k x0 x7 ((rd_T51 x0 x65).f0) x13).bind fun bt258 => (if bt258.2 = 151 then (sojournlaw15_DutyKept.j4 k x0 x7 x13 x65 bt258.1 bt258.2 x57 x58 x59 x64 x65 true) else (sojournlaw15_DutyKept.j4 k x0 x7 x13 x65 bt258.1 bt258.2 x57 x58 x59 x64 x65 (bt258.2 == 152)))) else (none)) else (none)) else (sojournlaw15_DutyKept.l0 k x0 x7 x57 x58 (wrap64 (x59 + 1)))
def sojournlaw15_DutyKept.j4 : Nat → List (S51) → List (S32) → Int → Int → List (S32) → Int → List Int → Int → Int → Int → Int → Bool → Option (Bool)
  | 0, _, _, _, _, _, _, _, _, _, _, _, _ => none
  | k + 1, x0, x7, x13, x14, x15, x16, x57, x58, x59, x64, x65, x85 => if x85 = true then (if (x15.length : Int) > 0 then (some false) else (if x16 = 151 then (if 0 ≤ x14 then (if x14 < (x0.length : Int) then (if (rd_T51 x0 x14).f2 = true then (some false) else (if x16 = 152 then (if ((rd_T51 x0 x14).f2 = true) then (sojournlaw15_DutyKept.l1 k x0 x7 x13 x57 x58 x59 x64 (wrap64 (x65 + 1))) else (some false)) else (sojournlaw15_DutyKept.l1 k x0 x7 x13 x57 x58 x59 x64 (wrap64 (x65 + 1))))) else (none)) else (none)) else (if x16 = 152 then (if 0 ≤ x14 then (if x14 < (x0.length : Int) then (if ((rd_T51 x0 x14).f2 = true) then (sojournlaw15_DutyKept.l1 k x0 x7 x13 x57 x58 x59 x64 (wrap64 (x65 + 1))) else (some false)) else (none)) else (none)) else (sojournlaw15_DutyKept.l1 k x0 x7 x13 x57 x58 x59 x64 (wrap64 (x65 + 1)))))) else ((duty_Stand.f k x0 x15).bind fun t265 => (if x16 = 0 then (sojournlaw15_DutyKept.j5 k x0 x13 x14 x15 x57 x58 x59 x64 x65 (!t265)) else (sojournlaw15_DutyKept.j5 k x0 x13 x14 x15 x57 x58 x59 x64 x65 true)))
def sojournlaw15_DutyKept.j5 : Nat → List (S51) → Int → Int → List (S32) → List Int → Int → Int → Int → Int → Bool → Option (Bool)
  | 0, _, _, _, _, _, _, _, _, _, _ => none
  | k + 1, x0, x13, x14, x15, x57, x58, x59, x64, x65, x120 => if x120 = true then (some false) else (if 0 ≤ x14 then (if x14 < (x0.length : Int) then (if (rd_T51 x0 x14).f2 = true then (if x14 < (x15.length : Int) then (sojournlaw15_DutyKept.j6 k x0 x15 x13 x14 x57 x58 x59 x64 x65 (decide (((rd_T32 x15 x14).f0) < x13))) else (none)) else (sojournlaw15_DutyKept.j6 k x0 x15 x13 x14 x57 x58 x59 x64 x65 false)) else (none)) else (none))
def sojournlaw15_DutyKept.j6 : Nat → List (S51) → List (S32) → Int → Int → List Int → Int → Int → Int → Int → Bool → Option (Bool)
  | 0, _, _, _, _, _, _, _, _, _, _ => none
  | k + 1, x0, x7, x13, x14, x57, x58, x59, x64, x65, x135 => if x135 = true then (some false) else (if 0 ≤ x14 then (if x14 < (x0.length : Int) then (if ((rd_T51 x0 x14).f2 = true) then (sojournlaw15_DutyKept.l1 k x0 x7 x13 x57 x58 x59 x64 (wrap64 (x65 + 1))) else (if x14 < (x7.length : Int) then (if ((rd_T32 x7 x14).f1 = true) then (sojournlaw15_DutyKept.l1 k x0 x7 x13 x57 x58 x59 x64 (wrap64 (x65 + 1))) else (some false)) else (none))) else (none)) else (none))
end
def sojournlaw15_DutyKept.f (k : Nat) (l0 : List (S51)) (a1 : Int) (l2 : List Int) : Option (Bool) := (duty_Begin.f k l0 a1).bind fun bt248 => ((sojournlaw15_alive.f k).bind fun t252 => (if t252 = true then (if (bt248.1.length : Int) = (l0.length : Int) then (sojournlaw15_DutyKept.j0 k l0 a1 l2 bt248.1 bt248.2 (bt248.2 != bt248.2)) else (sojournlaw15_DutyKept.j0 k l0 a1 l2 bt248.1 bt248.2 (bt248.2 != false))) else (sojournlaw15_DutyKept.j0 k l0 a1 l2 bt248.1 bt248.2 true)))
theorem sojournlaw15_DutyKept.mono_l : ∀ k, (∀ y0 y1 y2 y3 y4 y5, LeO (sojournlaw15_DutyKept.j0 k y0 y1 y2 y3 y4 y5) (sojournlaw15_DutyKept.j0 (k + 1) y0 y1 y2 y3 y4 y5)) ∧ (∀ y0 y1 y2 y3, LeO (sojournlaw15_DutyKept.j1 k y0 y1 y2 y3) (sojournlaw15_DutyKept.j1 (k + 1) y0 y1 y2 y3)) ∧ (∀ y0 y1 y2 y3 y4, LeO (sojournlaw15_DutyKept.l0 k y0 y1 y2 y3 y4) (sojournlaw15_DutyKept.l0 (k + 1) y0 y1 y2 y3 y4)) ∧ (∀ y0 y1 y2 y3 y4 y5 y6 y7, LeO (sojournlaw15_DutyKept.l1 k y0 y1 y2 y3 y4 y5 y6 y7) (sojournlaw15_DutyKept.l1 (k + 1) y0 y1 y2 y3 y4 y5 y6 y7)) ∧ (∀ y0 y1 y2 y3 y4 y5 y6 y7 y8 y9 y10 y11, LeO (sojournlaw15_DutyKept.j4 k y0 y1 y2 y3 y4 y5 y6 y7 y8 y9 y10 y11) (sojournlaw15_DutyKept.j4 (k + 1) y0 y1 y2 y3 y4 y5 y6 y7 y8 y9 y10 y11)) ∧ (∀ y0 y1 y2 y3 y4 y5 y6 y7 y8 y9, LeO (sojournlaw15_DutyKept.j5 k y0 y1 y2 y3 y4 y5 y6 y7 y8 y9) (sojournlaw15_DutyKept.j5 (k + 1) y0 y1 y2 y3 y4 y5 y6 y7 y8 y9)) ∧ (∀ y0 y1 y2 y3 y4 y5 y6 y7 y8 y9, LeO (sojournlaw15_DutyKept.j6 k y0 y1 y2 y3 y4 y5 y6 y7 y8 y9) (sojournlaw15_DutyKept.j6 (k + 1) y0 y1 y2 y3 y4 y5 y6 y7 y8 y9))
  | 0 => ⟨fun _ _ _ _ _ _ r h => by simp [sojournlaw15_DutyKept.j0] at h, fun _ _ _ _ r h => by simp [sojournlaw15_DutyKept.j1] at h, fun _ _ _ _ _ r h => by simp [sojournlaw15_DutyKept.l0] at h, fun _ _ _ _ _ _ _ _ r h => by simp [sojournlaw15_DutyKept.l1] at h, fun _ _ _ _ _ _ _ _ _ _ _ _ r h => by simp [sojournlaw15_DutyKept.j4] at h, fun _ _ _ _ _ _ _ _ _ _ r h => by simp [sojournlaw15_DutyKept.j5] at h, fun _ _ _ _ _ _ _ _ _ _ r h => by simp [sojournlaw15_DutyKept.j6] at h⟩
  | k + 1 => by
    obtain ⟨ih0, ih1, ih2, ih3, ih4, ih5, ih6⟩ := sojournlaw15_DutyKept.mono_l k
    refine ⟨?_, ?_, ?_, ?_, ?_, ?_, ?_⟩
    · intro y0 y1 y2 y3 y4 y5
      unfold sojournlaw15_DutyKept.j0
      repeat' first
      | (with_reducible exact ih0 _ _ _ _ _ _)
      | (with_reducible exact ih1 _ _ _ _)
      | (with_reducible exact ih2 _ _ _ _ _)
      | (with_reducible exact ih3 _ _ _ _ _ _ _ _)
      | (with_reducible exact ih4 _ _ _ _ _ _ _ _ _ _ _ _)
      | (with_reducible exact ih5 _ _ _ _ _ _ _ _ _ _)
      | (with_reducible exact ih6 _ _ _ _ _ _ _ _ _ _)
      | (with_reducible exact duty_Begin.mono _ _ _)
      | (with_reducible exact duty_Done.mono _ _ _ _ _)
      | (with_reducible exact duty_Late.mono _ _ _)
      | (with_reducible exact duty_Stand.mono _ _ _)
      | (with_reducible exact sojournlaw15_alive.mono _)
      | (with_reducible exact LeO.refl _)
      | (with_reducible exact LeO.none _)
      | (with_reducible refine LeO.ite ?_ ?_)
      | (with_reducible refine LeO.bind ?_ (fun _ => ?_))
      | exact ih0 _ _ _ _ _ _
      | exact ih1 _ _ _ _
      | exact ih2 _ _ _ _ _
      | exact ih3 _ _ _ _ _ _ _ _
      | exact ih4 _ _ _ _ _ _ _ _ _ _ _ _
      | exact ih5 _ _ _ _ _ _ _ _ _ _
      | exact ih6 _ _ _ _ _ _ _ _ _ _
      | exact duty_Begin.mono _ _ _
      | exact duty_Done.mono _ _ _ _ _
      | exact duty_Late.mono _ _ _
      | exact duty_Stand.mono _ _ _
      | exact sojournlaw15_alive.mono _
      | exact LeO.none _
      | refine LeO.ite ?_ ?_
      | refine LeO.bind ?_ (fun _ => ?_)
    · intro y0 y1 y2 y3
      unfold sojournlaw15_DutyKept.j1
      repeat' first
      | (with_reducible exact ih0 _ _ _ _ _ _)
      | (with_reducible exact ih1 _ _ _ _)
      | (with_reducible exact ih2 _ _ _ _ _)
      | (with_reducible exact ih3 _ _ _ _ _ _ _ _)
      | (with_reducible exact ih4 _ _ _ _ _ _ _ _ _ _ _ _)
      | (with_reducible exact ih5 _ _ _ _ _ _ _ _ _ _)
      | (with_reducible exact ih6 _ _ _ _ _ _ _ _ _ _)
      | (with_reducible exact duty_Begin.mono _ _ _)
      | (with_reducible exact duty_Done.mono _ _ _ _ _)
      | (with_reducible exact duty_Late.mono _ _ _)
      | (with_reducible exact duty_Stand.mono _ _ _)
      | (with_reducible exact sojournlaw15_alive.mono _)
      | (with_reducible exact LeO.refl _)
      | (with_reducible exact LeO.none _)
      | (with_reducible refine LeO.ite ?_ ?_)
      | (with_reducible refine LeO.bind ?_ (fun _ => ?_))
      | exact ih0 _ _ _ _ _ _
      | exact ih1 _ _ _ _
      | exact ih2 _ _ _ _ _
      | exact ih3 _ _ _ _ _ _ _ _
      | exact ih4 _ _ _ _ _ _ _ _ _ _ _ _
      | exact ih5 _ _ _ _ _ _ _ _ _ _
      | exact ih6 _ _ _ _ _ _ _ _ _ _
      | exact duty_Begin.mono _ _ _
      | exact duty_Done.mono _ _ _ _ _
      | exact duty_Late.mono _ _ _
      | exact duty_Stand.mono _ _ _
      | exact sojournlaw15_alive.mono _
      | exact LeO.none _
      | refine LeO.ite ?_ ?_
      | refine LeO.bind ?_ (fun _ => ?_)
    · intro y0 y1 y2 y3 y4
      unfold sojournlaw15_DutyKept.l0
      repeat' first
      | (with_reducible exact ih0 _ _ _ _ _ _)
      | (with_reducible exact ih1 _ _ _ _)
      | (with_reducible exact ih2 _ _ _ _ _)
      | (with_reducible exact ih3 _ _ _ _ _ _ _ _)
      | (with_reducible exact ih4 _ _ _ _ _ _ _ _ _ _ _ _)
      | (with_reducible exact ih5 _ _ _ _ _ _ _ _ _ _)
      | (with_reducible exact ih6 _ _ _ _ _ _ _ _ _ _)
      | (with_reducible exact duty_Begin.mono _ _ _)
      | (with_reducible exact duty_Done.mono _ _ _ _ _)
      | (with_reducible exact duty_Late.mono _ _ _)
      | (with_reducible exact duty_Stand.mono _ _ _)
      | (with_reducible exact sojournlaw15_alive.mono _)
      | (with_reducible exact LeO.refl _)
      | (with_reducible exact LeO.none _)
      | (with_reducible refine LeO.ite ?_ ?_)
      | (with_reducible refine LeO.bind ?_ (fun _ => ?_))
      | exact ih0 _ _ _ _ _ _
      | exact ih1 _ _ _ _
      | exact ih2 _ _ _ _ _
      | exact ih3 _ _ _ _ _ _ _ _
      | exact ih4 _ _ _ _ _ _ _ _ _ _ _ _
      | exact ih5 _ _ _ _ _ _ _ _ _ _
      | exact ih6 _ _ _ _ _ _ _ _ _ _
      | exact duty_Begin.mono _ _ _
      | exact duty_Done.mono _ _ _ _ _
      | exact duty_Late.mono _ _ _
      | exact duty_Stand.mono _ _ _
      | exact sojournlaw15_alive.mono _
      | exact LeO.none _
      | refine LeO.ite ?_ ?_
      | refine LeO.bind ?_ (fun _ => ?_)
    · intro y0 y1 y2 y3 y4 y5 y6 y7
      unfold sojournlaw15_DutyKept.l1
      repeat' first
      | (with_reducible exact ih0 _ _ _ _ _ _)
      | (with_reducible exact ih1 _ _ _ _)
      | (with_reducible exact ih2 _ _ _ _ _)
      | (with_reducible exact ih3 _ _ _ _ _ _ _ _)
      | (with_reducible exact ih4 _ _ _ _ _ _ _ _ _ _ _ _)
      | (with_reducible exact ih5 _ _ _ _ _ _ _ _ _ _)
      | (with_reducible exact ih6 _ _ _ _ _ _ _ _ _ _)
      | (with_reducible exact duty_Begin.mono _ _ _)
      | (with_reducible exact duty_Done.mono _ _ _ _ _)
      | (with_reducible exact duty_Late.mono _ _ _)
      | (with_reducible exact duty_Stand.mono _ _ _)
      | (with_reducible exact sojournlaw15_alive.mono _)
      | (with_reducible exact LeO.refl _)
      | (with_reducible exact LeO.none _)
      | (with_reducible refine LeO.ite ?_ ?_)
      | (with_reducible refine LeO.bind ?_ (fun _ => ?_))
      | exact ih0 _ _ _ _ _ _
      | exact ih1 _ _ _ _
      | exact ih2 _ _ _ _ _
      | exact ih3 _ _ _ _ _ _ _ _
      | exact ih4 _ _ _ _ _ _ _ _ _ _ _ _
      | exact ih5 _ _ _ _ _ _ _ _ _ _
      | exact ih6 _ _ _ _ _ _ _ _ _ _
      | exact duty_Begin.mono _ _ _
      | exact duty_Done.mono _ _ _ _ _
      | exact duty_Late.mono _ _ _
      | exact duty_Stand.mono _ _ _
      | exact sojournlaw15_alive.mono _
      | exact LeO.none _
      | refine LeO.ite ?_ ?_
      | refine LeO.bind ?_ (fun _ => ?_)
    · intro y0 y1 y2 y3 y4 y5 y6 y7 y8 y9 y10 y11
      unfold sojournlaw15_DutyKept.j4
      repeat' first
      | (with_reducible exact ih0 _ _ _ _ _ _)
      | (with_reducible exact ih1 _ _ _ _)
      | (with_reducible exact ih2 _ _ _ _ _)
      | (with_reducible exact ih3 _ _ _ _ _ _ _ _)
      | (with_reducible exact ih4 _ _ _ _ _ _ _ _ _ _ _ _)
      | (with_reducible exact ih5 _ _ _ _ _ _ _ _ _ _)
      | (with_reducible exact ih6 _ _ _ _ _ _ _ _ _ _)
      | (with_reducible exact duty_Begin.mono _ _ _)
      | (with_reducible exact duty_Done.mono _ _ _ _ _)
      | (with_reducible exact duty_Late.mono _ _ _)
      | (with_reducible exact duty_Stand.mono _ _ _)
      | (with_reducible exact sojournlaw15_alive.mono _)
      | (with_reducible exact LeO.refl _)
      | (with_reducible exact LeO.none _)
      | (with_reducible refine LeO.ite ?_ ?_)
      | (with_reducible refine LeO.bind ?_ (fun _ => ?_))
      | exact ih0 _ _ _ _ _ _
      | exact ih1 _ _ _ _
      | exact ih2 _ _ _ _ _
      | exact ih3 _ _ _ _ _ _ _ _
      | exact ih4 _ _ _ _ _ _ _ _ _ _ _ _
      | exact ih5 _ _ _ _ _ _ _ _ _ _
      | exact ih6 _ _ _ _ _ _ _ _ _ _
      | exact duty_Begin.mono _ _ _
      | exact duty_Done.mono _ _ _ _ _
      | exact duty_Late.mono _ _ _
      | exact duty_Stand.mono _ _ _
      | exact sojournlaw15_alive.mono _
      | exact LeO.none _
      | refine LeO.ite ?_ ?_
      | refine LeO.bind ?_ (fun _ => ?_)
    · intro y0 y1 y2 y3 y4 y5 y6 y7 y8 y9
      unfold sojournlaw15_DutyKept.j5
      repeat' first
      | (with_reducible exact ih0 _ _ _ _ _ _)
      | (with_reducible exact ih1 _ _ _ _)
      | (with_reducible exact ih2 _ _ _ _ _)
      | (with_reducible exact ih3 _ _ _ _ _ _ _ _)
      | (with_reducible exact ih4 _ _ _ _ _ _ _ _ _ _ _ _)
      | (with_reducible exact ih5 _ _ _ _ _ _ _ _ _ _)
      | (with_reducible exact ih6 _ _ _ _ _ _ _ _ _ _)
      | (with_reducible exact duty_Begin.mono _ _ _)
      | (with_reducible exact duty_Done.mono _ _ _ _ _)
      | (with_reducible exact duty_Late.mono _ _ _)
      | (with_reducible exact duty_Stand.mono _ _ _)
      | (with_reducible exact sojournlaw15_alive.mono _)
      | (with_reducible exact LeO.refl _)
      | (with_reducible exact LeO.none _)
      | (with_reducible refine LeO.ite ?_ ?_)
      | (with_reducible refine LeO.bind ?_ (fun _ => ?_))
      | exact ih0 _ _ _ _ _ _
      | exact ih1 _ _ _ _
      | exact ih2 _ _ _ _ _
      | exact ih3 _ _ _ _ _ _ _ _
      | exact ih4 _ _ _ _ _ _ _ _ _ _ _ _
      | exact ih5 _ _ _ _ _ _ _ _ _ _
      | exact ih6 _ _ _ _ _ _ _ _ _ _
      | exact duty_Begin.mono _ _ _
      | exact duty_Done.mono _ _ _ _ _
      | exact duty_Late.mono _ _ _
      | exact duty_Stand.mono _ _ _
      | exact sojournlaw15_alive.mono _
      | exact LeO.none _
      | refine LeO.ite ?_ ?_
      | refine LeO.bind ?_ (fun _ => ?_)
    · intro y0 y1 y2 y3 y4 y5 y6 y7 y8 y9
      unfold sojournlaw15_DutyKept.j6
      repeat' first
      | (with_reducible exact ih0 _ _ _ _ _ _)
      | (with_reducible exact ih1 _ _ _ _)
      | (with_reducible exact ih2 _ _ _ _ _)
      | (with_reducible exact ih3 _ _ _ _ _ _ _ _)
      | (with_reducible exact ih4 _ _ _ _ _ _ _ _ _ _ _ _)
      | (with_reducible exact ih5 _ _ _ _ _ _ _ _ _ _)
      | (with_reducible exact ih6 _ _ _ _ _ _ _ _ _ _)
      | (with_reducible exact duty_Begin.mono _ _ _)
      | (with_reducible exact duty_Done.mono _ _ _ _ _)
      | (with_reducible exact duty_Late.mono _ _ _)
      | (with_reducible exact duty_Stand.mono _ _ _)
      | (with_reducible exact sojournlaw15_alive.mono _)
      | (with_reducible exact LeO.refl _)
      | (with_reducible exact LeO.none _)
      | (with_reducible refine LeO.ite ?_ ?_)
      | (with_reducible refine LeO.bind ?_ (fun _ => ?_))
      | exact ih0 _ _ _ _ _ _
      | exact ih1 _ _ _ _
      | exact ih2 _ _ _ _ _
      | exact ih3 _ _ _ _ _ _ _ _
      | exact ih4 _ _ _ _ _ _ _ _ _ _ _ _
      | exact ih5 _ _ _ _ _ _ _ _ _ _
      | exact ih6 _ _ _ _ _ _ _ _ _ _
      | exact duty_Begin.mono _ _ _
      | exact duty_Done.mono _ _ _ _ _
      | exact duty_Late.mono _ _ _
      | exact duty_Stand.mono _ _ _
      | exact sojournlaw15_alive.mono _
      | exact LeO.none _
      | refine LeO.ite ?_ ?_
      | refine LeO.bind ?_ (fun _ => ?_)
theorem sojournlaw15_DutyKept.mono : ∀ a0 a1 a2 k, LeO (sojournlaw15_DutyKept.f k a0 a1 a2) (sojournlaw15_DutyKept.f (k + 1) a0 a1 a2) := by
  intro a0 a1 a2 k
  obtain ⟨ih0, ih1, ih2, ih3, ih4, ih5, ih6⟩ := sojournlaw15_DutyKept.mono_l k
  unfold sojournlaw15_DutyKept.f
  repeat' first
      | (with_reducible exact ih0 _ _ _ _ _ _)
      | (with_reducible exact ih1 _ _ _ _)
      | (with_reducible exact ih2 _ _ _ _ _)
      | (with_reducible exact ih3 _ _ _ _ _ _ _ _)
      | (with_reducible exact ih4 _ _ _ _ _ _ _ _ _ _ _ _)
      | (with_reducible exact ih5 _ _ _ _ _ _ _ _ _ _)
      | (with_reducible exact ih6 _ _ _ _ _ _ _ _ _ _)
      | (with_reducible exact duty_Begin.mono _ _ _)
      | (with_reducible exact duty_Done.mono _ _ _ _ _)
      | (with_reducible exact duty_Late.mono _ _ _)
      | (with_reducible exact duty_Stand.mono _ _ _)
      | (with_reducible exact sojournlaw15_alive.mono _)
      | (with_reducible exact LeO.refl _)
      | (with_reducible exact LeO.none _)
      | (with_reducible refine LeO.ite ?_ ?_)
      | (with_reducible refine LeO.bind ?_ (fun _ => ?_))
      | exact ih0 _ _ _ _ _ _
      | exact ih1 _ _ _ _
      | exact ih2 _ _ _ _ _
      | exact ih3 _ _ _ _ _ _ _ _
      | exact ih4 _ _ _ _ _ _ _ _ _ _ _ _
      | exact ih5 _ _ _ _ _ _ _ _ _ _
      | exact ih6 _ _ _ _ _ _ _ _ _ _
      | exact duty_Begin.mono _ _ _
      | exact duty_Done.mono _ _ _ _ _
      | exact duty_Late.mono _ _ _
      | exact duty_Stand.mono _ _ _
      | exact sojournlaw15_alive.mono _
      | exact LeO.none _
      | refine LeO.ite ?_ ?_
      | refine LeO.bind ?_ (fun _ => ?_)
set_option maxHeartbeats 8000000 in
set_option maxRecDepth 100000 in
theorem sojournlaw15_DutyKept.calls (k : Nat) (A0 : Option Addr) (c0 : Nat) (l0 : List (S51)) (a1 : Int) (A2 : Option Addr) (c2 : Nat) (l2 : List Int) (r : Bool) (w : World) (hr0 : Kd.C k51 w A0 l0.length l0) (hc0 : l0.length ≤ c0) (hr2 : Kd.C (Kd.int .i64) w A2 l2.length l2) (hc2 : l2.length ≤ c2) (h : sojournlaw15_DutyKept.f k l0 a1 l2 = some r) :
    Calls Try.prog 6 #[.slice A0 l0.length c0, .int .i64 a1, .slice A2 l2.length c2] w fun e w' => e = .returned (.bool r) ∧ Below w.heap.size w w' := by
  have HR0 := Aside0.mk hr0
  have HC0 := Aside0.mk hc0
  clear hr0 hc0
  have HR2 := Aside0.mk hr2
  have HC2 := Aside0.mk hc2
  clear hr2 hc2
  have HB := Aside0.mk (Below.refl w.heap.size w)
  have H : ((duty_Begin.f k l0 a1).bind fun bt248 => ((sojournlaw15_alive.f k).bind fun t252 => (if t252 = true then (if (bt248.1.length : Int) = (l0.length : Int) then (sojournlaw15_DutyKept.j0 k l0 a1 l2 bt248.1 bt248.2 (bt248.2 != bt248.2)) else (sojournlaw15_DutyKept.j0 k l0 a1 l2 bt248.1 bt248.2 (bt248.2 != false))) else (sojournlaw15_DutyKept.j0 k l0 a1 l2 bt248.1 bt248.2 true)))) = some r := h
  clear h
  replace H := Option.bind_eq_some_iff.mp H
  obtain ⟨⟨t248, t249⟩, A40, H⟩ := H
  replace H : ((sojournlaw15_alive.f k).bind fun t252 => (if t252 = true then (if (t248.length : Int) = (l0.length : Int) then (sojournlaw15_DutyKept.j0 k l0 a1 l2 t248 t249 (t249 != t249)) else (sojournlaw15_DutyKept.j0 k l0 a1 l2 t248 t249 (t249 != false))) else (sojournlaw15_DutyKept.j0 k l0 a1 l2 t248 t249 true))) = some r := H
  have A4 := Aside0.mk A40
  clear A40
  have HC5 := Aside0.mk H
  clear H
  go_enter Try.func6, Try.ntmps6
  go_upto_region 2 with (first | ((with_reducible refine gate_callee (f := 16) rfl ?_); refine goesL_ (some 21) rfl rfl Try.func16 (by kernel_rfl) rfl #[.slice A0 l0.length c0, .int .i64 a1] rfl (by (try simp only [List.map_toArray, List.map_cons, List.map_nil]); first | done | rfl | (simp only [List.length_drop, List.length_take]; rfl)) ?_; (with_reducible refine (duty_Begin.calls k _ _ l0 a1 t248 t249 _ ?side1 ?side2 A4.out).mono ?_); (case side1 => repeat (first | exact HR0.out | (with_reducible refine Kd.C_alloc ?_ _) | (with_reducible refine Kd.C_drewN ?_ _) | (with_reducible refine Kd.C_drew ?_))); (case side2 => exact HC0.out); rintro e w6 ⟨v250, rfl, ho0, hb⟩; refine ⟨_, rfl, ?_⟩; have n0_ := Aside0.mk (Kd.R_lower ho0 (below_size (by repeat (first | (with_reducible first | exact HB.out | apply below_alloc | apply pw_below_drewN | apply below_drew1) | exact HB.out)))); have n1_ := Aside0.mk (below_step (by repeat (first | (with_reducible first | exact HB.out | apply below_alloc | apply pw_below_drewN | apply below_drew1) | exact HB.out)) hb); clear HB; have HO251 := n0_; have HB := n1_; clear n0_ n1_; (try clear hb); (try clear hb2); (try clear hk); (try clear hi); (try clear ho0)))
  (try simp only [Act.put, List.setIfInBounds_toArray, List.set_cons_zero, List.set_cons_succ])
  go_cut [37] (fun v37 wc => ∃ (kq : Nat) (x37_4 : Bool), v37 = .bool x37_4 ∧ Aside0 (sojournlaw15_DutyKept.j0 kq l0 a1 l2 t248 t249 x37_4 = some r) ∧ Aside0 (kq ≤ k) ∧ Aside0 (Kd.R k32 32 wc w.heap.size (fun _ => True) v250 t248) ∧ Aside0 (Below w.heap.size w wc))
  case first =>
    have H := HC5.out
    clear HC5
    replace H := Option.bind_eq_some_iff.mp H
    obtain ⟨t252, A70, H⟩ := H
    replace H : (if t252 = true then (if (t248.length : Int) = (l0.length : Int) then (sojournlaw15_DutyKept.j0 k l0 a1 l2 t248 t249 (t249 != t249)) else (sojournlaw15_DutyKept.j0 k l0 a1 l2 t248 t249 (t249 != false))) else (sojournlaw15_DutyKept.j0 k l0 a1 l2 t248 t249 true)) = some r := H
    have A7 := Aside0.mk A70
    clear A70
    by_cases c8 : t252 = true
    · subst c8
      have H1 : (if (t248.length : Int) = (l0.length : Int) then (sojournlaw15_DutyKept.j0 k l0 a1 l2 t248 t249 (t249 != t249)) else (sojournlaw15_DutyKept.j0 k l0 a1 l2 t248 t249 (t249 != false))) = some r := by rw [if_pos rfl] at H; exact H
      clear H
      have H := H1
      clear H1
      by_cases c9 : (t248.length : Int) = (l0.length : Int)
      · rw [if_pos c9] at H
        have c9b0 : ((t248.length : Int) == (l0.length : Int)) = true := beq_iff_eq.mpr c9
        have c9b1 : ((t248.length : Int) != (l0.length : Int)) = false := bne_eq_false_iff_eq.mpr c9
        have c9b2 : (t248.length == l0.length) = true := by first | simpa using c9 | (simp at c9 ⊢; omega)
        clear c9
        (first | rw [c9b0] | (simp only [i64_w, i32_w]; rw [c9b0]) | skip)
        have H' := Aside0.mk H
        clear H
        go_wp2_with (first | ((with_reducible refine gate_callee (f := 11) rfl ?_); refine goesL_ (some 24) rfl rfl Try.func11 (by kernel_rfl) rfl #[] rfl (by (try simp only [List.map_toArray, List.map_cons, List.map_nil]); first | done | rfl | (simp only [List.length_drop, List.length_take]; rfl)) ?_; (with_reducible refine (sojournlaw15_alive.calls k  true _ A7.out).mono ?_); rintro e w10 ⟨rfl, hb⟩; refine ⟨_, rfl, ?_⟩; have n0_ := Aside0.mk (Kd.R_below (by (with_reducible repeat (first | apply Kd.R_alloc | apply Kd.R_drewN | apply Kd.R_drew)); exact HO251.out) hb); have n1_ := Aside0.mk (below_step (by repeat (first | (with_reducible first | exact HB.out | apply below_alloc | apply pw_below_drewN | apply below_drew1) | exact HB.out)) hb); clear HO251; clear HB; have HO251 := n0_; have HB := n1_; clear n0_ n1_; (try clear hb); (try clear hb2); (try clear hk); (try clear hi); obtain ⟨Ao11, co11, eo11⟩ := Kd.R_slice HO251.out; subst eo11))
        go_meet
        case rel => exact ⟨_, ((t249 != t249)), (by first | rfl | (simp; done) | (simp [*]; done)), H', ⟨by first | omega | exact Nat.le_refl _⟩, ⟨by (with_reducible repeat (first | apply Kd.R_alloc | apply Kd.R_drewN | apply Kd.R_drew)); exact HO251.out⟩, ⟨by repeat (first | (with_reducible first | exact HB.out | apply below_alloc | apply pw_below_drewN | apply below_drew1) | exact HB.out)⟩⟩
      · rw [if_neg c9] at H
        have c9b0 : ((t248.length : Int) == (l0.length : Int)) = false := beq_eq_false_iff_ne.mpr c9
        have c9b1 : ((t248.length : Int) != (l0.length : Int)) = true := bne_iff_ne.mpr c9
        have c9b2 : (t248.length == l0.length) = false := by first | simpa using c9 | (simp at c9 ⊢; omega)
        (first | rw [c9b0] | (simp only [i64_w, i32_w]; rw [c9b0]) | skip)
        have H' := Aside0.mk H
        clear H
        go_wp2_with (first | ((with_reducible refine gate_callee (f := 11) rfl ?_); refine goesL_ (some 24) rfl rfl Try.func11 (by kernel_rfl) rfl #[] rfl (by (try simp only [List.map_toArray, List.map_cons, List.map_nil]); first | done | rfl | (simp only [List.length_drop, List.length_take]; rfl)) ?_; (with_reducible refine (sojournlaw15_alive.calls k  true _ A7.out).mono ?_); rintro e w12 ⟨rfl, hb⟩; refine ⟨_, rfl, ?_⟩; have n0_ := Aside0.mk (Kd.R_below (by (with_reducible repeat (first | apply Kd.R_alloc | apply Kd.R_drewN | apply Kd.R_drew)); exact HO251.out) hb); have n1_ := Aside0.mk (below_step (by repeat (first | (with_reducible first | exact HB.out | apply below_alloc | apply pw_below_drewN | apply below_drew1) | exact HB.out)) hb); clear HO251; clear HB; have HO251 := n0_; have HB := n1_; clear n0_ n1_; (try clear hb); (try clear hb2); (try clear hk); (try clear hi); obtain ⟨Ao13, co13, eo13⟩ := Kd.R_slice HO251.out; subst eo13))
        go_meet
        case rel => exact ⟨_, ((t249 != false)), (by first | rfl | (simp; done) | (simp [*]; done)), H', ⟨by first | omega | exact Nat.le_refl _⟩, ⟨by (with_reducible repeat (first | apply Kd.R_alloc | apply Kd.R_drewN | apply Kd.R_drew)); exact HO251.out⟩, ⟨by repeat (first | (with_reducible first | exact HB.out | apply below_alloc | apply pw_below_drewN | apply below_drew1) | exact HB.out)⟩⟩
    · replace c8 := Bool.eq_false_iff.mpr c8
      subst c8
      have H1 : (sojournlaw15_DutyKept.j0 k l0 a1 l2 t248 t249 true) = some r := by rw [if_neg (show ¬ (false = true) by decide)] at H; exact H
      clear H
      have H := H1
      clear H1
      have H' := Aside0.mk H
      clear H
      go_wp2_with (first | ((with_reducible refine gate_callee (f := 11) rfl ?_); refine goesL_ (some 24) rfl rfl Try.func11 (by kernel_rfl) rfl #[] rfl (by (try simp only [List.map_toArray, List.map_cons, List.map_nil]); first | done | rfl | (simp only [List.length_drop, List.length_take]; rfl)) ?_; (with_reducible refine (sojournlaw15_alive.calls k  false _ A7.out).mono ?_); rintro e w14 ⟨rfl, hb⟩; refine ⟨_, rfl, ?_⟩; have n0_ := Aside0.mk (Kd.R_below (by (with_reducible repeat (first | apply Kd.R_alloc | apply Kd.R_drewN | apply Kd.R_drew)); exact HO251.out) hb); have n1_ := Aside0.mk (below_step (by repeat (first | (with_reducible first | exact HB.out | apply below_alloc | apply pw_below_drewN | apply below_drew1) | exact HB.out)) hb); clear HO251; clear HB; have HO251 := n0_; have HB := n1_; clear n0_ n1_; (try clear hb); (try clear hb2); (try clear hk); (try clear hi)))
      go_meet
      case rel => exact ⟨_, (true), (by first | rfl | (simp; done) | (simp [*]; done)), H', ⟨by first | omega | exact Nat.le_refl _⟩, ⟨by (with_reducible repeat (first | apply Kd.R_alloc | apply Kd.R_drewN | apply Kd.R_drew)); exact HO251.out⟩, ⟨by repeat (first | (with_reducible first | exact HB.out | apply below_alloc | apply pw_below_drewN | apply below_drew1) | exact HB.out)⟩⟩
  case rest =>
    clear HC5
    try clear c1
    try clear c2
    try clear p2
    try clear c6
    try clear c8
    try clear c9
    try clear c9b0
    try clear c9b1
    try clear c9b2
    try clear c11
    obtain ⟨kq, x37_4, rfl, HA, HJ4, HO_7, HB⟩ := hcut
    cases kq with
    | zero => exact absurd HA.out (by simp [sojournlaw15_DutyKept.j0])
    | succ kj4 =>
      have H := HA.out
      clear HA
      simp only [sojournlaw15_DutyKept.j0] at H
      by_cases c15 : x37_4 = true
      · subst c15
        have H1 : (some false) = some r := by rw [if_pos rfl] at H; exact H
        clear H
        have H := H1
        clear H1
        obtain rfl := Option.some.inj H
        go_wp2
        go_ret
        exact ⟨by first | rfl | (simp [errW_none, errW_some] <;> rfl) | (simp [*, errW_none, errW_some] <;> rfl), by repeat (first | (with_reducible first | exact HB.out | apply below_alloc | apply pw_below_drewN | apply below_drew1) | exact HB.out)⟩
      · replace c15 := Bool.eq_false_iff.mpr c15
        subst c15
        have H1 : (if t249 = true then ((duty_Late.f kj4 t248 a1).bind fun bt253 => ((duty_Stand.f kj4 l0 t248).bind fun t255 => (if bt253.2 = true then (sojournlaw15_DutyKept.j1 kj4 l0 l2 t248 true) else (sojournlaw15_DutyKept.j1 kj4 l0 l2 t248 (!t255))))) else (some ((t248.length : Int) == 0))) = some r := by rw [if_neg (show ¬ (false = true) by decide)] at H; exact H
        clear H
        have H := H1
        clear H1
        by_cases c16 : t249 = true
        · subst c16
          have H1 : ((duty_Late.f kj4 t248 a1).bind fun bt253 => ((duty_Stand.f kj4 l0 t248).bind fun t255 => (if bt253.2 = true then (sojournlaw15_DutyKept.j1 kj4 l0 l2 t248 true) else (sojournlaw15_DutyKept.j1 kj4 l0 l2 t248 (!t255))))) = some r := by rw [if_pos rfl] at H; exact H
          clear H
          have H := H1
          clear H1
          replace H := Option.bind_eq_some_iff.mp H
          obtain ⟨⟨t253, t254⟩, A170, H⟩ := H
          replace H : ((duty_Stand.f kj4 l0 t248).bind fun t255 => (if t254 = true then (sojournlaw15_DutyKept.j1 kj4 l0 l2 t248 true) else (sojournlaw15_DutyKept.j1 kj4 l0 l2 t248 (!t255)))) = some r := H
          have A17 := Aside0.mk A170
          clear A170
          replace H := Option.bind_eq_some_iff.mp H
          obtain ⟨t255, A180, H⟩ := H
          replace H : (if t254 = true then (sojournlaw15_DutyKept.j1 kj4 l0 l2 t248 true) else (sojournlaw15_DutyKept.j1 kj4 l0 l2 t248 (!t255))) = some r := H
          have A18 := Aside0.mk A180
          clear A180
          have HC19 := Aside0.mk H
          clear H
          obtain ⟨Ao20, co20, eo20⟩ := Kd.R_slice HO_7.out
          subst eo20
          go_upto_region 8 with (first | ((with_reducible refine gate_callee (f := 20) rfl ?_); refine goesL_ (some 46) rfl rfl Try.func20 (by kernel_rfl) rfl #[.slice Ao20 t248.length co20, .int .i64 a1] rfl (by (try simp only [List.map_toArray, List.map_cons, List.map_nil]); first | done | rfl | (simp only [List.length_drop, List.length_take]; rfl)) ?_; (with_reducible refine (duty_Late.calls kj4 _ _ t248 a1 t253 t254 _ ?side1 ?side2 A17.out).mono ?_); (case side1 => repeat (first | exact (Kd.R_reads' HO_7.out).2.2 | (with_reducible refine Kd.C_alloc ?_ _) | (with_reducible refine Kd.C_drewN ?_ _) | (with_reducible refine Kd.C_drew ?_))); (case side2 => exact (Kd.R_reads' HO_7.out).2.1); rintro e w21 ⟨rfl, hb⟩; refine ⟨_, rfl, ?_⟩; have n0_ := Aside0.mk (Kd.R_below (by (with_reducible repeat (first | apply Kd.R_alloc | apply Kd.R_drewN | apply Kd.R_drew)); exact HO_7.out) hb); have n1_ := Aside0.mk (below_step (by repeat (first | (with_reducible first | exact HB.out | apply below_alloc | apply pw_below_drewN | apply below_drew1) | exact HB.out)) hb); clear HO_7; clear HB; have HO_7 := n0_; have HB := n1_; clear n0_ n1_; (try clear hb); (try clear hb2); (try clear hk); (try clear hi)) | ((with_reducible refine gate_callee (f := 10) rfl ?_); refine goesL_ (some 51) rfl rfl Try.func10 (by kernel_rfl) rfl #[.slice A0 l0.length c0, .slice Ao20 t248.length co20] rfl (by (try simp only [List.map_toArray, List.map_cons, List.map_nil]); first | done | rfl | (simp only [List.length_drop, List.length_take]; rfl)) ?_; (with_reducible refine (duty_Stand.calls kj4 _ _ l0 _ _ t248 t255 _ ?side1 ?side2 ?side3 ?side4 A18.out).mono ?_); (case side1 => repeat (first | exact (Kd.C_below HR0.out HB.out) | (with_reducible refine Kd.C_alloc ?_ _) | (with_reducible refine Kd.C_drewN ?_ _) | (with_reducible refine Kd.C_drew ?_))); (case side2 => exact HC0.out); (case side3 => repeat (first | exact (Kd.R_reads' HO_7.out).2.2 | (with_reducible refine Kd.C_alloc ?_ _) | (with_reducible refine Kd.C_drewN ?_ _) | (with_reducible refine Kd.C_drew ?_))); (case side4 => exact (Kd.R_reads' HO_7.out).2.1); rintro e w22 ⟨rfl, hb⟩; refine ⟨_, rfl, ?_⟩; have n0_ := Aside0.mk (Kd.R_below (by (with_reducible repeat (first | apply Kd.R_alloc | apply Kd.R_drewN | apply Kd.R_drew)); exact HO_7.out) hb); have n1_ := Aside0.mk (below_step (by repeat (first | (with_reducible first | exact HB.out | apply below_alloc | apply pw_below_drewN | apply below_drew1) | exact HB.out)) hb); clear HO_7; clear HB; have HO_7 := n0_; have HB := n1_; clear n0_ n1_; (try clear hb); (try clear hb2); (try clear hk); (try clear hi)))
          (try simp only [Act.put, List.setIfInBounds_toArray, List.set_cons_zero, List.set_cons_succ])
          go_cut [56] (fun v56 wc => ∃ (kq : Nat) (x56_18 : Bool), v56 = .bool x56_18 ∧ Aside0 (sojournlaw15_DutyKept.j1 kq l0 l2 t248 x56_18 = some r) ∧ Aside0 (kq ≤ kj4) ∧ Aside0 (Kd.R k32 32 wc w.heap.size (fun _ => True) (.slice Ao20 t248.length co20) t248) ∧ Aside0 (Below w.heap.size w wc))
          case first =>
            have H := HC19.out
            clear HC19
            by_cases c23 : t254 = true
            · subst c23
              have H1 : (sojournlaw15_DutyKept.j1 kj4 l0 l2 t248 true) = some r := by rw [if_pos rfl] at H; exact H
              clear H
              have H := H1
              clear H1
              have H' := Aside0.mk H
              clear H
              go_wp2
              go_meet
              case rel => exact ⟨_, (true), (by first | rfl | (simp; done) | (simp [*]; done)), H', ⟨by have := HJ4.out; first | omega | exact Nat.le_refl _⟩, ⟨by (with_reducible repeat (first | apply Kd.R_alloc | apply Kd.R_drewN | apply Kd.R_drew)); exact HO_7.out⟩, ⟨by repeat (first | (with_reducible first | exact HB.out | apply below_alloc | apply pw_below_drewN | apply below_drew1) | exact HB.out)⟩⟩
            · replace c23 := Bool.eq_false_iff.mpr c23
              subst c23
              have H1 : (sojournlaw15_DutyKept.j1 kj4 l0 l2 t248 (!t255)) = some r := by rw [if_neg (show ¬ (false = true) by decide)] at H; exact H
              clear H
              have H := H1
              clear H1
              have H' := Aside0.mk H
              clear H
              go_wp2
              go_meet
              case rel => exact ⟨_, (!t255), (by first | rfl | (simp; done) | (simp [*]; done)), H', ⟨by have := HJ4.out; first | omega | exact Nat.le_refl _⟩, ⟨by (with_reducible repeat (first | apply Kd.R_alloc | apply Kd.R_drewN | apply Kd.R_drew)); exact HO_7.out⟩, ⟨by repeat (first | (with_reducible first | exact HB.out | apply below_alloc | apply pw_below_drewN | apply below_drew1) | exact HB.out)⟩⟩
          case rest =>
            clear HC19
            try clear c1
            try clear c2
            try clear p2
            try clear c6
            try clear c8
            try clear c9
            try clear c9b0
            try clear c9b1
            try clear c9b2
            try clear c10
            try clear c11
            try clear c15
            try clear c16
            try clear c20
            try clear c23
            try clear p2
            obtain ⟨kq, x56_18, rfl, HA, HJ18, HO_7, HB⟩ := hcut
            cases kq with
            | zero => exact absurd HA.out (by simp [sojournlaw15_DutyKept.j1])
            | succ kj18 =>
              have H := HA.out
              clear HA
              simp only [sojournlaw15_DutyKept.j1] at H
              by_cases c24 : x56_18 = true
              · subst c24
                have H1 : (some false) = some r := by rw [if_pos rfl] at H; exact H
                clear H
                have H := H1
                clear H1
                obtain rfl := Option.some.inj H
                go_wp2
                go_ret
                exact ⟨by first | rfl | (simp [errW_none, errW_some] <;> rfl) | (simp [*, errW_none, errW_some] <;> rfl), by repeat (first | (with_reducible first | exact HB.out | apply below_alloc | apply pw_below_drewN | apply below_drew1) | exact HB.out)⟩
              · replace c24 := Bool.eq_false_iff.mpr c24
                subst c24
                have H1 : (sojournlaw15_DutyKept.l0 kj18 l0 t248 l2 (l2.length : Int) 0) = some r := by rw [if_neg (show ¬ (false = true) by decide)] at H; exact H
                clear H
                have H := H1
                clear H1
                have H' := Aside0.mk H
                clear H
                go_wp2
                go_loopg [7, 59] kj18 (fun kq v7 v59 w' => ∃ (x7_3 : List (S32)) (x59_3 : Int), v59 = .int .i64 x59_3 ∧ Aside0 (sojournlaw15_DutyKept.l0 kq l0 x7_3 l2 (l2.length : Int) x59_3 = some r) ∧ Aside0 (kq ≤ kj18) ∧ Aside0 (Kd.R k32 32 w' w.heap.size (fun _ => True) v7 x7_3) ∧ Aside0 (Below w.heap.size w w'))
                case atStart => exact ⟨(t248), (0), (by first | rfl | (simp; done) | (simp [*]; done)), H', ⟨Nat.le_refl _⟩, ⟨by (with_reducible repeat (first | apply Kd.R_alloc | apply Kd.R_drewN | apply Kd.R_drew)); exact HO_7.out⟩, ⟨by repeat (first | (with_reducible first | exact HB.out | apply below_alloc | apply pw_below_drewN | apply below_drew1) | exact HB.out)⟩⟩
                case round =>
                  clear H'
                  try clear c1
                  try clear c2
                  try clear p2
                  try clear c6
                  try clear c8
                  try clear c9
                  try clear c9b0
                  try clear c9b1
                  try clear c9b2
                  try clear c10
                  try clear c11
                  try clear c15
                  try clear c16
                  try clear c20
                  try clear c23
                  try clear c24
                  try clear p2
                  obtain ⟨x7_3, x59_3, rfl, HA, HK3, HO_7, HB⟩ := hrel
                  cases gk with
                  | zero => exact absurd HA.out (by simp [sojournlaw15_DutyKept.l0])
                  | succ k3 =>
                    have H := HA.out
                    clear HA
                    simp only [sojournlaw15_DutyKept.l0] at H
                    by_cases c25 : x59_3 < (l2.length : Int)
                    · rw [if_pos c25] at H
                      have c25b0 : decide (x59_3 < (l2.length : Int)) = true := decide_eq_true c25
                      clear c25
                      by_cases c26 : 0 ≤ x59_3
                      · rw [if_pos c26] at H
                        have c26b0 : decide (0 ≤ x59_3) = true := decide_eq_true c26
                        clear c26
                        by_cases c27 : x59_3 < (l2.length : Int)
                        · rw [if_pos c27] at H
                          have c27b0 : decide (x59_3 < (l2.length : Int)) = true := decide_eq_true c27
                          clear c27
                          have H' := Aside0.mk H
                          clear H
                          have p256 : 0 ≤ (x59_3 : Int) := of_decide_eq_true (by first | (with_reducible assumption) | assumption)
                          have q256 : x59_3 < (l2.length : Int) := of_decide_eq_true (by first | (with_reducible assumption) | assumption)
                          obtain ⟨ad256, e256, hx256_0⟩ := Kd.at_int HR2.out x59_3 p256 q256
                          cases e256
                          replace hx256_0 := (HB.out.cell (World.block_lt_of_cell? w _ hx256_0)).trans hx256_0
                          replace p256 := eq_true p256
                          replace q256 := eq_true q256
                          go_wp2
                          go_loopg [7, 65] k3 (fun kq v7 v65 w' => ∃ (x7_4 : List (S32)) (x65_4 : Int), v65 = .int .i64 x65_4 ∧ Aside0 (sojournlaw15_DutyKept.l1 kq l0 x7_4 (rd l2 x59_3) l2 (l2.length : Int) x59_3 (l0.length : Int) x65_4 = some r) ∧ Aside0 (kq ≤ k3) ∧ Aside0 (Kd.R k32 32 w' w.heap.size (fun _ => True) v7 x7_4) ∧ Aside0 (Below w.heap.size w w'))
                          case atStart => exact ⟨(x7_3), (0), (by first | rfl | (simp; done) | (simp [*]; done)), H', ⟨Nat.le_refl _⟩, ⟨by (with_reducible repeat (first | apply Kd.R_alloc | apply Kd.R_drewN | apply Kd.R_drew)); exact HO_7.out⟩, ⟨by repeat (first | (with_reducible first | exact HB.out | apply below_alloc | apply pw_below_drewN | apply below_drew1) | exact HB.out)⟩⟩
                          case round =>
                            clear H'
                            try clear c1
                            try clear c2
                            try clear p2
                            try clear q2
                            try clear hx2
                            try clear c6
                            try clear c8
                            try clear c9
                            try clear c9b0
                            try clear c9b1
                            try clear c9b2
                            try clear c10
                            try clear c11
                            try clear c15
                            try clear c16
                            try clear c20
                            try clear c23
                            try clear c24
                            try clear c25
                            try clear c25b0
                            try clear p25
                            try clear q25
                            try clear hx25
                            try clear c26
                            try clear c26b0
                            try clear c27
                            try clear c27b0
                            try clear hx256_0
                            try clear p2
                            try clear p256
                            try clear q256
                            obtain ⟨x7_4, x65_4, rfl, HA, HK4, HO_7, HB⟩ := hrel
                            cases gk with
                            | zero => exact absurd HA.out (by simp [sojournlaw15_DutyKept.l1])
                            | succ k4 =>
                              have H := HA.out
                              clear HA
                              simp only [sojournlaw15_DutyKept.l1] at H
                              by_cases c28 : x65_4 < (l0.length : Int)
                              · rw [if_pos c28] at H
                                have c28b0 : decide (x65_4 < (l0.length : Int)) = true := decide_eq_true c28
                                clear c28
                                by_cases c29 : 0 ≤ x65_4
                                · rw [if_pos c29] at H
                                  have c29b0 : decide (0 ≤ x65_4) = true := decide_eq_true c29
                                  clear c29
                                  by_cases c30 : x65_4 < (l0.length : Int)
                                  · rw [if_pos c30] at H
                                    have c30b0 : decide (x65_4 < (l0.length : Int)) = true := decide_eq_true c30
                                    clear c30
                                    replace H := Option.bind_eq_some_iff.mp H
                                    obtain ⟨⟨t258, t259⟩, A310, H⟩ := H
                                    replace H : (if t259 = 151 then (sojournlaw15_DutyKept.j4 k4 l0 x7_4 (rd l2 x59_3) x65_4 t258 t259 l2 (l2.length : Int) x59_3 (l0.length : Int) x65_4 true) else (sojournlaw15_DutyKept.j4 k4 l0 x7_4 (rd l2 x59_3) x65_4 t258 t259 l2 (l2.length : Int) x59_3 (l0.length : Int) x65_4 (t259 == 152))) = some r := H
                                    have A31 := Aside0.mk A310
                                    clear A310
                                    have HC32 := Aside0.mk H
                                    clear H
                                    have p257 : 0 ≤ (x65_4 : Int) := of_decide_eq_true (by first | (with_reducible assumption) | assumption)
                                    have q257 : x65_4 < (l0.length : Int) := of_decide_eq_true (by first | (with_reducible assumption) | assumption)
                                    obtain ⟨ad257, e257, hx257_0, hx257_1, hx257_2⟩ := at_T51 HR0.out x65_4 p257 q257
                                    cases e257
                                    replace hx257_0 := (HB.out.cell (World.block_lt_of_cell? w _ hx257_0)).trans hx257_0
                                    replace hx257_1 := (HB.out.cell (World.block_lt_of_cell? w _ hx257_1)).trans hx257_1
                                    replace hx257_2 := (HB.out.cell (World.block_lt_of_cell? w _ hx257_2)).trans hx257_2
                                    replace p257 := eq_true p257
                                    replace q257 := eq_true q257
                                    obtain ⟨Ao33, co33, eo33⟩ := Kd.R_slice HO_7.out
                                    subst eo33
                                    go_upto_region 17 with (first | ((with_reducible refine gate_callee (f := 18) rfl ?_); refine goesL_ (some 77) rfl rfl Try.func18 (by kernel_rfl) rfl #[.slice (some ad257) l0.length c0, .slice Ao33 x7_4.length co33, .string ((rd_T51 l0 x65_4).f0), .int .i64 (rd l2 x59_3)] rfl (by (try simp only [List.map_toArray, List.map_cons, List.map_nil]); first | done | rfl | (simp only [List.length_drop, List.length_take]; rfl)) ?_; (with_reducible refine (duty_Done.calls k4 _ _ l0 _ _ x7_4 ((rd_T51 l0 x65_4).f0) (rd l2 x59_3) t258 t259 _ ?side1 ?side2 ?side3 ?side4 A31.out).mono ?_); (case side1 => repeat (first | exact (Kd.C_below HR0.out HB.out) | (with_reducible refine Kd.C_alloc ?_ _) | (with_reducible refine Kd.C_drewN ?_ _) | (with_reducible refine Kd.C_drew ?_))); (case side2 => exact HC0.out); (case side3 => repeat (first | exact (Kd.R_reads' HO_7.out).2.2 | (with_reducible refine Kd.C_alloc ?_ _) | (with_reducible refine Kd.C_drewN ?_ _) | (with_reducible refine Kd.C_drew ?_))); (case side4 => exact (Kd.R_reads' HO_7.out).2.1); rintro e w34 ⟨v260, rfl, ho0, hb⟩; refine ⟨_, rfl, ?_⟩; have n0_ := Aside0.mk (Kd.R_elder' (by (with_reducible repeat (first | apply Kd.R_alloc | apply Kd.R_drewN | apply Kd.R_drew)); exact HO_7.out) (Kd.R_base ho0) hb); have n1_ := Aside0.mk (Kd.R_lower (Kd.R_new' ho0 (Kd.R_lt (by (with_reducible repeat (first | apply Kd.R_alloc | apply Kd.R_drewN | apply Kd.R_drew)); exact HO_7.out))) (below_size (by repeat (first | (with_reducible first | exact HB.out | apply below_alloc | apply pw_below_drewN | apply below_drew1) | exact HB.out)))); have n2_ := Aside0.mk (below_step (by repeat (first | (with_reducible first | exact HB.out | apply below_alloc | apply pw_below_drewN | apply below_drew1) | exact HB.out)) hb); clear HO_7; clear HB; have HO_7 := n0_; have HO261 := n1_; have HB := n2_; clear n0_ n1_ n2_; (try clear hb); (try clear hb2); (try clear hk); (try clear hi); (try clear ho0)))
                                    (try simp only [Act.put, List.setIfInBounds_toArray, List.set_cons_zero, List.set_cons_succ])
                                    go_cut [85] (fun v85 wc => ∃ (kq : Nat) (x85_31 : Bool), v85 = .bool x85_31 ∧ Aside0 (sojournlaw15_DutyKept.j4 kq l0 x7_4 (rd l2 x59_3) x65_4 t258 t259 l2 (l2.length : Int) x59_3 (l0.length : Int) x65_4 x85_31 = some r) ∧ Aside0 (kq ≤ k4) ∧ Aside0 (Kd.R k32 32 wc w.heap.size (fun k_ => some k_ ≠ (v260 : Value).ownBlock) (.slice Ao33 x7_4.length co33) x7_4) ∧ Aside0 (Kd.R k32 32 wc w.heap.size (fun k_ => some k_ ≠ ((.slice Ao33 x7_4.length co33) : Value).ownBlock) v260 t258) ∧ Aside0 (Below w.heap.size w wc))
                                    case first =>
                                      have H := HC32.out
                                      clear HC32
                                      by_cases c35 : t259 = 151
                                      · rw [if_pos c35] at H
                                        have c35b0 : (t259 == 151) = true := beq_iff_eq.mpr c35
                                        have c35b1 : (t259 != 151) = false := bne_eq_false_iff_eq.mpr c35
                                        clear c35
                                        (first | rw [c35b0] | (simp only [i64_w, i32_w]; rw [c35b0]) | skip)
                                        have H' := Aside0.mk H
                                        clear H
                                        go_wp2
                                        go_meet
                                        case rel => exact ⟨_, (true), (by first | rfl | (simp; done) | (simp [*]; done)), H', ⟨by have := HJ4.out; have := HJ18.out; have := HK3.out; have := HK4.out; first | omega | exact Nat.le_refl _⟩, ⟨by (with_reducible repeat (first | apply Kd.R_alloc | apply Kd.R_drewN | apply Kd.R_drew)); exact Kd.R_mono HO_7.out (fun _ hk => hk.2)⟩, ⟨by (with_reducible repeat (first | apply Kd.R_alloc | apply Kd.R_drewN | apply Kd.R_drew)); exact Kd.R_mono HO261.out (fun _ hk => hk.2)⟩, ⟨by repeat (first | (with_reducible first | exact HB.out | apply below_alloc | apply pw_below_drewN | apply below_drew1) | exact HB.out)⟩⟩
                                      · rw [if_neg c35] at H
                                        have c35b0 : (t259 == 151) = false := beq_eq_false_iff_ne.mpr c35
                                        have c35b1 : (t259 != 151) = true := bne_iff_ne.mpr c35
                                        (first | rw [c35b0] | (simp only [i64_w, i32_w]; rw [c35b0]) | skip)
                                        have H' := Aside0.mk H
                                        clear H
                                        go_wp2
                                        go_meet
                                        case rel => exact ⟨_, ((t259 == 152)), (by first | rfl | (simp; done) | (simp [*]; done)), H', ⟨by have := HJ4.out; have := HJ18.out; have := HK3.out; have := HK4.out; first | omega | exact Nat.le_refl _⟩, ⟨by (with_reducible repeat (first | apply Kd.R_alloc | apply Kd.R_drewN | apply Kd.R_drew)); exact Kd.R_mono HO_7.out (fun _ hk => hk.2)⟩, ⟨by (with_reducible repeat (first | apply Kd.R_alloc | apply Kd.R_drewN | apply Kd.R_drew)); exact Kd.R_mono HO261.out (fun _ hk => hk.2)⟩, ⟨by repeat (first | (with_reducible first | exact HB.out | apply below_alloc | apply pw_below_drewN | apply below_drew1) | exact HB.out)⟩⟩
                                    case rest =>
                                      clear HC32
                                      try clear c1
                                      try clear c2
                                      try clear p2
                                      try clear q2
                                      try clear hx2
                                      try clear c3
                                      try clear c6
                                      try clear c8
                                      try clear c9
                                      try clear c9b0
                                      try clear c9b1
                                      try clear c9b2
                                      try clear c10
                                      try clear c11
                                      try clear c15
                                      try clear c16
                                      try clear c18
                                      try clear c20
                                      try clear c23
                                      try clear c24
                                      try clear c25
                                      try clear c25b0
                                      try clear p25
                                      try clear q25
                                      try clear hx25
                                      try clear c26
                                      try clear c26b0
                                      try clear c27
                                      try clear c27b0
                                      try clear c28
                                      try clear c28b0
                                      try clear c29
                                      try clear c29b0
                                      try clear c30
                                      try clear c30b0
                                      try clear c35
                                      try clear c35b0
                                      try clear c35b1
                                      try clear hx256_0
                                      try clear hx257_0
                                      try clear hx257_1
                                      try clear hx257_2
                                      try clear p2
                                      try clear p25
                                      try clear p256
                                      try clear p257
                                      try clear q2
                                      try clear q25
                                      try clear q256
                                      try clear q257
                                      obtain ⟨kq, x85_31, rfl, HA, HJ31, HO_7, HO_15, HB⟩ := hcut
                                      cases kq with
                                      | zero => exact absurd HA.out (by simp [sojournlaw15_DutyKept.j4])
                                      | succ kj31 =>
                                        have H := HA.out
                                        clear HA
                                        simp only [sojournlaw15_DutyKept.j4] at H
                                        by_cases c36 : x85_31 = true
                                        · subst c36
                                          have H1 : (if (t258.length : Int) > 0 then (some false) else (if t259 = 151 then (if 0 ≤ x65_4 then (if x65_4 < (l0.length : Int) then (if (rd_T51 l0 x65_4).f2 = true then (some false) else (if t259 = 152 then (if ((rd_T51 l0 x65_4).f2 = true) then (sojournlaw15_DutyKept.l1 kj31 l0 x7_4 (rd l2 x59_3) l2 (l2.length : Int) x59_3 (l0.length : Int) (wrap64 (x65_4 + 1))) else (some false)) else (sojournlaw15_DutyKept.l1 kj31 l0 x7_4 (rd l2 x59_3) l2 (l2.length : Int) x59_3 (l0.length : Int) (wrap64 (x65_4 + 1))))) else (none)) else (none)) else (if t259 = 152 then (if 0 ≤ x65_4 then (if x65_4 < (l0.length : Int) then (if ((rd_T51 l0 x65_4).f2 = true) then (sojournlaw15_DutyKept.l1 kj31 l0 x7_4 (rd l2 x59_3) l2 (l2.length : Int) x59_3 (l0.length : Int) (wrap64 (x65_4 + 1))) else (some false)) else (none)) else (none)) else (sojournlaw15_DutyKept.l1 kj31 l0 x7_4 (rd l2 x59_3) l2 (l2.length : Int) x59_3 (l0.length : Int) (wrap64 (x65_4 + 1)))))) = some r := by rw [if_pos rfl] at H; exact H
                                          clear H
                                          have H := H1
                                          clear H1
                                          by_cases c37 : (t258.length : Int) > 0
                                          · rw [if_pos c37] at H
                                            have c37b0 : decide (0 < (t258.length : Int)) = true := decide_eq_true c37
                                            have c37b1 : decide (0 < t258.length) = true := decide_eq_true (by omega)
                                            clear c37
                                            obtain rfl := Option.some.inj H
                                            obtain ⟨Ao38, co38, eo38⟩ := Kd.R_slice HO_15.out
                                            subst eo38
                                            go_wp2
                                            go_ret
                                            exact ⟨by first | rfl | (simp [errW_none, errW_some] <;> rfl) | (simp [*, errW_none, errW_some] <;> rfl), by repeat (first | (with_reducible first | exact HB.out | apply below_alloc | apply pw_below_drewN | apply below_drew1) | exact HB.out)⟩
                                          · rw [if_neg c37] at H
                                            have c37b0 : decide (0 < (t258.length : Int)) = false := decide_eq_false c37
                                            have c37b1 : decide (0 < t258.length) = false := decide_eq_false (by omega)
                                            clear c37
                                            by_cases c39 : t259 = 151
                                            · rw [if_pos c39] at H
                                              have c39b0 : (t259 == 151) = true := beq_iff_eq.mpr c39
                                              have c39b1 : (t259 != 151) = false := bne_eq_false_iff_eq.mpr c39
                                              clear c39
                                              by_cases c40 : 0 ≤ x65_4
                                              · rw [if_pos c40] at H
                                                have c40b0 : decide (0 ≤ x65_4) = true := decide_eq_true c40
                                                clear c40
                                                by_cases c41 : x65_4 < (l0.length : Int)
                                                · rw [if_pos c41] at H
                                                  have c41b0 : decide (x65_4 < (l0.length : Int)) = true := decide_eq_true c41
                                                  clear c41
                                                  obtain ⟨bq42, hbq42⟩ : ∃ b_ : Bool, b_ = ((rd_T51 l0 x65_4).f2) := ⟨_, rfl⟩
                                                  replace H : (if bq42 = true then (some false) else (if t259 = 152 then (if (bq42 = true) then (sojournlaw15_DutyKept.l1 kj31 l0 x7_4 (rd l2 x59_3) l2 (l2.length : Int) x59_3 (l0.length : Int) (wrap64 (x65_4 + 1))) else (some false)) else (sojournlaw15_DutyKept.l1 kj31 l0 x7_4 (rd l2 x59_3) l2 (l2.length : Int) x59_3 (l0.length : Int) (wrap64 (x65_4 + 1))))) = some r := by rw [← hbq42] at H; exact H
                                                  have Nbq42 := Aside0.mk hbq42
                                                  clear hbq42
                                                  by_cases c43 : bq42 = true
                                                  · subst c43
                                                    have H1 : (some false) = some r := by rw [if_pos rfl] at H; exact H
                                                    clear H
                                                    have H := H1
                                                    clear H1
                                                    obtain rfl := Option.some.inj H
                                                    obtain ⟨Ao44, co44, eo44⟩ := Kd.R_slice HO_15.out
                                                    subst eo44
                                                    have p262 : 0 ≤ (x65_4 : Int) := of_decide_eq_true (by first | (with_reducible assumption) | assumption)
                                                    have q262 : x65_4 < (l0.length : Int) := of_decide_eq_true (by first | (with_reducible assumption) | assumption)
                                                    obtain ⟨ad262, e262, hx262_0, hx262_1, hx262_2⟩ := at_T51 HR0.out x65_4 p262 q262
                                                    (try rw [← Nbq42.out] at hx262_2)
                                                    obtain rfl : ad257 = ad262 := (by injection e262)
                                                    replace hx262_0 := (HB.out.cell (World.block_lt_of_cell? w _ hx262_0)).trans hx262_0
                                                    replace hx262_1 := (HB.out.cell (World.block_lt_of_cell? w _ hx262_1)).trans hx262_1
                                                    replace hx262_2 := (HB.out.cell (World.block_lt_of_cell? w _ hx262_2)).trans hx262_2
                                                    replace p262 := eq_true p262
                                                    replace q262 := eq_true q262
                                                    go_wp2
                                                    go_ret
                                                    exact ⟨by first | rfl | (simp [errW_none, errW_some] <;> rfl) | (simp [*, errW_none, errW_some] <;> rfl), by repeat (first | (with_reducible first | exact HB.out | apply below_alloc | apply pw_below_drewN | apply below_drew1) | exact HB.out)⟩
                                                  · replace c43 := Bool.eq_false_iff.mpr c43
                                                    subst c43
                                                    have H1 : (if t259 = 152 then (if (false = true) then (sojournlaw15_DutyKept.l1 kj31 l0 x7_4 (rd l2 x59_3) l2 (l2.length : Int) x59_3 (l0.length : Int) (wrap64 (x65_4 + 1))) else (some false)) else (sojournlaw15_DutyKept.l1 kj31 l0 x7_4 (rd l2 x59_3) l2 (l2.length : Int) x59_3 (l0.length : Int) (wrap64 (x65_4 + 1)))) = some r := by rw [if_neg (show ¬ (false = true) by decide)] at H; exact H
                                                    clear H
                                                    have H := H1
                                                    clear H1
                                                    by_cases c45 : t259 = 152
                                                    · rw [if_pos c45] at H
                                                      have c45b0 : (t259 == 152) = true := beq_iff_eq.mpr c45
                                                      have c45b1 : (t259 != 152) = false := bne_eq_false_iff_eq.mpr c45
                                                      clear c45
                                                      by_cases c46 : (false = true)
                                                      · cases c46
                                                      · clear c46
                                                        have H1 : (some false) = some r := by rw [if_neg (show ¬ (false = true) by decide)] at H; exact H
                                                        clear H
                                                        have H := H1
                                                        clear H1
                                                        obtain rfl := Option.some.inj H
                                                        obtain ⟨Ao48, co48, eo48⟩ := Kd.R_slice HO_15.out
                                                        subst eo48
                                                        have p262 : 0 ≤ (x65_4 : Int) := of_decide_eq_true (by first | (with_reducible assumption) | assumption)
                                                        have q262 : x65_4 < (l0.length : Int) := of_decide_eq_true (by first | (with_reducible assumption) | assumption)
                                                        obtain ⟨ad262, e262, hx262_0, hx262_1, hx262_2⟩ := at_T51 HR0.out x65_4 p262 q262
                                                        (try rw [← Nbq42.out] at hx262_2)
                                                        obtain rfl : ad257 = ad262 := (by injection e262)
                                                        replace hx262_0 := (HB.out.cell (World.block_lt_of_cell? w _ hx262_0)).trans hx262_0
                                                        replace hx262_1 := (HB.out.cell (World.block_lt_of_cell? w _ hx262_1)).trans hx262_1
                                                        replace hx262_2 := (HB.out.cell (World.block_lt_of_cell? w _ hx262_2)).trans hx262_2
                                                        replace p262 := eq_true p262
                                                        replace q262 := eq_true q262
                                                        have p263 : 0 ≤ (x65_4 : Int) := of_decide_eq_true (by first | (with_reducible assumption) | assumption)
                                                        have q263 : x65_4 < (l0.length : Int) := of_decide_eq_true (by first | (with_reducible assumption) | assumption)
                                                        obtain ⟨ad263, e263, hx263_0, hx263_1, hx263_2⟩ := at_T51 HR0.out x65_4 p263 q263
                                                        (try rw [← Nbq42.out] at hx263_2)
                                                        obtain rfl : ad257 = ad263 := (by injection e263)
                                                        replace hx263_0 := (HB.out.cell (World.block_lt_of_cell? w _ hx263_0)).trans hx263_0
                                                        replace hx263_1 := (HB.out.cell (World.block_lt_of_cell? w _ hx263_1)).trans hx263_1
                                                        replace hx263_2 := (HB.out.cell (World.block_lt_of_cell? w _ hx263_2)).trans hx263_2
                                                        replace p263 := eq_true p263
                                                        replace q263 := eq_true q263
                                                        go_wp2
                                                        go_ret
                                                        exact ⟨by first | rfl | (simp [errW_none, errW_some] <;> rfl) | (simp [*, errW_none, errW_some] <;> rfl), by repeat (first | (with_reducible first | exact HB.out | apply below_alloc | apply pw_below_drewN | apply below_drew1) | exact HB.out)⟩
                                                    · rw [if_neg c45] at H
                                                      have c45b0 : (t259 == 152) = false := beq_eq_false_iff_ne.mpr c45
                                                      have c45b1 : (t259 != 152) = true := bne_iff_ne.mpr c45
                                                      have H' := Aside0.mk H
                                                      clear H
                                                      obtain ⟨Ao49, co49, eo49⟩ := Kd.R_slice HO_15.out
                                                      subst eo49
                                                      have p262 : 0 ≤ (x65_4 : Int) := of_decide_eq_true (by first | (with_reducible assumption) | assumption)
                                                      have q262 : x65_4 < (l0.length : Int) := of_decide_eq_true (by first | (with_reducible assumption) | assumption)
                                                      obtain ⟨ad262, e262, hx262_0, hx262_1, hx262_2⟩ := at_T51 HR0.out x65_4 p262 q262
                                                      (try rw [← Nbq42.out] at hx262_2)
                                                      obtain rfl : ad257 = ad262 := (by injection e262)
                                                      replace hx262_0 := (HB.out.cell (World.block_lt_of_cell? w _ hx262_0)).trans hx262_0
                                                      replace hx262_1 := (HB.out.cell (World.block_lt_of_cell? w _ hx262_1)).trans hx262_1
                                                      replace hx262_2 := (HB.out.cell (World.block_lt_of_cell? w _ hx262_2)).trans hx262_2
                                                      replace p262 := eq_true p262
                                                      replace q262 := eq_true q262
                                                      go_wp2
                                                      go_roundg kj31
                                                      case measure => have := HJ4.out; have := HJ18.out; have := HK3.out; have := HK4.out; have := HJ31.out; omega
                                                      case rel => exact ⟨(x7_4), (wrap64 (x65_4 + 1)), (by first | rfl | (simp; done) | (simp [*]; done)), H', ⟨by have := HJ4.out; have := HJ18.out; have := HK3.out; have := HK4.out; have := HJ31.out; omega⟩, ⟨by (with_reducible repeat (first | apply Kd.R_alloc | apply Kd.R_drewN | apply Kd.R_drew)); exact Kd.R_mono HO_7.out (fun _ hk => trivial)⟩, ⟨by repeat (first | (with_reducible first | exact HB.out | apply below_alloc | apply pw_below_drewN | apply below_drew1) | exact HB.out)⟩⟩
                                                · rw [if_neg c41] at H
                                                  exact absurd H (by simp)
                                              · rw [if_neg c40] at H
                                                exact absurd H (by simp)
                                            · rw [if_neg c39] at H
                                              have c39b0 : (t259 == 151) = false := beq_eq_false_iff_ne.mpr c39
                                              have c39b1 : (t259 != 151) = true := bne_iff_ne.mpr c39
                                              by_cases c50 : t259 = 152
                                              · rw [if_pos c50] at H
                                                have c50b0 : (t259 == 152) = true := beq_iff_eq.mpr c50
                                                have c50b1 : (t259 != 152) = false := bne_eq_false_iff_eq.mpr c50
                                                clear c50
                                                by_cases c51 : 0 ≤ x65_4
                                                · rw [if_pos c51] at H
                                                  have c51b0 : decide (0 ≤ x65_4) = true := decide_eq_true c51
                                                  clear c51
                                                  by_cases c52 : x65_4 < (l0.length : Int)
                                                  · rw [if_pos c52] at H
                                                    have c52b0 : decide (x65_4 < (l0.length : Int)) = true := decide_eq_true c52
                                                    clear c52
                                                    obtain ⟨bq53, hbq53⟩ : ∃ b_ : Bool, b_ = ((rd_T51 l0 x65_4).f2) := ⟨_, rfl⟩
                                                    replace H : (if (bq53 = true) then (sojournlaw15_DutyKept.l1 kj31 l0 x7_4 (rd l2 x59_3) l2 (l2.length : Int) x59_3 (l0.length : Int) (wrap64 (x65_4 + 1))) else (some false)) = some r := by rw [← hbq53] at H; exact H
                                                    have Nbq53 := Aside0.mk hbq53
                                                    clear hbq53
                                                    by_cases c54 : (bq53 = true)
                                                    · subst c54
                                                      have H1 : (sojournlaw15_DutyKept.l1 kj31 l0 x7_4 (rd l2 x59_3) l2 (l2.length : Int) x59_3 (l0.length : Int) (wrap64 (x65_4 + 1))) = some r := by rw [if_pos rfl] at H; exact H
                                                      clear H
                                                      have H := H1
                                                      clear H1
                                                      have H' := Aside0.mk H
                                                      clear H
                                                      obtain ⟨Ao55, co55, eo55⟩ := Kd.R_slice HO_15.out
                                                      subst eo55
                                                      have p264 : 0 ≤ (x65_4 : Int) := of_decide_eq_true (by first | (with_reducible assumption) | assumption)
                                                      have q264 : x65_4 < (l0.length : Int) := of_decide_eq_true (by first | (with_reducible assumption) | assumption)
                                                      obtain ⟨ad264, e264, hx264_0, hx264_1, hx264_2⟩ := at_T51 HR0.out x65_4 p264 q264
                                                      (try rw [← Nbq53.out] at hx264_2)
                                                      obtain rfl : ad257 = ad264 := (by injection e264)
                                                      replace hx264_0 := (HB.out.cell (World.block_lt_of_cell? w _ hx264_0)).trans hx264_0
                                                      replace hx264_1 := (HB.out.cell (World.block_lt_of_cell? w _ hx264_1)).trans hx264_1
                                                      replace hx264_2 := (HB.out.cell (World.block_lt_of_cell? w _ hx264_2)).trans hx264_2
                                                      replace p264 := eq_true p264
                                                      replace q264 := eq_true q264
                                                      go_wp2
                                                      go_roundg kj31
                                                      case measure => have := HJ4.out; have := HJ18.out; have := HK3.out; have := HK4.out; have := HJ31.out; omega
                                                      case rel => exact ⟨(x7_4), (wrap64 (x65_4 + 1)), (by first | rfl | (simp; done) | (simp [*]; done)), H', ⟨by have := HJ4.out; have := HJ18.out; have := HK3.out; have := HK4.out; have := HJ31.out; omega⟩, ⟨by (with_reducible repeat (first | apply Kd.R_alloc | apply Kd.R_drewN | apply Kd.R_drew)); exact Kd.R_mono HO_7.out (fun _ hk => trivial)⟩, ⟨by repeat (first | (with_reducible first | exact HB.out | apply below_alloc | apply pw_below_drewN | apply below_drew1) | exact HB.out)⟩⟩
                                                    · replace c54 := Bool.eq_false_iff.mpr c54
                                                      subst c54
                                                      have H1 : (some false) = some r := by rw [if_neg (show ¬ (false = true) by decide)] at H; exact H
                                                      clear H
                                                      have H := H1
                                                      clear H1
                                                      obtain rfl := Option.some.inj H
                                                      obtain ⟨Ao56, co56, eo56⟩ := Kd.R_slice HO_15.out
                                                      subst eo56
                                                      have p264 : 0 ≤ (x65_4 : Int) := of_decide_eq_true (by first | (with_reducible assumption) | assumption)
                                                      have q264 : x65_4 < (l0.length : Int) := of_decide_eq_true (by first | (with_reducible assumption) | assumption)
                                                      obtain ⟨ad264, e264, hx264_0, hx264_1, hx264_2⟩ := at_T51 HR0.out x65_4 p264 q264
                                                      (try rw [← Nbq53.out] at hx264_2)
                                                      obtain rfl : ad257 = ad264 := (by injection e264)
                                                      replace hx264_0 := (HB.out.cell (World.block_lt_of_cell? w _ hx264_0)).trans hx264_0
                                                      replace hx264_1 := (HB.out.cell (World.block_lt_of_cell? w _ hx264_1)).trans hx264_1
                                                      replace hx264_2 := (HB.out.cell (World.block_lt_of_cell? w _ hx264_2)).trans hx264_2
                                                      replace p264 := eq_true p264
                                                      replace q264 := eq_true q264
                                                      go_wp2
                                                      go_ret
                                                      exact ⟨by first | rfl | (simp [errW_none, errW_some] <;> rfl) | (simp [*, errW_none, errW_some] <;> rfl), by repeat (first | (with_reducible first | exact HB.out | apply below_alloc | apply pw_below_drewN | apply below_drew1) | exact HB.out)⟩
                                                  · rw [if_neg c52] at H
                                                    exact absurd H (by simp)
                                                · rw [if_neg c51] at H
                                                  exact absurd H (by simp)
                                              · rw [if_neg c50] at H
                                                have c50b0 : (t259 == 152) = false := beq_eq_false_iff_ne.mpr c50
                                                have c50b1 : (t259 != 152) = true := bne_iff_ne.mpr c50
                                                have H' := Aside0.mk H
                                                clear H
                                                obtain ⟨Ao57, co57, eo57⟩ := Kd.R_slice HO_15.out
                                                subst eo57
                                                go_wp2
                                                go_roundg kj31
                                                case measure => have := HJ4.out; have := HJ18.out; have := HK3.out; have := HK4.out; have := HJ31.out; omega
                                                case rel => exact ⟨(x7_4), (wrap64 (x65_4 + 1)), (by first | rfl | (simp; done) | (simp [*]; done)), H', ⟨by have := HJ4.out; have := HJ18.out; have := HK3.out; have := HK4.out; have := HJ31.out; omega⟩, ⟨by (with_reducible repeat (first | apply Kd.R_alloc | apply Kd.R_drewN | apply Kd.R_drew)); exact Kd.R_mono HO_7.out (fun _ hk => trivial)⟩, ⟨by repeat (first | (with_reducible first | exact HB.out | apply below_alloc | apply pw_below_drewN | apply below_drew1) | exact HB.out)⟩⟩
                                        · replace c36 := Bool.eq_false_iff.mpr c36
                                          subst c36
                                          have H1 : ((duty_Stand.f kj31 l0 t258).bind fun t265 => (if t259 = 0 then (sojournlaw15_DutyKept.j5 kj31 l0 (rd l2 x59_3) x65_4 t258 l2 (l2.length : Int) x59_3 (l0.length : Int) x65_4 (!t265)) else (sojournlaw15_DutyKept.j5 kj31 l0 (rd l2 x59_3) x65_4 t258 l2 (l2.length : Int) x59_3 (l0.length : Int) x65_4 true))) = some r := by rw [if_neg (show ¬ (false = true) by decide)] at H; exact H
                                          clear H
                                          have H := H1
                                          clear H1
                                          replace H := Option.bind_eq_some_iff.mp H
                                          obtain ⟨t265, A580, H⟩ := H
                                          replace H : (if t259 = 0 then (sojournlaw15_DutyKept.j5 kj31 l0 (rd l2 x59_3) x65_4 t258 l2 (l2.length : Int) x59_3 (l0.length : Int) x65_4 (!t265)) else (sojournlaw15_DutyKept.j5 kj31 l0 (rd l2 x59_3) x65_4 t258 l2 (l2.length : Int) x59_3 (l0.length : Int) x65_4 true)) = some r := H
                                          have A58 := Aside0.mk A580
                                          clear A580
                                          have HC59 := Aside0.mk H
                                          clear H
                                          obtain ⟨Ao60, co60, eo60⟩ := Kd.R_slice HO_15.out
                                          subst eo60
                                          go_upto_region 21 with (first | ((with_reducible refine gate_callee (f := 10) rfl ?_); refine goesL_ (some 114) rfl rfl Try.func10 (by kernel_rfl) rfl #[.slice (some ad257) l0.length c0, .slice Ao60 t258.length co60] rfl (by (try simp only [List.map_toArray, List.map_cons, List.map_nil]); first | done | rfl | (simp only [List.length_drop, List.length_take]; rfl)) ?_; (with_reducible refine (duty_Stand.calls kj31 _ _ l0 _ _ t258 t265 _ ?side1 ?side2 ?side3 ?side4 A58.out).mono ?_); (case side1 => repeat (first | exact (Kd.C_below HR0.out HB.out) | (with_reducible refine Kd.C_alloc ?_ _) | (with_reducible refine Kd.C_drewN ?_ _) | (with_reducible refine Kd.C_drew ?_))); (case side2 => exact HC0.out); (case side3 => repeat (first | exact (Kd.R_reads' HO_15.out).2.2 | (with_reducible refine Kd.C_alloc ?_ _) | (with_reducible refine Kd.C_drewN ?_ _) | (with_reducible refine Kd.C_drew ?_))); (case side4 => exact (Kd.R_reads' HO_15.out).2.1); rintro e w61 ⟨rfl, hb⟩; refine ⟨_, rfl, ?_⟩; have n0_ := Aside0.mk (Kd.R_below (by (with_reducible repeat (first | apply Kd.R_alloc | apply Kd.R_drewN | apply Kd.R_drew)); exact HO_7.out) hb); have n1_ := Aside0.mk (Kd.R_below (by (with_reducible repeat (first | apply Kd.R_alloc | apply Kd.R_drewN | apply Kd.R_drew)); exact HO_15.out) hb); have n2_ := Aside0.mk (below_step (by repeat (first | (with_reducible first | exact HB.out | apply below_alloc | apply pw_below_drewN | apply below_drew1) | exact HB.out)) hb); clear HO_7; clear HO_15; clear HB; have HO_7 := n0_; have HO_15 := n1_; have HB := n2_; clear n0_ n1_ n2_; (try clear hb); (try clear hb2); (try clear hk); (try clear hi)))
                                          (try simp only [Act.put, List.setIfInBounds_toArray, List.set_cons_zero, List.set_cons_succ])
                                          go_cut [120] (fun v120 wc => ∃ (kq : Nat) (x120_58 : Bool), v120 = .bool x120_58 ∧ Aside0 (sojournlaw15_DutyKept.j5 kq l0 (rd l2 x59_3) x65_4 t258 l2 (l2.length : Int) x59_3 (l0.length : Int) x65_4 x120_58 = some r) ∧ Aside0 (kq ≤ kj31) ∧ Aside0 (Kd.R k32 32 wc w.heap.size (fun _ => True) (.slice Ao60 t258.length co60) t258) ∧ Aside0 (Below w.heap.size w wc))
                                          case first =>
                                            have H := HC59.out
                                            clear HC59
                                            by_cases c62 : t259 = 0
                                            · rw [if_pos c62] at H
                                              have c62b0 : (t259 == 0) = true := beq_iff_eq.mpr c62
                                              have c62b1 : (t259 != 0) = false := bne_eq_false_iff_eq.mpr c62
                                              clear c62
                                              (first | rw [c62b0] | (simp only [i64_w, i32_w]; rw [c62b0]) | skip)
                                              have H' := Aside0.mk H
                                              clear H
                                              go_wp2
                                              go_meet
                                              case rel => exact ⟨_, (!t265), (by first | rfl | (simp; done) | (simp [*]; done)), H', ⟨by have := HJ4.out; have := HJ18.out; have := HK3.out; have := HK4.out; have := HJ31.out; first | omega | exact Nat.le_refl _⟩, ⟨by (with_reducible repeat (first | apply Kd.R_alloc | apply Kd.R_drewN | apply Kd.R_drew)); exact Kd.R_mono HO_15.out (fun _ hk => trivial)⟩, ⟨by repeat (first | (with_reducible first | exact HB.out | apply below_alloc | apply pw_below_drewN | apply below_drew1) | exact HB.out)⟩⟩
                                            · rw [if_neg c62] at H
                                              have c62b0 : (t259 == 0) = false := beq_eq_false_iff_ne.mpr c62
                                              have c62b1 : (t259 != 0) = true := bne_iff_ne.mpr c62
                                              (first | rw [c62b0] | (simp only [i64_w, i32_w]; rw [c62b0]) | skip)
                                              have H' := Aside0.mk H
                                              clear H
                                              go_wp2
                                              go_meet
                                              case rel => exact ⟨_, (true), (by first | rfl | (simp; done) | (simp [*]; done)), H', ⟨by have := HJ4.out; have := HJ18.out; have := HK3.out; have := HK4.out; have := HJ31.out; first | omega | exact Nat.le_refl _⟩, ⟨by (with_reducible repeat (first | apply Kd.R_alloc | apply Kd.R_drewN | apply Kd.R_drew)); exact Kd.R_mono HO_15.out (fun _ hk => trivial)⟩, ⟨by repeat (first | (with_reducible first | exact HB.out | apply below_alloc | apply pw_below_drewN | apply below_drew1) | exact HB.out)⟩⟩
                                          case rest =>
                                            clear HC59
                                            try clear c1
                                            try clear c2
                                            try clear p2
                                            try clear q2
                                            try clear hx2
                                            try clear c3
                                            try clear c4
                                            try clear q4
                                            try clear c5
                                            try clear q5
                                            try clear c6
                                            try clear p6
                                            try clear c8
                                            try clear c9
                                            try clear c9b0
                                            try clear c9b1
                                            try clear c9b2
                                            try clear c10
                                            try clear c11
                                            try clear c15
                                            try clear c16
                                            try clear c18
                                            try clear c20
                                            try clear c23
                                            try clear c24
                                            try clear c25
                                            try clear c25b0
                                            try clear p25
                                            try clear q25
                                            try clear hx25
                                            try clear c26
                                            try clear c26b0
                                            try clear p26
                                            try clear q26
                                            try clear hx26
                                            try clear c27
                                            try clear c27b0
                                            try clear c28
                                            try clear c28b0
                                            try clear c29
                                            try clear c29b0
                                            try clear c30
                                            try clear c30b0
                                            try clear c35
                                            try clear c35b0
                                            try clear c35b1
                                            try clear c36
                                            try clear c37
                                            try clear c37b0
                                            try clear c37b1
                                            try clear c39
                                            try clear c39b0
                                            try clear c39b1
                                            try clear c40
                                            try clear c40b0
                                            try clear c41
                                            try clear c41b0
                                            try clear q42
                                            try clear c43
                                            try clear c45
                                            try clear c45b0
                                            try clear c45b1
                                            try clear c46
                                            try clear c50
                                            try clear c50b0
                                            try clear c50b1
                                            try clear c51
                                            try clear c51b0
                                            try clear c52
                                            try clear c52b0
                                            try clear q53
                                            try clear c54
                                            try clear c62
                                            try clear c62b0
                                            try clear c62b1
                                            try clear hx256_0
                                            try clear hx257_0
                                            try clear hx257_1
                                            try clear hx257_2
                                            try clear hx262_0
                                            try clear hx262_1
                                            try clear hx262_2
                                            try clear hx263_0
                                            try clear hx263_1
                                            try clear hx263_2
                                            try clear hx264_0
                                            try clear hx264_1
                                            try clear hx264_2
                                            try clear p2
                                            try clear p25
                                            try clear p256
                                            try clear p257
                                            try clear p262
                                            try clear p263
                                            try clear p264
                                            try clear q2
                                            try clear q25
                                            try clear q256
                                            try clear q257
                                            try clear q262
                                            try clear q263
                                            try clear q264
                                            obtain ⟨kq, x120_58, rfl, HA, HJ58, HO_15, HB⟩ := hcut
                                            cases kq with
                                            | zero => exact absurd HA.out (by simp [sojournlaw15_DutyKept.j5])
                                            | succ kj58 =>
                                              have H := HA.out
                                              clear HA
                                              simp only [sojournlaw15_DutyKept.j5] at H
                                              by_cases c63 : x120_58 = true
                                              · subst c63
                                                have H1 : (some false) = some r := by rw [if_pos rfl] at H; exact H
                                                clear H
                                                have H := H1
                                                clear H1
                                                obtain rfl := Option.some.inj H
                                                go_wp2
                                                go_ret
                                                exact ⟨by first | rfl | (simp [errW_none, errW_some] <;> rfl) | (simp [*, errW_none, errW_some] <;> rfl), by repeat (first | (with_reducible first | exact HB.out | apply below_alloc | apply pw_below_drewN | apply below_drew1) | exact HB.out)⟩
                                              · replace c63 := Bool.eq_false_iff.mpr c63
                                                subst c63
                                                have H1 : (if 0 ≤ x65_4 then (if x65_4 < (l0.length : Int) then (if (rd_T51 l0 x65_4).f2 = true then (if x65_4 < (t258.length : Int) then (sojournlaw15_DutyKept.j6 kj58 l0 t258 (rd l2 x59_3) x65_4 l2 (l2.length : Int) x59_3 (l0.length : Int) x65_4 (decide (((rd_T32 t258 x65_4).f0) < (rd l2 x59_3)))) else (none)) else (sojournlaw15_DutyKept.j6 kj58 l0 t258 (rd l2 x59_3) x65_4 l2 (l2.length : Int) x59_3 (l0.length : Int) x65_4 false)) else (none)) else (none)) = some r := by rw [if_neg (show ¬ (false = true) by decide)] at H; exact H
                                                clear H
                                                have H := H1
                                                clear H1
                                                have HC64 := Aside0.mk H
                                                clear H
                                                go_upto_region 24 with (fail)
                                                go_cut [135] (fun v135 wc => ∃ (kq : Nat) (x135_63 : Bool), v135 = .bool x135_63 ∧ Aside0 (sojournlaw15_DutyKept.j6 kq l0 t258 (rd l2 x59_3) x65_4 l2 (l2.length : Int) x59_3 (l0.length : Int) x65_4 x135_63 = some r) ∧ Aside0 (kq ≤ kj58) ∧ Aside0 (Kd.R k32 32 wc w.heap.size (fun _ => True) (.slice Ao60 t258.length co60) t258) ∧ Aside0 (Below w.heap.size w wc))
                                                case first =>
                                                  have H := HC64.out
                                                  clear HC64
                                                  by_cases c65 : 0 ≤ x65_4
                                                  · rw [if_pos c65] at H
                                                    have c65b0 : decide (0 ≤ x65_4) = true := decide_eq_true c65
                                                    clear c65
                                                    (first | rw [c65b0] | (simp only [i64_w, i32_w]; rw [c65b0]) | skip)
                                                    by_cases c66 : x65_4 < (l0.length : Int)
                                                    · rw [if_pos c66] at H
                                                      have c66b0 : decide (x65_4 < (l0.length : Int)) = true := decide_eq_true c66
                                                      clear c66
                                                      obtain ⟨bq67, hbq67⟩ : ∃ b_ : Bool, b_ = ((rd_T51 l0 x65_4).f2) := ⟨_, rfl⟩
                                                      replace H : (if bq67 = true then (if x65_4 < (t258.length : Int) then (sojournlaw15_DutyKept.j6 kj58 l0 t258 (rd l2 x59_3) x65_4 l2 (l2.length : Int) x59_3 (l0.length : Int) x65_4 (decide (((rd_T32 t258 x65_4).f0) < (rd l2 x59_3)))) else (none)) else (sojournlaw15_DutyKept.j6 kj58 l0 t258 (rd l2 x59_3) x65_4 l2 (l2.length : Int) x59_3 (l0.length : Int) x65_4 false)) = some r := by rw [← hbq67] at H; exact H
                                                      have Nbq67 := Aside0.mk hbq67
                                                      clear hbq67
                                                      by_cases c68 : bq67 = true
                                                      · subst c68
                                                        have H1 : (if x65_4 < (t258.length : Int) then (sojournlaw15_DutyKept.j6 kj58 l0 t258 (rd l2 x59_3) x65_4 l2 (l2.length : Int) x59_3 (l0.length : Int) x65_4 (decide (((rd_T32 t258 x65_4).f0) < (rd l2 x59_3)))) else (none)) = some r := by rw [if_pos rfl] at H; exact H
                                                        clear H
                                                        have H := H1
                                                        clear H1
                                                        by_cases c69 : x65_4 < (t258.length : Int)
                                                        · rw [if_pos c69] at H
                                                          have c69b0 : decide (x65_4 < (t258.length : Int)) = true := decide_eq_true c69
                                                          clear c69
                                                          have H' := Aside0.mk H
                                                          clear H
                                                          have p266 : 0 ≤ (x65_4 : Int) := of_decide_eq_true (by first | (with_reducible assumption) | assumption)
                                                          have q266 : x65_4 < (l0.length : Int) := of_decide_eq_true (by first | (with_reducible assumption) | assumption)
                                                          obtain ⟨ad266, e266, hx266_0, hx266_1, hx266_2⟩ := at_T51 HR0.out x65_4 p266 q266
                                                          (try rw [← Nbq67.out] at hx266_2)
                                                          obtain rfl : ad257 = ad266 := (by injection e266)
                                                          replace hx266_0 := (HB.out.cell (World.block_lt_of_cell? w _ hx266_0)).trans hx266_0
                                                          replace hx266_1 := (HB.out.cell (World.block_lt_of_cell? w _ hx266_1)).trans hx266_1
                                                          replace hx266_2 := (HB.out.cell (World.block_lt_of_cell? w _ hx266_2)).trans hx266_2
                                                          replace p266 := eq_true p266
                                                          replace q266 := eq_true q266
                                                          have p267 : 0 ≤ (x65_4 : Int) := of_decide_eq_true (by first | (with_reducible assumption) | assumption)
                                                          have q267 : x65_4 < (t258.length : Int) := of_decide_eq_true (by first | (with_reducible assumption) | assumption)
                                                          obtain ⟨ad267, e267, hx267_0, hx267_1⟩ := at_T32 (Kd.R_reads' HO_15.out).2.2 x65_4 p267 q267
                                                          (try rw [← Nbq67.out] at hx267_1)
                                                          cases e267
                                                          replace p267 := eq_true p267
                                                          replace q267 := eq_true q267
                                                          go_wp2
                                                          go_meet
                                                          case rel => exact ⟨_, (decide (((rd_T32 t258 x65_4).f0) < (rd l2 x59_3))), (by first | rfl | (simp; done) | (simp [*]; done)), H', ⟨by have := HJ4.out; have := HJ18.out; have := HK3.out; have := HK4.out; have := HJ31.out; have := HJ58.out; first | omega | exact Nat.le_refl _⟩, ⟨by (with_reducible repeat (first | apply Kd.R_alloc | apply Kd.R_drewN | apply Kd.R_drew)); exact HO_15.out⟩, ⟨by repeat (first | (with_reducible first | exact HB.out | apply below_alloc | apply pw_below_drewN | apply below_drew1) | exact HB.out)⟩⟩
                                                        · rw [if_neg c69] at H
                                                          exact absurd H (by simp)
                                                      · replace c68 := Bool.eq_false_iff.mpr c68
                                                        subst c68
                                                        have H1 : (sojournlaw15_DutyKept.j6 kj58 l0 t258 (rd l2 x59_3) x65_4 l2 (l2.length : Int) x59_3 (l0.length : Int) x65_4 false) = some r := by rw [if_neg (show ¬ (false = true) by decide)] at H; exact H
                                                        clear H
                                                        have H := H1
                                                        clear H1
                                                        have H' := Aside0.mk H
                                                        clear H
                                                        have p266 : 0 ≤ (x65_4 : Int) := of_decide_eq_true (by first | (with_reducible assumption) | assumption)
                                                        have q266 : x65_4 < (l0.length : Int) := of_decide_eq_true (by first | (with_reducible assumption) | assumption)
                                                        obtain ⟨ad266, e266, hx266_0, hx266_1, hx266_2⟩ := at_T51 HR0.out x65_4 p266 q266
                                                        (try rw [← Nbq67.out] at hx266_2)
                                                        obtain rfl : ad257 = ad266 := (by injection e266)
                                                        replace hx266_0 := (HB.out.cell (World.block_lt_of_cell? w _ hx266_0)).trans hx266_0
                                                        replace hx266_1 := (HB.out.cell (World.block_lt_of_cell? w _ hx266_1)).trans hx266_1
                                                        replace hx266_2 := (HB.out.cell (World.block_lt_of_cell? w _ hx266_2)).trans hx266_2
                                                        replace p266 := eq_true p266
                                                        replace q266 := eq_true q266
                                                        go_wp2
                                                        go_meet
                                                        case rel => exact ⟨_, (false), (by first | rfl | (simp; done) | (simp [*]; done)), H', ⟨by have := HJ4.out; have := HJ18.out; have := HK3.out; have := HK4.out; have := HJ31.out; have := HJ58.out; first | omega | exact Nat.le_refl _⟩, ⟨by (with_reducible repeat (first | apply Kd.R_alloc | apply Kd.R_drewN | apply Kd.R_drew)); exact HO_15.out⟩, ⟨by repeat (first | (with_reducible first | exact HB.out | apply below_alloc | apply pw_below_drewN | apply below_drew1) | exact HB.out)⟩⟩
                                                    · rw [if_neg c66] at H
                                                      exact absurd H (by simp)
                                                  · rw [if_neg c65] at H
                                                    exact absurd H (by simp)
                                                case rest =>
                                                  clear HC64
                                                  try clear c1
                                                  try clear c2
                                                  try clear p2
                                                  try clear q2
                                                  try clear hx2
                                                  try clear c3
                                                  try clear c4
                                                  try clear q4
                                                  try clear c5
                                                  try clear q5
                                                  try clear c6
                                                  try clear p6
                                                  try clear q6
                                                  try clear c8
                                                  try clear c9
                                                  try clear c9b0
                                                  try clear c9b1
                                                  try clear c9b2
                                                  try clear c10
                                                  try clear c11
                                                  try clear c15
                                                  try clear c16
                                                  try clear c18
                                                  try clear c20
                                                  try clear c23
                                                  try clear c24
                                                  try clear c25
                                                  try clear c25b0
                                                  try clear p25
                                                  try clear q25
                                                  try clear hx25
                                                  try clear c26
                                                  try clear c26b0
                                                  try clear p26
                                                  try clear q26
                                                  try clear hx26
                                                  try clear c27
                                                  try clear c27b0
                                                  try clear c28
                                                  try clear c28b0
                                                  try clear c29
                                                  try clear c29b0
                                                  try clear c30
                                                  try clear c30b0
                                                  try clear c35
                                                  try clear c35b0
                                                  try clear c35b1
                                                  try clear c36
                                                  try clear c37
                                                  try clear c37b0
                                                  try clear c37b1
                                                  try clear c39
                                                  try clear c39b0
                                                  try clear c39b1
                                                  try clear c40
                                                  try clear c40b0
                                                  try clear c41
                                                  try clear c41b0
                                                  try clear q42
                                                  try clear c43
                                                  try clear c45
                                                  try clear c45b0
                                                  try clear c45b1
                                                  try clear c46
                                                  try clear c50
                                                  try clear c50b0
                                                  try clear c50b1
                                                  try clear c51
                                                  try clear c51b0
                                                  try clear c52
                                                  try clear c52b0
                                                  try clear q53
                                                  try clear c54
                                                  try clear c62
                                                  try clear c62b0
                                                  try clear c62b1
                                                  try clear c63
                                                  try clear p64
                                                  try clear c65
                                                  try clear c65b0
                                                  try clear c66
                                                  try clear c66b0
                                                  try clear q67
                                                  try clear c68
                                                  try clear c69
                                                  try clear c69b0
                                                  try clear hx256_0
                                                  try clear hx257_0
                                                  try clear hx257_1
                                                  try clear hx257_2
                                                  try clear hx262_0
                                                  try clear hx262_1
                                                  try clear hx262_2
                                                  try clear hx263_0
                                                  try clear hx263_1
                                                  try clear hx263_2
                                                  try clear hx264_0
                                                  try clear hx264_1
                                                  try clear hx264_2
                                                  try clear hx266_0
                                                  try clear hx266_1
                                                  try clear hx266_2
                                                  try clear hx267_0
                                                  try clear hx267_1
                                                  try clear p2
                                                  try clear p25
                                                  try clear p256
                                                  try clear p257
                                                  try clear p26
                                                  try clear p262
                                                  try clear p263
                                                  try clear p264
                                                  try clear p266
                                                  try clear p267
                                                  try clear p6
                                                  try clear q2
                                                  try clear q25
                                                  try clear q256
                                                  try clear q257
                                                  try clear q26
                                                  try clear q262
                                                  try clear q263
                                                  try clear q264
                                                  try clear q266
                                                  try clear q267
                                                  try clear q4
                                                  try clear q42
                                                  try clear q5
                                                  try clear q53
                                                  obtain ⟨kq, x135_63, rfl, HA, HJ63, HO_7, HB⟩ := hcut
                                                  cases kq with
                                                  | zero => exact absurd HA.out (by simp [sojournlaw15_DutyKept.j6])
                                                  | succ kj63 =>
                                                    have H := HA.out
                                                    clear HA
                                                    simp only [sojournlaw15_DutyKept.j6] at H
                                                    by_cases c70 : x135_63 = true
                                                    · subst c70
                                                      have H1 : (some false) = some r := by rw [if_pos rfl] at H; exact H
                                                      clear H
                                                      have H := H1
                                                      clear H1
                                                      obtain rfl := Option.some.inj H
                                                      go_wp2
                                                      go_ret
                                                      exact ⟨by first | rfl | (simp [errW_none, errW_some] <;> rfl) | (simp [*, errW_none, errW_some] <;> rfl), by repeat (first | (with_reducible first | exact HB.out | apply below_alloc | apply pw_below_drewN | apply below_drew1) | exact HB.out)⟩
                                                    · replace c70 := Bool.eq_false_iff.mpr c70
                                                      subst c70
                                                      have H1 : (if 0 ≤ x65_4 then (if x65_4 < (l0.length : Int) then (if ((rd_T51 l0 x65_4).f2 = true) then (sojournlaw15_DutyKept.l1 kj63 l0 t258 (rd l2 x59_3) l2 (l2.length : Int) x59_3 (l0.length : Int) (wrap64 (x65_4 + 1))) else (if x65_4 < (t258.length : Int) then (if ((rd_T32 t258 x65_4).f1 = true) then (sojournlaw15_DutyKept.l1 kj63 l0 t258 (rd l2 x59_3) l2 (l2.length : Int) x59_3 (l0.length : Int) (wrap64 (x65_4 + 1))) else (some false)) else (none))) else (none)) else (none)) = some r := by rw [if_neg (show ¬ (false = true) by decide)] at H; exact H
                                                      clear H
                                                      have H := H1
                                                      clear H1
                                                      by_cases c71 : 0 ≤ x65_4
                                                      · rw [if_pos c71] at H
                                                        have c71b0 : decide (0 ≤ x65_4) = true := decide_eq_true c71
                                                        clear c71
                                                        by_cases c72 : x65_4 < (l0.length : Int)
                                                        · rw [if_pos c72] at H
                                                          have c72b0 : decide (x65_4 < (l0.length : Int)) = true := decide_eq_true c72
                                                          clear c72
                                                          obtain ⟨bq73, hbq73⟩ : ∃ b_ : Bool, b_ = ((rd_T51 l0 x65_4).f2) := ⟨_, rfl⟩
                                                          replace H : (if (bq73 = true) then (sojournlaw15_DutyKept.l1 kj63 l0 t258 (rd l2 x59_3) l2 (l2.length : Int) x59_3 (l0.length : Int) (wrap64 (x65_4 + 1))) else (if x65_4 < (t258.length : Int) then (if ((rd_T32 t258 x65_4).f1 = true) then (sojournlaw15_DutyKept.l1 kj63 l0 t258 (rd l2 x59_3) l2 (l2.length : Int) x59_3 (l0.length : Int) (wrap64 (x65_4 + 1))) else (some false)) else (none))) = some r := by rw [← hbq73] at H; exact H
                                                          have Nbq73 := Aside0.mk hbq73
                                                          clear hbq73
                                                          by_cases c74 : (bq73 = true)
                                                          · subst c74
                                                            have H1 : (sojournlaw15_DutyKept.l1 kj63 l0 t258 (rd l2 x59_3) l2 (l2.length : Int) x59_3 (l0.length : Int) (wrap64 (x65_4 + 1))) = some r := by rw [if_pos rfl] at H; exact H
                                                            clear H
                                                            have H := H1
                                                            clear H1
                                                            have H' := Aside0.mk H
                                                            clear H
                                                            have p268 : 0 ≤ (x65_4 : Int) := of_decide_eq_true (by first | (with_reducible assumption) | assumption)
                                                            have q268 : x65_4 < (l0.length : Int) := of_decide_eq_true (by first | (with_reducible assumption) | assumption)
                                                            obtain ⟨ad268, e268, hx268_0, hx268_1, hx268_2⟩ := at_T51 HR0.out x65_4 p268 q268
                                                            (try rw [← Nbq73.out] at hx268_2)
                                                            obtain rfl : ad257 = ad268 := (by injection e268)
                                                            replace hx268_0 := (HB.out.cell (World.block_lt_of_cell? w _ hx268_0)).trans hx268_0
                                                            replace hx268_1 := (HB.out.cell (World.block_lt_of_cell? w _ hx268_1)).trans hx268_1
                                                            replace hx268_2 := (HB.out.cell (World.block_lt_of_cell? w _ hx268_2)).trans hx268_2
                                                            replace p268 := eq_true p268
                                                            replace q268 := eq_true q268
                                                            go_wp2
                                                            go_roundg kj63
                                                            case measure => have := HJ4.out; have := HJ18.out; have := HK3.out; have := HK4.out; have := HJ31.out; have := HJ58.out; have := HJ63.out; omega
                                                            case rel => exact ⟨(t258), (wrap64 (x65_4 + 1)), (by first | rfl | (simp; done) | (simp [*]; done)), H', ⟨by have := HJ4.out; have := HJ18.out; have := HK3.out; have := HK4.out; have := HJ31.out; have := HJ58.out; have := HJ63.out; omega⟩, ⟨by (with_reducible repeat (first | apply Kd.R_alloc | apply Kd.R_drewN | apply Kd.R_drew)); exact HO_7.out⟩, ⟨by repeat (first | (with_reducible first | exact HB.out | apply below_alloc | apply pw_below_drewN | apply below_drew1) | exact HB.out)⟩⟩
                                                          · replace c74 := Bool.eq_false_iff.mpr c74
                                                            subst c74
                                                            have H1 : (if x65_4 < (t258.length : Int) then (if ((rd_T32 t258 x65_4).f1 = true) then (sojournlaw15_DutyKept.l1 kj63 l0 t258 (rd l2 x59_3) l2 (l2.length : Int) x59_3 (l0.length : Int) (wrap64 (x65_4 + 1))) else (some false)) else (none)) = some r := by rw [if_neg (show ¬ (false = true) by decide)] at H; exact H
                                                            clear H
                                                            have H := H1
                                                            clear H1
                                                            by_cases c75 : x65_4 < (t258.length : Int)
                                                            · rw [if_pos c75] at H
                                                              have c75b0 : decide (x65_4 < (t258.length : Int)) = true := decide_eq_true c75
                                                              clear c75
                                                              obtain ⟨bq76, hbq76⟩ : ∃ b_ : Bool, b_ = ((rd_T32 t258 x65_4).f1) := ⟨_, rfl⟩
                                                              replace H : (if (bq76 = true) then (sojournlaw15_DutyKept.l1 kj63 l0 t258 (rd l2 x59_3) l2 (l2.length : Int) x59_3 (l0.length : Int) (wrap64 (x65_4 + 1))) else (some false)) = some r := by rw [← hbq76] at H; exact H
                                                              have Nbq76 := Aside0.mk hbq76
                                                              clear hbq76
                                                              by_cases c77 : (bq76 = true)
                                                              · subst c77
                                                                have H1 : (sojournlaw15_DutyKept.l1 kj63 l0 t258 (rd l2 x59_3) l2 (l2.length : Int) x59_3 (l0.length : Int) (wrap64 (x65_4 + 1))) = some r := by rw [if_pos rfl] at H; exact H
                                                                clear H
                                                                have H := H1
                                                                clear H1
                                                                have H' := Aside0.mk H
                                                                clear H
                                                                have p268 : 0 ≤ (x65_4 : Int) := of_decide_eq_true (by first | (with_reducible assumption) | assumption)
                                                                have q268 : x65_4 < (l0.length : Int) := of_decide_eq_true (by first | (with_reducible assumption) | assumption)
                                                                obtain ⟨ad268, e268, hx268_0, hx268_1, hx268_2⟩ := at_T51 HR0.out x65_4 p268 q268
                                                                (try rw [← Nbq73.out] at hx268_2)
                                                                (try rw [← Nbq76.out] at hx268_2)
                                                                obtain rfl : ad257 = ad268 := (by injection e268)
                                                                replace hx268_0 := (HB.out.cell (World.block_lt_of_cell? w _ hx268_0)).trans hx268_0
                                                                replace hx268_1 := (HB.out.cell (World.block_lt_of_cell? w _ hx268_1)).trans hx268_1
                                                                replace hx268_2 := (HB.out.cell (World.block_lt_of_cell? w _ hx268_2)).trans hx268_2
                                                                replace p268 := eq_true p268
                                                                replace q268 := eq_true q268
                                                                have p269 : 0 ≤ (x65_4 : Int) := of_decide_eq_true (by first | (with_reducible assumption) | assumption)
                                                                have q269 : x65_4 < (t258.length : Int) := of_decide_eq_true (by first | (with_reducible assumption) | assumption)
                                                                obtain ⟨ad269, e269, hx269_0, hx269_1⟩ := at_T32 (Kd.R_reads' HO_7.out).2.2 x65_4 p269 q269
                                                                (try rw [← Nbq73.out] at hx269_1)
                                                                (try rw [← Nbq76.out] at hx269_1)
                                                                cases e269
                                                                replace p269 := eq_true p269
                                                                replace q269 := eq_true q269
                                                                go_wp2
                                                                go_roundg kj63
                                                                case measure => have := HJ4.out; have := HJ18.out; have := HK3.out; have := HK4.out; have := HJ31.out; have := HJ58.out; have := HJ63.out; omega
                                                                case rel => exact ⟨(t258), (wrap64 (x65_4 + 1)), (by first | rfl | (simp; done) | (simp [*]; done)), H', ⟨by have := HJ4.out; have := HJ18.out; have := HK3.out; have := HK4.out; have := HJ31.out; have := HJ58.out; have := HJ63.out; omega⟩, ⟨by (with_reducible repeat (first | apply Kd.R_alloc | apply Kd.R_drewN | apply Kd.R_drew)); exact HO_7.out⟩, ⟨by repeat (first | (with_reducible first | exact HB.out | apply below_alloc | apply pw_below_drewN | apply below_drew1) | exact HB.out)⟩⟩
                                                              · replace c77 := Bool.eq_false_iff.mpr c77
                                                                subst c77
                                                                have H1 : (some false) = some r := by rw [if_neg (show ¬ (false = true) by decide)] at H; exact H
                                                                clear H
                                                                have H := H1
                                                                clear H1
                                                                obtain rfl := Option.some.inj H
                                                                have p268 : 0 ≤ (x65_4 : Int) := of_decide_eq_true (by first | (with_reducible assumption) | assumption)
                                                                have q268 : x65_4 < (l0.length : Int) := of_decide_eq_true (by first | (with_reducible assumption) | assumption)
                                                                obtain ⟨ad268, e268, hx268_0, hx268_1, hx268_2⟩ := at_T51 HR0.out x65_4 p268 q268
                                                                (try rw [← Nbq73.out] at hx268_2)
                                                                (try rw [← Nbq76.out] at hx268_2)
                                                                obtain rfl : ad257 = ad268 := (by injection e268)
                                                                replace hx268_0 := (HB.out.cell (World.block_lt_of_cell? w _ hx268_0)).trans hx268_0
                                                                replace hx268_1 := (HB.out.cell (World.block_lt_of_cell? w _ hx268_1)).trans hx268_1
                                                                replace hx268_2 := (HB.out.cell (World.block_lt_of_cell? w _ hx268_2)).trans hx268_2
                                                                replace p268 := eq_true p268
                                                                replace q268 := eq_true q268
                                                                have p269 : 0 ≤ (x65_4 : Int) := of_decide_eq_true (by first | (with_reducible assumption) | assumption)
                                                                have q269 : x65_4 < (t258.length : Int) := of_decide_eq_true (by first | (with_reducible assumption) | assumption)
                                                                obtain ⟨ad269, e269, hx269_0, hx269_1⟩ := at_T32 (Kd.R_reads' HO_7.out).2.2 x65_4 p269 q269
                                                                (try rw [← Nbq73.out] at hx269_1)
                                                                (try rw [← Nbq76.out] at hx269_1)
                                                                cases e269
                                                                replace p269 := eq_true p269
                                                                replace q269 := eq_true q269
                                                                go_wp2
                                                                go_ret
                                                                exact ⟨by first | rfl | (simp [errW_none, errW_some] <;> rfl) | (simp [*, errW_none, errW_some] <;> rfl), by repeat (first | (with_reducible first | exact HB.out | apply below_alloc | apply pw_below_drewN | apply below_drew1) | exact HB.out)⟩
                                                            · rw [if_neg c75] at H
                                                              exact absurd H (by simp)
                                                        · rw [if_neg c72] at H
                                                          exact absurd H (by simp)
                                                      · rw [if_neg c71] at H
                                                        exact absurd H (by simp)
                                  · rw [if_neg c30] at H
                                    exact absurd H (by simp)
                                · rw [if_neg c29] at H
                                  exact absurd H (by simp)
                              · rw [if_neg c28] at H
                                have c28b0 : decide (x65_4 < (l0.length : Int)) = false := decide_eq_false c28
                                clear c28
                                have H' := Aside0.mk H
                                clear H
                                go_wp2
                                go_roundg k4
                                case measure => have := HJ4.out; have := HJ18.out; have := HK3.out; have := HK4.out; omega
                                case rel => exact ⟨(x7_4), (wrap64 (x59_3 + 1)), (by first | rfl | (simp; done) | (simp [*]; done)), H', ⟨by have := HJ4.out; have := HJ18.out; have := HK3.out; have := HK4.out; omega⟩, ⟨by (with_reducible repeat (first | apply Kd.R_alloc | apply Kd.R_drewN | apply Kd.R_drew)); exact HO_7.out⟩, ⟨by repeat (first | (with_reducible first | exact HB.out | apply below_alloc | apply pw_below_drewN | apply below_drew1) | exact HB.out)⟩⟩
                        · rw [if_neg c27] at H
                          exact absurd H (by simp)
                      · rw [if_neg c26] at H
                        exact absurd H (by simp)
                    · rw [if_neg c25] at H
                      have c25b0 : decide (x59_3 < (l2.length : Int)) = false := decide_eq_false c25
                      clear c25
                      obtain rfl := Option.some.inj H
                      go_wp2
                      go_ret
                      exact ⟨by first | rfl | (simp [errW_none, errW_some] <;> rfl) | (simp [*, errW_none, errW_some] <;> rfl), by repeat (first | (with_reducible first | exact HB.out | apply below_alloc | apply pw_below_drewN | apply below_drew1) | exact HB.out)⟩
        · replace c16 := Bool.eq_false_iff.mpr c16
          subst c16
          have H1 : (some ((t248.length : Int) == 0)) = some r := by rw [if_neg (show ¬ (false = true) by decide)] at H; exact H
          clear H
          have H := H1
          clear H1
          obtain rfl := Option.some.inj H
          obtain ⟨Ao78, co78, eo78⟩ := Kd.R_slice HO_7.out
          subst eo78
          go_wp2
          go_ret
          exact ⟨by first | rfl | (simp [errW_none, errW_some] <;> rfl) | (simp [*, errW_none, errW_some] <;> rfl), by repeat (first | (with_reducible first | exact HB.out | apply below_alloc | apply pw_below_drewN | apply below_drew1) | exact HB.out)⟩

end Go.Proofs.Ytgphdeelangkfaa.PDuty
