/-
  Quotient, divisor and rest make the number; the rest is near, with its sign. A statement over whole numbers alone; every pair or triple of 64-bit numbers: no condition.
-/
import Derived.Test.YtbmiobkjkhechaaPNumSharesx2
import Derived.Test.YtbmiobkjkhechaaPlain
namespace Go.Proofs.Ytbmiobkjkhechaa.Pure
open Go.RowKit Go.Proofs.Ytbmiobkjkhechaa.PNumShares Go.Proofs.YtbmiobkjkhechaaW.PrintWords Go.Proofs.YtbmiobkjkhechaaW.PrintLast Go.Proofs.YtbmiobkjkhechaaPlain

namespace Sha
theorem add_yes {a b : Int} (ha : In a) (hb : In b) (h : In (a + b)) : num_Add.f a b = some (a + b, true) := by
  unfold In at *
  unfold num_Add.f
  have e1 : wrap64 (a + b) = a + b := by unfold wrap64; omega
  rw [e1]
  unfold wrap64
  repeat' split
  all_goals first | rfl | omega
theorem add_no {a b : Int} (ha : In a) (hb : In b) (h : ¬ In (a + b)) : num_Add.f a b = some (0, false) := by
  unfold In at *
  unfold num_Add.f wrap64
  repeat' split
  all_goals first | rfl | omega
theorem neg_yes {a : Int} (ha : In a) (h : a ≠ -9223372036854775808) : num_Neg.f a = some (-a, true) := by
  unfold num_Neg.f
  rw [if_neg h, wrap_of (by unfold In at *; omega)]
theorem neg_no {a : Int} (h : a = -9223372036854775808) : num_Neg.f a = some (0, false) := by
  unfold num_Neg.f
  rw [if_pos h]
theorem mul_all {a b : Int} (k : Nat) (ha : In a) (hb : In b) : (In (a * b) → num_Mul.f (k + 1) a b = some (a * b, true)) ∧ (¬ In (a * b) → num_Mul.f (k + 1) a b = some (0, false)) := by
  unfold num_Mul.f
  by_cases h0 : a = 0
  · rw [if_pos h0]; subst h0
    refine ⟨fun _ => by simp [num_Mul.j0], fun h => ?_⟩
    exfalso; apply h; unfold In; simp
  rw [if_neg h0]
  by_cases hb0 : b = 0
  · subst hb0
    refine ⟨fun _ => by simp [num_Mul.j0], fun h => ?_⟩
    exfalso; apply h; unfold In; simp
  have e0 : (b == 0) = false := by simp [hb0]
  rw [e0]
  simp only [num_Mul.j0]
  rw [if_neg (by simp)]
  by_cases h1 : a = -1
  · rw [if_pos h1]; subst h1
    rw [show (-1 : Int) * b = -b from by omega]
    by_cases hm : b = -9223372036854775808
    · rw [neg_no hm]
      refine ⟨fun h => ?_, fun _ => rfl⟩
      exfalso; unfold In at h; omega
    · rw [neg_yes hb hm]
      refine ⟨fun _ => rfl, fun h => ?_⟩
      exfalso; apply h; unfold In at *; omega
  rw [if_neg h1, if_neg h0]
  have hk := mul_back ha hb h0 h1
  constructor
  · intro h
    rw [if_pos (hk.2 h), wrap_of h]
  · intro h
    rw [if_neg (fun e => h (hk.1 e))]
theorem mul_yes {a b : Int} (k : Nat) (ha : In a) (hb : In b) (h : In (a * b)) : num_Mul.f (k + 1) a b = some (a * b, true) := (mul_all k ha hb).1 h
theorem mul_no {a b : Int} (k : Nat) (ha : In a) (hb : In b) (h : ¬ In (a * b)) : num_Mul.f (k + 1) a b = some (0, false) := (mul_all k ha hb).2 h
end Sha
open Sha
theorem div_zero (a : Int) : num_Div.f a 0 = some (0, 4) := rfl
theorem mod_zero (a : Int) : num_Mod.f a 0 = some (0, 4) := rfl
theorem NumShares : sojournlaw01_NumShares.Pure := by
  intro a b wa wb
  have ha := In.of_wf wa
  have hb := In.of_wf wb
  refine ⟨1, ?_⟩
  by_cases hb0 : b = 0
  · subst hb0; unfold sojournlaw01_NumShares.f; rw [div_zero, mod_zero]; rfl
  by_cases hx : a = -9223372036854775808 ∧ b = -1
  · obtain ⟨rfl, rfl⟩ := hx; decide +kernel
  have hq0 := Int.mul_tdiv_add_tmod a b
  have hm : (a.tmod b).natAbs < b.natAbs := by
    rw [Int.natAbs_tmod]; exact Nat.mod_lt _ (by omega)
  have hma : (a.tmod b).natAbs ≤ a.natAbs := by rw [Int.natAbs_tmod]; exact Nat.mod_le _ _
  have hq : In (a.tdiv b) := by
    have e : (a.tdiv b).natAbs = a.natAbs / b.natAbs := Int.natAbs_tdiv a b
    unfold In at *
    by_cases b1 : b = 1
    · subst b1; simp at e ⊢; omega
    by_cases b2 : b = -1
    · subst b2; rw [Int.tdiv_neg, Int.tdiv_one]; omega
    · have : a.natAbs / b.natAbs ≤ a.natAbs / 2 := Nat.div_le_div_left (by omega) (by omega)
      omega
  have hs : (0 ≤ a → 0 ≤ a.tmod b) ∧ (a ≤ 0 → a.tmod b ≤ 0) := by
    refine ⟨fun h => Int.tmod_nonneg _ h, fun h => ?_⟩
    have := Int.tmod_nonneg b (show 0 ≤ -a from by omega)
    rw [Int.neg_tmod] at this
    omega
  have hd : num_Div.f a b = some (a.tdiv b, 0) := by
    unfold num_Div.f
    rw [if_neg hb0, wrap_of hq]
    split
    · split
      · omega
      · rfl
    · rfl
  have hr : num_Mod.f a b = some (a.tmod b, 0) := by
    unfold num_Mod.f
    rw [if_neg hb0]
    split
    · rename_i h; subst h; rw [Int.tmod_neg, Int.tmod_one]
    · rfl
  have hmul : num_Mul.f 1 (a.tdiv b) b = some (a.tdiv b * b, true) := mul_yes 0 hq hb (by
    rw [Int.mul_comm]; unfold In at *; omega)
  have hadd : num_Add.f (a.tdiv b * b) (a.tmod b) = some (a, true) := by
    rw [Int.mul_comm, add_yes (by unfold In at *; omega) (by unfold In at *; omega) (by rw [hq0]; exact ha), hq0]
  have hw : b ≠ -9223372036854775808 → wrap64 (-b) = -b := fun h => wrap_of (by unfold In at *; omega)
  unfold sojournlaw01_NumShares.f
  rw [hd, hr]
  simp only [Option.bind_some]
  simp only [if_neg hb0, if_true, hmul, Option.bind_some, hadd]
  clear hd hr hmul hadd hq0
  generalize a.tmod b = r at *
  unfold In at *
  by_cases hmin : b = -9223372036854775808
  · subst hmin
    repeat' split
    all_goals first | rfl | (exfalso; omega) | (simp; omega)
  · rw [hw hmin]
    repeat' split
    all_goals first | rfl | (exfalso; omega) | (simp; omega)

end Go.Proofs.Ytbmiobkjkhechaa.Pure
