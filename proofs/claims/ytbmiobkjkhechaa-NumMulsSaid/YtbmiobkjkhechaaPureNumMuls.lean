/-
  Every Mul and Neg is the document's. A statement over whole numbers alone; every pair of 64-bit numbers: no condition.
-/
import Derived.Test.YtbmiobkjkhechaaPSumsx3
import Derived.Test.YtbmiobkjkhechaaPlain
namespace Go.Proofs.Ytbmiobkjkhechaa.Pure
open Go.RowKit Go.Proofs.Ytbmiobkjkhechaa.PSums Go.Proofs.YtbmiobkjkhechaaW.PrintWords Go.Proofs.YtbmiobkjkhechaaW.PrintLast Go.Proofs.YtbmiobkjkhechaaPlain

namespace Mls
theorem neg_yes {a : Int} (ha : In a) (h : a ≠ -9223372036854775808) : num_Neg.f a = some (-a, true) := by
  unfold num_Neg.f
  rw [if_neg h, wrap_of (by unfold In at *; omega)]
theorem neg_no {a : Int} (h : a = -9223372036854775808) : num_Neg.f a = some (0, false) := by
  unfold num_Neg.f
  rw [if_pos h]
theorem mul_all {a b : Int} (k : Nat) (ha : In a) (hb : In b) : (In (a * b) → num_Mul.f (k + 1) a b = some (a * b, true)) ∧ (¬ In (a * b) → num_Mul.f (k + 1) a b = some (0, false)) := by
  unfold num_Mul.f
  by_cases h0 : a = 0
  · rw [if_pos h0]; subst h0
    refine ⟨fun _ => by simp [num_Mul.j0], fun h => ?_⟩
    exfalso; apply h; unfold In; simp
  rw [if_neg h0]
  by_cases hb0 : b = 0
  · subst hb0
    refine ⟨fun _ => by simp [num_Mul.j0], fun h => ?_⟩
    exfalso; apply h; unfold In; simp
  have e0 : (b == 0) = false := by simp [hb0]
  rw [e0]
  simp only [num_Mul.j0]
  rw [if_neg (by simp)]
  by_cases h1 : a = -1
  · rw [if_pos h1]; subst h1
    rw [show (-1 : Int) * b = -b from by omega]
    by_cases hm : b = -9223372036854775808
    · rw [neg_no hm]
      refine ⟨fun h => ?_, fun _ => rfl⟩
      exfalso; unfold In at h; omega
    · rw [neg_yes hb hm]
      refine ⟨fun _ => rfl, fun h => ?_⟩
      exfalso; apply h; unfold In at *; omega
  rw [if_neg h1, if_neg h0]
  have hk := mul_back ha hb h0 h1
  constructor
  · intro h
    rw [if_pos (hk.2 h), wrap_of h]
  · intro h
    rw [if_neg (fun e => h (hk.1 e))]
theorem mul_yes {a b : Int} (k : Nat) (ha : In a) (hb : In b) (h : In (a * b)) : num_Mul.f (k + 1) a b = some (a * b, true) := (mul_all k ha hb).1 h
theorem mul_no {a b : Int} (k : Nat) (ha : In a) (hb : In b) (h : ¬ In (a * b)) : num_Mul.f (k + 1) a b = some (0, false) := (mul_all k ha hb).2 h
end Mls
open Mls
open Go.Proofs.Ytbmiobkjkhechaa.Hand in
theorem NumMuls : sojournlaw01_NumMuls.Pure := by
  intro a b wa wb
  have ha := In.of_wf wa
  have hb := In.of_wf wb
  have g1 : sojournref01_Mul.f a b = some (pairV (a * b)) := by unfold sojournref01_Mul.f; rw [inr_in ha, inr_in hb]
  have g2 : sojournref01_Neg.f a = some (pairV (-a)) := by unfold sojournref01_Neg.f; rw [inr_in ha]
  have h1 : num_Mul.f 1 a b = sojournref01_Mul.f a b := by
    rw [g1]
    by_cases h : In (a * b)
    · rw [mul_yes 0 ha hb h, pairV_in h]
    · rw [mul_no 0 ha hb h, pairV_out h]
  have h2 : num_Neg.f a = sojournref01_Neg.f a := by
    rw [g2]
    by_cases h : a = -9223372036854775808
    · rw [neg_no h, pairV_out (by unfold In; omega)]
    · rw [neg_yes ha h, pairV_in (by unfold In at *; omega)]
  refine ⟨1, ?_⟩
  unfold sojournlaw01_NumMuls.f
  rw [h1, h2, g1, g2]
  simp

end Go.Proofs.Ytbmiobkjkhechaa.Pure
