/-
  A sum times a number is the sum of the products where these fit. A statement over whole numbers alone; every pair or triple of 64-bit numbers: no condition.
-/
import Derived.Test.YtbmiobkjkhechaaPNumSpreadsx1
import Derived.Test.YtbmiobkjkhechaaPlain
namespace Go.Proofs.Ytbmiobkjkhechaa.Pure
open Go.RowKit Go.Proofs.Ytbmiobkjkhechaa.PNumSpreads Go.Proofs.YtbmiobkjkhechaaW.PrintWords Go.Proofs.YtbmiobkjkhechaaW.PrintLast Go.Proofs.YtbmiobkjkhechaaPlain

namespace Spr
theorem add_yes {a b : Int} (ha : In a) (hb : In b) (h : In (a + b)) : num_Add.f a b = some (a + b, true) := by
  unfold In at *
  unfold num_Add.f
  have e1 : wrap64 (a + b) = a + b := by unfold wrap64; omega
  rw [e1]
  unfold wrap64
  repeat' split
  all_goals first | rfl | omega
theorem add_no {a b : Int} (ha : In a) (hb : In b) (h : ¬ In (a + b)) : num_Add.f a b = some (0, false) := by
  unfold In at *
  unfold num_Add.f wrap64
  repeat' split
  all_goals first | rfl | omega
theorem neg_yes {a : Int} (ha : In a) (h : a ≠ -9223372036854775808) : num_Neg.f a = some (-a, true) := by
  unfold num_Neg.f
  rw [if_neg h, wrap_of (by unfold In at *; omega)]
theorem neg_no {a : Int} (h : a = -9223372036854775808) : num_Neg.f a = some (0, false) := by
  unfold num_Neg.f
  rw [if_pos h]
theorem mul_all {a b : Int} (k : Nat) (ha : In a) (hb : In b) : (In (a * b) → num_Mul.f (k + 1) a b = some (a * b, true)) ∧ (¬ In (a * b) → num_Mul.f (k + 1) a b = some (0, false)) := by
  unfold num_Mul.f
  by_cases h0 : a = 0
  · rw [if_pos h0]; subst h0
    refine ⟨fun _ => by simp [num_Mul.j0], fun h => ?_⟩
    exfalso; apply h; unfold In; simp
  rw [if_neg h0]
  by_cases hb0 : b = 0
  · subst hb0
    refine ⟨fun _ => by simp [num_Mul.j0], fun h => ?_⟩
    exfalso; apply h; unfold In; simp
  have e0 : (b == 0) = false := by simp [hb0]
  rw [e0]
  simp only [num_Mul.j0]
  rw [if_neg (by simp)]
  by_cases h1 : a = -1
  · rw [if_pos h1]; subst h1
    rw [show (-1 : Int) * b = -b from by omega]
    by_cases hm : b = -9223372036854775808
    · rw [neg_no hm]
      refine ⟨fun h => ?_, fun _ => rfl⟩
      exfalso; unfold In at h; omega
    · rw [neg_yes hb hm]
      refine ⟨fun _ => rfl, fun h => ?_⟩
      exfalso; apply h; unfold In at *; omega
  rw [if_neg h1, if_neg h0]
  have hk := mul_back ha hb h0 h1
  constructor
  · intro h
    rw [if_pos (hk.2 h), wrap_of h]
  · intro h
    rw [if_neg (fun e => h (hk.1 e))]
theorem mul_yes {a b : Int} (k : Nat) (ha : In a) (hb : In b) (h : In (a * b)) : num_Mul.f (k + 1) a b = some (a * b, true) := (mul_all k ha hb).1 h
theorem mul_no {a b : Int} (k : Nat) (ha : In a) (hb : In b) (h : ¬ In (a * b)) : num_Mul.f (k + 1) a b = some (0, false) := (mul_all k ha hb).2 h
end Spr
open Spr
theorem NumSpreads : sojournlaw01_NumSpreads.Pure := by
  intro a b c wa wb wc
  have ha := In.of_wf wa
  have hb := In.of_wf wb
  have hc := In.of_wf wc
  refine ⟨3, ?_⟩
  have h11 : num_Add.f 1 1 = some (2, true) := by rw [add_yes (by unfold In; omega) (by unfold In; omega) (by unfold In; omega)]; rfl
  unfold sojournlaw01_NumSpreads.f
  by_cases hs : In (a + b)
  · rw [add_yes ha hb hs]
    by_cases hx : In (a * c)
    · rw [mul_yes 2 ha hc hx]
      by_cases hy : In (b * c)
      · rw [mul_yes 2 hb hc hy, h11]
        have e : (a + b) * c = a * c + b * c := Int.add_mul a b c
        by_cases ht : In (a * c + b * c)
        · simp [sojournlaw01_NumSpreads.j0, sojournlaw01_NumSpreads.j1, mul_yes 0 hs hc (by rw [e]; exact ht), add_yes hx hy ht, e]
        · simp [sojournlaw01_NumSpreads.j0, sojournlaw01_NumSpreads.j1, mul_no 0 hs hc (by rw [e]; exact ht), add_no hx hy ht]
      · rw [mul_no 2 hb hc hy, h11]
        simp [sojournlaw01_NumSpreads.j0, sojournlaw01_NumSpreads.j1]
    · rw [mul_no 2 ha hc hx, h11]
      rcases Classical.em (In (b * c)) with hy | hy
      · rw [mul_yes 2 hb hc hy]; simp [sojournlaw01_NumSpreads.j0, sojournlaw01_NumSpreads.j1]
      · rw [mul_no 2 hb hc hy]; simp [sojournlaw01_NumSpreads.j0, sojournlaw01_NumSpreads.j1]
  · rw [add_no ha hb hs, h11]
    rcases Classical.em (In (a * c)) with hx | hx <;> rcases Classical.em (In (b * c)) with hy | hy
    · rw [mul_yes 2 ha hc hx, mul_yes 2 hb hc hy]; simp [sojournlaw01_NumSpreads.j0, sojournlaw01_NumSpreads.j1]
    · rw [mul_yes 2 ha hc hx, mul_no 2 hb hc hy]; simp [sojournlaw01_NumSpreads.j0, sojournlaw01_NumSpreads.j1]
    · rw [mul_no 2 ha hc hx, mul_yes 2 hb hc hy]; simp [sojournlaw01_NumSpreads.j0, sojournlaw01_NumSpreads.j1]
    · rw [mul_no 2 ha hc hx, mul_no 2 hb hc hy]; simp [sojournlaw01_NumSpreads.j0, sojournlaw01_NumSpreads.j1]

end Go.Proofs.Ytbmiobkjkhechaa.Pure
