/-
  Sub takes back what Add gave; Add and Mul do not tell their numbers apart; a number and its contrary are 0. A statement over whole numbers alone; every pair or triple of 64-bit numbers: no condition.
-/
import Derived.Test.YtbmiobkjkhechaaPNumTakesBackx1
import Derived.Test.YtbmiobkjkhechaaPlain
namespace Go.Proofs.Ytbmiobkjkhechaa.Pure
open Go.RowKit Go.Proofs.Ytbmiobkjkhechaa.PNumTakesBack Go.Proofs.YtbmiobkjkhechaaW.PrintWords Go.Proofs.YtbmiobkjkhechaaW.PrintLast Go.Proofs.YtbmiobkjkhechaaPlain

namespace Tak
theorem add_yes {a b : Int} (ha : In a) (hb : In b) (h : In (a + b)) : num_Add.f a b = some (a + b, true) := by
  unfold In at *
  unfold num_Add.f
  have e1 : wrap64 (a + b) = a + b := by unfold wrap64; omega
  rw [e1]
  unfold wrap64
  repeat' split
  all_goals first | rfl | omega
theorem add_no {a b : Int} (ha : In a) (hb : In b) (h : ¬ In (a + b)) : num_Add.f a b = some (0, false) := by
  unfold In at *
  unfold num_Add.f wrap64
  repeat' split
  all_goals first | rfl | omega
theorem sub_yes {a b : Int} (ha : In a) (hb : In b) (h : In (a - b)) : num_Sub.f a b = some (a - b, true) := by
  unfold In at *
  unfold num_Sub.f
  have e1 : wrap64 (a - b) = a - b := by unfold wrap64; omega
  rw [e1]
  unfold wrap64
  repeat' split
  all_goals first | rfl | omega
theorem neg_yes {a : Int} (ha : In a) (h : a ≠ -9223372036854775808) : num_Neg.f a = some (-a, true) := by
  unfold num_Neg.f
  rw [if_neg h, wrap_of (by unfold In at *; omega)]
theorem neg_no {a : Int} (h : a = -9223372036854775808) : num_Neg.f a = some (0, false) := by
  unfold num_Neg.f
  rw [if_pos h]
theorem mul_all {a b : Int} (k : Nat) (ha : In a) (hb : In b) : (In (a * b) → num_Mul.f (k + 1) a b = some (a * b, true)) ∧ (¬ In (a * b) → num_Mul.f (k + 1) a b = some (0, false)) := by
  unfold num_Mul.f
  by_cases h0 : a = 0
  · rw [if_pos h0]; subst h0
    refine ⟨fun _ => by simp [num_Mul.j0], fun h => ?_⟩
    exfalso; apply h; unfold In; simp
  rw [if_neg h0]
  by_cases hb0 : b = 0
  · subst hb0
    refine ⟨fun _ => by simp [num_Mul.j0], fun h => ?_⟩
    exfalso; apply h; unfold In; simp
  have e0 : (b == 0) = false := by simp [hb0]
  rw [e0]
  simp only [num_Mul.j0]
  rw [if_neg (by simp)]
  by_cases h1 : a = -1
  · rw [if_pos h1]; subst h1
    rw [show (-1 : Int) * b = -b from by omega]
    by_cases hm : b = -9223372036854775808
    · rw [neg_no hm]
      refine ⟨fun h => ?_, fun _ => rfl⟩
      exfalso; unfold In at h; omega
    · rw [neg_yes hb hm]
      refine ⟨fun _ => rfl, fun h => ?_⟩
      exfalso; apply h; unfold In at *; omega
  rw [if_neg h1, if_neg h0]
  have hk := mul_back ha hb h0 h1
  constructor
  · intro h
    rw [if_pos (hk.2 h), wrap_of h]
  · intro h
    rw [if_neg (fun e => h (hk.1 e))]
theorem mul_yes {a b : Int} (k : Nat) (ha : In a) (hb : In b) (h : In (a * b)) : num_Mul.f (k + 1) a b = some (a * b, true) := (mul_all k ha hb).1 h
theorem mul_no {a b : Int} (k : Nat) (ha : In a) (hb : In b) (h : ¬ In (a * b)) : num_Mul.f (k + 1) a b = some (0, false) := (mul_all k ha hb).2 h
end Tak
open Tak
theorem tail1 {a : Int} (ha : In a) : sojournlaw01_NumTakesBack.j1 2 a = some true := by
  simp only [sojournlaw01_NumTakesBack.j1]
  by_cases hm : a = -9223372036854775808
  · rw [neg_no hm]; subst hm; rfl
  · rw [neg_yes ha hm]
    simp only [Option.bind_some, if_true]
    rw [add_yes ha (by unfold In at *; omega) (by unfold In at *; omega)]
    simp [Int.add_right_neg]
theorem NumTakesBack : sojournlaw01_NumTakesBack.Pure := by
  intro a b wa wb
  have ha := In.of_wf wa
  have hb := In.of_wf wb
  refine ⟨3, ?_⟩
  unfold sojournlaw01_NumTakesBack.f
  have hmul : ∃ r, num_Mul.f 3 a b = some r ∧ num_Mul.f 3 b a = some r := by
    by_cases hx : In (a * b)
    · exact ⟨_, mul_yes 2 ha hb hx, by rw [mul_yes 2 hb ha (by rw [Int.mul_comm]; exact hx), Int.mul_comm]⟩
    · exact ⟨_, mul_no 2 ha hb hx, mul_no 2 hb ha (by rw [Int.mul_comm]; exact hx)⟩
  obtain ⟨r, h1, h2⟩ := hmul
  rw [h1, h2]
  by_cases hs : In (a + b)
  · rw [add_yes ha hb hs, add_yes hb ha (by rw [Int.add_comm]; exact hs), Int.add_comm b a]
    simp only [Option.bind_some, bne_self_eq_false, Bool.false_eq_true, if_true, if_false]
    simp only [sojournlaw01_NumTakesBack.j0, Bool.false_eq_true, if_true, if_false]
    rw [sub_yes hs hb (by rw [Int.add_sub_cancel]; exact ha), Int.add_sub_cancel]
    simp [tail1 ha]
  · rw [add_no ha hb hs, add_no hb ha (by rw [Int.add_comm]; exact hs)]
    simp only [Option.bind_some, bne_self_eq_false, Bool.false_eq_true, if_true, if_false]
    simp [sojournlaw01_NumTakesBack.j0, tail1 ha]

end Go.Proofs.Ytbmiobkjkhechaa.Pure
