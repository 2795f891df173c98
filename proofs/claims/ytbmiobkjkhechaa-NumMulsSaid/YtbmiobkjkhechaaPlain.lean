/-
  The plain laws of chapter 01: products, sums and quotients of 64 bits. Numbers alone: no program in sight.
-/
import Derived.RowKit
namespace Go.Proofs.YtbmiobkjkhechaaPlain
open Go.RowKit
def In (x : Int) : Prop := -9223372036854775808 ≤ x ∧ x ≤ 9223372036854775807
theorem In.of_wf {x : Int} (h : (Lit.int .i64 x).wf = true) : In x := by simp [Lit.wf, IntKind.min, IntKind.max, IntKind.signed, IntKind.bits] at h; unfold In; omega
theorem wrap_of {x : Int} (h : In x) : wrap64 x = x := by unfold In at h; unfold wrap64; omega
theorem wrap_in (x : Int) : In (wrap64 x) := by unfold In wrap64; omega
theorem wrap_mul (x : Int) : ∃ k : Int, wrap64 x = x - 18446744073709551616 * k := ⟨(x + 9223372036854775808) / 18446744073709551616, by unfold wrap64; omega⟩
/-- The quotient of a wrapped product is the second factor just where nothing wrapped. -/
theorem mul_back {a b : Int} (ha : In a) (hb : In b) (h0 : a ≠ 0) (h1 : a ≠ -1) : wrap64 (Int.tdiv (wrap64 (a * b)) a) = b ↔ In (a * b) := by
  constructor
  · intro h
    obtain ⟨k, hk⟩ := wrap_mul (a * b)
    have hp := wrap_in (a * b)
    generalize wrap64 (a * b) = p at *
    have hd := Int.mul_tdiv_add_tmod p a
    have hm : (p.tmod a).natAbs < a.natAbs := by
      rw [Int.natAbs_tmod]
      exact Nat.mod_lt _ (by omega)
    have hq : In (p.tdiv a) := by
      have e : (p.tdiv a).natAbs = p.natAbs / a.natAbs := Int.natAbs_tdiv p a
      unfold In at hp ⊢
      by_cases a1 : a = 1
      · subst a1; simp at e ⊢; omega
      · have : p.natAbs / a.natAbs ≤ p.natAbs / 2 := Nat.div_le_div_left (by omega) (by omega)
        omega
    rw [wrap_of hq] at h
    rw [h] at hd
    unfold In at *
    have : k = 0 := by omega
    subst this
    omega
  · intro h
    rw [wrap_of h, Int.mul_tdiv_cancel_left _ h0, wrap_of hb]
end Go.Proofs.YtbmiobkjkhechaaPlain
