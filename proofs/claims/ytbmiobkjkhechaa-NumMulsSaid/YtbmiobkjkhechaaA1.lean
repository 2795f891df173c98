import Derived.Test.YtbmiobkjkhechaaPSumsx0
import Derived.Test.YtbmiobkjkhechaaPlain
namespace Go.Proofs.Ytbmiobkjkhechaa.Hand
open Go.RowKit Go.Proofs.YtbmiobkjkhechaaW.PrintWords Go.Proofs.YtbmiobkjkhechaaW.PrintLast Go.Proofs.YtbmiobkjkhechaaPlain
set_option linter.unusedVariables false
def wd (b : Bool) (d0 d1 d2 d3 : Int) : Value := .agg #[.bool b, .int .i64 d0, .int .i64 d1, .int .i64 d2, .int .i64 d3]
set_option maxRecDepth 100000 in
set_option maxHeartbeats 400000 in
theorem of_neg (n r q : Int) (w : World) (hn : In n) (h0 : n < 0) (hr : 0 ≤ r) (hr1 : r < 4294967296) (hq : 0 ≤ q) (hq1 : q ≤ 2147483648) (e : -n = 4294967296 * q + r) :
    Calls Try.prog 23 #[.int .i64 n] w fun e w' => e = .returned (wd true r q 0 0) ∧ Below w.heap.size w w' := by
  unfold In at hn
  have hd : decide (n < 0) = true := by simp [h0]
  have e1 : n.tmod 4294967296 = -r := by
    rw [show n = -(4294967296 * q + r) from by omega, Int.neg_tmod, Int.tmod_eq_emod_of_nonneg (by omega)]; omega
  have e2 : n.tdiv 4294967296 = -q := by
    rw [show n = -(4294967296 * q + r) from by omega, Int.neg_tdiv, Int.tdiv_eq_ediv_of_nonneg (by omega)]; omega
  have e3 : (-q).tmod 4294967296 = -q := by
    rw [Int.neg_tmod, Int.tmod_eq_emod_of_nonneg (by omega)]; omega
  have e4 : (-q).tdiv 4294967296 = 0 := by
    rw [Int.neg_tdiv, Int.tdiv_eq_ediv_of_nonneg (by omega)]; omega
  rcases (show r = 0 ∨ 0 < r from by omega) with rfl | hr0 <;> rcases (show q = 0 ∨ 0 < q from by omega) with rfl | hq0
  · omega
  all_goals
   clear e
   try simp only [Int.neg_zero] at e1 e2 e3 e4
   go_enter Try.func23, Try.ntmps23
   go_wp2
   refine wp_loop_rounds 5 ?_
   rw [rounds_succ]
   go_wp2
   rw [rounds_succ]
   go_wp2
   rw [rounds_succ]
   go_wp2
   rw [rounds_succ]
   go_wp2
   rw [rounds_succ]
   go_wp2
   refine bodyPost_ret (v := wd true _ _ 0 0) (by simp [results, Try.results23, go_sem, wd]; try rfl) rfl ⟨rfl, ?_⟩
   repeat (first | exact Below.refl _ _ | refine Below.setCell ?_ (by simp) _ | refine Below.alloc ?_ (by simp) _)
set_option maxRecDepth 100000 in
set_option maxHeartbeats 400000 in
theorem of_pos (n r q : Int) (w : World) (hn : In n) (h0 : 0 ≤ n) (hr : 0 ≤ r) (hr1 : r < 4294967296) (hq : 0 ≤ q) (hq1 : q ≤ 2147483648) (e : n = 4294967296 * q + r) :
    Calls Try.prog 23 #[.int .i64 n] w fun e w' => e = .returned (wd false r q 0 0) ∧ Below w.heap.size w w' := by
  unfold In at hn
  have hd : decide (n < 0) = false := by simp; omega
  have e1 : n % 4294967296 = r := by omega
  have e2 : n / 4294967296 = q := by omega
  have e3 : q % 4294967296 = q := by omega
  have e4 : q / 4294967296 = 0 := by omega
  clear e
  go_enter Try.func23, Try.ntmps23
  go_wp2
  refine wp_loop_rounds 5 ?_
  rw [rounds_succ]
  go_wp2
  rw [rounds_succ]
  go_wp2
  rw [rounds_succ]
  go_wp2
  rw [rounds_succ]
  go_wp2
  rw [rounds_succ]
  go_wp2
  refine bodyPost_ret (v := wd false _ _ 0 0) (by simp [results, Try.results23, go_sem, wd]; try rfl) rfl ⟨rfl, ?_⟩
  repeat (first | exact Below.refl _ _ | refine Below.setCell ?_ (by simp) _ | refine Below.alloc ?_ (by simp) _)
def lo (n : Int) : Int := (n.natAbs % 4294967296 : Nat)
def hi (n : Int) : Int := (n.natAbs / 4294967296 : Nat)
theorem of_calls (n : Int) (w : World) (hn : In n) :
    Calls Try.prog 23 #[.int .i64 n] w fun e w' => e = .returned (wd (decide (n < 0)) (lo n) (hi n) 0 0) ∧ Below w.heap.size w w' := by
  by_cases h : n < 0
  · rw [decide_eq_true h]
    exact of_neg n _ _ w hn h (by unfold lo; omega) (by unfold lo; omega) (by unfold hi; omega) (by unfold hi In at *; omega) (by unfold lo hi; omega)
  · rw [decide_eq_false h]
    exact of_pos n _ _ w hn (by omega) (by unfold lo; omega) (by unfold lo; omega) (by unfold hi; omega) (by unfold hi In at *; omega) (by unfold lo hi; omega)
end Go.Proofs.Ytbmiobkjkhechaa.Hand
