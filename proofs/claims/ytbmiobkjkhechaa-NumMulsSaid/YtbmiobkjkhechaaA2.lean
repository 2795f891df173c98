import Derived.Test.YtbmiobkjkhechaaA1
namespace Go.Proofs.Ytbmiobkjkhechaa.Hand
open Go.RowKit Go.Proofs.YtbmiobkjkhechaaW.PrintWords Go.Proofs.YtbmiobkjkhechaaW.PrintLast Go.Proofs.YtbmiobkjkhechaaPlain
set_option linter.unusedVariables false
@[local go_sem] theorem setCell_drewN (w : World) (n : Nat) (a : Addr) (v : Value) : (w.drewN n).setCell a v = (w.setCell a v).drewN n := by
  induction n generalizing w with
  | zero => rfl
  | succ n ih => rfl
def ar (d0 d1 d2 d3 : Int) : Value := .agg #[.int .i64 d0, .int .i64 d1, .int .i64 d2, .int .i64 d3]
def Dg (d : Int) : Prop := 0 ≤ d ∧ d < 4294967296
set_option maxRecDepth 100000 in
set_option maxHeartbeats 1000000 in
theorem plus_calls (a0 a1 a2 a3 b0 b1 b2 b3 d0 d1 d2 d3 c0 c1 c2 c3 : Int) (w : World) (ha0 : Dg a0) (ha1 : Dg a1) (ha2 : Dg a2) (ha3 : Dg a3) (hb0 : Dg b0) (hb1 : Dg b1) (hb2 : Dg b2) (hb3 : Dg b3)
    (hd0 : Dg d0) (hd1 : Dg d1) (hd2 : Dg d2) (hd3 : Dg d3) (e0 : a0 + b0 = 4294967296 * c0 + d0) (e1 : a1 + b1 + c0 = 4294967296 * c1 + d1) (e2 : a2 + b2 + c1 = 4294967296 * c2 + d2) (e3 : a3 + b3 + c2 = 4294967296 * c3 + d3) :
    Calls Try.prog 27 #[ar a0 a1 a2 a3, ar b0 b1 b2 b3] w fun e w' => e = .returned (ar d0 d1 d2 d3) ∧ Below w.heap.size w w' := by
  unfold Dg at *
  have hc0 : 0 ≤ c0 ∧ c0 ≤ 1 := by omega
  have hc1 : 0 ≤ c1 ∧ c1 ≤ 1 := by omega
  have hc2 : 0 ≤ c2 ∧ c2 ≤ 1 := by omega
  have f0 : (a0 + b0) % 4294967296 = d0 := by omega
  have g0 : (a0 + b0) / 4294967296 = c0 := by omega
  have f1 : (a1 + b1 + c0) % 4294967296 = d1 := by omega
  have g1 : (a1 + b1 + c0) / 4294967296 = c1 := by omega
  have f2 : (a2 + b2 + c1) % 4294967296 = d2 := by omega
  have g2 : (a2 + b2 + c1) / 4294967296 = c2 := by omega
  have f3 : (a3 + b3 + c2) % 4294967296 = d3 := by omega
  clear e0 e1 e2 e3
  unfold ar
  go_enter Try.func27, Try.ntmps27
  go_wp2
  refine wp_loop_rounds 5 ?_
  rw [rounds_succ]
  go_wp2
  go_quiet (fail)
  go_wp2
  simp only [f0, g0]
  rw [rounds_succ]
  go_wp2
  go_quiet (fail)
  go_wp2
  simp only [f1, g1]
  rw [rounds_succ]
  go_wp2
  go_quiet (fail)
  go_wp2
  simp only [f2, g2]
  rw [rounds_succ]
  go_wp2
  go_quiet (fail)
  go_wp2
  simp only [f3]
  rw [rounds_succ]
  go_wp2
  refine bodyPost_ret (v := ar d0 d1 d2 d3) (by simp [results, Try.results27, go_sem, ar]; try rfl) rfl ⟨rfl, ?_⟩
  repeat (first | (with_reducible exact Below.refl _ _) | (with_reducible refine Below.setCell ?_ (by first | (simp; done) | (simp; omega)) _) | (with_reducible refine Below.alloc ?_ (by first | (simp; done) | (simp; omega)) _) | (with_reducible refine pw_below_drewN ?_ _) | (with_reducible refine Below.drew ?_))

theorem ret_int {k : IntKind} {a b : Int} (h : a = b) : Ending.returned (.int k a) = .returned (.int k b) := by rw [h]
def cmpV (a0 a1 a2 a3 b0 b1 b2 b3 : Int) : Int := if a3 < b3 then -1 else if b3 < a3 then 1 else if a2 < b2 then -1 else if b2 < a2 then 1 else if a1 < b1 then -1 else if b1 < a1 then 1 else if a0 < b0 then -1 else if b0 < a0 then 1 else 0
set_option maxRecDepth 100000 in
set_option maxHeartbeats 1000000 in
theorem cmp_calls (a0 a1 a2 a3 b0 b1 b2 b3 : Int) (w : World) :
    Calls Try.prog 28 #[ar a0 a1 a2 a3, ar b0 b1 b2 b3] w fun e w' => e = .returned (.int .i64 (cmpV a0 a1 a2 a3 b0 b1 b2 b3)) ∧ Below w.heap.size w w' := by
  unfold ar
  go_enter Try.func28, Try.ntmps28
  go_wp2
  refine wp_loop_rounds 5 ?_
  rw [rounds_succ]
  go_wp2
  go_quiet (fail)
  go_wp2
  · have h : a3 < b3 := by assumption
    go_ret
    exact ⟨ret_int (by unfold cmpV; repeat' split
                       all_goals omega), by repeat (first | (with_reducible exact Below.refl _ _) | (with_reducible refine Below.setCell ?_ (by first | (simp; done) | (simp; omega)) _) | (with_reducible refine Below.alloc ?_ (by first | (simp; done) | (simp; omega)) _) | (with_reducible refine pw_below_drewN ?_ _) | (with_reducible refine Below.drew ?_))⟩
  have g3 : b3 ≤ a3 := by assumption
  go_quiet (fail)
  go_wp2
  · have h : b3 < a3 := by assumption
    go_ret
    exact ⟨ret_int (by unfold cmpV; repeat' split
                       all_goals omega), by repeat (first | (with_reducible exact Below.refl _ _) | (with_reducible refine Below.setCell ?_ (by first | (simp; done) | (simp; omega)) _) | (with_reducible refine Below.alloc ?_ (by first | (simp; done) | (simp; omega)) _) | (with_reducible refine pw_below_drewN ?_ _) | (with_reducible refine Below.drew ?_))⟩
  have l3 : a3 ≤ b3 := by assumption
  rw [rounds_succ]
  go_wp2
  go_quiet (fail)
  go_wp2
  · have h : a2 < b2 := by assumption
    go_ret
    exact ⟨ret_int (by unfold cmpV; repeat' split
                       all_goals omega), by repeat (first | (with_reducible exact Below.refl _ _) | (with_reducible refine Below.setCell ?_ (by first | (simp; done) | (simp; omega)) _) | (with_reducible refine Below.alloc ?_ (by first | (simp; done) | (simp; omega)) _) | (with_reducible refine pw_below_drewN ?_ _) | (with_reducible refine Below.drew ?_))⟩
  have g2 : b2 ≤ a2 := by assumption
  go_quiet (fail)
  go_wp2
  · have h : b2 < a2 := by assumption
    go_ret
    exact ⟨ret_int (by unfold cmpV; repeat' split
                       all_goals omega), by repeat (first | (with_reducible exact Below.refl _ _) | (with_reducible refine Below.setCell ?_ (by first | (simp; done) | (simp; omega)) _) | (with_reducible refine Below.alloc ?_ (by first | (simp; done) | (simp; omega)) _) | (with_reducible refine pw_below_drewN ?_ _) | (with_reducible refine Below.drew ?_))⟩
  have l2 : a2 ≤ b2 := by assumption
  rw [rounds_succ]
  go_wp2
  go_quiet (fail)
  go_wp2
  · have h : a1 < b1 := by assumption
    go_ret
    exact ⟨ret_int (by unfold cmpV; repeat' split
                       all_goals omega), by repeat (first | (with_reducible exact Below.refl _ _) | (with_reducible refine Below.setCell ?_ (by first | (simp; done) | (simp; omega)) _) | (with_reducible refine Below.alloc ?_ (by first | (simp; done) | (simp; omega)) _) | (with_reducible refine pw_below_drewN ?_ _) | (with_reducible refine Below.drew ?_))⟩
  have g1 : b1 ≤ a1 := by assumption
  go_quiet (fail)
  go_wp2
  · have h : b1 < a1 := by assumption
    go_ret
    exact ⟨ret_int (by unfold cmpV; repeat' split
                       all_goals omega), by repeat (first | (with_reducible exact Below.refl _ _) | (with_reducible refine Below.setCell ?_ (by first | (simp; done) | (simp; omega)) _) | (with_reducible refine Below.alloc ?_ (by first | (simp; done) | (simp; omega)) _) | (with_reducible refine pw_below_drewN ?_ _) | (with_reducible refine Below.drew ?_))⟩
  have l1 : a1 ≤ b1 := by assumption
  rw [rounds_succ]
  go_wp2
  go_quiet (fail)
  go_wp2
  · have h : a0 < b0 := by assumption
    go_ret
    exact ⟨ret_int (by unfold cmpV; repeat' split
                       all_goals omega), by repeat (first | (with_reducible exact Below.refl _ _) | (with_reducible refine Below.setCell ?_ (by first | (simp; done) | (simp; omega)) _) | (with_reducible refine Below.alloc ?_ (by first | (simp; done) | (simp; omega)) _) | (with_reducible refine pw_below_drewN ?_ _) | (with_reducible refine Below.drew ?_))⟩
  have g0 : b0 ≤ a0 := by assumption
  go_quiet (fail)
  go_wp2
  · have h : b0 < a0 := by assumption
    go_ret
    exact ⟨ret_int (by unfold cmpV; repeat' split
                       all_goals omega), by repeat (first | (with_reducible exact Below.refl _ _) | (with_reducible refine Below.setCell ?_ (by first | (simp; done) | (simp; omega)) _) | (with_reducible refine Below.alloc ?_ (by first | (simp; done) | (simp; omega)) _) | (with_reducible refine pw_below_drewN ?_ _) | (with_reducible refine Below.drew ?_))⟩
  have l0 : a0 ≤ b0 := by assumption
  rw [rounds_succ]
  go_wp2
  go_ret
  exact ⟨ret_int (by unfold cmpV; repeat' split
                     all_goals omega), by repeat (first | (with_reducible exact Below.refl _ _) | (with_reducible refine Below.setCell ?_ (by first | (simp; done) | (simp; omega)) _) | (with_reducible refine Below.alloc ?_ (by first | (simp; done) | (simp; omega)) _) | (with_reducible refine pw_below_drewN ?_ _) | (with_reducible refine Below.drew ?_))⟩
end Go.Proofs.Ytbmiobkjkhechaa.Hand
