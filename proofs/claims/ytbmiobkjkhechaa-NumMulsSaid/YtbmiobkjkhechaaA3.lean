import Derived.Test.YtbmiobkjkhechaaA2
namespace Go.Proofs.Ytbmiobkjkhechaa.Hand
open Go.RowKit Go.Proofs.YtbmiobkjkhechaaW.PrintWords Go.Proofs.YtbmiobkjkhechaaW.PrintLast Go.Proofs.YtbmiobkjkhechaaPlain
set_option linter.unusedVariables false
attribute [local go_sem] setCell_drewN
set_option maxRecDepth 100000 in
set_option maxHeartbeats 4000000 in
theorem less_calls (a0 a1 a2 a3 b0 b1 b2 b3 d0 d1 d2 d3 c0 c1 c2 c3 : Int) (w : World) (ha0 : Dg a0) (ha1 : Dg a1) (ha2 : Dg a2) (ha3 : Dg a3) (hb0 : Dg b0) (hb1 : Dg b1) (hb2 : Dg b2) (hb3 : Dg b3)
    (hd0 : Dg d0) (hd1 : Dg d1) (hd2 : Dg d2) (hd3 : Dg d3) (hc : (0 ≤ c0 ∧ c0 ≤ 1) ∧ (0 ≤ c1 ∧ c1 ≤ 1) ∧ (0 ≤ c2 ∧ c2 ≤ 1) ∧ (0 ≤ c3 ∧ c3 ≤ 1)) (e0 : a0 - b0 = d0 - 4294967296 * c0) (e1 : a1 - b1 - c0 = d1 - 4294967296 * c1) (e2 : a2 - b2 - c1 = d2 - 4294967296 * c2) (e3 : a3 - b3 - c2 = d3 - 4294967296 * c3) :
    Calls Try.prog 29 #[ar a0 a1 a2 a3, ar b0 b1 b2 b3] w fun e w' => e = .returned (ar d0 d1 d2 d3) ∧ Below w.heap.size w w' := by
  have HD : Hid (Dg d0 ∧ Dg d1 ∧ Dg d2 ∧ Dg d3) := ⟨hd0, hd1, hd2, hd3⟩
  have HC : Hid ((0 ≤ c0 ∧ c0 ≤ 1) ∧ (0 ≤ c1 ∧ c1 ≤ 1) ∧ (0 ≤ c2 ∧ c2 ≤ 1) ∧ (0 ≤ c3 ∧ c3 ≤ 1)) := hc
  have HE : Hid (a0 - b0 = d0 - 4294967296 * c0 ∧ a1 - b1 - c0 = d1 - 4294967296 * c1 ∧ a2 - b2 - c1 = d2 - 4294967296 * c2 ∧ a3 - b3 - c2 = d3 - 4294967296 * c3) := ⟨e0, e1, e2, e3⟩
  clear hd0 hd1 hd2 hd3 hc e0 e1 e2 e3
  unfold Dg at ha0 ha1 ha2 ha3 hb0 hb1 hb2 hb3
  unfold ar
  go_enter Try.func29, Try.ntmps29
  go_wp2
  refine wp_loop_rounds 5 ?_
  all_goals
    rw [rounds_succ]
    go_wp2
    go_quiet (fail)
    go_wp2
  all_goals
    rw [rounds_succ]
    go_wp2
    go_quiet (fail)
    go_wp2
  all_goals
    rw [rounds_succ]
    go_wp2
    go_quiet (fail)
    go_wp2
  all_goals
    rw [rounds_succ]
    go_wp2
    go_quiet (fail)
    go_wp2
  all_goals
    rw [rounds_succ]
    go_wp2
  all_goals
    have h1 := HD.out
    have h2 := HC.out
    have h3 := HE.out
    unfold Dg at h1
    refine bodyPost_ret (v := ar d0 d1 d2 d3) ?_ rfl ⟨rfl, by repeat (first | (with_reducible exact Below.refl _ _) | (with_reducible refine Below.setCell ?_ (by first | (simp; done) | (simp; omega)) _) | (with_reducible refine Below.alloc ?_ (by first | (simp; done) | (simp; omega)) _) | (with_reducible refine pw_below_drewN ?_ _) | (with_reducible refine Below.drew ?_))⟩
    simp [results, Try.results29, go_sem, ar]
    try omega
end Go.Proofs.Ytbmiobkjkhechaa.Hand
