import Derived.Test.YtbmiobkjkhechaaA2
namespace Go.Proofs.Ytbmiobkjkhechaa.Hand
open Go.RowKit Go.Proofs.YtbmiobkjkhechaaW.PrintWords Go.Proofs.YtbmiobkjkhechaaW.PrintLast Go.Proofs.YtbmiobkjkhechaaPlain
set_option linter.unusedVariables false
attribute [local go_sem] setCell_drewN
set_option maxRecDepth 100000 in
set_option maxHeartbeats 1000000 in
theorem turned_calls (b : Bool) (d0 d1 d2 d3 : Int) (w : World) :
    Calls Try.prog 24 #[wd b d0 d1 d2 d3] w fun e w' => e = .returned (wd (!b) d0 d1 d2 d3) ∧ Below w.heap.size w w' := by
  unfold wd
  go_enter Try.func24, Try.ntmps24
  go_wp2
  refine bodyPost_ret (v := wd (!b) d0 d1 d2 d3) (by simp [results, Try.results24, go_sem, wd]; try rfl) rfl ⟨rfl, ?_⟩
  repeat (first | (with_reducible exact Below.refl _ _) | (with_reducible refine Below.setCell ?_ (by first | (simp; done) | (simp; omega)) _) | (with_reducible refine Below.alloc ?_ (by first | (simp; done) | (simp; omega)) _) | (with_reducible refine pw_below_drewN ?_ _) | (with_reducible refine Below.drew ?_))
end Go.Proofs.Ytbmiobkjkhechaa.Hand
