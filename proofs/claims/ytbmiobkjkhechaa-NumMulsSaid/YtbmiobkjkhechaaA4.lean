import Derived.Test.YtbmiobkjkhechaaA2
namespace Go.Proofs.Ytbmiobkjkhechaa.Hand
open Go.RowKit Go.Proofs.YtbmiobkjkhechaaW.PrintWords Go.Proofs.YtbmiobkjkhechaaW.PrintLast Go.Proofs.YtbmiobkjkhechaaPlain
set_option linter.unusedVariables false
attribute [local go_sem] setCell_drewN
theorem ret_pair {a : Int} {c : Bool} {p : Int × Bool} (h : p = (a, c)) : Ending.returned (.tuple #[.int .i64 a, .bool c]) = .returned (.tuple #[.int .i64 p.1, .bool p.2]) := by rw [h]
def fitsV (b : Bool) (d0 d1 d2 d3 : Int) : Int × Bool :=
  if 0 < d3 then (0, false) else if 0 < d2 then (0, false) else if 2147483648 < d1 then (0, false) else if d1 = 2147483648 then (if 0 < d0 then (0, false) else if b then (-d1 * 4294967296 - d0, true) else (0, false)) else if b then (-d1 * 4294967296 - d0, true) else (d1 * 4294967296 + d0, true)
set_option maxRecDepth 100000 in
set_option maxHeartbeats 1000000 in
theorem fits_calls (b : Bool) (d0 d1 d2 d3 : Int) (w : World) (h0 : Dg d0) (h1 : Dg d1) (h2 : Dg d2) (h3 : Dg d3) :
    Calls Try.prog 21 #[wd b d0 d1 d2 d3] w fun e w' => e = .returned (.tuple #[.int .i64 (fitsV b d0 d1 d2 d3).1, .bool (fitsV b d0 d1 d2 d3).2]) ∧ Below w.heap.size w w' := by
  unfold wd
  unfold Dg at *
  cases b
  all_goals
    go_enter Try.func21, Try.ntmps21
    go_wp2
  all_goals
    go_ret2
    refine ⟨ret_pair ?_, by repeat (first | (with_reducible exact Below.refl _ _) | (with_reducible refine Below.setCell ?_ (by first | (simp; done) | (simp; omega)) _) | (with_reducible refine Below.alloc ?_ (by first | (simp; done) | (simp; omega)) _) | (with_reducible refine pw_below_drewN ?_ _) | (with_reducible refine Below.drew ?_))⟩
    unfold fitsV
    repeat' split
    all_goals first | rfl | contradiction | (exfalso; omega) | (simp; omega)
end Go.Proofs.Ytbmiobkjkhechaa.Hand
