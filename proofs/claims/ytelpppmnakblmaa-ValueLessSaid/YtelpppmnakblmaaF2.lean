/-
  Which values may be, and their sameness: what the code tells. Every values up to the reach's size.
-/
import Derived.Test.YtelpppmnakblmaaF1
import Derived.Test.YtelpppmnakblmaaPLessx1
import Derived.BigQuiet
namespace Go.Proofs.Ytelpppmnakblmaa.Hand
open Go.RowKit Go.Proofs.YtelpppmnakblmaaW.PrintWords Go.Proofs.YtelpppmnakblmaaW.PrintLast
set_option linter.unusedVariables false
set_option linter.unusedSimpArgs false
def eqV (a b : Int) (s : ByteArray) (c : Bool) (x : Nat) (a' b' : Int) (s' : ByteArray) (c' : Bool) (x' : Nat) : Bool :=
  a == a' && (b == b' && (s.toList == s'.toList && (c == c' && (ord x x' == some .eq))))
theorem eqF (d : Nat) (x x' : Nat) (w : World) : (Op.equalIn (d + 1) 27 (.float .f64 x) (.float .f64 x')).run Try.prog w = .ok (ord x x' == some .eq) w := by
  unfold Op.equalIn
  simp only [Sem.run_bind, run_underlying Try.underlying27, Result.andThen_ok]
  rfl
theorem eqA29 (d : Nat) (w : World) (a b : Int) (s : ByteArray) (c : Bool) (x : Nat) (a' b' : Int) (s' : ByteArray) (c' : Bool) (x' : Nat) :
    (Op.equalIn (d + 2) 29 (.agg #[.int .i64 a, .int .i64 b, .string s, .bool c, .float .f64 x]) (.agg #[.int .i64 a', .int .i64 b', .string s', .bool c', .float .f64 x'])).run Try.prog w = .ok (eqV a b s c x a' b' s' c' x') w := by
  unfold eqV
  refine eqA_of Try.underlying29 (by kernel_rfl) ?_
  refine eqf_cons (by rfl) (by go_simp; rfl) (by go_simp; rfl) (by go_simp) ?_
  refine eqf_cons (by rfl) (by go_simp; rfl) (by go_simp; rfl) (by go_simp) ?_
  refine eqf_cons (by rfl) (by go_simp; rfl) (by go_simp; rfl) (by go_simp) ?_
  refine eqf_cons (by rfl) (by go_simp; rfl) (by go_simp; rfl) (by go_simp) ?_
  exact eqf_last (by rfl) (by first | (go_simp; done) | (go_simp; rfl)) (by first | (go_simp; done) | (go_simp; rfl)) (eqF _ _ _ _)
end Go.Proofs.Ytelpppmnakblmaa.Hand
