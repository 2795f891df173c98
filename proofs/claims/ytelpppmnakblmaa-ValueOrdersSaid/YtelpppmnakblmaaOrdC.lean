/-
  The two functions that tell which cell is ahead, in the form that the law's walk takes. Texts up to the reach's size.
-/
import Derived.Test.YtelpppmnakblmaaAhead
namespace Go.Proofs.Ytelpppmnakblmaa.POrd
open Go.RowKit Go.Proofs.YtelpppmnakblmaaW.PrintWords Go.Proofs.YtelpppmnakblmaaW.PrintLast
set_option linter.unusedVariables false
def vA.f (n : Int) (o s : ByteArray) (m : Int) (p t : ByteArray) : Option Bool := some (PVal.aheadV n o s m p t)
theorem vA.calls (n : Int) (o s : ByteArray) (m : Int) (p t : ByteArray) (r : Bool) (w : World) (h : vA.f n o s m p t = some r) :
    Calls Try.prog 6 #[.agg #[.int .i64 n, .string o, .string s], .agg #[.int .i64 m, .string p, .string t]] w fun e w' => e = .returned (.bool r) ∧ Below w.heap.size w w' :=
  PVal.value_Ahead.calls n o s m p t r w ((PVal.Ahead_is n o s m p t).trans h)
def rA.f (n : Int) (o s : ByteArray) (m : Int) (p t : ByteArray) : Option Bool := if o.size ≤ 140737488351232 ∧ s.size ≤ 140737488351232 then some (PVal.aheadV n o s m p t) else none
theorem rA.calls (n : Int) (o s : ByteArray) (m : Int) (p t : ByteArray) (r : Bool) (w : World) (h : rA.f n o s m p t = some r) :
    Calls Try.prog 7 #[.agg #[.int .i64 n, .string o, .string s], .agg #[.int .i64 m, .string p, .string t]] w fun e w' => e = .returned (.bool r) ∧ Below w.heap.size w w' := by
  unfold rA.f at h
  split at h
  · rename_i hs
    exact PVal.sojournref03_Ahead.calls _ n o s m p t r w ((PVal.refAhead_tells n o s m p t hs.1 hs.2 _ (Nat.le_refl _)).trans h)
  · cases h
end Go.Proofs.Ytelpppmnakblmaa.POrd
