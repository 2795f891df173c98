/-
  A float of 64 bits among the printed kinds: its bits.
-/
import Derived.Test.YtelpppmnakblmaaWWords
import Derived.Test.YtelpppmnakblmaaWFoot
namespace Go.Proofs.YtelpppmnakblmaaW.PrintWords
open Go.RowKit
namespace Kd
def flt : Kd Nat := scalar (Value.float .f64) (fun _ => rfl)
theorem at_flt {w : World} {A : Option Addr} {n : Nat} {xs : List Nat} (h : flt.C w A n xs) (i : Int) (h0 : 0 ≤ i) (h1 : i < n) : ∃ ad, A = some ad ∧ w.cell? (ad.add i.toNat) = some (.float .f64 (rdOf 0 xs i)) :=
  ReadsOf.at_ (reads_of_C (enc := Value.float .f64) (d := 0) (h1 := fun _ => rfl) h) i h0 h1
theorem heap_flt : Heap flt := ⟨fun _ h => h⟩
end Kd
end Go.Proofs.YtelpppmnakblmaaW.PrintWords
