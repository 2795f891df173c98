/-
  The struct types of this seat's arguments, opened field by field.
-/
import Derived.Test.YtelpppmnakblmaaOpen
import Derived.Test.YtelpppmnakblmaaPLessx0
import Derived.KernelRfl
namespace Go.Proofs.Ytelpppmnakblmaa.PLess
open Go.RowKit Go.Proofs.Ytelpppmnakblmaa.Op Go.Proofs.YtelpppmnakblmaaW.PrintWords
set_option linter.unusedVariables false
structure S29 where
  f0 : Int
  f1 : Int
  f2 : ByteArray
  f3 : Bool
  f4 : Nat
def k29 : Kd S29 := Kd.iso (Kd.pair (Kd.int .i64) (Kd.pair (Kd.int .i64) (Kd.pair Kd.string (Kd.pair Kd.bool flt)))) (fun x : S29 => (x.f0, x.f1, x.f2, x.f3, x.f4))
theorem k29_list {w : World} {x : S29} {cs : List Value} (h : k29.K w x cs) : cs = [.int .i64 x.f0, .int .i64 x.f1, .string x.f2, .bool x.f3, .float .f64 x.f4] := by
  obtain ⟨_, _, rfl, rfl, h⟩ := h
  obtain ⟨_, _, rfl, rfl, h⟩ := h
  obtain ⟨_, _, rfl, rfl, h⟩ := h
  obtain ⟨_, _, rfl, rfl, h⟩ := h
  obtain rfl := h
  rfl
theorem k29_cells {w : World} {x : S29} {cs : Array Value} (h : k29.K w x cs.toList) : cs = #[.int .i64 x.f0, .int .i64 x.f1, .string x.f2, .bool x.f3, .float .f64 x.f4] := by
  have e := k29_list h
  cases cs
  simp_all
def B29 (x : S29) : Prop := ((Lit.int .i64 x.f0).wf = true) ∧ ((Lit.int .i64 x.f1).wf = true) ∧ (x.f2.size ≤ 140737488351232) ∧ (True) ∧ (x.f4 < 2 ^ 64)
def U29 (x : S29) : Nat := 1 + (1 + ((x.f2.size + 1) + (1 + (1))))
theorem o29 : Opens Try.prog 29 k29 B29 U29 :=
  Opens.struct Try.underlying29 rfl (OpensF.cons (Opens.int Try.underlying3) (by kernel_rfl) (OpensF.cons (Opens.int Try.underlying3) (by kernel_rfl) (OpensF.cons (Opens.string Try.underlying9) (by kernel_rfl) (OpensF.cons (Opens.bool Try.underlying4) (by kernel_rfl) (OpensF.last (Opens.float Try.underlying27) rfl (by kernel_rfl)))))) (fun x : S29 => (x.f0, x.f1, x.f2, x.f3, x.f4)) (fun p => ⟨p.1, p.2.1, p.2.2.1, p.2.2.2.1, p.2.2.2.2⟩) (fun _ => rfl)
end Go.Proofs.Ytelpppmnakblmaa.PLess
