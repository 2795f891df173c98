/-
  The struct types of this seat's arguments, opened field by field.
-/
import Derived.Test.YtelpppmnakblmaaOpen
import Derived.Test.YtelpppmnakblmaaPValx0
import Derived.KernelRfl
namespace Go.Proofs.Ytelpppmnakblmaa.PVal
open Go.RowKit Go.Proofs.Ytelpppmnakblmaa.Op Go.Proofs.YtelpppmnakblmaaW.PrintWords
set_option linter.unusedVariables false
structure S23 where
  f0 : Int
  f1 : ByteArray
  f2 : ByteArray
def k23 : Kd S23 := Kd.iso (Kd.pair (Kd.int .i64) (Kd.pair Kd.string Kd.string)) (fun x : S23 => (x.f0, x.f1, x.f2))
theorem k23_list {w : World} {x : S23} {cs : List Value} (h : k23.K w x cs) : cs = [.int .i64 x.f0, .string x.f1, .string x.f2] := by
  obtain ⟨_, _, rfl, rfl, h⟩ := h
  obtain ⟨_, _, rfl, rfl, h⟩ := h
  obtain rfl := h
  rfl
theorem k23_cells {w : World} {x : S23} {cs : Array Value} (h : k23.K w x cs.toList) : cs = #[.int .i64 x.f0, .string x.f1, .string x.f2] := by
  have e := k23_list h
  cases cs
  simp_all
def B23 (x : S23) : Prop := ((Lit.int .i64 x.f0).wf = true) ∧ (x.f1.size ≤ 140737488351232) ∧ (x.f2.size ≤ 140737488351232)
def U23 (x : S23) : Nat := 1 + ((x.f1.size + 1) + ((x.f2.size + 1)))
theorem o23 : Opens Try.prog 23 k23 B23 U23 :=
  Opens.struct Try.underlying23 rfl (OpensF.cons (Opens.int Try.underlying3) (by kernel_rfl) (OpensF.cons (Opens.string Try.underlying9) (by kernel_rfl) (OpensF.last (Opens.string Try.underlying9) rfl (by kernel_rfl)))) (fun x : S23 => (x.f0, x.f1, x.f2)) (fun p => ⟨p.1, p.2.1, p.2.2⟩) (fun _ => rfl)
end Go.Proofs.Ytelpppmnakblmaa.PVal
