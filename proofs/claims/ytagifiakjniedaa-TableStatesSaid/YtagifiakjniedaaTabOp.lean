/-
  The struct types of this seat's arguments, opened field by field.
-/
import Derived.Test.YtagifiakjniedaaOpen
import Derived.Test.YtagifiakjniedaaPTabx0
import Derived.KernelRfl
namespace Go.Proofs.Ytagifiakjniedaa.PTab
open Go.RowKit Go.Proofs.Ytagifiakjniedaa.Op Go.Proofs.YtagifiakjniedaaW.PrintWords
set_option linter.unusedVariables false
theorem k71_list {w : World} {x : S71} {cs : List Value} (h : k71.K w x cs) : cs = [.int .i64 x.f0, .bool x.f1] := by
  obtain ⟨_, _, rfl, rfl, h⟩ := h
  obtain rfl := h
  rfl
theorem k71_cells {w : World} {x : S71} {cs : Array Value} (h : k71.K w x cs.toList) : cs = #[.int .i64 x.f0, .bool x.f1] := by
  have e := k71_list h
  cases cs
  simp_all
def B71 (x : S71) : Prop := ((Lit.int .i64 x.f0).wf = true) ∧ (True)
def U71 (x : S71) : Nat := 1 + (1)
theorem o71 : Opens Try.prog 71 k71 B71 U71 :=
  Opens.struct Try.underlying71 rfl (OpensF.cons (Opens.int Try.underlying3) (by kernel_rfl) (OpensF.last (Opens.bool Try.underlying4) rfl (by kernel_rfl))) (fun x : S71 => (x.f0, x.f1)) (fun p => ⟨p.1, p.2⟩) (fun _ => rfl)
structure S44 where
  f0 : Int
  f1 : Int
  f2 : Int
  f3 : ByteArray
  f4 : ByteArray
  f5 : ByteArray
  f6 : (List S71)
def k44 : Kd S44 := Kd.iso (Kd.pair (Kd.int .i64) (Kd.pair (Kd.int .i64) (Kd.pair (Kd.int .i64) (Kd.pair Kd.string (Kd.pair Kd.string (Kd.pair Kd.string (Kd.slice 71 k71))))))) (fun x : S44 => (x.f0, x.f1, x.f2, x.f3, x.f4, x.f5, x.f6))
def B44 (x : S44) : Prop := ((Lit.int .i64 x.f0).wf = true) ∧ ((Lit.int .i64 x.f1).wf = true) ∧ ((Lit.int .i64 x.f2).wf = true) ∧ (x.f3.size ≤ 140737488351232) ∧ (x.f4.size ≤ 140737488351232) ∧ (x.f5.size ≤ 140737488351232) ∧ (x.f6.length * Try.prog.bytesOf 71 ≤ 140737488351232 ∧ ∀ y ∈ x.f6, B71 y)
def U44 (x : S44) : Nat := 1 + (1 + (1 + ((x.f3.size + 1) + ((x.f4.size + 1) + ((x.f5.size + 1) + (((x.f6.map (fun y => U71 y)).sum + 1)))))))
theorem o44 : Opens Try.prog 44 k44 B44 U44 :=
  Opens.struct Try.underlying44 rfl (OpensF.cons (Opens.int Try.underlying3) (by kernel_rfl) (OpensF.cons (Opens.int Try.underlying3) (by kernel_rfl) (OpensF.cons (Opens.int Try.underlying3) (by kernel_rfl) (OpensF.cons (Opens.string Try.underlying9) (by kernel_rfl) (OpensF.cons (Opens.string Try.underlying9) (by kernel_rfl) (OpensF.cons (Opens.string Try.underlying9) (by kernel_rfl) (OpensF.last (Opens.slice Try.underlying22 o71 (by kernel_rfl)) rfl (by kernel_rfl)))))))) (fun x : S44 => (x.f0, x.f1, x.f2, x.f3, x.f4, x.f5, x.f6)) (fun p => ⟨p.1, p.2.1, p.2.2.1, p.2.2.2.1, p.2.2.2.2.1, p.2.2.2.2.2.1, p.2.2.2.2.2.2⟩) (fun _ => rfl)
structure S53 where
  f0 : (List S44)
  f1 : (List S44)
  f2 : (List S44)
def k53 : Kd S53 := Kd.iso (Kd.pair (Kd.slice 44 k44) (Kd.pair (Kd.slice 44 k44) (Kd.slice 44 k44))) (fun x : S53 => (x.f0, x.f1, x.f2))
def B53 (x : S53) : Prop := (x.f0.length * Try.prog.bytesOf 44 ≤ 140737488351232 ∧ ∀ y ∈ x.f0, B44 y) ∧ (x.f1.length * Try.prog.bytesOf 44 ≤ 140737488351232 ∧ ∀ y ∈ x.f1, B44 y) ∧ (x.f2.length * Try.prog.bytesOf 44 ≤ 140737488351232 ∧ ∀ y ∈ x.f2, B44 y)
def U53 (x : S53) : Nat := ((x.f0.map (fun y => U44 y)).sum + 1) + (((x.f1.map (fun y => U44 y)).sum + 1) + (((x.f2.map (fun y => U44 y)).sum + 1)))
theorem o53 : Opens Try.prog 53 k53 B53 U53 :=
  Opens.struct Try.underlying53 rfl (OpensF.cons (Opens.slice Try.underlying42 o44 (by kernel_rfl)) (by kernel_rfl) (OpensF.cons (Opens.slice Try.underlying42 o44 (by kernel_rfl)) (by kernel_rfl) (OpensF.last (Opens.slice Try.underlying42 o44 (by kernel_rfl)) rfl (by kernel_rfl)))) (fun x : S53 => (x.f0, x.f1, x.f2)) (fun p => ⟨p.1, p.2.1, p.2.2⟩) (fun _ => rfl)
end Go.Proofs.Ytagifiakjniedaa.PTab
