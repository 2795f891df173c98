/-
  The struct types of this seat's arguments, opened field by field.
-/
import Derived.Test.YtgphdeelangkfaaOpen
import Derived.Test.YtgphdeelangkfaaPDutyx0
import Derived.KernelRfl
namespace Go.Proofs.Ytgphdeelangkfaa.PDuty
open Go.RowKit Go.Proofs.Ytgphdeelangkfaa.Op Go.Proofs.YtgphdeelangkfaaW.PrintWords
set_option linter.unusedVariables false
theorem k51_list {w : World} {x : S51} {cs : List Value} (h : k51.K w x cs) : cs = [.string x.f0, .int .i64 x.f1, .bool x.f2] := by
  obtain ⟨_, _, rfl, rfl, h⟩ := h
  obtain ⟨_, _, rfl, rfl, h⟩ := h
  obtain rfl := h
  rfl
theorem k51_cells {w : World} {x : S51} {cs : Array Value} (h : k51.K w x cs.toList) : cs = #[.string x.f0, .int .i64 x.f1, .bool x.f2] := by
  have e := k51_list h
  cases cs
  simp_all
def B51 (x : S51) : Prop := (x.f0.size ≤ 140737488351232) ∧ ((Lit.int .i64 x.f1).wf = true) ∧ (True)
def U51 (x : S51) : Nat := (x.f0.size + 1) + (1 + (1))
theorem o51 : Opens Try.prog 51 k51 B51 U51 :=
  Opens.struct Try.underlying51 rfl (OpensF.cons (Opens.string Try.underlying9) (by kernel_rfl) (OpensF.cons (Opens.int Try.underlying3) (by kernel_rfl) (OpensF.last (Opens.bool Try.underlying4) rfl (by kernel_rfl)))) (fun x : S51 => (x.f0, x.f1, x.f2)) (fun p => ⟨p.1, p.2.1, p.2.2⟩) (fun _ => rfl)
theorem k32_list {w : World} {x : S32} {cs : List Value} (h : k32.K w x cs) : cs = [.int .i64 x.f0, .bool x.f1] := by
  obtain ⟨_, _, rfl, rfl, h⟩ := h
  obtain rfl := h
  rfl
theorem k32_cells {w : World} {x : S32} {cs : Array Value} (h : k32.K w x cs.toList) : cs = #[.int .i64 x.f0, .bool x.f1] := by
  have e := k32_list h
  cases cs
  simp_all
def B32 (x : S32) : Prop := ((Lit.int .i64 x.f0).wf = true) ∧ (True)
def U32 (x : S32) : Nat := 1 + (1)
theorem o32 : Opens Try.prog 32 k32 B32 U32 :=
  Opens.struct Try.underlying32 rfl (OpensF.cons (Opens.int Try.underlying3) (by kernel_rfl) (OpensF.last (Opens.bool Try.underlying4) rfl (by kernel_rfl))) (fun x : S32 => (x.f0, x.f1)) (fun p => ⟨p.1, p.2⟩) (fun _ => rfl)
structure S35 where
  f0 : Int
  f1 : ByteArray
def k35 : Kd S35 := Kd.iso (Kd.pair (Kd.int .i64) Kd.string) (fun x : S35 => (x.f0, x.f1))
theorem k35_list {w : World} {x : S35} {cs : List Value} (h : k35.K w x cs) : cs = [.int .i64 x.f0, .string x.f1] := by
  obtain ⟨_, _, rfl, rfl, h⟩ := h
  obtain rfl := h
  rfl
theorem k35_cells {w : World} {x : S35} {cs : Array Value} (h : k35.K w x cs.toList) : cs = #[.int .i64 x.f0, .string x.f1] := by
  have e := k35_list h
  cases cs
  simp_all
def B35 (x : S35) : Prop := ((Lit.int .i64 x.f0).wf = true) ∧ (x.f1.size ≤ 140737488351232)
def U35 (x : S35) : Nat := 1 + ((x.f1.size + 1))
theorem o35 : Opens Try.prog 35 k35 B35 U35 :=
  Opens.struct Try.underlying35 rfl (OpensF.cons (Opens.int Try.underlying3) (by kernel_rfl) (OpensF.last (Opens.string Try.underlying9) rfl (by kernel_rfl))) (fun x : S35 => (x.f0, x.f1)) (fun p => ⟨p.1, p.2⟩) (fun _ => rfl)
structure S37 where
  f0 : Int
  f1 : ByteArray
  f2 : ByteArray
def k37 : Kd S37 := Kd.iso (Kd.pair (Kd.int .i64) (Kd.pair Kd.string Kd.string)) (fun x : S37 => (x.f0, x.f1, x.f2))
theorem k37_list {w : World} {x : S37} {cs : List Value} (h : k37.K w x cs) : cs = [.int .i64 x.f0, .string x.f1, .string x.f2] := by
  obtain ⟨_, _, rfl, rfl, h⟩ := h
  obtain ⟨_, _, rfl, rfl, h⟩ := h
  obtain rfl := h
  rfl
theorem k37_cells {w : World} {x : S37} {cs : Array Value} (h : k37.K w x cs.toList) : cs = #[.int .i64 x.f0, .string x.f1, .string x.f2] := by
  have e := k37_list h
  cases cs
  simp_all
def B37 (x : S37) : Prop := ((Lit.int .i64 x.f0).wf = true) ∧ (x.f1.size ≤ 140737488351232) ∧ (x.f2.size ≤ 140737488351232)
def U37 (x : S37) : Nat := 1 + ((x.f1.size + 1) + ((x.f2.size + 1)))
theorem o37 : Opens Try.prog 37 k37 B37 U37 :=
  Opens.struct Try.underlying37 rfl (OpensF.cons (Opens.int Try.underlying3) (by kernel_rfl) (OpensF.cons (Opens.string Try.underlying9) (by kernel_rfl) (OpensF.last (Opens.string Try.underlying9) rfl (by kernel_rfl)))) (fun x : S37 => (x.f0, x.f1, x.f2)) (fun p => ⟨p.1, p.2.1, p.2.2⟩) (fun _ => rfl)
structure S40 where
  f0 : Int
  f1 : Int
  f2 : ByteArray
  f3 : Bool
  f4 : Nat
def k40 : Kd S40 := Kd.iso (Kd.pair (Kd.int .i64) (Kd.pair (Kd.int .i64) (Kd.pair Kd.string (Kd.pair Kd.bool flt)))) (fun x : S40 => (x.f0, x.f1, x.f2, x.f3, x.f4))
theorem k40_list {w : World} {x : S40} {cs : List Value} (h : k40.K w x cs) : cs = [.int .i64 x.f0, .int .i64 x.f1, .string x.f2, .bool x.f3, .float .f64 x.f4] := by
  obtain ⟨_, _, rfl, rfl, h⟩ := h
  obtain ⟨_, _, rfl, rfl, h⟩ := h
  obtain ⟨_, _, rfl, rfl, h⟩ := h
  obtain ⟨_, _, rfl, rfl, h⟩ := h
  obtain rfl := h
  rfl
theorem k40_cells {w : World} {x : S40} {cs : Array Value} (h : k40.K w x cs.toList) : cs = #[.int .i64 x.f0, .int .i64 x.f1, .string x.f2, .bool x.f3, .float .f64 x.f4] := by
  have e := k40_list h
  cases cs
  simp_all
def B40 (x : S40) : Prop := ((Lit.int .i64 x.f0).wf = true) ∧ ((Lit.int .i64 x.f1).wf = true) ∧ (x.f2.size ≤ 140737488351232) ∧ (True) ∧ (x.f4 < 2 ^ 64)
def U40 (x : S40) : Nat := 1 + (1 + ((x.f2.size + 1) + (1 + (1))))
theorem o40 : Opens Try.prog 40 k40 B40 U40 :=
  Opens.struct Try.underlying40 rfl (OpensF.cons (Opens.int Try.underlying3) (by kernel_rfl) (OpensF.cons (Opens.int Try.underlying3) (by kernel_rfl) (OpensF.cons (Opens.string Try.underlying9) (by kernel_rfl) (OpensF.cons (Opens.bool Try.underlying4) (by kernel_rfl) (OpensF.last (Opens.float Try.underlying38) rfl (by kernel_rfl)))))) (fun x : S40 => (x.f0, x.f1, x.f2, x.f3, x.f4)) (fun p => ⟨p.1, p.2.1, p.2.2.1, p.2.2.2.1, p.2.2.2.2⟩) (fun _ => rfl)
structure S42 where
  f0 : Int
  f1 : S35
  f2 : Int
  f3 : S37
  f4 : S40
  f5 : ByteArray
  f6 : ByteArray
  f7 : ByteArray
  f8 : ByteArray
  f9 : Int
  f10 : ByteArray
  f11 : Int
def k42 : Kd S42 := Kd.iso (Kd.pair (Kd.int .i64) (Kd.pair k35 (Kd.pair (Kd.int .i64) (Kd.pair k37 (Kd.pair k40 (Kd.pair Kd.string (Kd.pair Kd.string (Kd.pair Kd.string (Kd.pair Kd.string (Kd.pair (Kd.int .i64) (Kd.pair Kd.string (Kd.int .i64)))))))))))) (fun x : S42 => (x.f0, x.f1, x.f2, x.f3, x.f4, x.f5, x.f6, x.f7, x.f8, x.f9, x.f10, x.f11))
theorem k42_list {w : World} {x : S42} {cs : List Value} (h : k42.K w x cs) : cs = [.int .i64 x.f0, .int .i64 x.f1.f0, .string x.f1.f1, .int .i64 x.f2, .int .i64 x.f3.f0, .string x.f3.f1, .string x.f3.f2, .int .i64 x.f4.f0, .int .i64 x.f4.f1, .string x.f4.f2, .bool x.f4.f3, .float .f64 x.f4.f4, .string x.f5, .string x.f6, .string x.f7, .string x.f8, .int .i64 x.f9, .string x.f10, .int .i64 x.f11] := by
  obtain ⟨_, _, rfl, rfl, h⟩ := h
  obtain ⟨_, _, rfl, ha, h⟩ := h
  have ea := k35_list ha
  subst ea
  clear ha
  obtain ⟨_, _, rfl, rfl, h⟩ := h
  obtain ⟨_, _, rfl, ha, h⟩ := h
  have ea := k37_list ha
  subst ea
  clear ha
  obtain ⟨_, _, rfl, ha, h⟩ := h
  have ea := k40_list ha
  subst ea
  clear ha
  obtain ⟨_, _, rfl, rfl, h⟩ := h
  obtain ⟨_, _, rfl, rfl, h⟩ := h
  obtain ⟨_, _, rfl, rfl, h⟩ := h
  obtain ⟨_, _, rfl, rfl, h⟩ := h
  obtain ⟨_, _, rfl, rfl, h⟩ := h
  obtain ⟨_, _, rfl, rfl, h⟩ := h
  obtain rfl := h
  rfl
theorem k42_cells {w : World} {x : S42} {cs : Array Value} (h : k42.K w x cs.toList) : cs = #[.int .i64 x.f0, .int .i64 x.f1.f0, .string x.f1.f1, .int .i64 x.f2, .int .i64 x.f3.f0, .string x.f3.f1, .string x.f3.f2, .int .i64 x.f4.f0, .int .i64 x.f4.f1, .string x.f4.f2, .bool x.f4.f3, .float .f64 x.f4.f4, .string x.f5, .string x.f6, .string x.f7, .string x.f8, .int .i64 x.f9, .string x.f10, .int .i64 x.f11] := by
  have e := k42_list h
  cases cs
  simp_all
def B42 (x : S42) : Prop := ((Lit.int .i64 x.f0).wf = true) ∧ (B35 x.f1) ∧ ((Lit.int .i64 x.f2).wf = true) ∧ (B37 x.f3) ∧ (B40 x.f4) ∧ (x.f5.size ≤ 140737488351232) ∧ (x.f6.size ≤ 140737488351232) ∧ (x.f7.size ≤ 140737488351232) ∧ (x.f8.size ≤ 140737488351232) ∧ ((Lit.int .i64 x.f9).wf = true) ∧ (x.f10.size ≤ 140737488351232) ∧ ((Lit.int .i64 x.f11).wf = true)
def U42 (x : S42) : Nat := 1 + (U35 x.f1 + (1 + (U37 x.f3 + (U40 x.f4 + ((x.f5.size + 1) + ((x.f6.size + 1) + ((x.f7.size + 1) + ((x.f8.size + 1) + (1 + ((x.f10.size + 1) + (1)))))))))))
theorem o42 : Opens Try.prog 42 k42 B42 U42 :=
  Opens.struct Try.underlying42 rfl (OpensF.cons (Opens.int Try.underlying3) (by kernel_rfl) (OpensF.cons o35 (by kernel_rfl) (OpensF.cons (Opens.int Try.underlying3) (by kernel_rfl) (OpensF.cons o37 (by kernel_rfl) (OpensF.cons o40 (by kernel_rfl) (OpensF.cons (Opens.string Try.underlying9) (by kernel_rfl) (OpensF.cons (Opens.string Try.underlying9) (by kernel_rfl) (OpensF.cons (Opens.string Try.underlying9) (by kernel_rfl) (OpensF.cons (Opens.string Try.underlying9) (by kernel_rfl) (OpensF.cons (Opens.int Try.underlying3) (by kernel_rfl) (OpensF.cons (Opens.string Try.underlying9) (by kernel_rfl) (OpensF.last (Opens.int Try.underlying3) rfl (by kernel_rfl))))))))))))) (fun x : S42 => (x.f0, x.f1, x.f2, x.f3, x.f4, x.f5, x.f6, x.f7, x.f8, x.f9, x.f10, x.f11)) (fun p => ⟨p.1, p.2.1, p.2.2.1, p.2.2.2.1, p.2.2.2.2.1, p.2.2.2.2.2.1, p.2.2.2.2.2.2.1, p.2.2.2.2.2.2.2.1, p.2.2.2.2.2.2.2.2.1, p.2.2.2.2.2.2.2.2.2.1, p.2.2.2.2.2.2.2.2.2.2.1, p.2.2.2.2.2.2.2.2.2.2.2⟩) (fun _ => rfl)
end Go.Proofs.Ytgphdeelangkfaa.PDuty
