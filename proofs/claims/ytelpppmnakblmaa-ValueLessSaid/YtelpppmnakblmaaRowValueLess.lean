/-
  The row of ValueLess: each argument is opened into its kind, the walk is met, and the arguments read as before.
-/
import Derived.Test.YtelpppmnakblmaaRows
import Derived.Test.YtelpppmnakblmaaLessOp
import Derived.Test.YtelpppmnakblmaaEndValueLess
import Derived.WalkKit
import Derived.ProofKit
import Derived.OpenShut
import Derived.ShutString
import Derived.ChangeOld
import Derived.Below
import Derived.SizedLaws
namespace Go.Proofs.Ytelpppmnakblmaa.valueLess
open Go.ChangeShapes Go.WideShapes Go.ChangeAt Go.RowKit Go.Proofs.Ytelpppmnakblmaa.Op Go.Proofs.Ytelpppmnakblmaa.PLess Go.Proofs.YtelpppmnakblmaaW.PrintWords
open Go.ChangeMaps (open_string shut_string)
set_option linter.unusedVariables false
theorem own : ownKnob Try.prog.godebug = none := by kernel_rfl
theorem laidOut : laidOutB Try.prog = true := by kernel_rfl
set_option maxRecDepth 100000 in
theorem lifted (os : Os) (started : os.Started) (H : Type) (enc : TypeId × Value → H) :
    ReturnsInHanded {} Try.checked os 5 .any (Rows.valueLessSpec.pre6 enc Try.prog Try.f5 Rows.valueLessRow.domain false) (Rows.valueLessSpec.post enc Try.prog Try.f5 false true false false) := by
  refine returnsInHanded_of_change_sized (C := Try.checked) own started (by kernel_rfl) Try.func5
    (ChangeSpec.witness6 (enc := enc) (C := Try.checked) false ⟨#[], #[.agg #[.int .i64 0, .int .i64 0, .string ByteArray.empty, .bool false, .float .f64 0], .agg #[.int .i64 0, .int .i64 0, .string ByteArray.empty, .bool false, .float .f64 0], .agg #[.int .i64 0, .int .i64 0, .string ByteArray.empty, .bool false, .float .f64 0]], []⟩ 8 (by kernel_rfl) (by kernel_rfl) (by kernel_rfl) (by kernel_rfl)) ?_
  intro W base args ds gs before hval0 hW hcnd hsz0 _
  have hsz : (DataW.weightsEach Try.prog (Try.f5.params.toList ++ Rows.valueLessSpec.plain.varTypes Try.prog) (ds ++ gs)).all (· ≤ reachBytes) = true := hsz0
  have hval : ∀ (j : Nat) t v, Try.f5.params[j]? = some t → args[j]? = some v → Value.okWide Try.prog W .any base t v := hval0
  have hW' := hW
  obtain ⟨p, q, hA0, hV, rfl, hfz, hnd⟩ := hW
  have hA : DataW.TrodAll enc Try.prog W 0 (fun _ => true) true Try.f5.params.toList args.toList ds p := hA0
  rw [Try.params5] at hA hval hsz
  obtain ⟨v0, vs0, d0, ds0, p0, q0, hargs, rfl, rfl, h0, r0⟩ := trodAll_cons hA
  obtain ⟨v1, vs1, d1, ds1, p1, q1, rfl, rfl, rfl, h1, r1⟩ := trodAll_cons r0
  obtain ⟨v2, vs2, d2, ds2, p2, q2, rfl, rfl, rfl, h2, r2⟩ := trodAll_cons r1
  obtain ⟨rfl, rfl, rfl⟩ := trodAll_nil r2
  obtain rfl : args = #[v0, v1, v2] := by cases args; simp_all
  obtain ⟨rfl, rfl⟩ := trodVars_none hV
  have k0 := h0
  have lt0 : ∀ x ∈ p0, x.block < W.heap.size := by obtain ⟨m, hm⟩ := k0; exact DataW.trod_lt m _ _ _ hm
  have hw0 := weights_of hsz (j := 0) rfl rfl
  obtain ⟨cs0, rfl, hn0, _⟩ : ∃ cs, v0 = .agg cs ∧ cs.size = Try.prog.cellsOf 29 ∧ Row.okWide Try.prog W .any base 29 cs := by have h := (hval 0 29 v0 rfl rfl); unfold Value.okWide at h; rw [Try.underlying29] at h; exact h
  obtain ⟨x0, hr0, b0, m0⟩ := Opens.at_agg o29 h0 hw0
  have k1 := h1
  have lt1 : ∀ x ∈ p1, x.block < W.heap.size := by obtain ⟨m, hm⟩ := k1; exact DataW.trod_lt m _ _ _ hm
  have hw1 := weights_of hsz (j := 1) rfl rfl
  obtain ⟨cs1, rfl, hn1, _⟩ : ∃ cs, v1 = .agg cs ∧ cs.size = Try.prog.cellsOf 29 ∧ Row.okWide Try.prog W .any base 29 cs := by have h := (hval 1 29 v1 rfl rfl); unfold Value.okWide at h; rw [Try.underlying29] at h; exact h
  obtain ⟨x1, hr1, b1, m1⟩ := Opens.at_agg o29 h1 hw1
  have k2 := h2
  have lt2 : ∀ x ∈ p2, x.block < W.heap.size := by obtain ⟨m, hm⟩ := k2; exact DataW.trod_lt m _ _ _ hm
  have hw2 := weights_of hsz (j := 2) rfl rfl
  obtain ⟨cs2, rfl, hn2, _⟩ : ∃ cs, v2 = .agg cs ∧ cs.size = Try.prog.cellsOf 29 ∧ Row.okWide Try.prog W .any base 29 cs := by have h := (hval 2 29 v2 rfl rfl); unfold Value.okWide at h; rw [Try.underlying29] at h; exact h
  obtain ⟨x2, hr2, b2, m2⟩ := Opens.at_agg o29 h2 hw2
  clear hA0 hval0 hsz0 hsz
  refine (Go.Proofs.Ytelpppmnakblmaa.PLess.valueLess_walk cs0 x0 cs1 x1 cs2 x2 W hr0 b0 hr1 b1 hr2 b2).mono fun e W' ⟨he, bel⟩ => ?_
  subst he
  exact ⟨_, rfl, _, _, _, [], _, [], hW', trodAll_mk1 (shut_bool Try.underlying4 _), (trodAll_cons_mk (Below.trod laidOut (by kernel_rfl) (of_decide_eq_true (by kernel_rfl)) k0 bel lt0) (trodAll_cons_mk (Below.trod laidOut (by kernel_rfl) (of_decide_eq_true (by kernel_rfl)) k1 bel lt1) (trodAll_cons_mk (Below.trod laidOut (by kernel_rfl) (of_decide_eq_true (by kernel_rfl)) k2 bel lt2) trodAll_mk0))), rfl, bel.frame _, fun h => by cases h⟩
theorem over : Rows.valueLessRow.holds Try.pinned (OpenSpec.ofChange Rows.valueLessSpec) :=
  OpenClaim.holds_of_wide 5 Try.f5 rfl rfl rfl rfl rfl rfl rfl ⟨rfl, rfl, rfl, rfl, rfl⟩ rfl rfl rfl rfl rfl (by kernel_rfl) Try.func5 (by kernel_rfl)
    (of_decide_eq_true (by kernel_rfl)) (by unfold Func.isWrapper; first | (rw [if_pos (by decide +kernel)]; kernel_rfl) | (rw [if_neg (by decide +kernel)]; exact ⟨rfl, rfl⟩))
    (fun os started H enc _ => lifted os started H enc)
end Go.Proofs.Ytelpppmnakblmaa.valueLess
namespace Go.Proofs.Ytelpppmnakblmaa
/-- The row, under a short name, for the claim. -/
theorem valueLess_holds : Rows.ValueLessSaid := valueLess.over
#print axioms valueLess_holds
end Go.Proofs.Ytelpppmnakblmaa
