/-
  A cell that may be is ahead of those of later scopes; one of the environment has no owner. Every cells: no condition.
-/
import Derived.Test.YtelpppmnakblmaaValOp
import Derived.Test.YtelpppmnakblmaaValNames
import Derived.Test.YtelpppmnakblmaaPValx2
namespace Go.Proofs.Ytelpppmnakblmaa.PVal
open Go.RowKit Go.Proofs.YtelpppmnakblmaaW.PrintWords Go.Proofs.YtelpppmnakblmaaW.PrintLast
set_option linter.unusedVariables false
set_option linter.unusedSimpArgs false
theorem scope_eq (n : Int) : value_scope.f n = some (decide (1 ≤ n ∧ n ≤ 3)) := by
  unfold value_scope.f
  by_cases h : n ≥ 1
  · rw [if_pos h]; simp [show 1 ≤ n from h]
  · rw [if_neg h]; simp; intro h2; exact absurd h2 h
noncomputable def cellB (n : Int) (o s : ByteArray) : Bool := decide (1 ≤ n ∧ n ≤ 3) && (if n = 3 then decide (o.toList = ([] : List UInt8)) else nameB o) && nameB s
theorem Cell_tells (n : Int) (o s : ByteArray) (ho : o.size ≤ 140737488351232) (hs : s.size ≤ 140737488351232) : Ev (fun k => value_Cell.f k n o s) (cellB n o s) := by
  unfold value_Cell.f
  refine Ev.bind (value_Name_tells o ho) ?_
  simp only [scope_eq, Option.bind_some]
  unfold cellB
  by_cases h3 : n = 3
  · simp only [if_pos h3]
    subst h3
    simp only [show decide ((1 : Int) ≤ 3 ∧ (3 : Int) ≤ 3) = true from by decide, if_true, Bool.true_and]
    by_cases he : o.toList = ([] : List UInt8)
    · simp only [if_pos he]
      simp only [he, decide_true, Bool.true_and]
      exact Ev.bind (value_Name_tells s hs) (Ev.now _)
    · simp only [if_neg he]
      simp only [he, decide_false, Bool.false_and]
      exact Ev.now _
  · simp only [if_neg h3]
    by_cases hc : 1 ≤ n ∧ n ≤ 3
    · simp only [decide_eq_true hc, if_true, Bool.true_and]
      cases hn : nameB o
      · simp only [Bool.false_and, if_neg (show ¬ (false = true) by decide)]
        exact Ev.now _
      · simp only [Bool.true_and, if_true]
        exact Ev.bind (value_Name_tells s hs) (Ev.now _)
    · simp only [decide_eq_false hc, Bool.false_and, if_neg (show ¬ (false = true) by decide)]
      exact Ev.now _
theorem load_name : nameB (⟨#[108, 111, 97, 100]⟩ : ByteArray) = true := by
  obtain ⟨k, hk⟩ := value_Name_tells (⟨#[108, 111, 97, 100]⟩ : ByteArray) (by decide)
  have h40 : value_Name.f 40 (⟨#[108, 111, 97, 100]⟩ : ByteArray) = some true := by decide +kernel
  have := Ev.of (value_Name.mono _) h40
  obtain ⟨k2, hk2⟩ := this
  have a := hk (max k k2) (by omega)
  have b := hk2 (max k k2) (by omega)
  rw [a] at b
  exact Option.some.inj b
theorem ValueCells_tells (a0 : Int) (a1 a2 : ByteArray) (b0 : Int) (b1 b2 : ByteArray) (h1 : a1.size ≤ 140737488351232) (h2 : a2.size ≤ 140737488351232) (h3 : b1.size ≤ 140737488351232) (h4 : b2.size ≤ 140737488351232) : ∃ k, sojournlaw03_ValueCells.f k a0 a1 a2 b0 b1 b2 = some true := by
  have : Ev (fun k => sojournlaw03_ValueCells.f k a0 a1 a2 b0 b1 b2) true := by
    unfold sojournlaw03_ValueCells.f
    refine Ev.bind (Cell_tells a0 a1 a2 h1 h2) (Ev.bind (Cell_tells b0 b1 b2 h3 h4) (Ev.bind (Cell_tells 3 _ _ (by decide) (by decide)) (Ev.bind (Cell_tells 3 _ _ (by decide) (by decide)) ?_)))
    have e1 : cellB 3 (⟨#[]⟩ : ByteArray) (⟨#[108, 111, 97, 100]⟩ : ByteArray) = true := by unfold cellB; rw [load_name, if_pos rfl]; decide +kernel
    have e2 : cellB 3 (⟨#[120]⟩ : ByteArray) (⟨#[108, 111, 97, 100]⟩ : ByteArray) = false := by unfold cellB; rw [load_name, if_pos rfl]; decide +kernel
    simp only [e1, e2, if_true, if_neg (show ¬ (false = true) by decide)]
    have hj : Ev (fun k => sojournlaw03_ValueCells.j0 k (cellB a0 a1 a2) (cellB b0 b1 b2) false a0 a1 a2 b0 b1 b2) true := by
      refine ⟨1, fun k hk => ?_⟩
      obtain ⟨k, rfl⟩ : ∃ m, k = m + 1 := ⟨k - 1, by omega⟩
      simp only [sojournlaw03_ValueCells.j0, if_neg (show ¬ (false = true) by decide)]
      cases cellB a0 a1 a2 <;> cases cellB b0 b1 b2 <;> simp only [if_true, if_neg (show ¬ (false = true) by decide)]
      by_cases hlt : a0 < b0
      · rw [if_pos hlt]
        unfold value_Ahead.f
        rw [if_neg (by omega), decide_eq_true hlt]
        rfl
      · rw [if_neg hlt]
    by_cases hc : cellB a0 a1 a2 = true
    · simp only [if_pos hc]
      by_cases h3 : a0 = 3
      · simp only [if_pos h3]
        have hne : (a1.toList != ([] : List UInt8)) = false := by
          subst h3
          unfold cellB at hc
          simp only [if_true, Bool.and_eq_true, decide_eq_true_eq] at hc
          simp [hc.1.2]
        rw [hne]
        exact hj
      · simp only [if_neg h3]
        exact hj
    · simp only [if_neg hc]
      exact hj
  exact this.rounds
theorem valueCells_walk (cs0 : Array Value) (x0 : S23) (cs1 : Array Value) (x1 : S23) (W : World) (hr0 : k23.K W x0 cs0.toList) (b0 : B23 x0) (hr1 : k23.K W x1 cs1.toList) (b1 : B23 x1) : Calls Try.prog 4 #[.agg cs0, .agg cs1] W fun e W' => e = .returned (.bool true) ∧ Below W.heap.size W W' := by
  rw [k23_cells hr0, k23_cells hr1]
  obtain ⟨k, hk⟩ := ValueCells_tells x0.f0 x0.f1 x0.f2 x1.f0 x1.f1 x1.f2 b0.2.1 b0.2.2 b1.2.1 b1.2.2
  exact sojournlaw03_ValueCells.calls k _ _ _ _ _ _ true W hk
end Go.Proofs.Ytelpppmnakblmaa.PVal
