/-
  Every Ahead is the document's; it is an order: of two unlike cells just one is ahead, and what is ahead of one that is ahead of a third one is ahead of that. Every cells: no condition.
-/
import Derived.Test.YtelpppmnakblmaaValOp
import Derived.Test.YtelpppmnakblmaaOrdC
import Derived.Test.YtelpppmnakblmaaPOrdx3
namespace Go.Proofs.Ytelpppmnakblmaa.PVal
open Go.RowKit Go.Proofs.YtelpppmnakblmaaW.PrintWords Go.Proofs.YtelpppmnakblmaaW.PrintLast
set_option linter.unusedVariables false
set_option linter.unusedSimpArgs false
theorem ahead_irr {n : Int} {o s : ByteArray} {m : Int} {p t : ByteArray} (h : (n == m && (o.toList == p.toList && (s.toList == t.toList))) = true) : aheadV n o s m p t = false ∧ aheadV m p t n o s = false := by
  simp only [Bool.and_eq_true, beq_iff_eq] at h
  obtain ⟨rfl, h2, h3⟩ := h
  unfold aheadV
  rw [if_pos rfl, if_pos h2, if_pos rfl, if_pos h2.symm, h3]
  exact ⟨bl_irr _, bl_irr _⟩
theorem ahead_tot {n : Int} {o s : ByteArray} {m : Int} {p t : ByteArray} (h : ¬ (n == m && (o.toList == p.toList && (s.toList == t.toList))) = true) : aheadV n o s m p t = !(aheadV m p t n o s) := by
  simp only [Bool.and_eq_true, beq_iff_eq] at h
  unfold aheadV
  by_cases h1 : n = m
  · subst h1
    rw [if_pos rfl, if_pos rfl]
    by_cases h2 : o.toList = p.toList
    · rw [if_pos h2, if_pos h2.symm]
      exact bl_tot _ _ (fun h3 => h ⟨rfl, h2, h3⟩)
    · rw [if_neg h2, if_neg (Ne.symm h2)]
      exact bl_tot _ _ h2
  · rw [if_neg h1, if_neg (Ne.symm h1)]
    by_cases hl : n < m
    · rw [decide_eq_true hl, decide_eq_false (by omega)]; rfl
    · rw [decide_eq_false hl, decide_eq_true (by omega)]; rfl
theorem ahead_trans {n : Int} {o s : ByteArray} {m : Int} {p t : ByteArray} {l : Int} {q u : ByteArray} (h1 : aheadV n o s m p t = true) (h2 : aheadV m p t l q u = true) : aheadV n o s l q u = true := by
  unfold aheadV at h1 h2 ⊢
  by_cases c1 : n = m
  · subst c1
    rw [if_pos rfl] at h1
    by_cases c2 : n = l
    · subst c2
      rw [if_pos rfl] at h2 ⊢
      by_cases d1 : o.toList = p.toList
      · rw [if_pos d1] at h1
        rw [d1]
        by_cases d2 : p.toList = q.toList
        · rw [if_pos d2] at h2 ⊢
          exact bl_trans _ _ _ h1 h2
        · rw [if_neg d2] at h2 ⊢
          exact h2
      · rw [if_neg d1] at h1
        by_cases d2 : p.toList = q.toList
        · rw [if_pos d2] at h2
          rw [← d2, if_neg d1]
          exact h1
        · rw [if_neg d2] at h2
          have h3 := bl_trans _ _ _ h1 h2
          by_cases d3 : o.toList = q.toList
          · rw [d3, bl_irr] at h3; cases h3
          · rw [if_neg d3]; exact h3
    · rw [if_neg c2] at h2 ⊢
      exact h2
  · rw [if_neg c1] at h1
    by_cases c2 : m = l
    · subst c2
      rw [if_neg c1]; exact h1
    · rw [if_neg c2] at h2
      simp only [decide_eq_true_eq] at h1 h2
      rw [if_neg (by omega)]
      exact decide_eq_true (by omega)
theorem ValueOrders_tells (n : Int) (o s : ByteArray) (m : Int) (p t : ByteArray) (l : Int) (q u : ByteArray) (h1 : o.size ≤ 140737488351232) (h2 : s.size ≤ 140737488351232) (h3 : p.size ≤ 140737488351232) (h4 : t.size ≤ 140737488351232) : POrd.sojournlaw03_ValueOrders.f n o s m p t l q u = some true := by
  unfold POrd.sojournlaw03_ValueOrders.f POrd.vA.f POrd.rA.f
  rw [if_pos ⟨h1, h2⟩, if_pos ⟨h3, h4⟩]
  simp only [Option.bind_some, bne_self_eq_false, if_neg (show ¬ (false = true) by decide)]
  by_cases he : (n == m && (o.toList == p.toList && (s.toList == t.toList))) = true
  · obtain ⟨e1, e2⟩ := ahead_irr he
    rw [if_pos he, e1, if_neg (by decide)]
    simp only [Bool.and_eq_true] at he
    rw [he.1, he.2.1, he.2.2]
    rfl
  · have ht := ahead_tot he
    have htr := @ahead_trans n o s m p t l q u
    rw [if_neg he]
    have hne : (!(n == m) || (!(o.toList == p.toList) || (!(s.toList == t.toList)))) = true := by
      cases h1 : (n == m) <;> cases h2 : (o.toList == p.toList) <;> cases h3 : (s.toList == t.toList) <;> simp_all
    rw [if_pos hne, ht]
    cases hy : aheadV m p t n o s
    · rw [hy] at ht
      rw [if_neg (by decide), if_pos (show (!false) = true from rfl)]
      cases hz : aheadV m p t l q u
      · rfl
      · rw [if_pos (rfl : true = true), htr ht hz]
    · rfl
theorem valueOrders_walk (cs0 : Array Value) (x0 : S23) (cs1 : Array Value) (x1 : S23) (cs2 : Array Value) (x2 : S23) (W : World) (hr0 : k23.K W x0 cs0.toList) (b0 : B23 x0) (hr1 : k23.K W x1 cs1.toList) (b1 : B23 x1) (hr2 : k23.K W x2 cs2.toList) (b2 : B23 x2) : Calls Try.prog 3 #[.agg cs0, .agg cs1, .agg cs2] W fun e W' => e = .returned (.bool true) ∧ Below W.heap.size W W' := by
  rw [k23_cells hr0, k23_cells hr1, k23_cells hr2]
  exact POrd.sojournlaw03_ValueOrders.calls _ _ _ _ _ _ _ _ _ true W (ValueOrders_tells _ _ _ _ _ _ _ _ _ b0.2.1 b0.2.2 b1.2.1 b1.2.2)
end Go.Proofs.Ytelpppmnakblmaa.PVal
