/-
  Late and First, the program's and the reference's, tell the same; by lists alone. And the answers that the law begins with.
-/
import Derived.Test.YtgphdeelangkfaaPDutyx5
import Derived.Test.YtgphdeelangkfaaDutyNames
namespace Go.Proofs.Ytgphdeelangkfaa.PDuty
open Go.RowKit Go.Proofs.YtgphdeelangkfaaW.PrintWords Go.Proofs.YtgphdeelangkfaaW.PrintLast
set_option linter.unusedVariables false
theorem drop_at {α : Type} (xs : List α) (z : α) (j : Nat) (h : j < xs.length) : xs.drop j = xs.getD j z :: xs.drop (j + 1) := by
  rw [List.drop_eq_getElem_cons h]
  simp [List.getD, List.getElem?_eq_getElem h]
theorem rd32_nat (xs : List S32) (j : Nat) : rd_T32 xs (j : Int) = xs.getD j z32 := by simp [rd_T32]
theorem rd51_nat (xs : List S51) (j : Nat) : rd_T51 xs (j : Int) = xs.getD j z51 := by simp [rd_T51]
theorem alive_tells : Ev (fun k => sojournlaw15_alive.f k) true := Ev.of sojournlaw15_alive.mono (k := 40) (by decide +kernel)
def lateV (now : Int) : List S32 → Nat → Int × Bool
  | [], _ => (0, false)
  | d :: ds, i => if d.f1 = true then lateV now ds (i + 1) else if d.f0 < now then ((i : Int), true) else lateV now ds (i + 1)
theorem late_loop (xs : List S32) (now : Int) (hn : xs.length ≤ 8796093022208) (d : Nat) : ∀ (k j : Nat), j ≤ xs.length → xs.length - j = d → d < k → duty_Late.l0 k now xs (xs.length : Int) j = some (lateV now (xs.drop j) j) := by
  induction d with
  | zero =>
    intro k j hj hd hk
    obtain ⟨k, rfl⟩ : ∃ m, k = m + 1 := ⟨k - 1, by omega⟩
    simp only [duty_Late.l0]
    rw [if_neg (by omega), List.drop_of_length_le (by omega)]
    rfl
  | succ d ih =>
    intro k j hj hd hk
    obtain ⟨k, rfl⟩ : ∃ m, k = m + 1 := ⟨k - 1, by omega⟩
    have hlt : j < xs.length := by omega
    simp only [duty_Late.l0]
    rw [if_pos (by omega), if_pos (by omega), if_pos (by omega), rd32_nat, wrap_nat hlt (by omega), ih k (j + 1) (by omega) (by omega) (by omega), drop_at xs z32 j hlt]
    simp only [lateV]
    repeat' split
    all_goals first | rfl | contradiction | (exfalso; omega)
theorem Late_tells (xs : List S32) (now : Int) (hn : xs.length ≤ 8796093022208) : Ev (fun k => duty_Late.f k xs now) (lateV now xs 0) :=
  ⟨xs.length + 1, fun k hk => by have := late_loop xs now hn xs.length k 0 (by omega) (by omega) (by omega); simpa [duty_Late.f] using this⟩
def firstV : List S32 → Int → Bool → Int × Bool
  | [], l, s => (l, s)
  | d :: ds, l, s => if d.f1 = true then firstV ds l s else if s = true then (if d.f0 < l then firstV ds d.f0 true else firstV ds l s) else firstV ds d.f0 true
theorem lateV_some (now : Int) (xs : List S32) : ∀ i, (lateV now xs i).2 = true ↔ ∃ d ∈ xs, d.f1 = false ∧ d.f0 < now := by
  induction xs with
  | nil => intro i; simp [lateV]
  | cons d ds ih =>
    intro i
    simp only [lateV]
    by_cases h1 : d.f1 = true
    · rw [if_pos h1, ih]; simp [h1]
    · rw [if_neg h1]
      have h1' : d.f1 = false := by simpa using h1
      by_cases h2 : d.f0 < now
      · rw [if_pos h2]; simp [h1', h2]
      · rw [if_neg h2, ih]; simp [h2]
/-- The first deadline: it is one's, and nobody's is ahead of it. -/
theorem firstV_least (xs : List S32) : ∀ (l : Int) (s : Bool), ((firstV xs l s).2 = true → (s = true → (firstV xs l s).1 ≤ l) ∧ (∀ d ∈ xs, d.f1 = false → (firstV xs l s).1 ≤ d.f0) ∧ ((s = true ∧ (firstV xs l s).1 = l) ∨ ∃ d ∈ xs, d.f1 = false ∧ d.f0 = (firstV xs l s).1)) ∧ ((firstV xs l s).2 = false → s = false ∧ ∀ d ∈ xs, d.f1 = true) := by
  induction xs with
  | nil => intro l s; cases s <;> simp [firstV]
  | cons d ds ih =>
    intro l s
    simp only [firstV]
    by_cases h1 : d.f1 = true
    · rw [if_pos h1]
      obtain ⟨g1, g2⟩ := ih l s
      refine ⟨fun h => ?_, fun h => ?_⟩
      · obtain ⟨a, b, c⟩ := g1 h
        refine ⟨a, ?_, ?_⟩
        · intro e he hf
          rcases List.mem_cons.1 he with rfl | he
          · rw [h1] at hf; cases hf
          · exact b e he hf
        · rcases c with c | ⟨e, he, hf⟩
          · exact .inl c
          · exact .inr ⟨e, List.mem_cons_of_mem _ he, hf⟩
      · obtain ⟨a, b⟩ := g2 h
        refine ⟨a, fun e he => ?_⟩
        rcases List.mem_cons.1 he with rfl | he
        · exact h1
        · exact b e he
    · rw [if_neg h1]
      have h1' : d.f1 = false := by simpa using h1
      cases s with
      | true =>
        simp only [if_true]
        by_cases h2 : d.f0 < l
        · rw [if_pos h2]
          obtain ⟨g1, g2⟩ := ih d.f0 true
          refine ⟨fun h => ?_, fun h => absurd (g2 h).1 (by simp)⟩
          obtain ⟨a, b, c⟩ := g1 h
          have a' := a rfl
          refine ⟨fun _ => by omega, ?_, ?_⟩
          · intro e he hf
            rcases List.mem_cons.1 he with rfl | he
            · exact a'
            · exact b e he hf
          · rcases c with ⟨_, c⟩ | ⟨e, he, hf⟩
            · exact .inr ⟨d, List.mem_cons_self, h1', c.symm⟩
            · exact .inr ⟨e, List.mem_cons_of_mem _ he, hf⟩
        · rw [if_neg h2]
          obtain ⟨g1, g2⟩ := ih l true
          refine ⟨fun h => ?_, fun h => absurd (g2 h).1 (by simp)⟩
          obtain ⟨a, b, c⟩ := g1 h
          have a' := a rfl
          refine ⟨fun _ => a', ?_, ?_⟩
          · intro e he hf
            rcases List.mem_cons.1 he with rfl | he
            · omega
            · exact b e he hf
          · rcases c with ⟨_, c⟩ | ⟨e, he, hf⟩
            · exact .inl ⟨trivial, c⟩
            · exact .inr ⟨e, List.mem_cons_of_mem _ he, hf⟩
      | false =>
        simp only [Bool.false_eq_true, if_false]
        obtain ⟨g1, g2⟩ := ih d.f0 true
        refine ⟨fun h => ?_, fun h => absurd (g2 h).1 (by simp)⟩
        obtain ⟨a, b, c⟩ := g1 h
        have a' := a rfl
        refine ⟨fun h => h.elim, ?_, ?_⟩
        · intro e he hf
          rcases List.mem_cons.1 he with rfl | he
          · exact a'
          · exact b e he hf
        · rcases c with ⟨_, c⟩ | ⟨e, he, hf⟩
          · exact .inr ⟨d, List.mem_cons_self, h1', c.symm⟩
          · exact .inr ⟨e, List.mem_cons_of_mem _ he, hf⟩
end Go.Proofs.Ytgphdeelangkfaa.PDuty
