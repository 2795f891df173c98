/-
  Late and First, the program's and the reference's, tell the same; by lists alone. And the answers that the law begins with.
-/
import Derived.Test.YtgphdeelangkfaaPDutyx5
import Derived.Test.YtgphdeelangkfaaPDutyx13
import Derived.Test.YtgphdeelangkfaaDutyNames
namespace Go.Proofs.Ytgphdeelangkfaa.PDuty
open Go.RowKit Go.Proofs.YtgphdeelangkfaaW.PrintWords Go.Proofs.YtgphdeelangkfaaW.PrintLast
set_option linter.unusedVariables false
theorem drop_at {α : Type} (xs : List α) (z : α) (j : Nat) (h : j < xs.length) : xs.drop j = xs.getD j z :: xs.drop (j + 1) := by
  rw [List.drop_eq_getElem_cons h]
  simp [List.getD, List.getElem?_eq_getElem h]
theorem rd32_nat (xs : List S32) (j : Nat) : rd_T32 xs (j : Int) = xs.getD j z32 := by simp [rd_T32]
theorem rd51_nat (xs : List S51) (j : Nat) : rd_T51 xs (j : Int) = xs.getD j z51 := by simp [rd_T51]
theorem alive_tells : Ev (fun k => sojournlaw15_alive.f k) true := Ev.of sojournlaw15_alive.mono (k := 40) (by decide +kernel)
def lateV (now : Int) : List S32 → Nat → Int × Bool
  | [], _ => (0, false)
  | d :: ds, i => if d.f1 = true then lateV now ds (i + 1) else if d.f0 < now then ((i : Int), true) else lateV now ds (i + 1)
theorem late_loop (xs : List S32) (now : Int) (hn : xs.length ≤ 8796093022208) (d : Nat) : ∀ (k j : Nat), j ≤ xs.length → xs.length - j = d → d < k → duty_Late.l0 k now xs (xs.length : Int) j = some (lateV now (xs.drop j) j) := by
  induction d with
  | zero =>
    intro k j hj hd hk
    obtain ⟨k, rfl⟩ : ∃ m, k = m + 1 := ⟨k - 1, by omega⟩
    simp only [duty_Late.l0]
    rw [if_neg (by omega), List.drop_of_length_le (by omega)]
    rfl
  | succ d ih =>
    intro k j hj hd hk
    obtain ⟨k, rfl⟩ : ∃ m, k = m + 1 := ⟨k - 1, by omega⟩
    have hlt : j < xs.length := by omega
    simp only [duty_Late.l0]
    rw [if_pos (by omega), if_pos (by omega), if_pos (by omega), rd32_nat, wrap_nat hlt (by omega), ih k (j + 1) (by omega) (by omega) (by omega), drop_at xs z32 j hlt]
    simp only [lateV]
    repeat' split
    all_goals first | rfl | contradiction | (exfalso; omega)
theorem Late_tells (xs : List S32) (now : Int) (hn : xs.length ≤ 8796093022208) : Ev (fun k => duty_Late.f k xs now) (lateV now xs 0) :=
  ⟨xs.length + 1, fun k hk => by have := late_loop xs now hn xs.length k 0 (by omega) (by omega) (by omega); simpa [duty_Late.f] using this⟩
theorem refLate_loop (xs : List S32) (now : Int) (hn : xs.length ≤ 8796093022208) (d : Nat) : ∀ (k j : Nat), j ≤ xs.length → xs.length - j = d → d < k → sojournref15_Late.l0 k xs now j = some (lateV now (xs.drop j) j) := by
  induction d with
  | zero =>
    intro k j hj hd hk
    obtain ⟨k, rfl⟩ : ∃ m, k = m + 1 := ⟨k - 1, by omega⟩
    simp only [sojournref15_Late.l0]
    rw [if_neg (by omega), List.drop_of_length_le (by omega)]
    rfl
  | succ d ih =>
    intro k j hj hd hk
    obtain ⟨k, rfl⟩ : ∃ m, k = m + 1 := ⟨k - 1, by omega⟩
    have hlt : j < xs.length := by omega
    simp only [sojournref15_Late.l0]
    rw [if_pos (by omega), if_pos (by omega), rd32_nat, wrap_nat hlt (by omega), ih k (j + 1) (by omega) (by omega) (by omega), drop_at xs z32 j hlt]
    simp only [lateV]
    repeat' split
    all_goals first | rfl | contradiction | (exfalso; omega)
theorem refLate_tells (xs : List S32) (now : Int) (hn : xs.length ≤ 8796093022208) : Ev (fun k => sojournref15_Late.f k xs now) (lateV now xs 0) :=
  ⟨xs.length + 1, fun k hk => by have := refLate_loop xs now hn xs.length k 0 (by omega) (by omega) (by omega); simpa [sojournref15_Late.f] using this⟩
def firstV : List S32 → Int → Bool → Int × Bool
  | [], l, s => (l, s)
  | d :: ds, l, s => if d.f1 = true then firstV ds l s else if s = true then (if d.f0 < l then firstV ds d.f0 true else firstV ds l s) else firstV ds d.f0 true
theorem first_loop (xs : List S32) (hn : xs.length ≤ 8796093022208) (d : Nat) : ∀ (k j : Nat) (l : Int) (s : Bool), j ≤ xs.length → xs.length - j = d → d < k → duty_First.l0 k l s xs (xs.length : Int) j = some (firstV (xs.drop j) l s) := by
  induction d with
  | zero =>
    intro k j l s hj hd hk
    obtain ⟨k, rfl⟩ : ∃ m, k = m + 1 := ⟨k - 1, by omega⟩
    simp only [duty_First.l0]
    rw [if_neg (by omega), List.drop_of_length_le (by omega)]
    rfl
  | succ d ih =>
    intro k j l s hj hd hk
    obtain ⟨k, rfl⟩ : ∃ m, k = m + 1 := ⟨k - 1, by omega⟩
    have hlt : j < xs.length := by omega
    have hih := fun l s => ih k (j + 1) l s (by omega) (by omega) (by omega)
    simp only [duty_First.l0]
    rw [if_pos (by omega), if_pos (by omega), if_pos (by omega), rd32_nat, wrap_nat hlt (by omega), drop_at xs z32 j hlt]
    simp only [hih, firstV]
    repeat' split
    all_goals rfl
theorem First_tells (xs : List S32) (hn : xs.length ≤ 8796093022208) : Ev (fun k => duty_First.f k xs) (firstV xs 0 false) :=
  ⟨xs.length + 1, fun k hk => by have := first_loop xs hn xs.length k 0 0 false (by omega) (by omega) (by omega); simpa [duty_First.f] using this⟩
theorem refFirst_loop (xs : List S32) (hn : xs.length ≤ 8796093022208) (d : Nat) : ∀ (k j : Nat) (a : Int), j ≤ xs.length → xs.length - j = d → d < k → a < (xs.length : Int) → sojournref15_First.l0 k xs a j = some (firstV (xs.drop j) (if a < 0 then 0 else (rd_T32 xs a).f0) (decide (0 ≤ a))) := by
  induction d with
  | zero =>
    intro k j a hj hd hk ha
    obtain ⟨k, rfl⟩ : ∃ m, k = m + 1 := ⟨k - 1, by omega⟩
    simp only [sojournref15_First.l0]
    rw [if_neg (by omega), List.drop_of_length_le (by omega)]
    simp only [firstV]
    by_cases h : a < 0
    · rw [if_pos h, if_pos h, decide_eq_false (by omega)]
    · rw [if_neg h, if_neg h, if_pos (by omega), if_pos ha, decide_eq_true (by omega)]
  | succ d ih =>
    intro k j a hj hd hk ha
    obtain ⟨k, rfl⟩ : ∃ m, k = m + 1 := ⟨k - 1, by omega⟩
    have hlt : j < xs.length := by omega
    have hih := fun a h => ih k (j + 1) a (by omega) (by omega) (by omega) h
    have hj' := hih (j : Int) (by omega)
    have ha' := hih a ha
    simp only [sojournref15_First.l0]
    rw [if_pos (by omega), if_pos (by omega), rd32_nat, wrap_nat hlt (by omega), drop_at xs z32 j hlt, hj', ha']
    rw [if_neg (show ¬ (j : Int) < 0 by omega), decide_eq_true (show (0 : Int) ≤ j by omega), rd32_nat]
    simp only [firstV]
    by_cases h1 : (xs.getD j z32).f1 = true
    · rw [if_pos h1, if_pos h1]
    · rw [if_neg h1, if_neg h1]
      by_cases h : a < 0
      · rw [if_pos h, if_pos h, decide_eq_false (by omega)]
        simp
      · rw [if_neg h, if_neg h, if_pos (show 0 ≤ a by omega), if_pos ha, decide_eq_true (show 0 ≤ a by omega)]
        simp only [if_true]
        split
        · rfl
        · rfl
theorem refFirst_tells (xs : List S32) (hn : xs.length ≤ 8796093022208) : Ev (fun k => sojournref15_First.f k xs) (firstV xs 0 false) :=
  ⟨xs.length + 1, fun k hk => by have := refFirst_loop xs hn xs.length k 0 (-1) (by omega) (by omega) (by omega) (by omega); simpa [sojournref15_First.f] using this⟩
/-- Somebody is late just where there is one that is not done and past. -/
theorem lateV_some (now : Int) (xs : List S32) : ∀ i, (lateV now xs i).2 = true ↔ ∃ d ∈ xs, d.f1 = false ∧ d.f0 < now := by
  induction xs with
  | nil => intro i; simp [lateV]
  | cons d ds ih =>
    intro i
    simp only [lateV]
    by_cases h1 : d.f1 = true
    · rw [if_pos h1, ih]; simp [h1]
    · rw [if_neg h1]
      have h1' : d.f1 = false := by simpa using h1
      by_cases h2 : d.f0 < now
      · rw [if_pos h2]; simp [h1', h2]
      · rw [if_neg h2, ih]; simp [h2]
/-- The first deadline: it is one's, and nobody's is ahead of it. -/
theorem firstV_least (xs : List S32) : ∀ (l : Int) (s : Bool), ((firstV xs l s).2 = true → (s = true → (firstV xs l s).1 ≤ l) ∧ (∀ d ∈ xs, d.f1 = false → (firstV xs l s).1 ≤ d.f0) ∧ ((s = true ∧ (firstV xs l s).1 = l) ∨ ∃ d ∈ xs, d.f1 = false ∧ d.f0 = (firstV xs l s).1)) ∧ ((firstV xs l s).2 = false → s = false ∧ ∀ d ∈ xs, d.f1 = true) := by
  induction xs with
  | nil => intro l s; cases s <;> simp [firstV]
  | cons d ds ih =>
    intro l s
    simp only [firstV]
    by_cases h1 : d.f1 = true
    · rw [if_pos h1]
      obtain ⟨g1, g2⟩ := ih l s
      refine ⟨fun h => ?_, fun h => ?_⟩
      · obtain ⟨a, b, c⟩ := g1 h
        refine ⟨a, ?_, ?_⟩
        · intro e he hf
          rcases List.mem_cons.1 he with rfl | he
          · rw [h1] at hf; cases hf
          · exact b e he hf
        · rcases c with c | ⟨e, he, hf⟩
          · exact .inl c
          · exact .inr ⟨e, List.mem_cons_of_mem _ he, hf⟩
      · obtain ⟨a, b⟩ := g2 h
        refine ⟨a, fun e he => ?_⟩
        rcases List.mem_cons.1 he with rfl | he
        · exact h1
        · exact b e he
    · rw [if_neg h1]
      have h1' : d.f1 = false := by simpa using h1
      cases s with
      | true =>
        simp only [if_true]
        by_cases h2 : d.f0 < l
        · rw [if_pos h2]
          obtain ⟨g1, g2⟩ := ih d.f0 true
          refine ⟨fun h => ?_, fun h => absurd (g2 h).1 (by simp)⟩
          obtain ⟨a, b, c⟩ := g1 h
          have a' := a rfl
          refine ⟨fun _ => by omega, ?_, ?_⟩
          · intro e he hf
            rcases List.mem_cons.1 he with rfl | he
            · exact a'
            · exact b e he hf
          · rcases c with ⟨_, c⟩ | ⟨e, he, hf⟩
            · exact .inr ⟨d, List.mem_cons_self, h1', c.symm⟩
            · exact .inr ⟨e, List.mem_cons_of_mem _ he, hf⟩
        · rw [if_neg h2]
          obtain ⟨g1, g2⟩ := ih l true
          refine ⟨fun h => ?_, fun h => absurd (g2 h).1 (by simp)⟩
          obtain ⟨a, b, c⟩ := g1 h
          have a' := a rfl
          refine ⟨fun _ => a', ?_, ?_⟩
          · intro e he hf
            rcases List.mem_cons.1 he with rfl | he
            · omega
            · exact b e he hf
          · rcases c with ⟨_, c⟩ | ⟨e, he, hf⟩
            · exact .inl ⟨trivial, c⟩
            · exact .inr ⟨e, List.mem_cons_of_mem _ he, hf⟩
      | false =>
        simp only [Bool.false_eq_true, if_false]
        obtain ⟨g1, g2⟩ := ih d.f0 true
        refine ⟨fun h => ?_, fun h => absurd (g2 h).1 (by simp)⟩
        obtain ⟨a, b, c⟩ := g1 h
        have a' := a rfl
        refine ⟨fun h => h.elim, ?_, ?_⟩
        · intro e he hf
          rcases List.mem_cons.1 he with rfl | he
          · exact a'
          · exact b e he hf
        · rcases c with ⟨_, c⟩ | ⟨e, he, hf⟩
          · exact .inr ⟨d, List.mem_cons_self, h1', c.symm⟩
          · exact .inr ⟨e, List.mem_cons_of_mem _ he, hf⟩
/-- P15.5: nobody is late at the first deadline; later somebody is. -/
theorem DutyFirst_tells (xs : List S32) (now : Int) (hn : xs.length ≤ 8796093022208) : ∃ k, sojournlaw15_DutyFirst.f k xs now = some true := by
  have hl := fun t => (lateV_some t xs 0)
  have hf := firstV_least xs 0 false
  generalize hF : firstV xs 0 false = F at *
  have e1 := First_tells xs hn
  rw [hF] at e1
  have : Ev (fun k => sojournlaw15_DutyFirst.f k xs now) true := by
    unfold sojournlaw15_DutyFirst.f
    refine Ev.bind e1 (Ev.bind (Late_tells xs now hn) (Ev.bind (Late_tells xs F.1 hn) (Ev.bind alive_tells ?_)))
    simp only [if_true]
    generalize hA : lateV now xs 0 = A
    generalize hB : lateV F.1 xs 0 = B
    have hA' := hl now
    rw [hA] at hA'
    have hB' := hl F.1
    rw [hB] at hB'
    refine ⟨0, fun k _ => ?_⟩
    by_cases h : F.2 = true
    · obtain ⟨_, b, c⟩ := hf.1 h
      have hb2 : B.2 = false := by
        cases hb : B.2
        · rfl
        · obtain ⟨d, hd, h1, h2⟩ := hB'.1 hb
          have := b d hd h1
          omega
      rw [if_pos h, if_neg (by rw [hb2]; decide)]
      show some (A.2 == decide (F.1 < now)) = some true
      congr 1
      rw [beq_iff_eq, Bool.eq_iff_iff, hA', decide_eq_true_iff]
      constructor
      · rintro ⟨d, hd, h1, h2⟩
        have := b d hd h1
        omega
      · intro h2
        rcases c with ⟨c, _⟩ | ⟨d, hd, h1, h3⟩
        · cases c
        · exact ⟨d, hd, h1, by omega⟩
    · have hs : F.2 = false := by simpa using h
      rw [if_neg h]
      have ha2 : A.2 = false := by
        cases ha : A.2
        · rfl
        · obtain ⟨d, hd, h1, h2⟩ := hA'.1 ha
          rw [(hf.2 hs).2 d hd] at h1
          cases h1
      rw [ha2]
      rfl
  exact this.rounds
end Go.Proofs.Ytgphdeelangkfaa.PDuty
