/-
  What a name is: value.Name and the reference's Name both tell it, of every text. Texts alone, no memory.
-/
import Derived.Test.YtagifiakjniedaaPTabx5
import Derived.Test.YtagifiakjniedaaPTabx2
import Derived.Laws.Strings
namespace Go.Proofs.Ytagifiakjniedaa.PTab
open Go.RowKit Go.Proofs.YtagifiakjniedaaW.PrintWords Go.Proofs.YtagifiakjniedaaW.PrintLast
set_option linter.unusedVariables false
set_option linter.unusedSimpArgs false
theorem wrap_nat {i n : Nat} (h : i < n) (hn : n ≤ 140737488351232) : wrap64 ((i : Int) + 1) = ((i + 1 : Nat) : Int) := by unfold wrap64; omega
def words : List (List UInt8) := [[116, 114, 117, 101], [102, 97, 108, 115, 101], [110, 111, 119], [98, 101, 103, 97, 110], [104, 97, 115], [108, 101, 110], [114, 97, 116, 101], [102, 108, 111, 111, 114], [109, 105, 110], [109, 97, 120]]
def small (c : Int) : Prop := 97 ≤ c ∧ c ≤ 122
def inner (c : Int) : Prop := c = 95 ∨ (48 ≤ c ∧ c ≤ 57)
/-- What a name is. -/
def NameP (s : ByteArray) : Prop := 0 < s.size ∧ s.size ≤ 16 ∧ s.toList ∉ words ∧ ∀ i : Nat, i < s.size → small (bt s i) ∨ (0 < i ∧ inner (bt s i))
noncomputable def nameB (s : ByteArray) : Bool := @decide (NameP s) (Classical.propDecidable _)
theorem nameB_yes {s : ByteArray} (h : NameP s) : nameB s = true := by unfold nameB; simp [h]
theorem nameB_no {s : ByteArray} (h : ¬ NameP s) : nameB s = false := by unfold nameB; simp [h]
theorem reserved_tells (s : ByteArray) : (s.toList ∈ words → value_reserved.f s = some true) ∧ (s.toList ∉ words → value_reserved.f s = some false) := by
  unfold value_reserved.f words
  constructor
  · intro h
    simp only [List.mem_cons, List.not_mem_nil, or_false] at h
    rcases h with h | h | h | h | h | h | h | h | h | h <;> simp [h]
  · intro h
    simp only [List.mem_cons, List.not_mem_nil, or_false, not_or] at h
    obtain ⟨h0, h1, h2, h3, h4, h5, h6, h7, h8, h9⟩ := h
    simp [h0, h1, h2, h3, h4, h5, h6, h7, h8, h9]
theorem name_round (k : Nat) (s : ByteArray) (i : Nat) (hi : i < s.size) (hn : s.size ≤ 140737488351232) : (small (bt s i) ∨ inner (bt s i) → value_Name.l0 (k + 1) s i = value_Name.l0 k s ((i + 1 : Nat) : Int)) ∧ (¬ (small (bt s i) ∨ inner (bt s i)) → value_Name.l0 (k + 1) s i = some false) := by
  simp only [value_Name.l0]
  rw [if_pos (by omega), if_pos (by omega), wrap_nat hi hn]
  unfold small inner
  generalize bt s i = c
  constructor
  · intro h
    repeat' split
    all_goals first | rfl | (exfalso; omega)
  · intro h
    repeat' split
    all_goals first | rfl | (exfalso; omega)
theorem name_loop (s : ByteArray) (hn : s.size ≤ 140737488351232) (d : Nat) : ∀ (k i : Nat), i ≤ s.size → s.size - i = d → d < k →
    ((∀ j, i ≤ j → j < s.size → small (bt s j) ∨ inner (bt s j)) → value_Name.l0 k s i = some true) ∧ (¬ (∀ j, i ≤ j → j < s.size → small (bt s j) ∨ inner (bt s j)) → value_Name.l0 k s i = some false) := by
  induction d with
  | zero =>
    intro k i hi hd hk
    obtain ⟨k, rfl⟩ : ∃ m, k = m + 1 := ⟨k - 1, by omega⟩
    refine ⟨fun _ => ?_, fun h => absurd (fun j h1 h2 => by omega) h⟩
    simp only [value_Name.l0]
    rw [if_neg (by omega)]
  | succ d ih =>
    intro k i hi hd hk
    obtain ⟨k, rfl⟩ : ∃ m, k = m + 1 := ⟨k - 1, by omega⟩
    have hlt : i < s.size := by omega
    have hr := name_round k s i hlt hn
    have hih := ih k (i + 1) (by omega) (by omega) (by omega)
    by_cases hc : small (bt s i) ∨ inner (bt s i)
    · rw [hr.1 hc]
      refine ⟨fun h => hih.1 (fun j h1 h2 => h j (by omega) h2), fun h => hih.2 (fun h2 => h (fun j h3 h4 => ?_))⟩
      by_cases hj : j = i
      · subst hj; exact hc
      · exact h2 j (by omega) h4
    · rw [hr.2 hc]
      exact ⟨fun h => absurd (h i (Nat.le_refl _) hlt) hc, fun _ => rfl⟩
theorem size_of_nil {s : ByteArray} : s.toList = [] ↔ s.size = 0 := by
  rw [← List.length_eq_zero_iff]
  have : s.toList.length = s.size := by rw [ByteArray.toList_eq]; exact data_length s
  omega
theorem value_Name_from (s : ByteArray) (hn : s.size ≤ 140737488351232) (k : Nat) (hk : s.size + 3 ≤ k) : value_Name.f k s = some (nameB s) := by
  obtain ⟨k, rfl⟩ : ∃ m, k = m + 1 := ⟨k - 1, by omega⟩
  have hj : ∀ b, value_Name.j0 (k + 1) s b = if b = true then some false else value_Name.l0 k s 0 := fun b => rfl
  show value_Name.f (k + 1) s = some _
  unfold value_Name.f
  by_cases h0 : s.size = 0
  · rw [if_pos (size_of_nil.2 h0), hj, if_pos rfl, nameB_no (fun h => by have := h.1; omega)]
  rw [if_neg (fun h => h0 (size_of_nil.1 h))]
  by_cases h16 : (s.size : Int) > 16
  · rw [if_pos h16, hj, if_pos rfl, nameB_no (fun h => by have := h.2.1; omega)]
  rw [if_neg h16, if_pos (by omega)]
  have hfirst : NameP s → small (bt s 0) := fun h => by
    rcases h.2.2.2 0 (by omega) with h | h
    · exact h
    · omega
  by_cases h1 : bt s 0 < 97
  · rw [if_pos h1, hj, if_pos rfl, nameB_no (fun h => by have := hfirst h; unfold small at this; omega)]
  rw [if_neg h1]
  by_cases h2 : bt s 0 > 122
  · rw [if_pos h2, hj, if_pos rfl, nameB_no (fun h => by have := hfirst h; unfold small at this; omega)]
  rw [if_neg h2]
  by_cases hw : s.toList ∈ words
  · rw [(reserved_tells s).1 hw]
    simp only [Option.bind_some]
    rw [hj, if_pos rfl, nameB_no (fun h => h.2.2.1 hw)]
  · rw [(reserved_tells s).2 hw]
    simp only [Option.bind_some]
    rw [hj, if_neg (by decide)]
    have hl := name_loop s hn s.size k 0 (by omega) (by omega) (by omega)
    by_cases ha : ∀ j, 0 ≤ j → j < s.size → small (bt s j) ∨ inner (bt s j)
    · have := hl.1 ha
      rw [nameB_yes]
      · exact this
      refine ⟨by omega, by omega, hw, fun i hi => ?_⟩
      rcases ha i (by omega) hi with h | h
      · exact .inl h
      · by_cases hi0 : i = 0
        · subst hi0
          left; unfold small
          exact ⟨Int.not_lt.1 h1, Int.not_lt.1 h2⟩
        · exact .inr ⟨by omega, h⟩
    · have := hl.2 ha
      rw [nameB_no]
      · exact this
      intro h
      apply ha
      intro j _ hj2
      rcases h.2.2.2 j hj2 with h | h
      · exact .inl h
      · exact .inr h.2
theorem ref_round (k : Nat) (s : ByteArray) (i : Nat) (hi : i < s.size) (hn : s.size ≤ 140737488351232) : (small (bt s i) ∨ (0 < i ∧ inner (bt s i)) → sojournref03_Name.l1 (k + 1) s i = sojournref03_Name.l1 k s ((i + 1 : Nat) : Int)) ∧ (¬ (small (bt s i) ∨ (0 < i ∧ inner (bt s i))) → sojournref03_Name.l1 (k + 1) s i = some false) := by
  simp only [sojournref03_Name.l1]
  rw [if_pos (by omega), if_pos (by omega), wrap_nat hi hn]
  unfold small inner
  generalize bt s i = c
  constructor
  · intro h
    repeat' split
    all_goals first | rfl | (exfalso; omega)
  · intro h
    repeat' split
    all_goals first | rfl | (exfalso; omega)
theorem ref_loop (s : ByteArray) (hn : s.size ≤ 140737488351232) (d : Nat) : ∀ (k i : Nat), i ≤ s.size → s.size - i = d → d < k →
    ((∀ j, i ≤ j → j < s.size → small (bt s j) ∨ (0 < j ∧ inner (bt s j))) → sojournref03_Name.l1 k s i = some (decide (1 ≤ s.size ∧ s.size ≤ 16))) ∧ (¬ (∀ j, i ≤ j → j < s.size → small (bt s j) ∨ (0 < j ∧ inner (bt s j))) → sojournref03_Name.l1 k s i = some false) := by
  induction d with
  | zero =>
    intro k i hi hd hk
    obtain ⟨k, rfl⟩ : ∃ m, k = m + 1 := ⟨k - 1, by omega⟩
    refine ⟨fun _ => ?_, fun h => absurd (fun j h1 h2 => by omega) h⟩
    simp only [sojournref03_Name.l1]
    rw [if_neg (by omega)]
    by_cases h1 : (s.size : Int) ≥ 1
    · rw [if_pos h1]
      congr 1
      apply decide_eq_decide.2
      omega
    · rw [if_neg h1]
      congr 1
      symm
      apply decide_eq_false
      omega
  | succ d ih =>
    intro k i hi hd hk
    obtain ⟨k, rfl⟩ : ∃ m, k = m + 1 := ⟨k - 1, by omega⟩
    have hlt : i < s.size := by omega
    have hr := ref_round k s i hlt hn
    have hih := ih k (i + 1) (by omega) (by omega) (by omega)
    by_cases hc : small (bt s i) ∨ (0 < i ∧ inner (bt s i))
    · rw [hr.1 hc]
      refine ⟨fun h => hih.1 (fun j h1 h2 => h j (by omega) h2), fun h => hih.2 (fun h2 => h (fun j h3 h4 => ?_))⟩
      by_cases hj : j = i
      · subst hj; exact hc
      · exact h2 j (by omega) h4
    · rw [hr.2 hc]
      exact ⟨fun h => absurd (h i (Nat.le_refl _) hlt) hc, fun _ => rfl⟩
def wordsB : List ByteArray := [(⟨#[116, 114, 117, 101]⟩ : ByteArray), (⟨#[102, 97, 108, 115, 101]⟩ : ByteArray), (⟨#[110, 111, 119]⟩ : ByteArray), (⟨#[98, 101, 103, 97, 110]⟩ : ByteArray), (⟨#[104, 97, 115]⟩ : ByteArray), (⟨#[108, 101, 110]⟩ : ByteArray), (⟨#[114, 97, 116, 101]⟩ : ByteArray), (⟨#[102, 108, 111, 111, 114]⟩ : ByteArray), (⟨#[109, 105, 110]⟩ : ByteArray), (⟨#[109, 97, 120]⟩ : ByteArray)]
theorem words_at (j : Nat) (hj : j < 10) : (rdOf ByteArray.empty wordsB (j : Int)).toList = words.getD j [] := by
  match j, hj with
  | 0, _ => decide +kernel
  | 1, _ => decide +kernel
  | 2, _ => decide +kernel
  | 3, _ => decide +kernel
  | 4, _ => decide +kernel
  | 5, _ => decide +kernel
  | 6, _ => decide +kernel
  | 7, _ => decide +kernel
  | 8, _ => decide +kernel
  | 9, _ => decide +kernel
  | n + 10, h => omega
theorem words_loop (s : ByteArray) (d : Nat) : ∀ (k j : Nat), j ≤ 10 → 10 - j = d → d < k → (s.toList ∈ words.drop j → sojournref03_Name.l0 k s wordsB j = some false) ∧ (s.toList ∉ words.drop j → sojournref03_Name.l0 k s wordsB j = sojournref03_Name.l1 (k - d - 1) s 0) := by
  induction d with
  | zero =>
    intro k j hj hd hk
    obtain ⟨k, rfl⟩ : ∃ m, k = m + 1 := ⟨k - 1, by omega⟩
    obtain rfl : j = 10 := by omega
    refine ⟨fun h => by simp [words] at h, fun _ => ?_⟩
    simp only [sojournref03_Name.l0]
    rw [if_neg (by simp [wordsB])]
    rfl
  | succ d ih =>
    intro k j hj hd hk
    obtain ⟨k, rfl⟩ : ∃ m, k = m + 1 := ⟨k - 1, by omega⟩
    have hlt : j < 10 := by omega
    have hih := ih k (j + 1) (by omega) (by omega) (by omega)
    have hdrop : words.drop j = words.getD j [] :: words.drop (j + 1) := by
      have hl : j < words.length := by simp [words]; omega
      rw [List.drop_eq_getElem_cons hl]
      simp [List.getD, List.getElem?_eq_getElem hl]
    simp only [sojournref03_Name.l0]
    rw [if_pos (by simp [wordsB]; omega), if_pos (by omega), words_at j hlt, hdrop, show wrap64 ((j : Int) + 1) = ((j + 1 : Nat) : Int) from by unfold wrap64; omega]
    by_cases he : s.toList = words.getD j []
    · rw [if_pos he]
      exact ⟨fun _ => rfl, fun h => absurd (he ▸ List.mem_cons_self) h⟩
    · rw [if_neg he]
      refine ⟨fun h => hih.1 ((List.mem_cons.1 h).resolve_left he), fun h => ?_⟩
      rw [hih.2 (fun h2 => h (List.mem_cons_of_mem _ h2))]
      congr 1
      omega
theorem ref_Name_from (s : ByteArray) (hn : s.size ≤ 140737488351232) (k : Nat) (hk : s.size + 20 ≤ k) : sojournref03_Name.f k s = some (nameB s) := by
  show sojournref03_Name.l0 k s wordsB ((0 : Nat) : Int) = _
  have hw := words_loop s 10 k 0 (by omega) (by omega) (by omega)
  by_cases hm : s.toList ∈ words
  · rw [hw.1 hm, nameB_no (fun h => h.2.2.1 hm)]
  · rw [hw.2 hm]
    have hl := ref_loop s hn s.size (k - 10 - 1) 0 (by omega) (by omega) (by omega)
    by_cases ha : ∀ j, 0 ≤ j → j < s.size → small (bt s j) ∨ (0 < j ∧ inner (bt s j))
    · rw [show ((0 : Nat) : Int) = 0 from rfl] at hl
      rw [hl.1 ha]
      by_cases hs : 1 ≤ s.size ∧ s.size ≤ 16
      · rw [decide_eq_true hs, nameB_yes ⟨by omega, by omega, hm, fun i hi => ha i (by omega) hi⟩]
      · rw [decide_eq_false hs, nameB_no (fun h => hs ⟨h.1, h.2.1⟩)]
    · rw [show ((0 : Nat) : Int) = 0 from rfl] at hl
      rw [hl.2 ha, nameB_no (fun h => ha (fun j _ hj => h.2.2.2 j hj))]
theorem value_Name_tells (s : ByteArray) (hn : s.size ≤ 140737488351232) : Ev (fun k => value_Name.f k s) (nameB s) := ⟨_, value_Name_from s hn⟩
theorem ref_Name_tells (s : ByteArray) (hn : s.size ≤ 140737488351232) : Ev (fun k => sojournref03_Name.f k s) (nameB s) := ⟨_, ref_Name_from s hn⟩
end Go.Proofs.Ytagifiakjniedaa.PTab
