/-
  Right and Stand, the program's and the reference's, tell the same, by lists alone; lists held against themselves.
-/
import Derived.Test.YtgphdeelangkfaaPDutyx8
import Derived.Test.YtgphdeelangkfaaDutyLateA
namespace Go.Proofs.Ytgphdeelangkfaa.PDuty
open Go.RowKit Go.Proofs.YtgphdeelangkfaaW.PrintWords Go.Proofs.YtgphdeelangkfaaW.PrintLast
set_option linter.unusedVariables false
def findV (nm : ByteArray) : List S51 → Nat → Int
  | [], _ => -1
  | d :: ds, i => if d.f0.toList = nm.toList then (i : Int) else findV nm ds (i + 1)
theorem find_loop (xs : List S51) (nm : ByteArray) (hn : xs.length ≤ 8796093022208) (d : Nat) : ∀ (k j : Nat), j ≤ xs.length → xs.length - j = d → d < k → duty_find.l0 k nm xs (xs.length : Int) j = some (findV nm (xs.drop j) j) := by
  induction d with
  | zero =>
    intro k j hj hd hk
    obtain ⟨k, rfl⟩ : ∃ m, k = m + 1 := ⟨k - 1, by omega⟩
    simp only [duty_find.l0]
    rw [if_neg (by omega), List.drop_of_length_le (by omega)]
    rfl
  | succ d ih =>
    intro k j hj hd hk
    obtain ⟨k, rfl⟩ : ∃ m, k = m + 1 := ⟨k - 1, by omega⟩
    have hlt : j < xs.length := by omega
    simp only [duty_find.l0]
    rw [if_pos (by omega), if_pos (by omega), if_pos (by omega), rd51_nat, wrap_nat hlt (by omega), ih k (j + 1) (by omega) (by omega) (by omega), drop_at xs z51 j hlt]
    simp only [findV]
    split
    · rfl
    · rfl
theorem find_from (xs : List S51) (nm : ByteArray) (hn : xs.length ≤ 8796093022208) (k : Nat) (hk : xs.length + 1 ≤ k) : duty_find.f k xs nm = some (findV nm xs 0) := by
  have := find_loop xs nm hn xs.length k 0 (by omega) (by omega) (by omega)
  simpa [duty_find.f] using this
/-- The first place of a name: what is known of it. -/
theorem findV_spec (nm : ByteArray) (xs : List S51) : ∀ i : Nat, (findV nm xs i = -1 ∧ ∀ d ∈ xs, d.f0.toList ≠ nm.toList) ∨ ∃ j, j < xs.length ∧ findV nm xs i = (i + j : Nat) ∧ (xs.getD j z51).f0.toList = nm.toList ∧ ∀ m, m < j → (xs.getD m z51).f0.toList ≠ nm.toList := by
  induction xs with
  | nil => intro i; left; simp [findV]
  | cons d ds ih =>
    intro i
    simp only [findV]
    by_cases h : d.f0.toList = nm.toList
    · right
      exact ⟨0, by simp, by rw [if_pos h]; simp, by simpa using h, fun m hm => by omega⟩
    · rw [if_neg h]
      rcases ih (i + 1) with ⟨h1, h2⟩ | ⟨j, hj, h1, h2, h3⟩
      · left
        refine ⟨h1, fun e he => ?_⟩
        rcases List.mem_cons.1 he with rfl | he
        · exact h
        · exact h2 e he
      · right
        refine ⟨j + 1, by simp; omega, by rw [h1]; congr 1; omega, by simpa using h2, fun m hm => ?_⟩
        cases m with
        | zero => simpa using h
        | succ m => simpa using h3 m (by omega)
theorem findV_before (xs : List S51) (j : Nat) (hj : j < xs.length) : (findV (xs.getD j z51).f0 xs 0 < (j : Int)) ↔ ∃ m, m < j ∧ (xs.getD m z51).f0.toList = (xs.getD j z51).f0.toList := by
  rcases findV_spec (xs.getD j z51).f0 xs 0 with ⟨h1, h2⟩ | ⟨i, hi, h1, h2, h3⟩
  · exfalso
    have hm : xs.getD j z51 ∈ xs := by
      rw [List.getD, List.getElem?_eq_getElem hj]
      exact List.getElem_mem hj
    exact h2 _ hm rfl
  · rw [h1]
    constructor
    · intro h; exact ⟨i, by omega, h2⟩
    · rintro ⟨m, hm, he⟩
      have : ¬ m < i := fun hmi => h3 m hmi he
      omega
/-- What is asked of a duty at its place. -/
def DutyP (xs : List S51) (j : Nat) : Prop := NameP (xs.getD j z51).f0 ∧ 0 ≤ (xs.getD j z51).f1 ∧ ∀ m, m < j → (xs.getD m z51).f0.toList ≠ (xs.getD j z51).f0.toList
def RightP (xs : List S51) : Prop := xs.length ≤ 4 ∧ ∀ j, j < xs.length → DutyP xs j
noncomputable def rightB (xs : List S51) : Bool := @decide (RightP xs) (Classical.propDecidable _)
theorem rightB_yes {xs : List S51} (h : RightP xs) : rightB xs = true := by unfold rightB; simp [h]
theorem rightB_no {xs : List S51} (h : ¬ RightP xs) : rightB xs = false := by unfold rightB; simp [h]
def BIG : Nat := 140737488351400
theorem nameB_iff (s : ByteArray) : nameB s = true ↔ NameP s := by
  constructor
  · intro h
    exact Classical.byContradiction fun hn => by rw [nameB_no hn] at h; cases h
  · exact nameB_yes
theorem right_loop (xs : List S51) (hn : xs.length ≤ 4) (hb : ∀ y ∈ xs, y.f0.size ≤ 140737488351232) (d : Nat) : ∀ (k j : Nat), j ≤ xs.length → xs.length - j = d → BIG + d < k →
    ((∀ m, j ≤ m → m < xs.length → DutyP xs m) → duty_Right.l0 k xs xs (xs.length : Int) j = some true) ∧ (¬ (∀ m, j ≤ m → m < xs.length → DutyP xs m) → duty_Right.l0 k xs xs (xs.length : Int) j = some false) := by
  induction d with
  | zero =>
    intro k j hj hd hk
    obtain ⟨k, rfl⟩ : ∃ m, k = m + 1 := ⟨k - 1, by omega⟩
    refine ⟨fun _ => ?_, fun h => absurd (fun m h1 h2 => by omega) h⟩
    simp only [duty_Right.l0]
    rw [if_neg (by omega)]
  | succ d ih =>
    intro k j hj hd hk
    obtain ⟨k, rfl⟩ : ∃ m, k = m + 1 := ⟨k - 1, by omega⟩
    have hlt : j < xs.length := by omega
    have hmem : xs.getD j z51 ∈ xs := by
      rw [List.getD, List.getElem?_eq_getElem hlt]
      exact List.getElem_mem hlt
    have hsz := hb _ hmem
    have hih := ih k (j + 1) (by omega) (by omega) (by omega)
    simp only [duty_Right.l0]
    rw [if_pos (by omega), if_pos (by omega), if_pos (by omega), rd51_nat, wrap_nat hlt (by omega), value_Name_from _ hsz k (by unfold BIG at hk; omega)]
    simp only [Option.bind_some]
    rw [find_from xs _ (by omega) k (by unfold BIG at hk; omega)]
    simp only [Option.bind_some]
    have hfb := findV_before xs j hlt
    have step : DutyP xs j → ((∀ m, j ≤ m → m < xs.length → DutyP xs m) ↔ (∀ m, j + 1 ≤ m → m < xs.length → DutyP xs m)) := fun hp => by
      refine ⟨fun h m h1 h2 => h m (by omega) h2, fun h m h1 h2 => ?_⟩
      by_cases hm : m = j
      · subst hm; exact hp
      · exact h m (by omega) h2
    by_cases h1 : nameB (xs.getD j z51).f0 = true
    · rw [if_pos h1]
      by_cases h2 : findV (xs.getD j z51).f0 xs 0 < (j : Int)
      · rw [if_pos h2]
        refine ⟨fun h => ?_, fun _ => rfl⟩
        obtain ⟨m, hm, he⟩ := hfb.1 h2
        exact absurd he ((h j (Nat.le_refl _) hlt).2.2 m hm)
      · rw [if_neg h2]
        by_cases h3 : (xs.getD j z51).f1 < 0
        · rw [if_pos h3]
          exact ⟨fun h => by have := (h j (Nat.le_refl _) hlt).2.1; omega, fun _ => rfl⟩
        · rw [if_neg h3]
          have hp : DutyP xs j := ⟨(nameB_iff _).1 h1, by omega, fun m hm he => h2 (hfb.2 ⟨m, hm, he⟩)⟩
          rw [step hp]
          exact hih
    · rw [if_neg h1]
      exact ⟨fun h => absurd ((nameB_iff _).2 (h j (Nat.le_refl _) hlt).1) h1, fun _ => rfl⟩
theorem right_from (xs : List S51) (hb : ∀ y ∈ xs, y.f0.size ≤ 140737488351232) (k : Nat) (hk : BIG + 6 ≤ k) : duty_Right.f k xs = some (rightB xs) := by
  unfold duty_Right.f
  by_cases h : (xs.length : Int) > 4
  · rw [if_pos h, rightB_no (fun hr => by have := hr.1; omega)]
  · rw [if_neg h]
    have hl := right_loop xs (by omega) hb xs.length k 0 (by omega) (by omega) (by omega)
    by_cases ha : ∀ m, 0 ≤ m → m < xs.length → DutyP xs m
    · rw [rightB_yes ⟨by omega, fun j hj => ha j (by omega) hj⟩]
      exact hl.1 ha
    · rw [rightB_no (fun hr => ha (fun m _ hm => hr.2 m hm))]
      exact hl.2 ha
theorem refRight_inner (xs : List S51) (hn : xs.length ≤ 4) (j : Nat) (hlt : j < xs.length) (d : Nat) : ∀ (k i : Nat), i ≤ j → j - i = d → d < k →
    ((∀ m, i ≤ m → m < j → (xs.getD m z51).f0.toList ≠ (xs.getD j z51).f0.toList) → sojournref15_Right.l1 k xs j i = sojournref15_Right.l0 (k - d - 1) xs ((j + 1 : Nat) : Int)) ∧
    (¬ (∀ m, i ≤ m → m < j → (xs.getD m z51).f0.toList ≠ (xs.getD j z51).f0.toList) → sojournref15_Right.l1 k xs j i = some false) := by
  induction d with
  | zero =>
    intro k i hi hd hk
    obtain ⟨k, rfl⟩ : ∃ m, k = m + 1 := ⟨k - 1, by omega⟩
    refine ⟨fun _ => ?_, fun h => absurd (fun m h1 h2 => by omega) h⟩
    simp only [sojournref15_Right.l1]
    rw [if_neg (by omega), wrap_nat hlt (by omega)]
    rfl
  | succ d ih =>
    intro k i hi hd hk
    obtain ⟨k, rfl⟩ : ∃ m, k = m + 1 := ⟨k - 1, by omega⟩
    have hih := ih k (i + 1) (by omega) (by omega) (by omega)
    simp only [sojournref15_Right.l1]
    rw [if_pos (by omega), if_pos (by omega), if_pos (by omega), if_pos (by omega), if_pos (by omega), rd51_nat, rd51_nat, wrap_nat (show i < xs.length by omega) (by omega)]
    by_cases he : (xs.getD i z51).f0.toList = (xs.getD j z51).f0.toList
    · rw [if_pos he]
      exact ⟨fun h => absurd he (h i (Nat.le_refl _) (by omega)), fun _ => rfl⟩
    · rw [if_neg he]
      refine ⟨fun h => ?_, fun h => hih.2 (fun h2 => h (fun m h3 h4 => ?_))⟩
      · rw [hih.1 (fun m h1 h2 => h m (by omega) h2)]
        congr 1
        omega
      · by_cases hm : m = i
        · subst hm; exact he
        · exact h2 m (by omega) h4
theorem refRight_loop (xs : List S51) (hn : xs.length ≤ 4) (hb : ∀ y ∈ xs, y.f0.size ≤ 140737488351232) (d : Nat) : ∀ (k j : Nat), j ≤ xs.length → xs.length - j = d → BIG + 10 * d < k →
    ((∀ m, j ≤ m → m < xs.length → DutyP xs m) → sojournref15_Right.l0 k xs j = some true) ∧ (¬ (∀ m, j ≤ m → m < xs.length → DutyP xs m) → sojournref15_Right.l0 k xs j = some false) := by
  induction d with
  | zero =>
    intro k j hj hd hk
    obtain ⟨k, rfl⟩ : ∃ m, k = m + 1 := ⟨k - 1, by omega⟩
    refine ⟨fun _ => ?_, fun h => absurd (fun m h1 h2 => by omega) h⟩
    simp only [sojournref15_Right.l0]
    rw [if_neg (by omega)]
  | succ d ih =>
    intro k j hj hd hk
    obtain ⟨k, rfl⟩ : ∃ m, k = m + 1 + 1 := ⟨k - 2, by omega⟩
    have hlt : j < xs.length := by omega
    have hmem : xs.getD j z51 ∈ xs := by
      rw [List.getD, List.getElem?_eq_getElem hlt]
      exact List.getElem_mem hlt
    have hsz := hb _ hmem
    have hih := ih (k - j - 1) (j + 1) (by omega) (by omega) (by omega)
    have hin := refRight_inner xs hn j hlt j k 0 (by omega) (by omega) (by unfold BIG at hk; omega)
    have e1 : sojournref15_Right.l0 (k + 1 + 1) xs j = (sojournref03_Name.f (k + 1) (xs.getD j z51).f0).bind fun t => if t = true then sojournref15_Right.j1 (k + 1) xs j (decide ((xs.getD j z51).f1 < 0)) else sojournref15_Right.j1 (k + 1) xs j true := by
      rw [sojournref15_Right.l0, if_pos (by omega), if_pos (by omega), rd51_nat]
    have e2 : ∀ b, sojournref15_Right.j1 (k + 1) xs j b = if b = true then some false else sojournref15_Right.l1 k xs j 0 := fun b => by rw [sojournref15_Right.j1]
    rw [e1, ref_Name_from _ hsz (k + 1) (by unfold BIG at hk; omega)]
    simp only [Option.bind_some, e2]
    have step : DutyP xs j → ((∀ m, j ≤ m → m < xs.length → DutyP xs m) ↔ (∀ m, j + 1 ≤ m → m < xs.length → DutyP xs m)) := fun hp => by
      refine ⟨fun h m h1 h2 => h m (by omega) h2, fun h m h1 h2 => ?_⟩
      by_cases hm : m = j
      · subst hm; exact hp
      · exact h m (by omega) h2
    by_cases h1 : nameB (xs.getD j z51).f0 = true
    · rw [if_pos h1]
      by_cases h3 : (xs.getD j z51).f1 < 0
      · rw [decide_eq_true h3, if_pos rfl]
        exact ⟨fun h => by have := (h j (Nat.le_refl _) hlt).2.1; omega, fun _ => rfl⟩
      · rw [decide_eq_false h3, if_neg (by decide)]
        by_cases ha : ∀ m, 0 ≤ m → m < j → (xs.getD m z51).f0.toList ≠ (xs.getD j z51).f0.toList
        · rw [show (0 : Int) = ((0 : Nat) : Int) from rfl, hin.1 ha]
          have hp : DutyP xs j := ⟨(nameB_iff _).1 h1, by omega, fun m hm => ha m (by omega) hm⟩
          rw [step hp]
          exact hih
        · rw [show (0 : Int) = ((0 : Nat) : Int) from rfl, hin.2 ha]
          exact ⟨fun h => absurd (fun m _ hm => (h j (Nat.le_refl _) hlt).2.2 m hm) ha, fun _ => rfl⟩
    · rw [if_neg h1]
      simp only [if_true]
      exact ⟨fun h => absurd ((nameB_iff _).2 (h j (Nat.le_refl _) hlt).1) h1, fun _ => trivial⟩
theorem refRight_from (xs : List S51) (hb : ∀ y ∈ xs, y.f0.size ≤ 140737488351232) (k : Nat) (hk : BIG + 60 ≤ k) : sojournref15_Right.f k xs = some (rightB xs) := by
  unfold sojournref15_Right.f
  by_cases h : (xs.length : Int) > 4
  · rw [if_pos h, rightB_no (fun hr => by have := hr.1; omega)]
  · rw [if_neg h]
    have hl := refRight_loop xs (by omega) hb xs.length k 0 (by omega) (by omega) (by omega)
    by_cases ha : ∀ m, 0 ≤ m → m < xs.length → DutyP xs m
    · rw [rightB_yes ⟨by omega, fun j hj => ha j (by omega) hj⟩]
      exact hl.1 ha
    · rw [rightB_no (fun hr => ha (fun m _ hm => hr.2 m hm))]
      exact hl.2 ha
/-- Stand, of lists of a length: no duty that comes again is done. -/
def standV : List S51 → List S32 → Bool
  | d :: ds, p :: ps => if d.f2 = true then (if p.f1 = true then false else standV ds ps) else standV ds ps
  | _, _ => true
theorem stand_loop (xs : List S51) (ps : List S32) (he : xs.length = ps.length) (hn : xs.length ≤ 4) (d : Nat) : ∀ (k j : Nat), j ≤ xs.length → xs.length - j = d → d < k → duty_Stand.l0 k xs ps (xs.length : Int) j = some (standV (xs.drop j) (ps.drop j)) ∧ sojournref15_Stand.l0 k xs ps j = some (standV (xs.drop j) (ps.drop j)) := by
  induction d with
  | zero =>
    intro k j hj hd hk
    obtain ⟨k, rfl⟩ : ∃ m, k = m + 1 := ⟨k - 1, by omega⟩
    simp only [duty_Stand.l0, sojournref15_Stand.l0]
    rw [if_neg (by omega), if_neg (by omega), List.drop_of_length_le (by omega)]
    exact ⟨rfl, rfl⟩
  | succ d ih =>
    intro k j hj hd hk
    obtain ⟨k, rfl⟩ : ∃ m, k = m + 1 := ⟨k - 1, by omega⟩
    have hlt : j < xs.length := by omega
    obtain ⟨i1, i2⟩ := ih k (j + 1) (by omega) (by omega) (by omega)
    have c1 : (j : Int) < (xs.length : Int) := by omega
    have c2 : (j : Int) < (ps.length : Int) := by omega
    have c3 : (0 : Int) ≤ (j : Int) := by omega
    simp only [duty_Stand.l0, sojournref15_Stand.l0, c1, c2, c3, if_true, rd51_nat, rd32_nat]
    rw [wrap_nat hlt (by omega), i1, i2, drop_at xs z51 j hlt, drop_at ps z32 j (by omega)]
    simp only [standV]
    constructor
    · repeat' split
      all_goals rfl
    · repeat' split
      all_goals rfl
noncomputable def standB (xs : List S51) (ps : List S32) : Bool := rightB xs && (decide (xs.length = ps.length) && standV xs ps)
theorem stand_from (xs : List S51) (ps : List S32) (hb : ∀ y ∈ xs, y.f0.size ≤ 140737488351232) (k : Nat) (hk : BIG + 60 ≤ k) : duty_Stand.f k xs ps = some (standB xs ps) ∧ sojournref15_Stand.f k xs ps = some (standB xs ps) := by
  obtain ⟨k, rfl⟩ : ∃ m, k = m + 1 := ⟨k - 1, by omega⟩
  have e1 : ∀ b, duty_Stand.j0 (k + 1) xs ps b = if b = true then some false else duty_Stand.l0 k xs ps (xs.length : Int) 0 := fun b => by rw [duty_Stand.j0]
  have e2 : ∀ b, sojournref15_Stand.j0 (k + 1) xs ps b = if b = true then some false else sojournref15_Stand.l0 k xs ps 0 := fun b => by rw [sojournref15_Stand.j0]
  unfold duty_Stand.f sojournref15_Stand.f standB
  rw [right_from xs hb _ (by omega), refRight_from xs hb _ hk]
  simp only [Option.bind_some, e1, e2]
  by_cases hr : rightB xs = true
  · rw [if_pos hr, if_pos hr, hr]
    have hx : RightP xs := Classical.byContradiction fun hc => by rw [rightB_no hc] at hr; cases hr
    by_cases hl : xs.length = ps.length
    · have hc : ((xs.length : Int) != (ps.length : Int)) = false := by simp [hl]
      rw [hc, if_neg (by decide), if_neg (by decide), decide_eq_true hl]
      have := stand_loop xs ps hl hx.1 xs.length k 0 (by omega) (by omega) (by unfold BIG at hk; have := hx.1; omega)
      simpa using this
    · have hc : ((xs.length : Int) != (ps.length : Int)) = true := by simp; omega
      rw [hc, if_pos rfl, if_pos rfl, decide_eq_false hl]
      simp
  · rw [if_neg hr, if_neg hr]
    simp [hr]
theorem sameDuties_self (xs : List S51) (hn : xs.length ≤ 8796093022208) (d : Nat) : ∀ (k j : Nat), j ≤ xs.length → xs.length - j = d → d < k → sojournlaw15_sameDuties.l0 k xs xs (xs.length : Int) j = some true := by
  induction d with
  | zero =>
    intro k j hj hd hk
    obtain ⟨k, rfl⟩ : ∃ m, k = m + 1 := ⟨k - 1, by omega⟩
    simp only [sojournlaw15_sameDuties.l0]
    rw [if_neg (by omega)]
  | succ d ih =>
    intro k j hj hd hk
    obtain ⟨k, rfl⟩ : ∃ m, k = m + 1 := ⟨k - 1, by omega⟩
    have hlt : j < xs.length := by omega
    simp only [sojournlaw15_sameDuties.l0]
    rw [if_pos (by omega), if_pos (by omega), if_pos (by omega), if_pos (by omega), if_neg (by simp), wrap_nat hlt (by omega)]
    exact ih k (j + 1) (by omega) (by omega) (by omega)
theorem sameDuties_from (xs : List S51) (hn : xs.length ≤ 8796093022208) : Ev (fun k => sojournlaw15_sameDuties.f k xs xs) true :=
  ⟨xs.length + 1, fun k hk => by have := sameDuties_self xs hn xs.length k 0 (by omega) (by omega) (by omega); simpa [sojournlaw15_sameDuties.f] using this⟩
theorem Same_self (xs : List S32) (hn : xs.length ≤ 8796093022208) (d : Nat) : ∀ (k j : Nat), j ≤ xs.length → xs.length - j = d → d < k → sojournref15_Same.l0 k xs xs j = some true := by
  induction d with
  | zero =>
    intro k j hj hd hk
    obtain ⟨k, rfl⟩ : ∃ m, k = m + 1 := ⟨k - 1, by omega⟩
    simp only [sojournref15_Same.l0]
    rw [if_neg (by omega)]
  | succ d ih =>
    intro k j hj hd hk
    obtain ⟨k, rfl⟩ : ∃ m, k = m + 1 := ⟨k - 1, by omega⟩
    have hlt : j < xs.length := by omega
    simp only [sojournref15_Same.l0]
    rw [if_pos (by omega), if_pos (by omega), if_pos (by omega), if_neg (by simp), wrap_nat hlt (by omega)]
    exact ih k (j + 1) (by omega) (by omega) (by omega)
theorem Same_from (xs : List S32) (hn : xs.length ≤ 8796093022208) : Ev (fun k => sojournref15_Same.f k xs xs) true :=
  ⟨xs.length + 1, fun k hk => by have := Same_self xs hn xs.length k 0 (by omega) (by omega) (by omega); simpa [sojournref15_Same.f] using this⟩
theorem DutyRights_tells (xs : List S51) (ps : List S32) (hx : xs.length < 4398046511104) (hp : ps.length < 8796093022208) (hb : ∀ y ∈ xs, y.f0.size ≤ 140737488351232) : ∃ k, sojournlaw15_DutyRights.f k xs ps = some true := by
  have : Ev (fun k => sojournlaw15_DutyRights.f k xs ps) true := by
    unfold sojournlaw15_DutyRights.f
    simp only [Option.bind_some, List.nil_append, List.length_nil, Nat.zero_add, if_pos hx, if_pos hp]
    refine Ev.bind ⟨BIG + 60, fun k hk => right_from xs hb k (by omega)⟩ (Ev.bind ⟨BIG + 60, fun k hk => (stand_from xs ps hb k hk).1⟩ (Ev.bind alive_tells ?_))
    simp only [if_true]
    refine Ev.bind ⟨BIG + 60, fun k hk => refRight_from xs hb k hk⟩ ?_
    simp only [beq_self_eq_true, if_true]
    refine Ev.bind ⟨BIG + 60, fun k hk => (stand_from xs ps hb k hk).2⟩ ?_
    simp only [beq_self_eq_true, if_true]
    refine Ev.bind (sameDuties_from xs (by omega)) ?_
    simp only [if_true]
    exact Ev.bind (Same_from ps (by omega)) (Ev.now true)
  exact this.rounds
end Go.Proofs.Ytgphdeelangkfaa.PDuty
