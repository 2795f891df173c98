/-
  Begin and Done, the program's and the reference's, tell the same, by lists alone.
-/
import Derived.Test.YtgphdeelangkfaaPDutyx9
import Derived.Test.YtgphdeelangkfaaPDutyx11
import Derived.Test.YtgphdeelangkfaaDutyRight
import Derived.Test.YtgphdeelangkfaaA6
namespace Go.Proofs.Ytgphdeelangkfaa.PDuty
open Go.RowKit Go.Proofs.YtgphdeelangkfaaW.PrintWords Go.Proofs.YtgphdeelangkfaaW.PrintLast Go.Proofs.YtgphdeelangkfaaPlain Go.Proofs.Ytgphdeelangkfaa.Hand
set_option linter.unusedVariables false
theorem num_Add_pair {a b : Int} (ha : In a) (hb : In b) : num_Add.f a b = some (pairV (a + b)) := by
  unfold In at *
  unfold num_Add.f pairV wrap64
  repeat' split
  all_goals first | rfl | (exfalso; omega) | (congr 2; omega)
theorem ref_Add_pair {a b : Int} (ha : In a) (hb : In b) : sojournref01_Add.f a b = some (pairV (a + b)) := by
  unfold sojournref01_Add.f
  rw [inr_in ha, inr_in hb]
def beginV (now : Int) : List S51 → List S32 → List S32 × Bool
  | [], acc => (acc, true)
  | d :: ds, acc => if (pairV (now + d.f1)).2 = true then beginV now ds (acc ++ [⟨(pairV (now + d.f1)).1, false⟩]) else ([], false)
theorem getD_mem {xs : List S51} {j : Nat} (h : j < xs.length) : xs.getD j z51 ∈ xs := by
  rw [List.getD, List.getElem?_eq_getElem h]
  exact List.getElem_mem h
theorem begin_loop (xs : List S51) (now : Int) (hnow : In now) (hd : ∀ y ∈ xs, In y.f1) (hn : xs.length ≤ 4) (d : Nat) : ∀ (k j : Nat) (acc : List S32), j ≤ xs.length → xs.length - j = d → d < k → acc.length ≤ j → duty_Begin.l0 k now acc xs (xs.length : Int) j = some (beginV now (xs.drop j) acc) := by
  induction d with
  | zero =>
    intro k j acc hj hd' hk ha
    obtain ⟨k, rfl⟩ : ∃ m, k = m + 1 := ⟨k - 1, by omega⟩
    simp only [duty_Begin.l0]
    rw [if_neg (by omega), List.drop_of_length_le (by omega)]
    rfl
  | succ d ih =>
    intro k j acc hj hd' hk ha
    obtain ⟨k, rfl⟩ : ∃ m, k = m + 1 := ⟨k - 1, by omega⟩
    have hlt : j < xs.length := by omega
    simp only [duty_Begin.l0]
    rw [if_pos (by omega), if_pos (by omega), if_pos (by omega), rd51_nat, wrap_nat hlt (by omega), num_Add_pair hnow (hd _ (getD_mem hlt)), drop_at xs z51 j hlt]
    simp only [Option.bind_some, beginV]
    by_cases h : (pairV (now + (xs.getD j z51).f1)).2 = true
    · rw [if_pos h, if_pos h, if_pos (by omega)]
      exact ih k (j + 1) _ (by omega) (by omega) (by omega) (by simp; omega)
    · rw [if_neg h, if_neg h]
theorem refBegin_no (xs : List S51) (now : Int) (hnow : In now) (hd : ∀ y ∈ xs, In y.f1) (hn : xs.length ≤ 4) (d : Nat) : ∀ (k j : Nat) (acc : List S32), j ≤ xs.length → xs.length - j = d → d < k → acc.length ≤ j → sojournref15_Begin.l0 k xs now false acc j = some ([], false) := by
  induction d with
  | zero =>
    intro k j acc hj hd' hk ha
    obtain ⟨k, rfl⟩ : ∃ m, k = m + 1 := ⟨k - 1, by omega⟩
    simp only [sojournref15_Begin.l0]
    rw [if_neg (by omega), if_neg (by decide)]
  | succ d ih =>
    intro k j acc hj hd' hk ha
    obtain ⟨k, rfl⟩ : ∃ m, k = m + 1 := ⟨k - 1, by omega⟩
    have hlt : j < xs.length := by omega
    simp only [sojournref15_Begin.l0]
    rw [if_pos (by omega), if_pos (by omega), rd51_nat, wrap_nat hlt (by omega), ref_Add_pair hnow (hd _ (getD_mem hlt))]
    simp only [Option.bind_some]
    rw [if_neg (by decide), if_pos (by omega)]
    exact ih k (j + 1) _ (by omega) (by omega) (by omega) (by simp; omega)
theorem refBegin_loop (xs : List S51) (now : Int) (hnow : In now) (hd : ∀ y ∈ xs, In y.f1) (hn : xs.length ≤ 4) (d : Nat) : ∀ (k j : Nat) (acc : List S32), j ≤ xs.length → xs.length - j = d → d < k → acc.length ≤ j → sojournref15_Begin.l0 k xs now true acc j = some (beginV now (xs.drop j) acc) := by
  induction d with
  | zero =>
    intro k j acc hj hd' hk ha
    obtain ⟨k, rfl⟩ : ∃ m, k = m + 1 := ⟨k - 1, by omega⟩
    simp only [sojournref15_Begin.l0]
    rw [if_neg (by omega), List.drop_of_length_le (by omega)]
    rfl
  | succ d ih =>
    intro k j acc hj hd' hk ha
    obtain ⟨k, rfl⟩ : ∃ m, k = m + 1 := ⟨k - 1, by omega⟩
    have hlt : j < xs.length := by omega
    simp only [sojournref15_Begin.l0]
    rw [if_pos (by omega), if_pos (by omega), rd51_nat, wrap_nat hlt (by omega), ref_Add_pair hnow (hd _ (getD_mem hlt)), drop_at xs z51 j hlt]
    simp only [Option.bind_some, beginV, if_true]
    rw [if_pos (by omega)]
    by_cases h : (pairV (now + (xs.getD j z51).f1)).2 = true
    · rw [if_pos h, h]
      exact ih k (j + 1) _ (by omega) (by omega) (by omega) (by simp; omega)
    · rw [if_neg h, show (pairV (now + (xs.getD j z51).f1)).2 = false from by simpa using h]
      exact refBegin_no xs now hnow hd hn d k (j + 1) _ (by omega) (by omega) (by omega) (by simp; omega)
noncomputable def beginB (xs : List S51) (now : Int) : List S32 × Bool := if rightB xs = true then beginV now xs [] else ([], false)
theorem rightP_of {xs : List S51} (h : rightB xs = true) : RightP xs := Classical.byContradiction fun hc => by rw [rightB_no hc] at h; cases h
theorem begin_from (xs : List S51) (now : Int) (hnow : In now) (hd : ∀ y ∈ xs, In y.f1) (hb : ∀ y ∈ xs, y.f0.size ≤ 140737488351232) (k : Nat) (hk : BIG + 60 ≤ k) : duty_Begin.f k xs now = some (beginB xs now) ∧ sojournref15_Begin.f k xs now = some (beginB xs now) := by
  unfold duty_Begin.f sojournref15_Begin.f beginB
  rw [right_from xs hb k (by omega), refRight_from xs hb k hk]
  simp only [Option.bind_some]
  by_cases h : rightB xs = true
  · have h4 := (rightP_of h).1
    rw [if_pos h, if_pos h, if_pos h, h]
    have e1 := begin_loop xs now hnow hd h4 xs.length k 0 [] (by omega) (by omega) (by unfold BIG at hk; omega) (by simp)
    have e2 := refBegin_loop xs now hnow hd h4 xs.length k 0 [] (by omega) (by omega) (by unfold BIG at hk; omega) (by simp)
    exact ⟨e1, e2⟩
  · rw [if_neg h, if_neg h, if_neg h]
    exact ⟨rfl, rfl⟩
theorem beginV_length (now : Int) (xs : List S51) : ∀ acc, (beginV now xs acc).1.length ≤ acc.length + xs.length := by
  induction xs with
  | nil => intro acc; simp [beginV]
  | cons d ds ih =>
    intro acc
    simp only [beginV]
    split
    · have := ih (acc ++ [⟨(pairV (now + d.f1)).1, false⟩])
      simp at this ⊢
      omega
    · simp
theorem beginB_length (xs : List S51) (now : Int) : (beginB xs now).1.length ≤ 4 := by
  unfold beginB
  split
  · have := beginV_length now xs []
    have h4 := (rightP_of ‹_›).1
    simp at this
    omega
  · simp
theorem Same_at (xs : List S32) (hn : xs.length ≤ 8796093022208) (k : Nat) (hk : xs.length + 1 ≤ k) : sojournref15_Same.f k xs xs = some true := by
  have := Same_self xs hn xs.length k 0 (by omega) (by omega) (by omega)
  simpa [sojournref15_Same.f] using this
theorem sameDuties_at (xs : List S51) (hn : xs.length ≤ 8796093022208) (k : Nat) (hk : xs.length + 1 ≤ k) : sojournlaw15_sameDuties.f k xs xs = some true := by
  have := sameDuties_self xs hn xs.length k 0 (by omega) (by omega) (by omega)
  simpa [sojournlaw15_sameDuties.f] using this
theorem begins_loop (xs : List S51) (now : Int) (hnow : In now) (hd : ∀ y ∈ xs, In y.f1) (hb : ∀ y ∈ xs, y.f0.size ≤ 140737488351232) (n : Nat) (hn : n ≤ 4) (d : Nat) : ∀ (k j : Nat) (ps : List S32), ps.length = n → j ≤ n → n - j = d → BIG + 70 + d < k → sojournlaw15_DutyBegins.l0 k now xs ps (beginB xs now).1 (n : Int) j = some true := by
  induction d with
  | zero =>
    intro k j ps hp hj hd' hk
    obtain ⟨k, rfl⟩ : ∃ m, k = m + 1 := ⟨k - 1, by omega⟩
    simp only [sojournlaw15_DutyBegins.l0]
    rw [if_neg (by omega), (begin_from xs now hnow hd hb k (by omega)).1]
    simp only [Option.bind_some]
    rw [Same_at _ (by have := beginB_length xs now; omega) k (by have := beginB_length xs now; omega)]
    rfl
  | succ d ih =>
    intro k j ps hp hj hd' hk
    obtain ⟨k, rfl⟩ : ∃ m, k = m + 1 := ⟨k - 1, by omega⟩
    simp only [sojournlaw15_DutyBegins.l0]
    rw [if_pos (by omega), if_pos (by omega), if_pos (by omega), wrap_nat (show j < n by omega) (by omega)]
    exact ih k (j + 1) _ (by simp [hp]) (by omega) (by omega) (by omega)
theorem DutyBegins_tells (xs : List S51) (now : Int) (hnow : In now) (hd : ∀ y ∈ xs, In y.f1) (hb : ∀ y ∈ xs, y.f0.size ≤ 140737488351232) (hx : xs.length < 4398046511104) : ∃ k, sojournlaw15_DutyBegins.f k xs now = some true := by
  have : Ev (fun k => sojournlaw15_DutyBegins.f k xs now) true := by
    unfold sojournlaw15_DutyBegins.f
    simp only [Option.bind_some, List.nil_append, List.length_nil, Nat.zero_add, if_pos hx]
    refine Ev.bind ⟨BIG + 60, fun k hk => (begin_from xs now hnow hd hb k hk).1⟩ (Ev.bind ⟨BIG + 60, fun k hk => (begin_from xs now hnow hd hb k hk).2⟩ (Ev.bind alive_tells ?_))
    simp only [if_true, bne_self_eq_false, Bool.false_eq_true, if_false]
    refine Ev.bind (Same_from _ (by have := beginB_length xs now; omega)) ?_
    simp only [if_true]
    refine Ev.bind (sameDuties_from xs (by omega)) ?_
    refine ⟨BIG + 100, fun k hk => ?_⟩
    obtain ⟨k, rfl⟩ : ∃ m, k = m + 1 := ⟨k - 1, by omega⟩
    show sojournlaw15_DutyBegins.j0 (k + 1) now xs (beginB xs now).1 (beginB xs now).1 (!true) = some true
    simp only [sojournlaw15_DutyBegins.j0, Bool.not_true, Bool.false_eq_true, if_false]
    have hl := beginB_length xs now
    have := begins_loop xs now hnow hd hb _ hl _ k 0 (beginB xs now).1 rfl (by omega) rfl (by omega)
    simpa using this
  exact this.rounds
/-- What Done tells. -/
noncomputable def doneV (xs : List S51) (ps : List S32) (nm : ByteArray) (now : Int) : List S32 × Int := (doneTail (findV nm xs 0) (standB xs ps) xs ps now).getD ([], 0)
theorem standB_parts {xs : List S51} {ps : List S32} (h : standB xs ps = true) : RightP xs ∧ xs.length = ps.length ∧ standV xs ps = true := by
  unfold standB at h
  simp only [Bool.and_eq_true, decide_eq_true_iff] at h
  exact ⟨rightP_of h.1, h.2.1, h.2.2⟩
theorem doneTail_some (xs : List S51) (ps : List S32) (nm : ByteArray) (now : Int) (hnow : In now) (hd : ∀ y ∈ xs, In y.f1) : doneTail (findV nm xs 0) (standB xs ps) xs ps now = some (doneV xs ps nm now) := by
  unfold doneV
  suffices h : ∃ v, doneTail (findV nm xs 0) (standB xs ps) xs ps now = some v by
    obtain ⟨v, h⟩ := h
    rw [h]; rfl
  unfold doneTail
  by_cases hs : standB xs ps = true
  · rw [if_neg (by rw [hs]; decide)]
    obtain ⟨hr, hl, _⟩ := standB_parts hs
    have h4 := hr.1
    rcases findV_spec nm xs 0 with ⟨h1, _⟩ | ⟨j, hj, h1, _, _⟩
    · rw [if_pos (by omega)]; exact ⟨_, rfl⟩
    · rw [h1, Nat.zero_add, if_neg (by omega), if_pos (by omega), if_pos (by omega), if_pos (by omega), rd51_nat, rd32_nat, num_Add_pair hnow (hd _ (getD_mem hj))]
      simp only [Option.bind_some]
      repeat' split
      all_goals exact ⟨_, rfl⟩
  · rw [if_pos (by simpa using hs)]
    exact ⟨_, rfl⟩
theorem done_from (xs : List S51) (ps : List S32) (nm : ByteArray) (now : Int) (hx : xs.length ≤ 8796093022208) (hnow : In now) (hd : ∀ y ∈ xs, In y.f1) (hb : ∀ y ∈ xs, y.f0.size ≤ 140737488351232) (k : Nat) (hk : BIG + 60 ≤ k) (hk2 : xs.length + 1 ≤ k) : duty_Done.f k xs ps nm now = some (doneV xs ps nm now) := by
  unfold duty_Done.f
  rw [find_from xs nm hx k hk2]
  simp only [Option.bind_some]
  rw [(stand_from xs ps hb k hk).1]
  simp only [Option.bind_some]
  exact doneTail_some xs ps nm now hnow hd
/-- The reference's search: it comes to the first place of the name. -/
theorem refDone_loop (xs : List S51) (ps : List S32) (nm : ByteArray) (now : Int) (hn : xs.length ≤ 4) (hl : xs.length = ps.length) (hnow : In now) (hd : ∀ y ∈ xs, In y.f1) (hs : standB xs ps = true) (i : Nat) (hi : i < xs.length) (he : (xs.getD i z51).f0.toList = nm.toList) (hne : ∀ m, m < i → (xs.getD m z51).f0.toList ≠ nm.toList) (hf : findV nm xs 0 = (i : Int)) (d : Nat) : ∀ (k j : Nat), j ≤ i → i - j = d → d + 2 < k → sojournref15_Done.l0 k xs ps nm now j = some (doneV xs ps nm now) := by
  induction d with
  | zero =>
    intro k j hj hd' hk
    obtain ⟨k, rfl⟩ : ∃ m, k = m + 1 + 1 := ⟨k - 2, by omega⟩
    obtain rfl : j = i := by omega
    have ht := doneTail_some xs ps nm now hnow hd
    rw [hf, hs] at ht
    unfold doneTail at ht
    rw [if_neg (by decide), if_neg (by omega), if_pos (by omega), if_pos (by omega), if_pos (by omega), rd51_nat, rd32_nat, num_Add_pair hnow (hd _ (getD_mem hi))] at ht
    simp only [Option.bind_some, Int.toNat_natCast] at ht
    have e1 : ∀ b v, sojournref15_Done.j1 (k + 1) xs ps j v b = if b = true then some ([], 152) else if (xs.getD j z51).f2 = true then some (ps.set j ⟨v, (ps.getD j z32).f1⟩, 0) else some (ps.set j ⟨(ps.getD j z32).f0, true⟩, 0) := by
      intro b v
      rw [sojournref15_Done.j1]
      simp only [Option.bind_some, List.nil_append, List.length_nil, Nat.zero_add]
      have q1 : ps.length < 8796093022208 := by omega
      have q2 : (0 : Int) ≤ j := by omega
      have q3 : (j : Int) < xs.length := by omega
      have q4 : (j : Int) < ps.length := by omega
      simp only [q1, q2, q3, q4, if_true, rd51_nat, rd32_nat, Int.toNat_natCast]
    rw [sojournref15_Done.l0, if_pos (by omega), if_pos (by omega), rd51_nat, rd32_nat, if_pos he, ref_Add_pair hnow (hd _ (getD_mem hi))]
    simp only [Option.bind_some, e1]
    rw [if_pos (show (j : Int) < ps.length by omega), ← ht]
    by_cases h1 : (ps.getD j z32).f1 = true
    · rw [if_pos h1, if_pos h1]
    · rw [if_neg h1, if_neg h1]
      by_cases h2 : (xs.getD j z51).f2 = true
      · have h2' : ¬ (xs.getD j z51).f2 = false := by rw [h2]; decide
        simp only [if_pos h2, if_neg h2']
        by_cases h3 : (pairV (now + (xs.getD j z51).f1)).2 = true
        · rw [h3]; simp
        · rw [show (pairV (now + (xs.getD j z51).f1)).2 = false from by simpa using h3]; simp
      · have h2' : (xs.getD j z51).f2 = false := by simpa using h2
        simp only [if_neg h2, if_pos h2']
        simp
  | succ d ih =>
    intro k j hj hd' hk
    obtain ⟨k, rfl⟩ : ∃ m, k = m + 1 := ⟨k - 1, by omega⟩
    rw [sojournref15_Done.l0, if_pos (by omega), if_pos (by omega), rd51_nat, if_neg (hne j (by omega)), wrap_nat (show j < xs.length by omega) (by omega)]
    exact ih k (j + 1) (by omega) (by omega) (by omega)
theorem refDone_none (xs : List S51) (ps : List S32) (nm : ByteArray) (now : Int) (hn : xs.length ≤ 4) (hne : ∀ y ∈ xs, y.f0.toList ≠ nm.toList) (d : Nat) : ∀ (k j : Nat), j ≤ xs.length → xs.length - j = d → d < k → sojournref15_Done.l0 k xs ps nm now j = some ([], 150) := by
  induction d with
  | zero =>
    intro k j hj hd' hk
    obtain ⟨k, rfl⟩ : ∃ m, k = m + 1 := ⟨k - 1, by omega⟩
    rw [sojournref15_Done.l0, if_neg (by omega)]
  | succ d ih =>
    intro k j hj hd' hk
    obtain ⟨k, rfl⟩ : ∃ m, k = m + 1 := ⟨k - 1, by omega⟩
    have hlt : j < xs.length := by omega
    rw [sojournref15_Done.l0, if_pos (by omega), if_pos (by omega), rd51_nat, if_neg (hne _ (getD_mem hlt)), wrap_nat hlt (by omega)]
    exact ih k (j + 1) (by omega) (by omega) (by omega)
theorem refDone_from (xs : List S51) (ps : List S32) (nm : ByteArray) (now : Int) (hnow : In now) (hd : ∀ y ∈ xs, In y.f1) (hb : ∀ y ∈ xs, y.f0.size ≤ 140737488351232) (k : Nat) (hk : BIG + 60 ≤ k) : sojournref15_Done.f k xs ps nm now = some (doneV xs ps nm now) := by
  unfold sojournref15_Done.f
  rw [(stand_from xs ps hb k hk).2]
  simp only [Option.bind_some]
  have ht := doneTail_some xs ps nm now hnow hd
  by_cases hs : standB xs ps = true
  · rw [if_pos hs]
    obtain ⟨hr, hl, _⟩ := standB_parts hs
    have h4 := hr.1
    rcases findV_spec nm xs 0 with ⟨h1, h2⟩ | ⟨j, hj, h1, h2, h3⟩
    · rw [h1, hs] at ht
      have e0 : doneV xs ps nm now = ([], 150) := by
        have : doneTail (-1) true xs ps now = some ([], 150) := rfl
        rw [this] at ht
        exact (Option.some.inj ht).symm
      rw [e0]
      exact refDone_none xs ps nm now h4 h2 xs.length k 0 (by omega) (by omega) (by unfold BIG at hk; omega)
    · exact refDone_loop xs ps nm now h4 hl hnow hd hs j hj h2 h3 (by rw [h1]; simp) j k 0 (by omega) (by omega) (by unfold BIG at hk; omega)
  · rw [if_neg hs]
    have hs' : standB xs ps = false := by simpa using hs
    rw [hs'] at ht
    have : doneTail (findV nm xs 0) false xs ps now = some ([], 1) := rfl
    rw [this] at ht
    exact ht
theorem doneV_length (xs : List S51) (ps : List S32) (nm : ByteArray) (now : Int) (hnow : In now) (hd : ∀ y ∈ xs, In y.f1) : (doneV xs ps nm now).1.length ≤ 4 := by
  have ht := doneTail_some xs ps nm now hnow hd
  unfold doneTail at ht
  by_cases hs : standB xs ps = true
  · obtain ⟨hr, hl, _⟩ := standB_parts hs
    have h4 := hr.1
    rw [if_neg (by rw [hs]; decide)] at ht
    split at ht
    · rw [← Option.some.inj ht]; simp
    · split at ht
      · split at ht
        · split at ht
          · split at ht
            · rw [← Option.some.inj ht]; simp
            · split at ht
              · rw [← Option.some.inj ht]; simp; omega
              · obtain ⟨r, _, hr⟩ := Option.bind_eq_some_iff.1 ht
                split at hr
                · rw [← Option.some.inj hr]; simp
                · rw [← Option.some.inj hr]; simp; omega
          · cases ht
        · cases ht
      · cases ht
  · rw [if_pos (by simpa using hs)] at ht
    rw [← Option.some.inj ht]
    simp
theorem dones_loop (xs : List S51) (ps : List S32) (hx : xs.length < 4398046511104) (hp : ps.length < 8796093022208) (n : Nat) (hn : n ≤ 4) (d : Nat) : ∀ (k j : Nat) (qs : List S32), qs.length = n → j ≤ n → n - j = d → 8796093022208 + 10 + d < k → sojournlaw15_DutyDones.l0 k xs ps xs ps qs (n : Int) j = some true := by
  induction d with
  | zero =>
    intro k j qs hq hj hd' hk
    obtain ⟨k, rfl⟩ : ∃ m, k = m + 1 := ⟨k - 1, by omega⟩
    simp only [sojournlaw15_DutyDones.l0]
    rw [if_neg (by omega), Same_at ps (by omega) k (by omega)]
    simp only [Option.bind_some, if_true]
    rw [sameDuties_at xs (by omega) k (by omega)]
    rfl
  | succ d ih =>
    intro k j qs hq hj hd' hk
    obtain ⟨k, rfl⟩ : ∃ m, k = m + 1 := ⟨k - 1, by omega⟩
    simp only [sojournlaw15_DutyDones.l0]
    rw [if_pos (by omega), if_pos (by omega), if_pos (by omega), wrap_nat (show j < n by omega) (by omega)]
    exact ih k (j + 1) _ (by simp [hq]) (by omega) (by omega) (by omega)
theorem DutyDones_tells (xs : List S51) (ps : List S32) (hx : xs.length < 4398046511104) (hp : ps.length < 8796093022208) (hd : ∀ y ∈ xs, In y.f1) (hb : ∀ y ∈ xs, y.f0.size ≤ 140737488351232)
    (a0 a1 : Int) (a2 : ByteArray) (a3 a4 : Int) (a5 a6 : ByteArray) (a7 a8 : Int) (a9 : ByteArray) (a10 : Bool) (a11 : Nat) (a12 a13 a14 a15 : ByteArray) (a16 : Int) (a17 : ByteArray) (a18 : Int) (hnow : In a18) :
    ∃ k, sojournlaw15_DutyDones.f k xs ps a0 a1 a2 a3 a4 a5 a6 a7 a8 a9 a10 a11 a12 a13 a14 a15 a16 a17 a18 = some true := by
  have : Ev (fun k => sojournlaw15_DutyDones.f k xs ps a0 a1 a2 a3 a4 a5 a6 a7 a8 a9 a10 a11 a12 a13 a14 a15 a16 a17 a18) true := by
    unfold sojournlaw15_DutyDones.f
    simp only [Option.bind_some, List.nil_append, List.length_nil, Nat.zero_add, if_pos hx, if_pos hp]
    refine Ev.bind ⟨BIG + 60, fun k hk => done_from xs ps a17 a18 (by omega) hnow hd hb k hk (by unfold BIG at hk; omega)⟩ (Ev.bind ⟨BIG + 60, fun k hk => refDone_from xs ps a17 a18 hnow hd hb k hk⟩ (Ev.bind alive_tells ?_))
    simp only [if_true]
    have hl := doneV_length xs ps a17 a18 hnow hd
    refine Ev.bind (Same_from _ (by omega)) ?_
    refine ⟨BIG + 100, fun k hk => ?_⟩
    obtain ⟨k, rfl⟩ : ∃ m, k = m + 1 := ⟨k - 1, by omega⟩
    show sojournlaw15_DutyDones.j0 (k + 1) xs ps xs ps (doneV xs ps a17 a18).1 (!true) = some true
    simp only [sojournlaw15_DutyDones.j0, Bool.not_true, Bool.false_eq_true, if_false]
    have := dones_loop xs ps hx hp _ hl _ k 0 (doneV xs ps a17 a18).1 rfl (by omega) rfl (by unfold BIG at hk; omega)
    simpa using this
  exact this.rounds
end Go.Proofs.Ytgphdeelangkfaa.PDuty
