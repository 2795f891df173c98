/-
  What is done in time is never late: behind Begin, and behind a Done of each duty at any later tick. By lists alone.
-/
import Derived.Test.YtgphdeelangkfaaPDutyx12
import Derived.Test.YtgphdeelangkfaaDutyDone
namespace Go.Proofs.Ytgphdeelangkfaa.PDuty
open Go.RowKit Go.Proofs.YtgphdeelangkfaaW.PrintWords Go.Proofs.YtgphdeelangkfaaW.PrintLast Go.Proofs.YtgphdeelangkfaaPlain Go.Proofs.Ytgphdeelangkfaa.Hand
set_option linter.unusedVariables false
theorem pairV_yes {v : Int} (h : (pairV v).2 = true) : pairV v = (v, true) := by
  unfold pairV at *
  split at h
  · split at h
    · rw [if_pos ‹_›, if_pos ‹_›]
    · cases h
  · cases h
theorem beginV_yes (now : Int) (xs : List S51) : ∀ acc, (beginV now xs acc).2 = true → beginV now xs acc = (acc ++ xs.map (fun d => (⟨now + d.f1, false⟩ : S32)), true) := by
  induction xs with
  | nil => intro acc _; simp [beginV]
  | cons d ds ih =>
    intro acc h
    simp only [beginV] at h ⊢
    by_cases hp : (pairV (now + d.f1)).2 = true
    · rw [if_pos hp] at h ⊢
      rw [ih _ h, pairV_yes hp]
      simp
    · rw [if_neg hp] at h
      cases h
theorem beginV_no (now : Int) (xs : List S51) : ∀ acc, (beginV now xs acc).2 = false → beginV now xs acc = ([], false) := by
  induction xs with
  | nil => intro acc h; simp [beginV] at h
  | cons d ds ih =>
    intro acc h
    simp only [beginV] at h ⊢
    by_cases hp : (pairV (now + d.f1)).2 = true
    · rw [if_pos hp] at h ⊢
      exact ih _ h
    · rw [if_neg hp]
theorem standV_iff (xs : List S51) : ∀ ps : List S32, xs.length = ps.length → (standV xs ps = true ↔ ∀ j, j < xs.length → (xs.getD j z51).f2 = true → (ps.getD j z32).f1 = false) := by
  induction xs with
  | nil => intro ps _; simp [standV]
  | cons d ds ih =>
    intro ps hl
    cases ps with
    | nil => simp at hl
    | cons p ps =>
      have ih' := ih ps (by simpa using hl)
      have hsplit : (∀ j, j < (d :: ds).length → ((d :: ds).getD j z51).f2 = true → ((p :: ps).getD j z32).f1 = false) ↔ ((d.f2 = true → p.f1 = false) ∧ ∀ j, j < ds.length → (ds.getD j z51).f2 = true → (ps.getD j z32).f1 = false) := by
        constructor
        · intro h
          refine ⟨fun h2 => ?_, fun j hj h2 => ?_⟩
          · simpa using h 0 (by simp) (by simpa using h2)
          · simpa using h (j + 1) (by simp; omega) (by simpa using h2)
        · rintro ⟨h0, h1⟩ j hj h2
          cases j with
          | zero => simpa using h0 (by simpa using h2)
          | succ j => simpa using h1 j (by simpa using hj) (by simpa using h2)
      rw [hsplit, ← ih']
      simp only [standV]
      by_cases h2 : d.f2 = true
      · rw [if_pos h2]
        by_cases h3 : p.f1 = true
        · rw [if_pos h3]; simp [h2, h3]
        · rw [if_neg h3]; simp [h2, h3]
      · rw [if_neg h2]; simp [h2]
theorem standB_mk {xs : List S51} {ps : List S32} (hr : rightB xs = true) (hl : xs.length = ps.length) (h : ∀ j, j < xs.length → (xs.getD j z51).f2 = true → (ps.getD j z32).f1 = false) : standB xs ps = true := by
  unfold standB
  rw [hr, decide_eq_true hl, (standV_iff xs ps hl).2 h]
  rfl
theorem getD_set (ps : List S32) (i j : Nat) (x : S32) (hi : i < ps.length) : (ps.set i x).getD j z32 = if i = j then x else ps.getD j z32 := by
  simp only [List.getD, List.getElem?_set]
  by_cases h : i = j
  · subst h; simp [hi]
  · simp [h]
theorem find_self (xs : List S51) (hr : RightP xs) (j : Nat) (hj : j < xs.length) : findV (xs.getD j z51).f0 xs 0 = (j : Int) := by
  rcases findV_spec (xs.getD j z51).f0 xs 0 with ⟨_, h⟩ | ⟨i, hi, h1, h2, h3⟩
  · exact absurd rfl (h _ (getD_mem hj))
  · rw [h1, Nat.zero_add]
    have a : ¬ i < j := fun h => (hr.2 j hj).2.2 i h h2
    have b : ¬ j < i := fun h => h3 j h rfl
    congr 1
    omega
/-- What Done tells of the duty at place j. -/
theorem doneV_self (xs : List S51) (ps : List S32) (now : Int) (hnow : In now) (hd : ∀ y ∈ xs, In y.f1) (hs : standB xs ps = true) (j : Nat) (hj : j < xs.length) :
    doneV xs ps (xs.getD j z51).f0 now = (if (ps.getD j z32).f1 = true then ([], 151) else if (xs.getD j z51).f2 = false then (ps.set j ⟨(ps.getD j z32).f0, true⟩, 0) else if (pairV (now + (xs.getD j z51).f1)).2 = false then ([], 152) else (ps.set j ⟨(pairV (now + (xs.getD j z51).f1)).1, (ps.getD j z32).f1⟩, 0)) := by
  obtain ⟨hr, hl, _⟩ := standB_parts hs
  have h4 := hr.1
  have ht := doneTail_some xs ps (xs.getD j z51).f0 now hnow hd
  rw [find_self xs hr j hj, hs] at ht
  unfold doneTail at ht
  rw [if_neg (by decide), if_neg (by omega), if_pos (by omega), if_pos (by omega), if_pos (by omega), rd51_nat, rd32_nat, num_Add_pair hnow (hd _ (getD_mem hj))] at ht
  simp only [Option.bind_some, Int.toNat_natCast] at ht
  apply Option.some.inj
  rw [← ht]
  clear ht
  by_cases c1 : (ps.getD j z32).f1 = true
  · simp only [if_pos c1]
  · simp only [if_neg c1]
    by_cases c2 : (xs.getD j z51).f2 = false
    · simp only [if_pos c2]
    · simp only [if_neg c2]
      by_cases c3 : (pairV (now + (xs.getD j z51).f1)).2 = false
      · simp only [if_pos c3]
      · simp only [if_neg c3]
theorem kept_inner (xs : List S51) (later : List Int) (L i : Int) (t : Int) (ht : In t) (hd : ∀ y ∈ xs, In y.f1) (hb : ∀ y ∈ xs, y.f0.size ≤ 140737488351232) (M : Nat)
    (cont : ∀ k' (p' : List S32), M < k' → standB xs p' = true → sojournlaw15_DutyKept.l0 k' xs p' later L (wrap64 (i + 1)) = some true) (d : Nat) :
    ∀ (k j : Nat) (p : List S32), standB xs p = true → j ≤ xs.length → xs.length - j = d → BIG + 100 + M + 10 * d < k → sojournlaw15_DutyKept.l1 k xs p t later L i (xs.length : Int) j = some true := by
  induction d with
  | zero =>
    intro k j p hs hj hd' hk
    obtain ⟨k, rfl⟩ : ∃ m, k = m + 1 := ⟨k - 1, by omega⟩
    rw [sojournlaw15_DutyKept.l1, if_neg (by omega)]
    exact cont k p (by omega) hs
  | succ d ih =>
    intro k j p hs hj hd' hk
    obtain ⟨k, rfl⟩ : ∃ m, k = m + 1 + 1 + 1 + 1 := ⟨k - 4, by omega⟩
    obtain ⟨hr, hl, hsv⟩ := standB_parts hs
    have h4 := hr.1
    have hlt : j < xs.length := by omega
    have hel := (standV_iff xs p hl).1 hsv
    have hV := doneV_self xs p t ht hd hs j hlt
    have hup : ∀ k' (p' : List S32), BIG + 100 + M + 10 * d < k' → standB xs p' = true → sojournlaw15_DutyKept.l1 k' xs p' t later L i (xs.length : Int) ((j + 1 : Nat) : Int) = some true := fun k' p' hk' hp' => ih k' (j + 1) p' hp' (by omega) (by omega) hk'
    rw [sojournlaw15_DutyKept.l1, if_pos (by omega), if_pos (by omega), if_pos (by omega), rd51_nat, done_from xs p _ t (by omega) ht hd hb _ (by omega) (by unfold BIG at hk; omega), hV]
    have hrB : rightB xs = true := rightB_yes hr
    have q1 : (0 : Int) ≤ j := by omega
    have q2 : (j : Int) < xs.length := by omega
    by_cases c1 : (p.getD j z32).f1 = true
    · have c2 : ¬ (xs.getD j z51).f2 = true := fun h => by rw [hel j hlt h] at c1; cases c1
      simp only [if_pos c1, Option.bind_some, if_true]
      rw [sojournlaw15_DutyKept.j4]
      simp only [if_true, List.length_nil, q1, q2, rd51_nat, if_neg c2]
      rw [if_neg (by decide), if_neg (by decide), wrap_nat hlt (by omega)]
      exact hup _ p (by omega) hs
    · simp only [if_neg c1]
      by_cases c2 : (xs.getD j z51).f2 = false
      · have c2' : ¬ (xs.getD j z51).f2 = true := by rw [c2]; decide
        simp only [if_pos c2, Option.bind_some]
        have hs' : standB xs (p.set j ⟨(p.getD j z32).f0, true⟩) = true := by
          refine standB_mk hrB (by simp [hl]) (fun m hm h2 => ?_)
          rw [getD_set _ _ _ _ (by omega)]
          split
          · rename_i e; subst e; exact absurd h2 c2'
          · exact hel m hm h2
        have e2 : (j : Int) < ((p.set j (⟨(p.getD j z32).f0, true⟩ : S32)).length : Int) := by simp; omega
        rw [if_neg (by decide)]
        rw [show ((0 : Int) == 152) = false from rfl, sojournlaw15_DutyKept.j4, if_neg (by decide), (stand_from xs _ hb _ (by omega)).1, hs']
        simp only [Option.bind_some, if_true, Bool.not_true]
        rw [sojournlaw15_DutyKept.j5, if_neg (by decide)]
        simp only [q1, q2, if_true, rd51_nat, if_neg c2']
        rw [sojournlaw15_DutyKept.j6, if_neg (by decide)]
        simp only [q1, q2, e2, if_true, rd51_nat, rd32_nat, if_neg c2', getD_set p j j _ (show j < p.length by omega)]
        rw [wrap_nat hlt (by omega)]
        exact hup _ _ (by omega) hs'
      · have c2' : (xs.getD j z51).f2 = true := by simpa using c2
        simp only [if_neg c2]
        by_cases c3 : (pairV (t + (xs.getD j z51).f1)).2 = false
        · simp only [if_pos c3, Option.bind_some]
          rw [if_neg (by decide), show ((152 : Int) == 152) = true from rfl, sojournlaw15_DutyKept.j4]
          simp only [if_true, List.length_nil, q1, q2, rd51_nat, if_pos c2']
          rw [if_neg (by decide), if_neg (by decide), wrap_nat hlt (by omega)]
          exact hup _ p (by omega) hs
        · simp only [if_neg c3, Option.bind_some]
          have c3' : (pairV (t + (xs.getD j z51).f1)).2 = true := by simpa using c3
          have hdl := (hr.2 j hlt).2.1
          rw [pairV_yes c3']
          have hs' : standB xs (p.set j ⟨t + (xs.getD j z51).f1, (p.getD j z32).f1⟩) = true := by
            refine standB_mk hrB (by simp [hl]) (fun m hm h2 => ?_)
            rw [getD_set _ _ _ _ (by omega)]
            split
            · rename_i e; subst e; exact hel j hm h2
            · exact hel m hm h2
          have e2 : (j : Int) < ((p.set j (⟨t + (xs.getD j z51).f1, (p.getD j z32).f1⟩ : S32)).length : Int) := by simp; omega
          rw [if_neg (by decide)]
          rw [show ((0 : Int) == 152) = false from rfl, sojournlaw15_DutyKept.j4, if_neg (by decide), (stand_from xs _ hb _ (by omega)).1, hs']
          simp only [Option.bind_some, if_true, Bool.not_true]
          rw [sojournlaw15_DutyKept.j5, if_neg (by decide)]
          simp only [q1, q2, e2, if_true, rd51_nat, rd32_nat, if_pos c2', getD_set p j j _ (show j < p.length by omega)]
          rw [decide_eq_false (show ¬ t + (xs.getD j z51).f1 < t by omega), sojournlaw15_DutyKept.j6, if_neg (by decide)]
          simp only [q1, q2, if_true, rd51_nat, if_pos c2']
          rw [wrap_nat hlt (by omega)]
          exact hup _ _ (by omega) hs'
theorem kept_outer (xs : List S51) (later : List Int) (hx : xs.length ≤ 4) (hl : later.length ≤ 17592186043904) (ht : ∀ t ∈ later, In t) (hd : ∀ y ∈ xs, In y.f1) (hb : ∀ y ∈ xs, y.f0.size ≤ 140737488351232) (d : Nat) :
    ∀ (k i : Nat) (p : List S32), standB xs p = true → i ≤ later.length → later.length - i = d → (BIG + 200) * (d + 1) < k → sojournlaw15_DutyKept.l0 k xs p later (later.length : Int) i = some true := by
  induction d with
  | zero =>
    intro k i p hs hi hd' hk
    obtain ⟨k, rfl⟩ : ∃ m, k = m + 1 := ⟨k - 1, by omega⟩
    rw [sojournlaw15_DutyKept.l0, if_neg (by omega)]
  | succ d ih =>
    intro k i p hs hi hd' hk
    obtain ⟨k, rfl⟩ : ∃ m, k = m + 1 := ⟨k - 1, by omega⟩
    have hlt : i < later.length := by omega
    rw [sojournlaw15_DutyKept.l0, if_pos (by omega), if_pos (by omega), if_pos (by omega)]
    have hin : In (rd later (i : Int)) := by
      have : rd later (i : Int) = later[i] := by simp [rd, List.getD, List.getElem?_eq_getElem hlt]
      rw [this]
      exact ht _ (List.getElem_mem hlt)
    have e : (BIG + 200) * (d + 1 + 1) = (BIG + 200) * (d + 1) + (BIG + 200) := Nat.mul_succ _ _
    exact kept_inner xs later _ i _ hin hd hb ((BIG + 200) * (d + 1)) (fun k' p' hk' hp' => by
      rw [wrap_nat hlt (by omega)]
      exact ih k' (i + 1) p' hp' (by omega) (by omega) hk') xs.length k 0 p hs (by omega) (by omega) (by omega)
theorem DutyKept_tells (xs : List S51) (now : Int) (later : List Int) (hnow : In now) (hl : later.length ≤ 17592186043904) (ht : ∀ t ∈ later, In t) (hd : ∀ y ∈ xs, In y.f1) (hb : ∀ y ∈ xs, y.f0.size ≤ 140737488351232) : ∃ k, sojournlaw15_DutyKept.f k xs now later = some true := by
  have : Ev (fun k => sojournlaw15_DutyKept.f k xs now later) true := by
    unfold sojournlaw15_DutyKept.f
    refine Ev.bind ⟨BIG + 60, fun k hk => (begin_from xs now hnow hd hb k hk).1⟩ (Ev.bind alive_tells ?_)
    simp only [if_true]
    have hflag : ∀ k, (if ((beginB xs now).1.length : Int) = (xs.length : Int) then sojournlaw15_DutyKept.j0 k xs now later (beginB xs now).1 (beginB xs now).2 ((beginB xs now).2 != (beginB xs now).2) else sojournlaw15_DutyKept.j0 k xs now later (beginB xs now).1 (beginB xs now).2 ((beginB xs now).2 != false)) = sojournlaw15_DutyKept.j0 k xs now later (beginB xs now).1 (beginB xs now).2 false := by
      intro k
      by_cases h : ((beginB xs now).1.length : Int) = (xs.length : Int)
      · rw [if_pos h, bne_self_eq_false]
      · rw [if_neg h]
        have h2 : (beginB xs now).2 = false := by
          cases hb2 : (beginB xs now).2
          · rfl
          · exfalso
            apply h
            unfold beginB at hb2 ⊢
            split at hb2
            · rw [if_pos ‹_›, beginV_yes now xs [] hb2]
              simp
            · cases hb2
        rw [h2]
        rfl
    simp only [hflag]
    refine ⟨BIG + 300 + (BIG + 200) * (later.length + 1), fun k hk => ?_⟩
    generalize hQ : (BIG + 200) * (later.length + 1) = Q at hk
    obtain ⟨k, rfl⟩ : ∃ m, k = m + 1 + 1 := ⟨k - 2, by omega⟩
    show sojournlaw15_DutyKept.j0 (k + 1 + 1) xs now later (beginB xs now).1 (beginB xs now).2 false = some true
    rw [sojournlaw15_DutyKept.j0, if_neg (by decide)]
    by_cases h2 : (beginB xs now).2 = true
    · rw [if_pos h2]
      have hr : rightB xs = true := by
        unfold beginB at h2
        split at h2
        · assumption
        · cases h2
      have hR := rightP_of hr
      have hB : beginB xs now = (xs.map (fun d => (⟨now + d.f1, false⟩ : S32)), true) := by
        unfold beginB at h2 ⊢
        rw [if_pos hr] at h2 ⊢
        simpa using beginV_yes now xs [] h2
      rw [hB]
      have hst : standB xs (xs.map (fun d => (⟨now + d.f1, false⟩ : S32))) = true := by
        refine standB_mk hr (by simp) (fun j hj _ => ?_)
        simp [List.getD, List.getElem?_eq_getElem hj]
      have hlate : (lateV now (xs.map (fun d => (⟨now + d.f1, false⟩ : S32))) 0).2 = false := by
        cases h : (lateV now (xs.map (fun d => (⟨now + d.f1, false⟩ : S32))) 0).2
        · rfl
        · exfalso
          obtain ⟨y, hy, _, hy2⟩ := (lateV_some now _ 0).1 h
          obtain ⟨d, hd', rfl⟩ := List.mem_map.1 hy
          obtain ⟨j, hj, rfl⟩ := List.mem_iff_getElem.1 hd'
          have := (hR.2 j hj).2.1
          simp [List.getD, List.getElem?_eq_getElem hj] at this hy2
          omega
      have h4 := hR.1
      have hlt := late_loop (xs.map (fun d => (⟨now + d.f1, false⟩ : S32))) now (by simp; omega) (xs.map (fun d => (⟨now + d.f1, false⟩ : S32))).length (k + 1) 0 (by omega) (by omega) (by simp; omega)
      have hlt' : duty_Late.f (k + 1) (xs.map (fun d => (⟨now + d.f1, false⟩ : S32))) now = some (lateV now (xs.map (fun d => (⟨now + d.f1, false⟩ : S32))) 0) := by simpa [duty_Late.f] using hlt
      have hk9 : BIG + 60 ≤ k + 1 := by
        clear hlt hlt' h4 hlate
        generalize BIG = Z at hk ⊢
        omega
      have hst9 := (stand_from xs (xs.map (fun d => (⟨now + d.f1, false⟩ : S32))) hb (k + 1) hk9).1
      simp only [hlt', Option.bind_some]
      rw [hst9, hst]
      simp only [Option.bind_some]
      rw [if_neg (by rw [hlate]; decide), Bool.not_true, sojournlaw15_DutyKept.j1, if_neg (by decide)]
      exact kept_outer xs later h4 hl ht hd hb later.length k 0 _ hst (by omega) (by omega) (by rw [hQ]; omega)
    · rw [if_neg h2]
      have h2' : (beginB xs now).2 = false := by simpa using h2
      have hB : (beginB xs now).1 = [] := by
        unfold beginB at h2' ⊢
        split
        · rw [if_pos ‹_›] at h2'
          rw [beginV_no now xs [] h2']
        · rfl
      rw [hB]
      rfl
  exact Ev.rounds this
end Go.Proofs.Ytgphdeelangkfaa.PDuty
