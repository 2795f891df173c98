/-
  Contracts of functions that a statement of this seat reaches (joined texts: H15, H16, H17, H18, H19, H20, H21).
-/
import Derived.Test.YtagifiakjniedaaMB
import Derived.Test.YtagifiakjniedaaMC
import Derived.Test.YtagifiakjniedaaPTabx3
import Derived.Test.YtagifiakjniedaaPTabx4
import Derived.Deep.QuietTactic
import Derived.BigQuiet
import Derived.Test.YtagifiakjniedaaTabOp
section
namespace Go.Proofs.Ytagifiakjniedaa.PTab
open Go.RowKit Go.Proofs.YtagifiakjniedaaW.PrintWords Go.Proofs.YtagifiakjniedaaW.PrintLast
set_option linter.unusedVariables false
set_option linter.unusedSimpArgs false
theorem wrap_up {i n : Nat} (h : i < n) (hn : n ≤ 4611686018427387904) : wrap64 ((i : Int) + 1) = ((i + 1 : Nat) : Int) := by unfold wrap64; omega
/-! ### Alike, Same, ids of the same -/
theorem alike_loop (x : S28) (hn : x.f6.length ≤ 4611686018427387904) (d : Nat) : ∀ (k i : Nat), i ≤ x.f6.length → x.f6.length - i = d → d < k →
    sojournref16_Alike.l0 k i x.f0 x.f1 x.f2 x.f3 x.f4 x.f5 x.f6 x.f0 x.f1 x.f2 x.f3 x.f4 x.f5 x.f6 = some true := by
  induction d with
  | zero =>
    intro k i hi hd hk
    obtain ⟨k, rfl⟩ : ∃ m, k = m + 1 := ⟨k - 1, by omega⟩
    simp only [sojournref16_Alike.l0]
    rw [if_neg (by omega)]
  | succ d ih =>
    intro k i hi hd hk
    obtain ⟨k, rfl⟩ : ∃ m, k = m + 1 := ⟨k - 1, by omega⟩
    simp only [sojournref16_Alike.l0]
    rw [if_pos (by omega), if_pos (by omega), if_pos (by omega), if_neg (by simp), wrap_up (by omega) hn]
    exact ih k (i + 1) (by omega) (by omega) (by omega)
theorem alike_self (x : S28) (hn : x.f6.length ≤ 4611686018427387904) (k : Nat) (hk : x.f6.length + 2 ≤ k) : sojournref16_Alike.f k x.f0 x.f1 x.f2 x.f3 x.f4 x.f5 x.f6 x.f0 x.f1 x.f2 x.f3 x.f4 x.f5 x.f6 = some true := by
  obtain ⟨k, rfl⟩ : ∃ m, k = m + 1 := ⟨k - 1, by omega⟩
  unfold sojournref16_Alike.f
  rw [if_pos rfl, if_pos rfl, if_pos rfl, if_pos rfl, if_pos rfl, if_pos rfl]
  simp only [sojournref16_Alike.j0]
  rw [if_neg (by simp)]
  exact alike_loop x hn _ k 0 (by omega) rfl (by omega)
theorem rd28_at {L : List S28} {i : Nat} (hi : i < L.length) : rd_T28 L (i : Int) = L[i] := by
  unfold rd_T28
  rw [Int.toNat_natCast, List.getD_eq_getElem?_getD, List.getElem?_eq_getElem hi]
  rfl
theorem same_loop (L : List S28) (hF : Fits L) (d : Nat) : ∀ (k i : Nat), i ≤ L.length → L.length - i = d → d + 7 < k → sojournref16_Same.l0 k L L i = some true := by
  induction d with
  | zero =>
    intro k i hi hd hk
    obtain ⟨k, rfl⟩ : ∃ m, k = m + 1 := ⟨k - 1, by omega⟩
    simp only [sojournref16_Same.l0]
    rw [if_neg (by omega)]
  | succ d ih =>
    intro k i hi hd hk
    obtain ⟨k, rfl⟩ : ∃ m, k = m + 1 := ⟨k - 1, by omega⟩
    have hlt : i < L.length := by omega
    have hm := hF.2 L[i] (List.getElem_mem hlt)
    simp only [sojournref16_Same.l0]
    rw [if_pos (by omega), if_pos (by omega), if_pos (by omega), rd28_at hlt, alike_self L[i] (by omega) k (by omega)]
    simp only [Option.bind_some, if_true]
    rw [wrap_up hlt (by have := hF.1; omega)]
    exact ih k (i + 1) (by omega) (by omega) (by omega)
theorem same_self (L : List S28) (hF : Fits L) : sojournref16_Same.f 100 L L = some true := by
  unfold sojournref16_Same.f
  rw [if_pos rfl]
  exact same_loop L hF _ 100 0 (by omega) rfl (by have := hF.1; omega)
theorem ids_loop (l : List Int) (hn : l.length ≤ 4611686018427387904) (d : Nat) : ∀ (k i : Nat), i ≤ l.length → l.length - i = d → d < k → sojournlaw16_ids.l0 k l l (l.length : Int) i = some true := by
  induction d with
  | zero =>
    intro k i hi hd hk
    obtain ⟨k, rfl⟩ : ∃ m, k = m + 1 := ⟨k - 1, by omega⟩
    simp only [sojournlaw16_ids.l0]
    rw [if_neg (by omega)]
  | succ d ih =>
    intro k i hi hd hk
    obtain ⟨k, rfl⟩ : ∃ m, k = m + 1 := ⟨k - 1, by omega⟩
    simp only [sojournlaw16_ids.l0]
    rw [if_pos (by omega), if_pos (by omega), if_pos (by omega), if_pos (by omega), if_pos trivial, wrap_up (by omega) hn]
    exact ih k (i + 1) (by omega) (by omega) (by omega)
theorem ids_self (l : List Int) (hn : l.length ≤ 4611686018427387904) : sojournlaw16_ids.f (l.length + 1) l l = some true := by
  unfold sojournlaw16_ids.f
  rw [if_pos rfl]
  exact ids_loop l hn _ _ 0 (by omega) rfl (by omega)
/-! ### What is wrong with a session -/
open Classical in
/-- Its names, its state, the rest. -/
noncomputable def errV (x : S28) : Int :=
  if (nameB x.f0 && (nameB x.f1 && nameB x.f2)) = true then
    (if 1 ≤ x.f3 ∧ x.f3 ≤ 5 then
      (if 0 ≤ x.f4 ∧ (x.f3 < 3 → x.f4 = 0) ∧ ((x.f3 = 2 ∨ x.f3 = 4) → whyB x.f5 = true) ∧ (¬ (x.f3 = 2 ∨ x.f3 = 4) → x.f5 = 0) ∧ (x.f3 < 3 → x.f6.length = 0) ∧ x.f6.length ≤ 4 then 0 else 1)
    else 163) else 160
def Short (x : S28) : Prop := x.f0.size ≤ 140737488351232 ∧ x.f1.size ≤ 140737488351232 ∧ x.f2.size ≤ 140737488351232
theorem right_tells (x : S28) (hs : Short x) (k : Nat) (hk : 3 ≤ k) : table_right.f k x.f0 x.f1 x.f2 x.f3 x.f4 x.f5 x.f6 = some (errV x) := by
  obtain ⟨k, rfl⟩ : ∃ m, k = m + 3 := ⟨k - 3, by omega⟩
  unfold table_right.f errV
  rw [show table_named.f [x.f0, x.f1, x.f2] = some (nameB x.f0 && (nameB x.f1 && nameB x.f2)) from if_pos hs]
  simp only [Option.bind_some]
  by_cases hn : (nameB x.f0 && (nameB x.f1 && nameB x.f2)) = true
  · rw [if_pos hn, if_pos hn]
    have hb := because_tells x.f5
    generalize whyB x.f5 = wb at *
    have h0 : ∀ b : Bool, table_right.j0 (k + 3) b x.f0 x.f1 x.f2 x.f3 x.f4 x.f5 x.f6 = if b = true then some 163 else (if x.f3 = 2 then (table_right.j1 (k + 2) (x.f5 == 0) true x.f0 x.f1 x.f2 x.f3 x.f4 x.f5 x.f6) else (table_right.j1 (k + 2) (x.f5 == 0) (x.f3 == 4) x.f0 x.f1 x.f2 x.f3 x.f4 x.f5 x.f6)) := fun b => by simp only [table_right.j0]
    by_cases hst : 1 ≤ x.f3 ∧ x.f3 ≤ 5
    · rw [if_neg (by omega), if_pos hst, h0, if_neg (by simp; omega)]
      have h1 : ∀ a b : Bool, table_right.j1 (k + 2) a b x.f0 x.f1 x.f2 x.f3 x.f4 x.f5 x.f6 = table_right.j2 (k + 1) (if b = true then wb else a) x.f0 x.f1 x.f2 x.f3 x.f4 x.f5 x.f6 := by
        intro a b
        simp only [table_right.j1]
        rw [hb]
        cases b <;> rfl
      rw [h1, h1]
      have hw : ∀ P : Prop, (if x.f3 = 2 then P else P) = P := fun P => by split <;> rfl
      obtain ⟨wf, hwf⟩ : ∃ wf : Bool, wf = if (x.f3 = 2 ∨ x.f3 = 4) then wb else (x.f5 == 0) := ⟨_, rfl⟩
      have e1 : (if x.f3 = 2 then table_right.j2 (k + 1) (if true = true then wb else x.f5 == 0) x.f0 x.f1 x.f2 x.f3 x.f4 x.f5 x.f6 else table_right.j2 (k + 1) (if (x.f3 == 4) = true then wb else x.f5 == 0) x.f0 x.f1 x.f2 x.f3 x.f4 x.f5 x.f6) = table_right.j2 (k + 1) wf x.f0 x.f1 x.f2 x.f3 x.f4 x.f5 x.f6 := by
        rw [hwf]
        by_cases h2 : x.f3 = 2
        · simp [h2]
        · by_cases h4 : x.f3 = 4
          · simp [h2, h4]
          · simp [h2, h4]
      rw [e1]
      have e2 : (((x.f3 = 2 ∨ x.f3 = 4) → wb = true) ∧ (¬ (x.f3 = 2 ∨ x.f3 = 4) → x.f5 = 0)) ↔ wf = true := by
        rw [hwf]
        by_cases h2 : x.f3 = 2 ∨ x.f3 = 4
        · simp [h2]
        · simp [h2]
      simp only [table_right.j2]
      cases wf with
      | true =>
        obtain ⟨e3, e4⟩ := e2.2 rfl
        simp only [if_true]
        by_cases h3 : x.f3 ≥ 3
        · rw [if_pos h3]
          by_cases hc : 0 ≤ x.f4 ∧ (x.f3 < 3 → x.f4 = 0) ∧ ((x.f3 = 2 ∨ x.f3 = 4) → wb = true) ∧ (¬ (x.f3 = 2 ∨ x.f3 = 4) → x.f5 = 0) ∧ (x.f3 < 3 → x.f6.length = 0) ∧ x.f6.length ≤ 4
          · rw [if_pos hc]
            obtain ⟨c1, c2, _, _, c5, c6⟩ := hc
            repeat' split
            all_goals first | rfl | (exfalso; omega)
          · rw [if_neg hc]
            have hc2 : ¬ (0 ≤ x.f4 ∧ x.f6.length ≤ 4) := fun h => hc ⟨h.1, fun h9 => by omega, e3, e4, fun h9 => by omega, h.2⟩
            repeat' split
            all_goals first | rfl | (exfalso; omega)
        · rw [if_neg h3]
          by_cases hc : 0 ≤ x.f4 ∧ (x.f3 < 3 → x.f4 = 0) ∧ ((x.f3 = 2 ∨ x.f3 = 4) → wb = true) ∧ (¬ (x.f3 = 2 ∨ x.f3 = 4) → x.f5 = 0) ∧ (x.f3 < 3 → x.f6.length = 0) ∧ x.f6.length ≤ 4
          · rw [if_pos hc]
            obtain ⟨c1, c2, _, _, c5, c6⟩ := hc
            have c7 := c2 (by omega)
            have c8 := c5 (by omega)
            repeat' split
            all_goals first | rfl | (exfalso; omega)
          · rw [if_neg hc]
            have hc2 : ¬ (x.f4 = 0 ∧ x.f6.length = 0) := fun h => hc ⟨by omega, fun _ => h.1, e3, e4, fun _ => h.2, by omega⟩
            repeat' split
            all_goals first | rfl | (exfalso; omega)
      | false =>
        have e3 : ¬ (((x.f3 = 2 ∨ x.f3 = 4) → wb = true) ∧ (¬ (x.f3 = 2 ∨ x.f3 = 4) → x.f5 = 0)) := fun h => by have := e2.1 h; cases this
        have hc : ¬ (0 ≤ x.f4 ∧ (x.f3 < 3 → x.f4 = 0) ∧ ((x.f3 = 2 ∨ x.f3 = 4) → wb = true) ∧ (¬ (x.f3 = 2 ∨ x.f3 = 4) → x.f5 = 0) ∧ (x.f3 < 3 → x.f6.length = 0) ∧ x.f6.length ≤ 4) := fun h => e3 ⟨h.2.2.1, h.2.2.2.1⟩
        rw [if_neg hc]
        simp only [Bool.false_eq_true, if_false]
        split <;> rfl
    · rw [if_neg hst]
      by_cases h1 : x.f3 < 1
      · rw [if_pos h1, h0, if_pos rfl]
      · rw [if_neg h1, h0, if_pos (by simp; omega)]
  · rw [if_neg hn, if_neg hn]
theorem Right_tells (x : S28) (hs : Short x) : ∃ K, ∀ k, K ≤ k → sojournref16_Right.f k x.f0 x.f1 x.f2 x.f3 x.f4 x.f5 x.f6 = some (errV x) := by
  obtain ⟨K0, n0⟩ := ref_Name_tells x.f0 hs.1
  obtain ⟨K1, n1⟩ := ref_Name_tells x.f1 hs.2.1
  obtain ⟨K2, n2⟩ := ref_Name_tells x.f2 hs.2.2
  refine ⟨K0 + K1 + K2 + 2, fun k hk => ?_⟩
  obtain ⟨k, rfl⟩ : ∃ m, k = m + 2 := ⟨k - 2, by omega⟩
  have m0 : sojournref03_Name.f (k + 2) x.f0 = some (nameB x.f0) := n0 _ (by omega)
  have m1 : sojournref03_Name.f (k + 2) x.f1 = some (nameB x.f1) := n1 _ (by omega)
  have m2 : sojournref03_Name.f (k + 2) x.f2 = some (nameB x.f2) := n2 _ (by omega)
  unfold sojournref16_Right.f
  rw [m0, m1, m2]
  simp only [Option.bind_some]
  have e0 : (if nameB x.f0 = true then (if nameB x.f1 = true then sojournref16_Right.j0 (k + 2) (!nameB x.f2) x.f0 x.f1 x.f2 x.f3 x.f4 x.f5 x.f6 else sojournref16_Right.j0 (k + 2) true x.f0 x.f1 x.f2 x.f3 x.f4 x.f5 x.f6) else sojournref16_Right.j0 (k + 2) true x.f0 x.f1 x.f2 x.f3 x.f4 x.f5 x.f6) = sojournref16_Right.j0 (k + 2) (!(nameB x.f0 && (nameB x.f1 && nameB x.f2))) x.f0 x.f1 x.f2 x.f3 x.f4 x.f5 x.f6 := by
    cases nameB x.f0 <;> cases nameB x.f1 <;> rfl
  rw [e0]
  unfold errV
  simp only [sojournref16_Right.j0]
  by_cases hn : (nameB x.f0 && (nameB x.f1 && nameB x.f2)) = true
  · rw [if_pos hn, if_neg (by rw [hn]; simp)]
    have hw : sojournref16_why.f x.f5 = some (whyB x.f5) := by
      have := because_tells x.f5
      unfold sojournref16_why.f
      unfold table_because.f at this
      exact this
    rw [hw]
    simp only [Option.bind_some, sojournref16_Right.j1]
    rw [hw]
    simp only [Option.bind_some]
    generalize whyB x.f5 = wb at *
    by_cases hc : 0 ≤ x.f4 ∧ (x.f3 < 3 → x.f4 = 0) ∧ ((x.f3 = 2 ∨ x.f3 = 4) → wb = true) ∧ (¬ (x.f3 = 2 ∨ x.f3 = 4) → x.f5 = 0) ∧ (x.f3 < 3 → x.f6.length = 0) ∧ x.f6.length ≤ 4
    · rw [if_pos hc]
      obtain ⟨c1, c2, c3, c4, c5, c6⟩ := hc
      by_cases h1 : x.f3 = 1
      · have c7 := c2 (by omega)
        have c8 := c4 (by omega)
        have c9 := c5 (by omega)
        rw [if_pos h1, if_pos c7, if_pos c8, if_pos (by omega), if_pos (by omega)]
      rw [if_neg h1]
      by_cases h2 : x.f3 = 2
      · have c7 := c2 (by omega)
        have c8 := c3 (.inl h2)
        have c9 := c5 (by omega)
        rw [if_pos h2, if_pos c7, if_pos c8, if_pos (by omega), if_pos (by omega)]
      rw [if_neg h2]
      by_cases h3 : x.f3 = 3
      · have c8 := c4 (by omega)
        rw [if_pos h3, if_pos (by simp [h3]), if_pos (by omega), if_pos c8, if_pos (by omega), if_pos (by omega)]
      rw [if_neg h3]
      by_cases h5 : x.f3 = 5
      · have c8 := c4 (by omega)
        rw [if_pos (by simp [h5]), if_pos (by omega), if_pos c8, if_pos (by omega), if_pos (by omega)]
      rw [if_neg (by simp [h5])]
      by_cases h4 : x.f3 = 4
      · have c8 := c3 (.inr h4)
        rw [if_pos h4, if_pos (by omega), if_pos c8, if_pos (by omega), if_pos (by omega)]
      rw [if_neg h4, if_neg (by omega)]
    · rw [if_neg hc]
      by_cases h1 : x.f3 = 1
      · rw [if_pos h1, if_pos (show 1 ≤ x.f3 ∧ x.f3 ≤ 5 by omega)]
        repeat' split
        all_goals first | rfl | (exfalso; apply hc; refine ⟨by omega, by omega, fun h => by omega, by omega, by omega, by omega⟩)
      rw [if_neg h1]
      by_cases h2 : x.f3 = 2
      · rw [if_pos h2, if_pos (show 1 ≤ x.f3 ∧ x.f3 ≤ 5 by omega)]
        repeat' split
        all_goals first | rfl | (exfalso; apply hc; refine ⟨by omega, by omega, fun _ => by assumption, by omega, by omega, by omega⟩)
      rw [if_neg h2]
      by_cases h3 : x.f3 = 3
      · rw [if_pos h3, if_pos (by simp [h3]), if_pos (show 1 ≤ x.f3 ∧ x.f3 ≤ 5 by omega)]
        repeat' split
        all_goals first | rfl | (exfalso; apply hc; refine ⟨by omega, by omega, fun h => by omega, by omega, by omega, by omega⟩)
      rw [if_neg h3]
      by_cases h5 : x.f3 = 5
      · rw [if_pos (by simp [h5]), if_pos (show 1 ≤ x.f3 ∧ x.f3 ≤ 5 by omega)]
        repeat' split
        all_goals first | rfl | (exfalso; apply hc; refine ⟨by omega, by omega, fun h => by omega, by omega, by omega, by omega⟩)
      rw [if_neg (by simp [h5])]
      by_cases h4 : x.f3 = 4
      · rw [if_pos h4, if_pos (show 1 ≤ x.f3 ∧ x.f3 ≤ 5 by omega)]
        repeat' split
        all_goals first | rfl | (exfalso; apply hc; refine ⟨by omega, by omega, fun _ => by assumption, by omega, by omega, by omega⟩)
      rw [if_neg h4, if_neg (by omega)]
  · rw [if_neg hn, if_pos (by simp only [Bool.not_eq_true] at hn; rw [hn]; rfl)]
end Go.Proofs.Ytagifiakjniedaa.PTab
end
section
namespace Go.Proofs.Ytagifiakjniedaa.PTab
open Go.RowKit Go.Proofs.YtagifiakjniedaaW.PrintWords Go.Proofs.YtagifiakjniedaaW.PrintLast
set_option linter.unusedVariables false
set_option linter.unusedSimpArgs false
theorem errV_fresh (s o p : ByteArray) : errV (fresh s o p) = if (nameB s && (nameB o && nameB p)) = true then 0 else 160 := by
  unfold errV fresh
  by_cases hn : (nameB s && (nameB o && nameB p)) = true
  · rw [if_pos hn, if_pos hn, if_pos (by simp), if_pos (by simp)]
  · rw [if_neg hn, if_neg hn]
theorem Request_tells (L : List S28) (hL : L.length ≤ 64) (s o p : ByteArray) (hs : s.size ≤ 140737488351232) (ho : o.size ≤ 140737488351232) (hp : p.size ≤ 140737488351232) :
    ∃ K, ∀ k, K ≤ k → sojournref16_Request.f k L s o p = some (requestV L s o p) := by
  obtain ⟨K, hK⟩ := Right_tells (fresh s o p) ⟨hs, ho, hp⟩
  refine ⟨K, fun k hk => ?_⟩
  have h1 : sojournref16_Right.f k s o p 1 0 0 [] = some (errV (fresh s o p)) := hK k hk
  unfold sojournref16_Request.f requestV
  rw [h1, errV_fresh]
  simp only [Option.bind_some]
  by_cases hn : (nameB s && (nameB o && nameB p)) = true
  · simp only [if_pos hn]
    rw [if_pos trivial]
    by_cases h64 : 64 ≤ L.length
    · rw [if_pos (by omega), if_pos h64]
    · rw [if_neg (by omega), if_neg h64, if_pos (by simp; omega), if_pos (by simp; omega)]
      simp [fresh]
  · simp only [if_neg hn]
    rw [if_neg (by decide)]
theorem With_loop (L : List S28) (hL : L.length ≤ 64) (i : Nat) (hi : i < L.length) (x : S28) (d : Nat) : ∀ (k j : Nat), j ≤ L.length → L.length - j = d → d < k →
    sojournref16_With.l0 k L ((i : Int) + 1) ((L.set i x).take j) j x.f0 x.f1 x.f2 x.f3 x.f4 x.f5 x.f6 = some (L.set i x) := by
  induction d with
  | zero =>
    intro k j hj hd hk
    obtain ⟨k, rfl⟩ : ∃ m, k = m + 1 := ⟨k - 1, by omega⟩
    simp only [sojournref16_With.l0]
    rw [if_neg (by omega), List.take_of_length_le (by rw [List.length_set]; omega)]
  | succ d ih =>
    intro k j hj hd hk
    obtain ⟨k, rfl⟩ : ∃ m, k = m + 1 := ⟨k - 1, by omega⟩
    have hlt : j < L.length := by omega
    have hw : wrap64 ((i : Int) + 1 - 1) = (i : Int) := by unfold wrap64; omega
    have hlt2 : ((L.set i x).take j).length < 1466015503701 := by rw [List.length_take, List.length_set]; omega
    have hih := ih k (j + 1) (by omega) (by omega) (by omega)
    have hj2 : j < (L.set i x).length := by rw [List.length_set]; exact hlt
    rw [List.take_succ_eq_append_getElem hj2] at hih
    simp only [sojournref16_With.l0]
    rw [if_pos (by omega), hw, wrap_up hlt (by omega)]
    by_cases hji : j = i
    · subst hji
      rw [if_pos rfl, if_pos hlt2]
      rw [List.getElem_set_self] at hih
      exact hih
    · rw [if_neg (by omega), if_pos (by omega), if_pos hlt2, rd28_at hlt]
      rw [List.getElem_set_ne (Ne.symm hji)] at hih
      exact hih
theorem With_tells (L : List S28) (hL : L.length ≤ 64) (i : Nat) (hi : i < L.length) (x : S28) (k : Nat) (hk : 65 ≤ k) : sojournref16_With.f k L ((i : Int) + 1) x.f0 x.f1 x.f2 x.f3 x.f4 x.f5 x.f6 = some (L.set i x) := by
  unfold sojournref16_With.f
  exact With_loop L hL i hi x L.length k 0 (by omega) rfl (by omega)
theorem In_loop (L : List S28) (hL : L.length ≤ 64) (st : Int) (d : Nat) : ∀ (k j : Nat), j ≤ L.length → L.length - j = d → d < k → sojournref16_In.l0 k L st (inK L st j) j = some (inK L st L.length) := by
  induction d with
  | zero =>
    intro k j hj hd hk
    obtain ⟨k, rfl⟩ : ∃ m, k = m + 1 := ⟨k - 1, by omega⟩
    simp only [sojournref16_In.l0]
    rw [if_neg (by omega), show j = L.length by omega]
  | succ d ih =>
    intro k j hj hd hk
    obtain ⟨k, rfl⟩ : ∃ m, k = m + 1 := ⟨k - 1, by omega⟩
    have hlt : j < L.length := by omega
    have hih := ih k (j + 1) (by omega) (by omega) (by omega)
    have hlen := inK_len L st j
    simp only [sojournref16_In.l0]
    rw [if_pos (by omega), if_pos (by omega)]
    have hx : rd_T28 L (j : Int) = L.getD j z28 := by unfold rd_T28; rw [Int.toNat_natCast]
    rw [hx, wrap_up hlt (by omega)]
    by_cases h : (L.getD j z28).f3 = st
    · rw [if_pos h, if_pos (by omega)]
      rw [inK_yes h] at hih
      exact hih
    · rw [if_neg h]
      rw [inK_no h] at hih
      exact hih
theorem In_tells (L : List S28) (hL : L.length ≤ 64) (st : Int) (k : Nat) (hk : 65 ≤ k) : sojournref16_In.f k L st = some (inK L st L.length) := by
  unfold sojournref16_In.f
  exact In_loop L hL st L.length k 0 (by omega) rfl (by omega)
/-- The first error. -/
noncomputable def firstE : List S28 → Int
  | [] => 0
  | x :: r => if errV x = 0 then firstE r else errV x
noncomputable def loadV (L : List S28) : Int := if 64 < L.length then 161 else firstE L
theorem firstE_at {L : List S28} {j : Nat} (hj : j < L.length) : firstE (L.drop j) = if errV L[j] = 0 then firstE (L.drop (j + 1)) else errV L[j] := by
  rw [List.drop_eq_getElem_cons hj]
  rfl
theorem firstE_ok {L : List S28} : firstE L = 0 ↔ ∀ x ∈ L, errV x = 0 := by
  induction L with
  | nil => simp [firstE]
  | cons x r ih =>
    unfold firstE
    by_cases h : errV x = 0
    · rw [if_pos h, ih]
      simp [h]
    · rw [if_neg h]
      simp [h]
theorem Load_loop (L : List S28) (hL : L.length ≤ 64) (hs : ∀ x ∈ L, Short x) (K : Nat) (hK : ∀ x ∈ L, ∀ k, K ≤ k → sojournref16_Right.f k x.f0 x.f1 x.f2 x.f3 x.f4 x.f5 x.f6 = some (errV x)) (d : Nat) : ∀ (k j : Nat), j ≤ L.length → L.length - j = d → d + K < k → sojournref16_Load.l0 k L j = some (firstE (L.drop j)) := by
  induction d with
  | zero =>
    intro k j hj hd hk
    obtain ⟨k, rfl⟩ : ∃ m, k = m + 1 := ⟨k - 1, by omega⟩
    simp only [sojournref16_Load.l0]
    rw [if_neg (by omega), List.drop_eq_nil_of_le (by omega)]
    rfl
  | succ d ih =>
    intro k j hj hd hk
    obtain ⟨k, rfl⟩ : ∃ m, k = m + 1 := ⟨k - 1, by omega⟩
    have hlt : j < L.length := by omega
    have hih := ih k (j + 1) (by omega) (by omega) (by omega)
    simp only [sojournref16_Load.l0]
    rw [if_pos (by omega), if_pos (by omega), rd28_at hlt, hK L[j] (List.getElem_mem hlt) k (by omega), firstE_at hlt]
    simp only [Option.bind_some]
    by_cases h : errV L[j] = 0
    · rw [if_pos h, if_pos h, wrap_up hlt (by omega)]
      exact hih
    · rw [if_neg h, if_neg h]
theorem Load_tells (L : List S28) (hs : ∀ x ∈ L, Short x) : ∃ K, ∀ k, K ≤ k → sojournref16_Load.f k L = some (loadV L) := by
  by_cases h : 64 < L.length
  · exact ⟨0, fun k _ => by unfold sojournref16_Load.f loadV; rw [if_pos (by omega), if_pos h]⟩
  · have hall : ∃ K, ∀ x ∈ L, ∀ k, K ≤ k → sojournref16_Right.f k x.f0 x.f1 x.f2 x.f3 x.f4 x.f5 x.f6 = some (errV x) := by
      clear h
      induction L with
      | nil => exact ⟨0, fun x hx => by cases hx⟩
      | cons y r ih =>
        obtain ⟨K1, h1⟩ := ih (fun x hx => hs x (List.mem_cons_of_mem _ hx))
        obtain ⟨K2, h2⟩ := Right_tells y (hs y List.mem_cons_self)
        refine ⟨K1 + K2, fun x hx k hk => ?_⟩
        rcases List.mem_cons.1 hx with rfl | hx
        · exact h2 k (by omega)
        · exact h1 x hx k (by omega)
    obtain ⟨K, hK⟩ := hall
    refine ⟨L.length + K + 1, fun k hk => ?_⟩
    unfold sojournref16_Load.f loadV
    rw [if_neg (by omega), if_neg h]
    exact Load_loop L (by omega) hs K hK L.length k 0 (by omega) rfl (by omega)
end Go.Proofs.Ytagifiakjniedaa.PTab
end
section
namespace Go.Proofs.Ytagifiakjniedaa.PTab
open Go.RowKit Go.Proofs.YtagifiakjniedaaW.PrintWords Go.Proofs.YtagifiakjniedaaW.PrintLast
set_option linter.unusedVariables false
set_option linter.unusedSimpArgs false
theorem right_calls (x : S28) (A6 : Option Addr) (c6 : Nat) (w : World) (hs : Short x) (hr : Kd.C k71 w A6 x.f6.length x.f6) (hc : x.f6.length ≤ c6) :
    Calls Try.prog 45 #[.agg #[.string x.f0, .string x.f1, .string x.f2, .int .i64 x.f3, .int .i64 x.f4, .int .i64 x.f5, .slice A6 x.f6.length c6]] w fun e w' => e = .returned (.int .i64 (errV x)) ∧ Below w.heap.size w w' :=
  table_right.calls 3 x.f0 x.f1 x.f2 x.f3 x.f4 x.f5 A6 c6 x.f6 (errV x) w hr hc (right_tells x hs 3 (Nat.le_refl _))
theorem C_elem {l : List S28} {w : World} {A : Option Addr} (hC : Kd.C k28 w A l.length l) (k : Nat) (hk : k < l.length) : ∃ ad A6 c6, A = some ad ∧ (w.cell? (ad.add (k * 7)) = some (.string l[k].f0) ∧ w.cell? ⟨(ad.add (k * 7)).block, (ad.add (k * 7)).off + 1, none⟩ = some (.string l[k].f1) ∧ w.cell? ⟨(ad.add (k * 7)).block, (ad.add (k * 7)).off + 2, none⟩ = some (.string l[k].f2) ∧ w.cell? ⟨(ad.add (k * 7)).block, (ad.add (k * 7)).off + 3, none⟩ = some (.int .i64 l[k].f3) ∧ w.cell? ⟨(ad.add (k * 7)).block, (ad.add (k * 7)).off + 4, none⟩ = some (.int .i64 l[k].f4) ∧ w.cell? ⟨(ad.add (k * 7)).block, (ad.add (k * 7)).off + 5, none⟩ = some (.int .i64 l[k].f5) ∧ w.cell? ⟨(ad.add (k * 7)).block, (ad.add (k * 7)).off + 6, none⟩ = some (.slice A6 l[k].f6.length c6)) ∧ l[k].f6.length ≤ c6 ∧ Kd.C k71 w A6 l[k].f6.length l[k].f6 := by
  obtain ⟨ad, A6, c6, he, h0, h1, h2, h3, h4, h5, h6, h7, h8⟩ := at_T28 hC (k : Int) (by omega) (by omega)
  rw [rd28_at hk] at h0 h1 h2 h3 h4 h5 h6 h7 h8
  simp only [Int.toNat_natCast] at h0 h1 h2 h3 h4 h5 h6
  exact ⟨ad, A6, c6, he, ⟨h0, h1, h2, h3, h4, h5, h6⟩, h7, h8⟩
def LoadRel (w : World) (l : List S28) (k : Nat) (wr : World) : Prop := Below w.heap.size w wr ∧ firstE (l.drop k) = firstE l
set_option maxRecDepth 100000 in
set_option maxHeartbeats 1000000 in
theorem load_calls (A : Option Addr) (c : Nat) (l : List S28) (w : World) (hr : Kd.C k28 w A l.length l) (hc : l.length ≤ c) (hs : ∀ x ∈ l, Short x) (hd : loadV l = 0 → Fits l) :
    Calls Try.prog 27 #[.slice A l.length c] w fun e w' => Below w.heap.size w w' ∧ ((loadV l = 0 ∧ ∃ g, e = .returned (.tuple #[.pointer (some ⟨g, 0, none⟩), .int .i64 0]) ∧ Tb w' g (fun k => w.heap.size ≤ k) l) ∨ (loadV l ≠ 0 ∧ e = .returned (.tuple #[.pointer none, .int .i64 (loadV l)]))) := by
  by_cases h64 : 64 < l.length
  · have hv : loadV l = 161 := if_pos h64
    have hm := Kd.C_max hr
    have hdd : decide ((64 : Int) < (l.length : Int)) = true := by simp; omega
    clear hr hs hd
    go_enter Try.func27, Try.ntmps27
    go_wp2
    go_ret2
    exact ⟨Below.refl _ _, .inr ⟨by rw [hv]; decide, by rw [hv]; rfl⟩⟩
  · have hv : loadV l = firstE l := if_neg h64
    have hm := Kd.C_max hr
    have hdd : decide ((64 : Int) < (l.length : Int)) = false := by simp; omega
    have HR := Lib.hid hr
    have HS := Lib.hid hs
    have HD := Lib.hid hd
    have HV := Lib.hid hv
    clear hr hs hd hv
    go_enter Try.func27, Try.ntmps27
    go_wp2_with fail
    go_loopw [12] (fun x wr => ∃ k : Nat, k ≤ l.length ∧ x = .int .i64 k ∧ Hid (LoadRel w l k wr)) (fun x wr => l.length - (intOf x).toNat)
    case atStart => exact ⟨0, Nat.zero_le _, rfl, Lib.hid ⟨Below.refl _ _, rfl⟩⟩
    case round =>
      obtain ⟨k, hk, rfl, HREL⟩ := hrel
      by_cases hlt : k < l.length
      · have hCr := Kd.C_below HR.out HREL.out.1
        obtain ⟨ad, A6, c6, rfl, ⟨k0, k1, k2, k3, k4, k5, k6⟩, l6, g6⟩ := C_elem hCr k hlt
        have hfe := firstE_at hlt
        have H := fun W (hW : Below wr.heap.size wr W) => right_calls l[k] A6 c6 W (HS.out l[k] (List.getElem_mem hlt)) (Kd.C_below g6 hW) l6
        generalize l[k] = x at *
        by_cases he : errV x = 0
        · rw [he] at H
          have H := Lib.hid H
          rw [if_pos he] at hfe
          have HFE := Lib.hid hfe
          clear hCr g6 l6 hfe he
          go_wp2_with fail
          refine (H.out _ (below_alloc (Below.refl _ _) _)).mono ?_
          rintro e w1 ⟨rfl, hb⟩
          have HB := Lib.hid (Below.trans HREL.out.1 ((below_step (below_alloc (Below.refl _ _) _) hb).mono HREL.out.1.size))
          clear hb
          go_wp2
          go_roundw
          case rel => exact ⟨k + 1, by omega, by go_num, Lib.hid ⟨HB.out, by rw [← HREL.out.2, HFE.out]⟩⟩
          case measure => simp [intOf]; omega
        · have heb : (errV x != 0) = true := bne_iff_ne.2 he
          rw [if_neg he] at hfe
          have HFE := Lib.hid hfe
          have HE := Lib.hid he
          generalize errV x = ev at *
          have H := Lib.hid H
          clear hCr g6 l6 hfe he
          go_wp2_with fail
          refine (H.out _ (below_alloc (Below.refl _ _) _)).mono ?_
          rintro e w1 ⟨rfl, hb⟩
          have HB := Lib.hid (Below.trans HREL.out.1 ((below_step (below_alloc (Below.refl _ _) _) hb).mono HREL.out.1.size))
          clear hb
          go_wp2
          go_ret2
          have hl : loadV l = ev := by rw [HV.out, ← HREL.out.2, HFE.out]
          exact ⟨HB.out, .inr ⟨by rw [hl]; exact HE.out, by rw [hl]; rfl⟩⟩
      · obtain rfl : k = l.length := by omega
        have hl : loadV l = 0 := by rw [HV.out, ← HREL.out.2, List.drop_eq_nil_of_le (Nat.le_refl _)]; rfl
        have hF := HD.out hl
        have H := Lib.hid (all_calls A c l wr (Kd.C_below HR.out HREL.out.1) hc hF.1 hF.2)
        have HL := Lib.hid hl
        clear hl hF
        go_wp2_with fail
        refine (H.out).mono ?_
        rintro e w1 ⟨A', rfl, hN, hb⟩
        have HN := Lib.hid hN
        have HSZ := Lib.hid hb.size
        have HB := Lib.hid (Below.trans HREL.out.1 (hb.mono HREL.out.1.size))
        clear hN hb
        go_wp2
        go_ret2
        exact ⟨below_alloc HB.out _, .inl ⟨HL.out, _, rfl, Tb_mono (Tb_made HN.out HSZ.out) (fun k hk => Nat.le_trans HREL.out.1.size hk)⟩⟩
end Go.Proofs.Ytagifiakjniedaa.PTab
end
section
namespace Go.Proofs.Ytagifiakjniedaa.PTab
open Go.RowKit Go.Proofs.YtagifiakjniedaaW.PrintWords Go.Proofs.YtagifiakjniedaaW.PrintLast
set_option linter.unusedVariables false
set_option linter.unusedSimpArgs false
theorem Right_calls (x : S28) (A6 : Option Addr) (c6 : Nat) (w : World) (hs : Short x) (hr : Kd.C k71 w A6 x.f6.length x.f6) (hc : x.f6.length ≤ c6) :
    Calls Try.prog 46 #[.agg #[.string x.f0, .string x.f1, .string x.f2, .int .i64 x.f3, .int .i64 x.f4, .int .i64 x.f5, .slice A6 x.f6.length c6]] w fun e w' => e = .returned (.int .i64 (errV x)) ∧ Below w.heap.size w w' := by
  obtain ⟨K, hK⟩ := Right_tells x hs
  exact sojournref16_Right.calls K x.f0 x.f1 x.f2 x.f3 x.f4 x.f5 A6 c6 x.f6 (errV x) w hr hc (hK K (Nat.le_refl _))
theorem With_calls (L : List S28) (hL : L.length ≤ 64) (i : Nat) (hi : i < L.length) (x : S28) (P0 P2 : Nat → Prop) (A0 : Option Addr) (c0 : Nat) (A6 : Option Addr) (c6 : Nat) (w : World) (h0 : Kd.V k28 28 w w.heap.size P0 (.slice A0 L.length c0) L) (h2 : Kd.V k71 71 w w.heap.size P2 (.slice A6 x.f6.length c6) x.f6) :
    Calls Try.prog 60 #[.slice A0 L.length c0, .int .i64 ((i : Int) + 1), .agg #[.string x.f0, .string x.f1, .string x.f2, .int .i64 x.f3, .int .i64 x.f4, .int .i64 x.f5, .slice A6 x.f6.length c6]] w fun e w' => ∃ v, e = .returned v ∧ Kd.V k28 28 w' 0 (fun k => (P0 k ∨ P2 k) ∨ w.heap.size ≤ k) v (L.set i x) ∧ Below w.heap.size w w' :=
  (sojournref16_With.calls 65 P0 A0 c0 L _ x.f0 x.f1 x.f2 x.f3 x.f4 x.f5 P2 A6 c6 x.f6 (L.set i x) w h0 h2 (With_tells L hL i hi x 65 (Nat.le_refl _))).mono (fun e w' h => by
    obtain ⟨v, he, hN, hb⟩ := h
    exact ⟨v, he, Kd.N_V hN, hb⟩)
theorem Duties_calls (A : Option Addr) (c : Nat) (l : List S71) (w : World) (hr : Kd.C k71 w A l.length l) (hc : l.length ≤ c) (hn : l.length * 16 ≤ 140737488351232) :
    Calls Try.prog 11 #[.slice A l.length c] w fun e w' => ∃ A' c', e = .returned (.slice A' l.length c') ∧ l.length ≤ c' ∧ Kd.F k71 w' (fun k => w.heap.size ≤ k) A' l.length l ∧ Below w.heap.size w w' := by
  refine (sojournref16_Duties.calls A c l l w hr hc (by unfold sojournref16_Duties.f; rw [if_pos (by simp; omega)]; simp)).mono ?_
  rintro e w' ⟨v, rfl, hR, hb⟩
  obtain ⟨A', c', rfl, hc', hF⟩ := Kd.R_V (base' := 0) (Kd.R_mono (Kd.R_bound hR) (ok' := fun k => w.heap.size ≤ k) (fun k hk => hk.2.1))
  exact ⟨A', c', rfl, hc', hF, hb⟩
theorem from_calls (call fr : Int) (w : World) (h : (call = 1 ∧ fr = 1) ∨ (call = 2 ∧ fr = 1) ∨ (call = 3 ∧ fr = 3) ∨ (call = 4 ∧ fr = 3) ∨ (call = 5 ∧ fr = 3)) : Calls Try.prog 59 #[.int .i64 call] w fun e w' => e = .returned (.int .i64 fr) ∧ w' = w := by
  rcases h with ⟨rfl, rfl⟩ | ⟨rfl, rfl⟩ | ⟨rfl, rfl⟩ | ⟨rfl, rfl⟩ | ⟨rfl, rfl⟩
  all_goals
    go_enter Try.func59, Try.ntmps59
    go_wp2
    go_ret
    exact ⟨rfl, rfl⟩
theorem V_elem {l : List S28} {w : World} {base : Nat} {ok : Nat → Prop} {A : Option Addr} {c : Nat} (hV : Kd.V k28 28 w base ok (.slice A l.length c) l) (k : Nat) (hk : k < l.length) : ∃ ad A6 c6, A = some ad ∧ (w.cell? (ad.add (k * 7)) = some (.string l[k].f0) ∧ w.cell? ⟨(ad.add (k * 7)).block, (ad.add (k * 7)).off + 1, none⟩ = some (.string l[k].f1) ∧ w.cell? ⟨(ad.add (k * 7)).block, (ad.add (k * 7)).off + 2, none⟩ = some (.string l[k].f2) ∧ w.cell? ⟨(ad.add (k * 7)).block, (ad.add (k * 7)).off + 3, none⟩ = some (.int .i64 l[k].f3) ∧ w.cell? ⟨(ad.add (k * 7)).block, (ad.add (k * 7)).off + 4, none⟩ = some (.int .i64 l[k].f4) ∧ w.cell? ⟨(ad.add (k * 7)).block, (ad.add (k * 7)).off + 5, none⟩ = some (.int .i64 l[k].f5) ∧ w.cell? ⟨(ad.add (k * 7)).block, (ad.add (k * 7)).off + 6, none⟩ = some (.slice A6 l[k].f6.length c6)) ∧ l[k].f6.length ≤ c6 ∧ Kd.F k71 w ok A6 l[k].f6.length l[k].f6 := by
  obtain ⟨hn, hc, hF⟩ := Kd.V_at hV
  obtain ⟨ad, rfl⟩ : ∃ ad, A = some ad := by
    obtain ⟨ad, he, _⟩ := (Kd.F_now hF).2.2 (by omega)
    exact ⟨ad, he⟩
  obtain ⟨cs, hcl, hK, hcc⟩ := Kd.V_get hV z28 (k : Int) (by omega) (by omega)
  rw [Int.toNat_natCast, List.getD_eq_getElem?_getD, List.getElem?_eq_getElem hk] at hK
  have hK2 : Kd.FK k28 w ok l[k] cs := hK
  obtain ⟨A6, c6, rfl, l6, g6⟩ := k28_openF hK2
  simp only [Int.toNat_natCast] at hcc
  have hc7 : ∀ j u, ([Value.string l[k].f0, .string l[k].f1, .string l[k].f2, .int .i64 l[k].f3, .int .i64 l[k].f4, .int .i64 l[k].f5, .slice A6 l[k].f6.length c6])[j]? = some u → w.cell? (ad.add (k * 7 + j)) = some u := hcc
  exact ⟨ad, A6, c6, rfl, ⟨hc7 0 _ rfl, by rw [← add_field _ _ 1 (by omega)]; exact hc7 1 _ rfl, by rw [← add_field _ _ 2 (by omega)]; exact hc7 2 _ rfl, by rw [← add_field _ _ 3 (by omega)]; exact hc7 3 _ rfl, by rw [← add_field _ _ 4 (by omega)]; exact hc7 4 _ rfl, by rw [← add_field _ _ 5 (by omega)]; exact hc7 5 _ rfl, by rw [← add_field _ _ 6 (by omega)]; exact hc7 6 _ rfl⟩, l6, g6⟩
/-- Behind the reference's Lead. -/
def RLed (w : World) (ok : Nat → Prop) (L' : List S28) (r : Int) (e : Ending) (w' : World) : Prop := ∃ v, e = .returned (.tuple #[v, .int .i64 r]) ∧ Kd.V k28 28 w' 0 (fun k => ok k ∨ w.heap.size ≤ k) v L' ∧ Below w.heap.size w w'
set_option maxRecDepth 100000 in
set_option maxHeartbeats 1000000 in
theorem rlead_out (call : Int) (L : List S28) (ok : Nat → Prop) (id n : Int) (A0 : Option Addr) (c0 : Nat) (P : Value) (w : World) (hV : Kd.V k28 28 w 0 ok (.slice A0 L.length c0) L) (hL : L.length ≤ 64) (h : ¬ (1 ≤ id ∧ id ≤ L.length)) :
    Calls Try.prog 42 #[.slice A0 L.length c0, .int .i64 call, .int .i64 id, .int .i64 n, P] w (RLed w ok L 162) := by
  have HV := Lib.hid (Kd.V_mono hV (ok' := fun k => ok k ∨ w.heap.size ≤ k) (fun k hk => .inl hk))
  clear hV
  by_cases h1 : id < 1
  · have hd : decide (id < 1) = true := by simp; omega
    go_enter Try.func42, Try.ntmps42
    go_wp2
    go_ret2
    exact ⟨_, rfl, HV.out, Below.refl _ _⟩
  · have hd : decide (id < 1) = false := by simp; omega
    have hd2 : decide ((L.length : Int) < id) = true := by simp; omega
    go_enter Try.func42, Try.ntmps42
    go_wp2
    go_ret2
    exact ⟨_, rfl, HV.out, Below.refl _ _⟩
set_option maxRecDepth 100000 in
set_option maxHeartbeats 1000000 in
theorem rlead_state (call fr : Int) (hfr : (call = 1 ∧ fr = 1) ∨ (call = 2 ∧ fr = 1) ∨ (call = 3 ∧ fr = 3) ∨ (call = 4 ∧ fr = 3) ∨ (call = 5 ∧ fr = 3)) (L : List S28) (ok : Nat → Prop) (i : Nat) (n : Int) (A0 : Option Addr) (c0 : Nat) (P : Value) (w : World) (hV : Kd.V k28 28 w 0 ok (.slice A0 L.length c0) L) (hL : L.length ≤ 64) (hi : i < L.length) (hs : L[i].f3 ≠ fr) :
    Calls Try.prog 42 #[.slice A0 L.length c0, .int .i64 call, .int .i64 ((i : Int) + 1), .int .i64 n, P] w (RLed w ok L 163) := by
  have HV := Lib.hid (Kd.V_mono hV (ok' := fun k => ok k ∨ w.heap.size ≤ k) (fun k hk => .inl hk))
  obtain ⟨ad, A6, c6, rfl, ⟨k0, k1, k2, k3, k4, k5, k6⟩, l6, g6⟩ := V_elem hV i hi
  have hd1 : decide ((i : Int) + 1 < 1) = false := by simp; omega
  have hd2 : decide ((L.length : Int) < (i : Int) + 1) = false := by simp; omega
  have hb : (L[i].f3 != fr) = true := bne_iff_ne.2 hs
  have HFR := Lib.hid (fun W => from_calls call fr W hfr)
  clear hV hfr g6 l6
  generalize L[i] = x at *
  clear hs
  go_enter Try.func42, Try.ntmps42
  go_wp2_with fail
  go_quiet ((go_at_call 59; exact Calls.quiet_of_same (HFR.out _)))
  go_wp2
  go_ret2
  exact ⟨_, rfl, Kd.V_drewN (Kd.V_alloc HV.out _) _, pw_below_drewN (below_alloc (Below.refl _ _) _) _⟩
end Go.Proofs.Ytagifiakjniedaa.PTab
end
section
namespace Go.Proofs.Ytagifiakjniedaa.PTab
open Go.RowKit Go.Proofs.YtagifiakjniedaaW.PrintWords Go.Proofs.YtagifiakjniedaaW.PrintLast
set_option linter.unusedVariables false
set_option linter.unusedSimpArgs false
set_option maxRecDepth 100000 in
set_option maxHeartbeats 1000000 in
theorem rlead_deny_yes (L : List S28) (ok : Nat → Prop) (i : Nat) (n : Int) (A0 : Option Addr) (c0 : Nat) (P : Value) (w : World) (hV : Kd.V k28 28 w 0 ok (.slice A0 L.length c0) L) (hL : L.length ≤ 64) (hi : i < L.length) (hs : L[i].f3 = 1) (hsh : Short L[i]) (hev : errV { L[i] with f3 := 2, f5 := n } = 0) :
    Calls Try.prog 42 #[.slice A0 L.length c0, .int .i64 1, .int .i64 ((i : Int) + 1), .int .i64 n, P] w (RLed w ok (L.set i { L[i] with f3 := 2, f5 := n }) 0) := by
  have HV := Lib.hid hV
  obtain ⟨ad, A6, c6, rfl, ⟨k0, k1, k2, k3, k4, k5, k6⟩, l6, g6⟩ := V_elem hV i hi
  have hd1 : decide ((i : Int) + 1 < 1) = false := by simp; omega
  have hd2 : decide ((L.length : Int) < (i : Int) + 1) = false := by simp; omega
  have hb0 : (L[i].f3 != 1) = false := bne_eq_false_iff_eq.2 hs
  have HFR := Lib.hid (fun W => from_calls 1 1 W (by omega))
  have HSH := Lib.hid hsh
  have HG6 := Lib.hid g6
  have HX := Lib.hid hev
  clear hV g6 hsh hev
  generalize L[i] = x at *
  clear hs
  go_enter Try.func42, Try.ntmps42
  go_wp2_with fail
  go_quiet ((go_at_call 59; exact Calls.quiet_of_same (HFR.out _)))
  have H46 := fun W h => Right_calls { x with f3 := 2, f5 := n } A6 c6 W HSH.out h l6
  rw [HX.out] at H46
  have H46 := Lib.hid H46
  go_wp2_with fail
  refine (H46.out _ (Kd.F_now (Kd.F_below HG6.out (by repeat (first | (with_reducible exact Below.refl _ _) | (with_reducible apply pw_below_drewN) | (with_reducible apply below_drew1) | (with_reducible apply below_alloc) | (with_reducible refine Below.setCell ?_ (by simp) _)))))).mono ?_
  rintro e w3 ⟨rfl, hb⟩
  obtain ⟨hcc, hff⟩ := bcell hb
  have hd3 := fun o => hcc w.heap.size o (by simp)
  have HB := Lib.hid (below_step (w := w) (by repeat (first | (with_reducible exact Below.refl _ _) | (with_reducible apply pw_below_drewN) | (with_reducible apply below_drew1) | (with_reducible apply below_alloc) | (with_reducible refine Below.setCell ?_ (by simp) _))) hb)
  clear hb hcc hff
  go_wp2_with fail
  refine (With_calls L hL i hi { x with f3 := 2, f5 := n } ok ok _ _ A6 c6 w3 (Kd.V_below HV.out HB.out) (Kd.V_mk l6 (Kd.F_below HG6.out HB.out))).mono ?_
  rintro e w4 ⟨v, rfl, hV4, hb⟩
  have HB4 := Lib.hid (below_step HB.out hb)
  have HV4 := Lib.hid hV4
  have hsz := HB.out.size
  clear hb hV4
  go_wp2
  go_ret2
  exact ⟨v, rfl, Kd.V_mono HV4.out (fun k hk => by rcases hk with (hk | hk) | hk; exact .inl hk; exact .inl hk; exact .inr (by omega)), HB4.out⟩
set_option maxRecDepth 100000 in
set_option maxHeartbeats 1000000 in
theorem rlead_deny_no (L : List S28) (ok : Nat → Prop) (i : Nat) (n : Int) (A0 : Option Addr) (c0 : Nat) (P : Value) (w : World) (hV : Kd.V k28 28 w 0 ok (.slice A0 L.length c0) L) (hL : L.length ≤ 64) (hi : i < L.length) (hs : L[i].f3 = 1) (hsh : Short L[i]) (hev : errV { L[i] with f3 := 2, f5 := n } ≠ 0) :
    Calls Try.prog 42 #[.slice A0 L.length c0, .int .i64 1, .int .i64 ((i : Int) + 1), .int .i64 n, P] w (RLed w ok L 1) := by
  have HV := Lib.hid hV
  obtain ⟨ad, A6, c6, rfl, ⟨k0, k1, k2, k3, k4, k5, k6⟩, l6, g6⟩ := V_elem hV i hi
  have hd1 : decide ((i : Int) + 1 < 1) = false := by simp; omega
  have hd2 : decide ((L.length : Int) < (i : Int) + 1) = false := by simp; omega
  have hb0 : (L[i].f3 != 1) = false := bne_eq_false_iff_eq.2 hs
  have HFR := Lib.hid (fun W => from_calls 1 1 W (by omega))
  have HSH := Lib.hid hsh
  have HG6 := Lib.hid g6
  have heb : (errV { L[i] with f3 := 2, f5 := n } != 0) = true := bne_iff_ne.2 hev
  clear hV g6 hsh hev
  generalize L[i] = x at *
  clear hs
  go_enter Try.func42, Try.ntmps42
  go_wp2_with fail
  go_quiet ((go_at_call 59; exact Calls.quiet_of_same (HFR.out _)))
  have H46 := fun W h => Right_calls { x with f3 := 2, f5 := n } A6 c6 W HSH.out h l6
  generalize errV { x with f3 := 2, f5 := n } = ev at *
  have H46 := Lib.hid H46
  go_wp2_with fail
  refine (H46.out _ (Kd.F_now (Kd.F_below HG6.out (by repeat (first | (with_reducible exact Below.refl _ _) | (with_reducible apply pw_below_drewN) | (with_reducible apply below_drew1) | (with_reducible apply below_alloc) | (with_reducible refine Below.setCell ?_ (by simp) _)))))).mono ?_
  rintro e w3 ⟨rfl, hb⟩
  have HB := Lib.hid (below_step (w := w) (by repeat (first | (with_reducible exact Below.refl _ _) | (with_reducible apply pw_below_drewN) | (with_reducible apply below_drew1) | (with_reducible apply below_alloc) | (with_reducible refine Below.setCell ?_ (by simp) _))) hb)
  clear hb
  go_wp2
  go_ret2
  exact ⟨_, rfl, Kd.V_mono (Kd.V_below HV.out HB.out) (fun k hk => .inl hk), HB.out⟩
set_option maxRecDepth 100000 in
set_option maxHeartbeats 1000000 in
theorem rlead_start_yes (L : List S28) (ok : Nat → Prop) (i : Nat) (n : Int) (A0 : Option Addr) (c0 : Nat) (A : Option Addr) (c : Nat) (l : List S71) (w : World) (hV : Kd.V k28 28 w 0 ok (.slice A0 L.length c0) L) (hL : L.length ≤ 64) (hi : i < L.length) (hs : L[i].f3 = 1) (hsh : Short L[i]) (hr : Kd.C k71 w A l.length l) (hc : l.length ≤ c) (hn : l.length * 16 ≤ 140737488351232) (hev : errV { L[i] with f3 := 3, f4 := n, f6 := l } = 0) :
    Calls Try.prog 42 #[.slice A0 L.length c0, .int .i64 2, .int .i64 ((i : Int) + 1), .int .i64 n, .slice A l.length c] w (RLed w ok (L.set i { L[i] with f3 := 3, f4 := n, f6 := l }) 0) := by
  have HV := Lib.hid hV
  obtain ⟨ad, A6, c6, rfl, ⟨k0, k1, k2, k3, k4, k5, k6⟩, l6, g6⟩ := V_elem hV i hi
  have hd1 : decide ((i : Int) + 1 < 1) = false := by simp; omega
  have hd2 : decide ((L.length : Int) < (i : Int) + 1) = false := by simp; omega
  have hb0 : (L[i].f3 != 1) = false := bne_eq_false_iff_eq.2 hs
  have HFR := Lib.hid (fun W => from_calls 2 1 W (by omega))
  have HSH := Lib.hid hsh
  have HG6 := Lib.hid g6
  have HR := Lib.hid hr
  clear hr
  have HX := Lib.hid hev
  clear hV g6 hsh hev
  generalize L[i] = x at *
  clear hs
  go_enter Try.func42, Try.ntmps42
  go_wp2_with fail
  go_quiet ((go_at_call 59; exact Calls.quiet_of_same (HFR.out _)))
  go_wp2_with fail
  refine (Duties_calls A c l _ (Kd.C_below HR.out (by repeat (first | (with_reducible exact Below.refl _ _) | (with_reducible apply pw_below_drewN) | (with_reducible apply below_drew1) | (with_reducible apply below_alloc) | (with_reducible refine Below.setCell ?_ (by simp) _)))) hc hn).mono ?_
  rintro e w2 ⟨A7, c7, rfl, hc7, hF, hb⟩
  obtain ⟨hcc, hff⟩ := bcell hb
  have hd := fun o => hcc w.heap.size o (by simp)
  have he := fun o => hff w.heap.size o (by simp)
  have hz : w.heap.size < w2.heap.size := by have := hb.size; simp at this; omega
  have HF := Lib.hid (Kd.F_mono hF (ok' := fun k => w.heap.size + 1 ≤ k) (fun k hk => by simp at hk; omega))
  have HB0 := Lib.hid (below_step (w := w) (by repeat (first | (with_reducible exact Below.refl _ _) | (with_reducible apply pw_below_drewN) | (with_reducible apply below_drew1) | (with_reducible apply below_alloc) | (with_reducible refine Below.setCell ?_ (by simp) _))) hb)
  clear hF hb hcc hff
  have H46 := fun W h => Right_calls { x with f3 := 3, f4 := n, f6 := l } A7 c7 W HSH.out h hc7
  rw [HX.out] at H46
  have H46 := Lib.hid H46
  go_wp2_with fail
  refine (H46.out _ (Kd.F_now (ok := fun k => w.heap.size + 1 ≤ k) (by repeat (first | (with_reducible exact HF.out) | (with_reducible apply Kd.F_drewN) | (with_reducible refine Kd.F_far ?_ (fun k hk he => by simp at he; omega) _))))).mono ?_
  rintro e w3 ⟨rfl, hb⟩
  obtain ⟨hcc, hff⟩ := bcell hb
  have hd3 := fun o => hcc w.heap.size o (by simp; try omega)
  have HB := Lib.hid (below_step (w := w) (by repeat (first | (with_reducible exact HB0.out) | (with_reducible apply pw_below_drewN) | (with_reducible apply below_drew1) | (with_reducible apply below_alloc) | (with_reducible refine Below.setCell ?_ (by simp) _))) hb)
  have HF3 := Lib.hid (Kd.F_below (show Kd.F k71 _ (fun k => w.heap.size + 1 ≤ k) A7 l.length l from (by repeat (first | (with_reducible exact HF.out) | (with_reducible apply Kd.F_drewN) | (with_reducible refine Kd.F_far ?_ (fun k hk he => by simp at he; omega) _)))) hb)
  clear hb hcc hff
  go_wp2_with fail
  refine (With_calls L hL i hi { x with f3 := 3, f4 := n, f6 := l } ok (fun k => w.heap.size + 1 ≤ k) _ _ A7 c7 w3 (Kd.V_below HV.out HB.out) (Kd.V_mk hc7 HF3.out)).mono ?_
  rintro e w4 ⟨v, rfl, hV4, hb⟩
  have HB4 := Lib.hid (below_step HB.out hb)
  have HV4 := Lib.hid hV4
  have hsz := HB.out.size
  clear hb hV4
  go_wp2
  go_ret2
  exact ⟨v, rfl, Kd.V_mono HV4.out (fun k hk => by rcases hk with (hk | hk) | hk; exact .inl hk; exact .inr (by omega); exact .inr (by omega)), HB4.out⟩
set_option maxRecDepth 100000 in
set_option maxHeartbeats 1000000 in
theorem rlead_start_no (L : List S28) (ok : Nat → Prop) (i : Nat) (n : Int) (A0 : Option Addr) (c0 : Nat) (A : Option Addr) (c : Nat) (l : List S71) (w : World) (hV : Kd.V k28 28 w 0 ok (.slice A0 L.length c0) L) (hL : L.length ≤ 64) (hi : i < L.length) (hs : L[i].f3 = 1) (hsh : Short L[i]) (hr : Kd.C k71 w A l.length l) (hc : l.length ≤ c) (hn : l.length * 16 ≤ 140737488351232) (hev : errV { L[i] with f3 := 3, f4 := n, f6 := l } ≠ 0) :
    Calls Try.prog 42 #[.slice A0 L.length c0, .int .i64 2, .int .i64 ((i : Int) + 1), .int .i64 n, .slice A l.length c] w (RLed w ok L 1) := by
  have HV := Lib.hid hV
  obtain ⟨ad, A6, c6, rfl, ⟨k0, k1, k2, k3, k4, k5, k6⟩, l6, g6⟩ := V_elem hV i hi
  have hd1 : decide ((i : Int) + 1 < 1) = false := by simp; omega
  have hd2 : decide ((L.length : Int) < (i : Int) + 1) = false := by simp; omega
  have hb0 : (L[i].f3 != 1) = false := bne_eq_false_iff_eq.2 hs
  have HFR := Lib.hid (fun W => from_calls 2 1 W (by omega))
  have HSH := Lib.hid hsh
  have HG6 := Lib.hid g6
  have HR := Lib.hid hr
  clear hr
  have heb : (errV { L[i] with f3 := 3, f4 := n, f6 := l } != 0) = true := bne_iff_ne.2 hev
  clear hV g6 hsh hev
  generalize L[i] = x at *
  clear hs
  go_enter Try.func42, Try.ntmps42
  go_wp2_with fail
  go_quiet ((go_at_call 59; exact Calls.quiet_of_same (HFR.out _)))
  go_wp2_with fail
  refine (Duties_calls A c l _ (Kd.C_below HR.out (by repeat (first | (with_reducible exact Below.refl _ _) | (with_reducible apply pw_below_drewN) | (with_reducible apply below_drew1) | (with_reducible apply below_alloc) | (with_reducible refine Below.setCell ?_ (by simp) _)))) hc hn).mono ?_
  rintro e w2 ⟨A7, c7, rfl, hc7, hF, hb⟩
  obtain ⟨hcc, hff⟩ := bcell hb
  have hd := fun o => hcc w.heap.size o (by simp)
  have he := fun o => hff w.heap.size o (by simp)
  have hz : w.heap.size < w2.heap.size := by have := hb.size; simp at this; omega
  have HF := Lib.hid (Kd.F_mono hF (ok' := fun k => w.heap.size + 1 ≤ k) (fun k hk => by simp at hk; omega))
  have HB0 := Lib.hid (below_step (w := w) (by repeat (first | (with_reducible exact Below.refl _ _) | (with_reducible apply pw_below_drewN) | (with_reducible apply below_drew1) | (with_reducible apply below_alloc) | (with_reducible refine Below.setCell ?_ (by simp) _))) hb)
  clear hF hb hcc hff
  have H46 := fun W h => Right_calls { x with f3 := 3, f4 := n, f6 := l } A7 c7 W HSH.out h hc7
  generalize errV { x with f3 := 3, f4 := n, f6 := l } = ev at *
  have H46 := Lib.hid H46
  go_wp2_with fail
  refine (H46.out _ (Kd.F_now (ok := fun k => w.heap.size + 1 ≤ k) (by repeat (first | (with_reducible exact HF.out) | (with_reducible apply Kd.F_drewN) | (with_reducible refine Kd.F_far ?_ (fun k hk he => by simp at he; omega) _))))).mono ?_
  rintro e w3 ⟨rfl, hb⟩
  have HB := Lib.hid (below_step (w := w) (by repeat (first | (with_reducible exact HB0.out) | (with_reducible apply pw_below_drewN) | (with_reducible apply below_drew1) | (with_reducible apply below_alloc) | (with_reducible refine Below.setCell ?_ (by simp) _))) hb)
  clear hb
  go_wp2
  go_ret2
  exact ⟨_, rfl, Kd.V_mono (Kd.V_below HV.out HB.out) (fun k hk => .inl hk), HB.out⟩
set_option maxRecDepth 100000 in
set_option maxHeartbeats 1000000 in
theorem rlead_revoke_yes (L : List S28) (ok : Nat → Prop) (i : Nat) (n : Int) (A0 : Option Addr) (c0 : Nat) (P : Value) (w : World) (hV : Kd.V k28 28 w 0 ok (.slice A0 L.length c0) L) (hL : L.length ≤ 64) (hi : i < L.length) (hs : L[i].f3 = 3) (hsh : Short L[i]) (hev : errV { L[i] with f3 := 4, f5 := n } = 0) :
    Calls Try.prog 42 #[.slice A0 L.length c0, .int .i64 3, .int .i64 ((i : Int) + 1), .int .i64 n, P] w (RLed w ok (L.set i { L[i] with f3 := 4, f5 := n }) 0) := by
  have HV := Lib.hid hV
  obtain ⟨ad, A6, c6, rfl, ⟨k0, k1, k2, k3, k4, k5, k6⟩, l6, g6⟩ := V_elem hV i hi
  have hd1 : decide ((i : Int) + 1 < 1) = false := by simp; omega
  have hd2 : decide ((L.length : Int) < (i : Int) + 1) = false := by simp; omega
  have hb0 : (L[i].f3 != 3) = false := bne_eq_false_iff_eq.2 hs
  have HFR := Lib.hid (fun W => from_calls 3 3 W (by omega))
  have HSH := Lib.hid hsh
  have HG6 := Lib.hid g6
  have HX := Lib.hid hev
  clear hV g6 hsh hev
  generalize L[i] = x at *
  clear hs
  go_enter Try.func42, Try.ntmps42
  go_wp2_with fail
  go_quiet ((go_at_call 59; exact Calls.quiet_of_same (HFR.out _)))
  have H46 := fun W h => Right_calls { x with f3 := 4, f5 := n } A6 c6 W HSH.out h l6
  rw [HX.out] at H46
  have H46 := Lib.hid H46
  go_wp2_with fail
  refine (H46.out _ (Kd.F_now (Kd.F_below HG6.out (by repeat (first | (with_reducible exact Below.refl _ _) | (with_reducible apply pw_below_drewN) | (with_reducible apply below_drew1) | (with_reducible apply below_alloc) | (with_reducible refine Below.setCell ?_ (by simp) _)))))).mono ?_
  rintro e w3 ⟨rfl, hb⟩
  obtain ⟨hcc, hff⟩ := bcell hb
  have hd3 := fun o => hcc w.heap.size o (by simp)
  have HB := Lib.hid (below_step (w := w) (by repeat (first | (with_reducible exact Below.refl _ _) | (with_reducible apply pw_below_drewN) | (with_reducible apply below_drew1) | (with_reducible apply below_alloc) | (with_reducible refine Below.setCell ?_ (by simp) _))) hb)
  clear hb hcc hff
  go_wp2_with fail
  refine (With_calls L hL i hi { x with f3 := 4, f5 := n } ok ok _ _ A6 c6 w3 (Kd.V_below HV.out HB.out) (Kd.V_mk l6 (Kd.F_below HG6.out HB.out))).mono ?_
  rintro e w4 ⟨v, rfl, hV4, hb⟩
  have HB4 := Lib.hid (below_step HB.out hb)
  have HV4 := Lib.hid hV4
  have hsz := HB.out.size
  clear hb hV4
  go_wp2
  go_ret2
  exact ⟨v, rfl, Kd.V_mono HV4.out (fun k hk => by rcases hk with (hk | hk) | hk; exact .inl hk; exact .inl hk; exact .inr (by omega)), HB4.out⟩
set_option maxRecDepth 100000 in
set_option maxHeartbeats 1000000 in
theorem rlead_revoke_no (L : List S28) (ok : Nat → Prop) (i : Nat) (n : Int) (A0 : Option Addr) (c0 : Nat) (P : Value) (w : World) (hV : Kd.V k28 28 w 0 ok (.slice A0 L.length c0) L) (hL : L.length ≤ 64) (hi : i < L.length) (hs : L[i].f3 = 3) (hsh : Short L[i]) (hev : errV { L[i] with f3 := 4, f5 := n } ≠ 0) :
    Calls Try.prog 42 #[.slice A0 L.length c0, .int .i64 3, .int .i64 ((i : Int) + 1), .int .i64 n, P] w (RLed w ok L 1) := by
  have HV := Lib.hid hV
  obtain ⟨ad, A6, c6, rfl, ⟨k0, k1, k2, k3, k4, k5, k6⟩, l6, g6⟩ := V_elem hV i hi
  have hd1 : decide ((i : Int) + 1 < 1) = false := by simp; omega
  have hd2 : decide ((L.length : Int) < (i : Int) + 1) = false := by simp; omega
  have hb0 : (L[i].f3 != 3) = false := bne_eq_false_iff_eq.2 hs
  have HFR := Lib.hid (fun W => from_calls 3 3 W (by omega))
  have HSH := Lib.hid hsh
  have HG6 := Lib.hid g6
  have heb : (errV { L[i] with f3 := 4, f5 := n } != 0) = true := bne_iff_ne.2 hev
  clear hV g6 hsh hev
  generalize L[i] = x at *
  clear hs
  go_enter Try.func42, Try.ntmps42
  go_wp2_with fail
  go_quiet ((go_at_call 59; exact Calls.quiet_of_same (HFR.out _)))
  have H46 := fun W h => Right_calls { x with f3 := 4, f5 := n } A6 c6 W HSH.out h l6
  generalize errV { x with f3 := 4, f5 := n } = ev at *
  have H46 := Lib.hid H46
  go_wp2_with fail
  refine (H46.out _ (Kd.F_now (Kd.F_below HG6.out (by repeat (first | (with_reducible exact Below.refl _ _) | (with_reducible apply pw_below_drewN) | (with_reducible apply below_drew1) | (with_reducible apply below_alloc) | (with_reducible refine Below.setCell ?_ (by simp) _)))))).mono ?_
  rintro e w3 ⟨rfl, hb⟩
  have HB := Lib.hid (below_step (w := w) (by repeat (first | (with_reducible exact Below.refl _ _) | (with_reducible apply pw_below_drewN) | (with_reducible apply below_drew1) | (with_reducible apply below_alloc) | (with_reducible refine Below.setCell ?_ (by simp) _))) hb)
  clear hb
  go_wp2
  go_ret2
  exact ⟨_, rfl, Kd.V_mono (Kd.V_below HV.out HB.out) (fun k hk => .inl hk), HB.out⟩
set_option maxRecDepth 100000 in
set_option maxHeartbeats 1000000 in
theorem rlead_end_yes (L : List S28) (ok : Nat → Prop) (i : Nat) (n : Int) (A0 : Option Addr) (c0 : Nat) (P : Value) (w : World) (hV : Kd.V k28 28 w 0 ok (.slice A0 L.length c0) L) (hL : L.length ≤ 64) (hi : i < L.length) (hs : L[i].f3 = 3) (hsh : Short L[i]) (hev : errV { L[i] with f3 := 5 } = 0) :
    Calls Try.prog 42 #[.slice A0 L.length c0, .int .i64 4, .int .i64 ((i : Int) + 1), .int .i64 n, P] w (RLed w ok (L.set i { L[i] with f3 := 5 }) 0) := by
  have HV := Lib.hid hV
  obtain ⟨ad, A6, c6, rfl, ⟨k0, k1, k2, k3, k4, k5, k6⟩, l6, g6⟩ := V_elem hV i hi
  have hd1 : decide ((i : Int) + 1 < 1) = false := by simp; omega
  have hd2 : decide ((L.length : Int) < (i : Int) + 1) = false := by simp; omega
  have hb0 : (L[i].f3 != 3) = false := bne_eq_false_iff_eq.2 hs
  have HFR := Lib.hid (fun W => from_calls 4 3 W (by omega))
  have HSH := Lib.hid hsh
  have HG6 := Lib.hid g6
  have HX := Lib.hid hev
  clear hV g6 hsh hev
  generalize L[i] = x at *
  clear hs
  go_enter Try.func42, Try.ntmps42
  go_wp2_with fail
  go_quiet ((go_at_call 59; exact Calls.quiet_of_same (HFR.out _)))
  have H46 := fun W h => Right_calls { x with f3 := 5 } A6 c6 W HSH.out h l6
  rw [HX.out] at H46
  have H46 := Lib.hid H46
  go_wp2_with fail
  refine (H46.out _ (Kd.F_now (Kd.F_below HG6.out (by repeat (first | (with_reducible exact Below.refl _ _) | (with_reducible apply pw_below_drewN) | (with_reducible apply below_drew1) | (with_reducible apply below_alloc) | (with_reducible refine Below.setCell ?_ (by simp) _)))))).mono ?_
  rintro e w3 ⟨rfl, hb⟩
  obtain ⟨hcc, hff⟩ := bcell hb
  have hd3 := fun o => hcc w.heap.size o (by simp)
  have HB := Lib.hid (below_step (w := w) (by repeat (first | (with_reducible exact Below.refl _ _) | (with_reducible apply pw_below_drewN) | (with_reducible apply below_drew1) | (with_reducible apply below_alloc) | (with_reducible refine Below.setCell ?_ (by simp) _))) hb)
  clear hb hcc hff
  go_wp2_with fail
  refine (With_calls L hL i hi { x with f3 := 5 } ok ok _ _ A6 c6 w3 (Kd.V_below HV.out HB.out) (Kd.V_mk l6 (Kd.F_below HG6.out HB.out))).mono ?_
  rintro e w4 ⟨v, rfl, hV4, hb⟩
  have HB4 := Lib.hid (below_step HB.out hb)
  have HV4 := Lib.hid hV4
  have hsz := HB.out.size
  clear hb hV4
  go_wp2
  go_ret2
  exact ⟨v, rfl, Kd.V_mono HV4.out (fun k hk => by rcases hk with (hk | hk) | hk; exact .inl hk; exact .inl hk; exact .inr (by omega)), HB4.out⟩
set_option maxRecDepth 100000 in
set_option maxHeartbeats 1000000 in
theorem rlead_end_no (L : List S28) (ok : Nat → Prop) (i : Nat) (n : Int) (A0 : Option Addr) (c0 : Nat) (P : Value) (w : World) (hV : Kd.V k28 28 w 0 ok (.slice A0 L.length c0) L) (hL : L.length ≤ 64) (hi : i < L.length) (hs : L[i].f3 = 3) (hsh : Short L[i]) (hev : errV { L[i] with f3 := 5 } ≠ 0) :
    Calls Try.prog 42 #[.slice A0 L.length c0, .int .i64 4, .int .i64 ((i : Int) + 1), .int .i64 n, P] w (RLed w ok L 1) := by
  have HV := Lib.hid hV
  obtain ⟨ad, A6, c6, rfl, ⟨k0, k1, k2, k3, k4, k5, k6⟩, l6, g6⟩ := V_elem hV i hi
  have hd1 : decide ((i : Int) + 1 < 1) = false := by simp; omega
  have hd2 : decide ((L.length : Int) < (i : Int) + 1) = false := by simp; omega
  have hb0 : (L[i].f3 != 3) = false := bne_eq_false_iff_eq.2 hs
  have HFR := Lib.hid (fun W => from_calls 4 3 W (by omega))
  have HSH := Lib.hid hsh
  have HG6 := Lib.hid g6
  have heb : (errV { L[i] with f3 := 5 } != 0) = true := bne_iff_ne.2 hev
  clear hV g6 hsh hev
  generalize L[i] = x at *
  clear hs
  go_enter Try.func42, Try.ntmps42
  go_wp2_with fail
  go_quiet ((go_at_call 59; exact Calls.quiet_of_same (HFR.out _)))
  have H46 := fun W h => Right_calls { x with f3 := 5 } A6 c6 W HSH.out h l6
  generalize errV { x with f3 := 5 } = ev at *
  have H46 := Lib.hid H46
  go_wp2_with fail
  refine (H46.out _ (Kd.F_now (Kd.F_below HG6.out (by repeat (first | (with_reducible exact Below.refl _ _) | (with_reducible apply pw_below_drewN) | (with_reducible apply below_drew1) | (with_reducible apply below_alloc) | (with_reducible refine Below.setCell ?_ (by simp) _)))))).mono ?_
  rintro e w3 ⟨rfl, hb⟩
  have HB := Lib.hid (below_step (w := w) (by repeat (first | (with_reducible exact Below.refl _ _) | (with_reducible apply pw_below_drewN) | (with_reducible apply below_drew1) | (with_reducible apply below_alloc) | (with_reducible refine Below.setCell ?_ (by simp) _))) hb)
  clear hb
  go_wp2
  go_ret2
  exact ⟨_, rfl, Kd.V_mono (Kd.V_below HV.out HB.out) (fun k hk => .inl hk), HB.out⟩
set_option maxRecDepth 100000 in
set_option maxHeartbeats 1000000 in
theorem rlead_stand_yes (L : List S28) (ok : Nat → Prop) (i : Nat) (n : Int) (A0 : Option Addr) (c0 : Nat) (A : Option Addr) (c : Nat) (l : List S71) (w : World) (hV : Kd.V k28 28 w 0 ok (.slice A0 L.length c0) L) (hL : L.length ≤ 64) (hi : i < L.length) (hs : L[i].f3 = 3) (hsh : Short L[i]) (hr : Kd.C k71 w A l.length l) (hc : l.length ≤ c) (hn : l.length * 16 ≤ 140737488351232) (hm : l.length = L[i].f6.length) (hev : errV { L[i] with f6 := l } = 0) :
    Calls Try.prog 42 #[.slice A0 L.length c0, .int .i64 5, .int .i64 ((i : Int) + 1), .int .i64 n, .slice A l.length c] w (RLed w ok (L.set i { L[i] with f6 := l }) 0) := by
  have HV := Lib.hid hV
  obtain ⟨ad, A6, c6, rfl, ⟨k0, k1, k2, k3, k4, k5, k6⟩, l6, g6⟩ := V_elem hV i hi
  have hd1 : decide ((i : Int) + 1 < 1) = false := by simp; omega
  have hd2 : decide ((L.length : Int) < (i : Int) + 1) = false := by simp; omega
  have hb0 : (L[i].f3 != 3) = false := bne_eq_false_iff_eq.2 hs
  have HFR := Lib.hid (fun W => from_calls 5 3 W (by omega))
  have HSH := Lib.hid hsh
  have HG6 := Lib.hid g6
  have hb1 : ((l.length : Int) != (L[i].f6.length : Int)) = false := bne_eq_false_iff_eq.2 (by omega)
  have HM := Lib.hid hm
  clear hm
  have HR := Lib.hid hr
  clear hr
  have HX := Lib.hid hev
  clear hV g6 hsh hev
  generalize L[i] = x at *
  clear hs
  go_enter Try.func42, Try.ntmps42
  go_wp2_with fail
  go_quiet ((go_at_call 59; exact Calls.quiet_of_same (HFR.out _)))
  go_wp2_with fail
  refine (Duties_calls A c l _ (Kd.C_below HR.out (by repeat (first | (with_reducible exact Below.refl _ _) | (with_reducible apply pw_below_drewN) | (with_reducible apply below_drew1) | (with_reducible apply below_alloc) | (with_reducible refine Below.setCell ?_ (by simp) _)))) hc hn).mono ?_
  rintro e w2 ⟨A7, c7, rfl, hc7, hF, hb⟩
  obtain ⟨hcc, hff⟩ := bcell hb
  have hd := fun o => hcc w.heap.size o (by simp)
  have he := fun o => hff w.heap.size o (by simp)
  have hz : w.heap.size < w2.heap.size := by have := hb.size; simp at this; omega
  have HF := Lib.hid (Kd.F_mono hF (ok' := fun k => w.heap.size + 1 ≤ k) (fun k hk => by simp at hk; omega))
  have HB0 := Lib.hid (below_step (w := w) (by repeat (first | (with_reducible exact Below.refl _ _) | (with_reducible apply pw_below_drewN) | (with_reducible apply below_drew1) | (with_reducible apply below_alloc) | (with_reducible refine Below.setCell ?_ (by simp) _))) hb)
  clear hF hb hcc hff
  have H46 := fun W h => Right_calls { x with f6 := l } A7 c7 W HSH.out h hc7
  rw [HX.out] at H46
  have H46 := Lib.hid H46
  go_wp2_with fail
  refine (H46.out _ (Kd.F_now (ok := fun k => w.heap.size + 1 ≤ k) (by repeat (first | (with_reducible exact HF.out) | (with_reducible apply Kd.F_drewN) | (with_reducible refine Kd.F_far ?_ (fun k hk he => by simp at he; omega) _))))).mono ?_
  rintro e w3 ⟨rfl, hb⟩
  obtain ⟨hcc, hff⟩ := bcell hb
  have hd3 := fun o => hcc w.heap.size o (by simp; try omega)
  have HB := Lib.hid (below_step (w := w) (by repeat (first | (with_reducible exact HB0.out) | (with_reducible apply pw_below_drewN) | (with_reducible apply below_drew1) | (with_reducible apply below_alloc) | (with_reducible refine Below.setCell ?_ (by simp) _))) hb)
  have HF3 := Lib.hid (Kd.F_below (show Kd.F k71 _ (fun k => w.heap.size + 1 ≤ k) A7 l.length l from (by repeat (first | (with_reducible exact HF.out) | (with_reducible apply Kd.F_drewN) | (with_reducible refine Kd.F_far ?_ (fun k hk he => by simp at he; omega) _)))) hb)
  clear hb hcc hff
  go_wp2_with fail
  refine (With_calls L hL i hi { x with f6 := l } ok (fun k => w.heap.size + 1 ≤ k) _ _ A7 c7 w3 (Kd.V_below HV.out HB.out) (Kd.V_mk hc7 HF3.out)).mono ?_
  rintro e w4 ⟨v, rfl, hV4, hb⟩
  have HB4 := Lib.hid (below_step HB.out hb)
  have HV4 := Lib.hid hV4
  have hsz := HB.out.size
  clear hb hV4
  go_wp2
  go_ret2
  exact ⟨v, rfl, Kd.V_mono HV4.out (fun k hk => by rcases hk with (hk | hk) | hk; exact .inl hk; exact .inr (by omega); exact .inr (by omega)), HB4.out⟩
set_option maxRecDepth 100000 in
set_option maxHeartbeats 1000000 in
theorem rlead_stand_no (L : List S28) (ok : Nat → Prop) (i : Nat) (n : Int) (A0 : Option Addr) (c0 : Nat) (A : Option Addr) (c : Nat) (l : List S71) (w : World) (hV : Kd.V k28 28 w 0 ok (.slice A0 L.length c0) L) (hL : L.length ≤ 64) (hi : i < L.length) (hs : L[i].f3 = 3) (hsh : Short L[i]) (hr : Kd.C k71 w A l.length l) (hc : l.length ≤ c) (hn : l.length * 16 ≤ 140737488351232) (hm : l.length = L[i].f6.length) (hev : errV { L[i] with f6 := l } ≠ 0) :
    Calls Try.prog 42 #[.slice A0 L.length c0, .int .i64 5, .int .i64 ((i : Int) + 1), .int .i64 n, .slice A l.length c] w (RLed w ok L 1) := by
  have HV := Lib.hid hV
  obtain ⟨ad, A6, c6, rfl, ⟨k0, k1, k2, k3, k4, k5, k6⟩, l6, g6⟩ := V_elem hV i hi
  have hd1 : decide ((i : Int) + 1 < 1) = false := by simp; omega
  have hd2 : decide ((L.length : Int) < (i : Int) + 1) = false := by simp; omega
  have hb0 : (L[i].f3 != 3) = false := bne_eq_false_iff_eq.2 hs
  have HFR := Lib.hid (fun W => from_calls 5 3 W (by omega))
  have HSH := Lib.hid hsh
  have HG6 := Lib.hid g6
  have hb1 : ((l.length : Int) != (L[i].f6.length : Int)) = false := bne_eq_false_iff_eq.2 (by omega)
  have HM := Lib.hid hm
  clear hm
  have HR := Lib.hid hr
  clear hr
  have heb : (errV { L[i] with f6 := l } != 0) = true := bne_iff_ne.2 hev
  clear hV g6 hsh hev
  generalize L[i] = x at *
  clear hs
  go_enter Try.func42, Try.ntmps42
  go_wp2_with fail
  go_quiet ((go_at_call 59; exact Calls.quiet_of_same (HFR.out _)))
  go_wp2_with fail
  refine (Duties_calls A c l _ (Kd.C_below HR.out (by repeat (first | (with_reducible exact Below.refl _ _) | (with_reducible apply pw_below_drewN) | (with_reducible apply below_drew1) | (with_reducible apply below_alloc) | (with_reducible refine Below.setCell ?_ (by simp) _)))) hc hn).mono ?_
  rintro e w2 ⟨A7, c7, rfl, hc7, hF, hb⟩
  obtain ⟨hcc, hff⟩ := bcell hb
  have hd := fun o => hcc w.heap.size o (by simp)
  have he := fun o => hff w.heap.size o (by simp)
  have hz : w.heap.size < w2.heap.size := by have := hb.size; simp at this; omega
  have HF := Lib.hid (Kd.F_mono hF (ok' := fun k => w.heap.size + 1 ≤ k) (fun k hk => by simp at hk; omega))
  have HB0 := Lib.hid (below_step (w := w) (by repeat (first | (with_reducible exact Below.refl _ _) | (with_reducible apply pw_below_drewN) | (with_reducible apply below_drew1) | (with_reducible apply below_alloc) | (with_reducible refine Below.setCell ?_ (by simp) _))) hb)
  clear hF hb hcc hff
  have H46 := fun W h => Right_calls { x with f6 := l } A7 c7 W HSH.out h hc7
  generalize errV { x with f6 := l } = ev at *
  have H46 := Lib.hid H46
  go_wp2_with fail
  refine (H46.out _ (Kd.F_now (ok := fun k => w.heap.size + 1 ≤ k) (by repeat (first | (with_reducible exact HF.out) | (with_reducible apply Kd.F_drewN) | (with_reducible refine Kd.F_far ?_ (fun k hk he => by simp at he; omega) _))))).mono ?_
  rintro e w3 ⟨rfl, hb⟩
  have HB := Lib.hid (below_step (w := w) (by repeat (first | (with_reducible exact HB0.out) | (with_reducible apply pw_below_drewN) | (with_reducible apply below_drew1) | (with_reducible apply below_alloc) | (with_reducible refine Below.setCell ?_ (by simp) _))) hb)
  clear hb
  go_wp2
  go_ret2
  exact ⟨_, rfl, Kd.V_mono (Kd.V_below HV.out HB.out) (fun k hk => .inl hk), HB.out⟩
set_option maxRecDepth 100000 in
set_option maxHeartbeats 1000000 in
theorem rlead_stand_many (L : List S28) (ok : Nat → Prop) (i : Nat) (n : Int) (A0 : Option Addr) (c0 : Nat) (A : Option Addr) (m c : Nat) (w : World) (hV : Kd.V k28 28 w 0 ok (.slice A0 L.length c0) L) (hL : L.length ≤ 64) (hi : i < L.length) (hs : L[i].f3 = 3) (hm : m ≠ L[i].f6.length) :
    Calls Try.prog 42 #[.slice A0 L.length c0, .int .i64 5, .int .i64 ((i : Int) + 1), .int .i64 n, .slice A m c] w (RLed w ok L 1) := by
  have HV := Lib.hid (Kd.V_mono hV (ok' := fun k => ok k ∨ w.heap.size ≤ k) (fun k hk => .inl hk))
  obtain ⟨ad, A6, c6, rfl, ⟨k0, k1, k2, k3, k4, k5, k6⟩, l6, g6⟩ := V_elem hV i hi
  have hd1 : decide ((i : Int) + 1 < 1) = false := by simp; omega
  have hd2 : decide ((L.length : Int) < (i : Int) + 1) = false := by simp; omega
  have hb0 : (L[i].f3 != 3) = false := bne_eq_false_iff_eq.2 hs
  have hb1 : ((m : Int) != (L[i].f6.length : Int)) = true := bne_iff_ne.2 (by omega)
  have HFR := Lib.hid (fun W => from_calls 5 3 W (by omega))
  clear hV g6 l6 hm
  generalize L[i] = x at *
  clear hs
  go_enter Try.func42, Try.ntmps42
  go_wp2_with fail
  go_quiet ((go_at_call 59; exact Calls.quiet_of_same (HFR.out _)))
  go_wp2
  go_ret2
  exact ⟨_, rfl, Kd.V_drewN (Kd.V_alloc HV.out _) _, (by repeat (first | (with_reducible exact Below.refl _ _) | (with_reducible apply pw_below_drewN) | (with_reducible apply below_drew1) | (with_reducible apply below_alloc) | (with_reducible refine Below.setCell ?_ (by simp) _)))⟩
end Go.Proofs.Ytagifiakjniedaa.PTab
end
section
namespace Go.Proofs.Ytagifiakjniedaa.PTab
open Go.RowKit Go.Proofs.YtagifiakjniedaaW.PrintWords Go.Proofs.YtagifiakjniedaaW.PrintLast
set_option linter.unusedVariables false
set_option linter.unusedSimpArgs false
def leadOk (o : S44) (s : S28) : Bool := if o.f0 = 1 then whyB o.f2 else if o.f0 = 2 then startB o.f2 o.f6.length else if o.f0 = 3 then whyB o.f2 else if o.f0 = 4 then true else decide (o.f6.length = s.f6.length)
def leadDo (o : S44) (s : S28) : S28 := if o.f0 = 1 then { s with f3 := 2, f5 := o.f2 } else if o.f0 = 2 then { s with f3 := 3, f4 := o.f2, f6 := o.f6 } else if o.f0 = 3 then { s with f3 := 4, f5 := o.f2 } else if o.f0 = 4 then { s with f3 := 5 } else { s with f6 := o.f6 }
def leadFr (o : S44) : Int := if o.f0 = 1 then 1 else if o.f0 = 2 then 1 else 3
/-- A call that leads on, whichever. -/
def leadO (L : List S28) (o : S44) : List S28 × Int := leadG L o.f1 (leadFr o) (leadOk o) (leadDo o)
theorem leadO_1 {L : List S28} {o : S44} (h : o.f0 = 1) : leadO L o = leadG L o.f1 1 (fun _ => whyB o.f2) (fun s => { s with f3 := 2, f5 := o.f2 }) := by
  unfold leadO leadFr leadOk leadDo; simp [h]
theorem leadO_2 {L : List S28} {o : S44} (h : o.f0 = 2) : leadO L o = leadG L o.f1 1 (fun _ => startB o.f2 o.f6.length) (fun s => { s with f3 := 3, f4 := o.f2, f6 := o.f6 }) := by
  unfold leadO leadFr leadOk leadDo; simp [h]
theorem leadO_3 {L : List S28} {o : S44} (h : o.f0 = 3) : leadO L o = leadG L o.f1 3 (fun _ => whyB o.f2) (fun s => { s with f3 := 4, f5 := o.f2 }) := by
  unfold leadO leadFr leadOk leadDo; simp [h]
theorem leadO_4 {L : List S28} {o : S44} (h : o.f0 = 4) : leadO L o = leadG L o.f1 3 (fun _ => true) (fun s => { s with f3 := 5 }) := by
  unfold leadO leadFr leadOk leadDo; simp [h]
theorem leadO_5 {L : List S28} {o : S44} (h1 : o.f0 ≠ 1) (h2 : o.f0 ≠ 2) (h3 : o.f0 ≠ 3) (h4 : o.f0 ≠ 4) : leadO L o = leadG L o.f1 3 (fun s => decide (o.f6.length = s.f6.length)) (fun s => { s with f6 := o.f6 }) := by
  unfold leadO leadFr leadOk leadDo; simp [h1, h2, h3, h4]
set_option maxRecDepth 100000 in
set_option maxHeartbeats 1000000 in
theorem lawlead_deny (g : Nat) (ok : Nat → Prop) (L : List S28) (o : S44) (A : Option Addr) (c : Nat) (w : World) (hT : Tb w g ok L) (hF : Fits L) (hr : Kd.C k71 w A o.f6.length o.f6) (hc : o.f6.length ≤ c) (h : o.f0 = 1) :
    Calls Try.prog 20 #[.pointer (some ⟨g, 0, none⟩), .agg #[.int .i64 o.f0, .int .i64 o.f1, .int .i64 o.f2, .string o.f3, .string o.f4, .string o.f5, .slice A o.f6.length c]] w (Led w g ok (leadO L o).1 (leadO L o).2) := by
  rw [leadO_1 h]
  have H := Lib.hid ((deny_calls g (fun k => ok k ∧ k < w.heap.size) L o.f1 o.f2 (w.alloc (.cells #[.int .i64 o.f0, .int .i64 o.f1, .int .i64 o.f2, .string o.f3, .string o.f4, .string o.f5, .slice A o.f6.length c] 44)) (Tb_below (Tb_bound hT) (below_alloc (Below.refl _ _) _)) hF ).mono (fun e w' h => Led.before (w := w) (below_alloc (Below.refl _ _) _) h))
  have e1 : (o.f0 == 1) = true := beq_iff_eq.2 h
  generalize leadG L o.f1 1 (fun _ => whyB o.f2) (fun s => { s with f3 := 2, f5 := o.f2 }) = G at *
  obtain ⟨L2, r2⟩ := G
  clear hT hr hc h
  go_enter Try.func20, Try.ntmps20
  go_wp2_with fail
  refine (H.out).mono ?_
  rintro e w1 ⟨rfl, h2, h3⟩
  have H2 := Lib.hid h2
  have H3 := Lib.hid h3
  clear h2 h3
  go_wp2
  go_ret
  exact ⟨rfl, Tb_mono H2.out (fun k hk => hk.elim (fun h => .inl h.1) .inr), Kp.mono H3.out (fun k hk => hk.1)⟩
set_option maxRecDepth 100000 in
set_option maxHeartbeats 1000000 in
theorem lawlead_start (g : Nat) (ok : Nat → Prop) (L : List S28) (o : S44) (A : Option Addr) (c : Nat) (w : World) (hT : Tb w g ok L) (hF : Fits L) (hr : Kd.C k71 w A o.f6.length o.f6) (hc : o.f6.length ≤ c) (h : o.f0 = 2) :
    Calls Try.prog 20 #[.pointer (some ⟨g, 0, none⟩), .agg #[.int .i64 o.f0, .int .i64 o.f1, .int .i64 o.f2, .string o.f3, .string o.f4, .string o.f5, .slice A o.f6.length c]] w (Led w g ok (leadO L o).1 (leadO L o).2) := by
  rw [leadO_2 h]
  have H := Lib.hid ((start_calls g (fun k => ok k ∧ k < w.heap.size) L o.f1 o.f2 A c o.f6 (w.alloc (.cells #[.int .i64 o.f0, .int .i64 o.f1, .int .i64 o.f2, .string o.f3, .string o.f4, .string o.f5, .slice A o.f6.length c] 44)) (Tb_below (Tb_bound hT) (below_alloc (Below.refl _ _) _)) hF (Kd.C_alloc hr _) hc).mono (fun e w' h => Led.before (w := w) (below_alloc (Below.refl _ _) _) h))
  have e1 : (o.f0 == 1) = false := beq_eq_false_iff_ne.2 (by omega)
  have e2 : (o.f0 == 2) = true := beq_iff_eq.2 h
  generalize leadG L o.f1 1 (fun _ => startB o.f2 o.f6.length) (fun s => { s with f3 := 3, f4 := o.f2, f6 := o.f6 }) = G at *
  obtain ⟨L2, r2⟩ := G
  clear hT hr hc h
  go_enter Try.func20, Try.ntmps20
  go_wp2_with fail
  refine (H.out).mono ?_
  rintro e w1 ⟨rfl, h2, h3⟩
  have H2 := Lib.hid h2
  have H3 := Lib.hid h3
  clear h2 h3
  go_wp2
  go_ret
  exact ⟨rfl, Tb_mono H2.out (fun k hk => hk.elim (fun h => .inl h.1) .inr), Kp.mono H3.out (fun k hk => hk.1)⟩
set_option maxRecDepth 100000 in
set_option maxHeartbeats 1000000 in
theorem lawlead_revoke (g : Nat) (ok : Nat → Prop) (L : List S28) (o : S44) (A : Option Addr) (c : Nat) (w : World) (hT : Tb w g ok L) (hF : Fits L) (hr : Kd.C k71 w A o.f6.length o.f6) (hc : o.f6.length ≤ c) (h : o.f0 = 3) :
    Calls Try.prog 20 #[.pointer (some ⟨g, 0, none⟩), .agg #[.int .i64 o.f0, .int .i64 o.f1, .int .i64 o.f2, .string o.f3, .string o.f4, .string o.f5, .slice A o.f6.length c]] w (Led w g ok (leadO L o).1 (leadO L o).2) := by
  rw [leadO_3 h]
  have H := Lib.hid ((revoke_calls g (fun k => ok k ∧ k < w.heap.size) L o.f1 o.f2 (w.alloc (.cells #[.int .i64 o.f0, .int .i64 o.f1, .int .i64 o.f2, .string o.f3, .string o.f4, .string o.f5, .slice A o.f6.length c] 44)) (Tb_below (Tb_bound hT) (below_alloc (Below.refl _ _) _)) hF ).mono (fun e w' h => Led.before (w := w) (below_alloc (Below.refl _ _) _) h))
  have e1 : (o.f0 == 1) = false := beq_eq_false_iff_ne.2 (by omega)
  have e2 : (o.f0 == 2) = false := beq_eq_false_iff_ne.2 (by omega)
  have e3 : (o.f0 == 3) = true := beq_iff_eq.2 h
  generalize leadG L o.f1 3 (fun _ => whyB o.f2) (fun s => { s with f3 := 4, f5 := o.f2 }) = G at *
  obtain ⟨L2, r2⟩ := G
  clear hT hr hc h
  go_enter Try.func20, Try.ntmps20
  go_wp2_with fail
  refine (H.out).mono ?_
  rintro e w1 ⟨rfl, h2, h3⟩
  have H2 := Lib.hid h2
  have H3 := Lib.hid h3
  clear h2 h3
  go_wp2
  go_ret
  exact ⟨rfl, Tb_mono H2.out (fun k hk => hk.elim (fun h => .inl h.1) .inr), Kp.mono H3.out (fun k hk => hk.1)⟩
set_option maxRecDepth 100000 in
set_option maxHeartbeats 1000000 in
theorem lawlead_end (g : Nat) (ok : Nat → Prop) (L : List S28) (o : S44) (A : Option Addr) (c : Nat) (w : World) (hT : Tb w g ok L) (hF : Fits L) (hr : Kd.C k71 w A o.f6.length o.f6) (hc : o.f6.length ≤ c) (h : o.f0 = 4) :
    Calls Try.prog 20 #[.pointer (some ⟨g, 0, none⟩), .agg #[.int .i64 o.f0, .int .i64 o.f1, .int .i64 o.f2, .string o.f3, .string o.f4, .string o.f5, .slice A o.f6.length c]] w (Led w g ok (leadO L o).1 (leadO L o).2) := by
  rw [leadO_4 h]
  have H := Lib.hid ((end_calls g (fun k => ok k ∧ k < w.heap.size) L o.f1  (w.alloc (.cells #[.int .i64 o.f0, .int .i64 o.f1, .int .i64 o.f2, .string o.f3, .string o.f4, .string o.f5, .slice A o.f6.length c] 44)) (Tb_below (Tb_bound hT) (below_alloc (Below.refl _ _) _)) hF ).mono (fun e w' h => Led.before (w := w) (below_alloc (Below.refl _ _) _) h))
  have e1 : (o.f0 == 1) = false := beq_eq_false_iff_ne.2 (by omega)
  have e2 : (o.f0 == 2) = false := beq_eq_false_iff_ne.2 (by omega)
  have e3 : (o.f0 == 3) = false := beq_eq_false_iff_ne.2 (by omega)
  have e4 : (o.f0 == 4) = true := beq_iff_eq.2 h
  generalize leadG L o.f1 3 (fun _ => true) (fun s => { s with f3 := 5 }) = G at *
  obtain ⟨L2, r2⟩ := G
  clear hT hr hc h
  go_enter Try.func20, Try.ntmps20
  go_wp2_with fail
  refine (H.out).mono ?_
  rintro e w1 ⟨rfl, h2, h3⟩
  have H2 := Lib.hid h2
  have H3 := Lib.hid h3
  clear h2 h3
  go_wp2
  go_ret
  exact ⟨rfl, Tb_mono H2.out (fun k hk => hk.elim (fun h => .inl h.1) .inr), Kp.mono H3.out (fun k hk => hk.1)⟩
set_option maxRecDepth 100000 in
set_option maxHeartbeats 1000000 in
theorem lawlead_stand (g : Nat) (ok : Nat → Prop) (L : List S28) (o : S44) (A : Option Addr) (c : Nat) (w : World) (hT : Tb w g ok L) (hF : Fits L) (hr : Kd.C k71 w A o.f6.length o.f6) (hc : o.f6.length ≤ c) (h1 : o.f0 ≠ 1) (h2 : o.f0 ≠ 2) (h3 : o.f0 ≠ 3) (h4 : o.f0 ≠ 4) :
    Calls Try.prog 20 #[.pointer (some ⟨g, 0, none⟩), .agg #[.int .i64 o.f0, .int .i64 o.f1, .int .i64 o.f2, .string o.f3, .string o.f4, .string o.f5, .slice A o.f6.length c]] w (Led w g ok (leadO L o).1 (leadO L o).2) := by
  rw [leadO_5 h1 h2 h3 h4]
  have H := Lib.hid ((stand_calls g (fun k => ok k ∧ k < w.heap.size) L o.f1 A c o.f6 (w.alloc (.cells #[.int .i64 o.f0, .int .i64 o.f1, .int .i64 o.f2, .string o.f3, .string o.f4, .string o.f5, .slice A o.f6.length c] 44)) (Tb_below (Tb_bound hT) (below_alloc (Below.refl _ _) _)) hF (Kd.C_alloc hr _) hc).mono (fun e w' h => Led.before (w := w) (below_alloc (Below.refl _ _) _) h))
  have e1 : (o.f0 == 1) = false := beq_eq_false_iff_ne.2 (by omega)
  have e2 : (o.f0 == 2) = false := beq_eq_false_iff_ne.2 (by omega)
  have e3 : (o.f0 == 3) = false := beq_eq_false_iff_ne.2 (by omega)
  have e4 : (o.f0 == 4) = false := beq_eq_false_iff_ne.2 (by omega)
  generalize leadG L o.f1 3 (fun s => decide (o.f6.length = s.f6.length)) (fun s => { s with f6 := o.f6 }) = G at *
  obtain ⟨L2, r2⟩ := G
  clear hT hr hc h1 h2 h3 h4
  go_enter Try.func20, Try.ntmps20
  go_wp2_with fail
  refine (H.out).mono ?_
  rintro e w1 ⟨rfl, h2, h3⟩
  have H2 := Lib.hid h2
  have H3 := Lib.hid h3
  clear h2 h3
  go_wp2
  go_ret
  exact ⟨rfl, Tb_mono H2.out (fun k hk => hk.elim (fun h => .inl h.1) .inr), Kp.mono H3.out (fun k hk => hk.1)⟩
/-- The law's lead. -/
theorem lawlead (g : Nat) (ok : Nat → Prop) (L : List S28) (o : S44) (A : Option Addr) (c : Nat) (w : World) (hT : Tb w g ok L) (hF : Fits L) (hr : Kd.C k71 w A o.f6.length o.f6) (hc : o.f6.length ≤ c) :
    Calls Try.prog 20 #[.pointer (some ⟨g, 0, none⟩), .agg #[.int .i64 o.f0, .int .i64 o.f1, .int .i64 o.f2, .string o.f3, .string o.f4, .string o.f5, .slice A o.f6.length c]] w (Led w g ok (leadO L o).1 (leadO L o).2) := by
  by_cases h1 : o.f0 = 1
  · exact lawlead_deny g ok L o A c w hT hF hr hc h1
  by_cases h2 : o.f0 = 2
  · exact lawlead_start g ok L o A c w hT hF hr hc h2
  by_cases h3 : o.f0 = 3
  · exact lawlead_revoke g ok L o A c w hT hF hr hc h3
  by_cases h4 : o.f0 = 4
  · exact lawlead_end g ok L o A c w hT hF hr hc h4
  exact lawlead_stand g ok L o A c w hT hF hr hc h1 h2 h3 h4
/-- All is right with these sessions. -/
def Good (L : List S28) : Prop := L.length ≤ 64 ∧ ∀ x ∈ L, errV x = 0
theorem errV_zero {x : S28} (h : errV x = 0) : (nameB x.f0 && (nameB x.f1 && nameB x.f2)) = true ∧ (1 ≤ x.f3 ∧ x.f3 ≤ 5) ∧ (0 ≤ x.f4 ∧ (x.f3 < 3 → x.f4 = 0) ∧ ((x.f3 = 2 ∨ x.f3 = 4) → whyB x.f5 = true) ∧ (¬ (x.f3 = 2 ∨ x.f3 = 4) → x.f5 = 0) ∧ (x.f3 < 3 → x.f6.length = 0) ∧ x.f6.length ≤ 4) := by
  unfold errV at h
  split at h
  · split at h
    · split at h
      · exact ⟨‹_›, ‹_›, ‹_›⟩
      · cases h
    · cases h
  · cases h
theorem errV_mk {x : S28} (h1 : (nameB x.f0 && (nameB x.f1 && nameB x.f2)) = true) (h2 : 1 ≤ x.f3 ∧ x.f3 ≤ 5) (h3 : 0 ≤ x.f4 ∧ (x.f3 < 3 → x.f4 = 0) ∧ ((x.f3 = 2 ∨ x.f3 = 4) → whyB x.f5 = true) ∧ (¬ (x.f3 = 2 ∨ x.f3 = 4) → x.f5 = 0) ∧ (x.f3 < 3 → x.f6.length = 0) ∧ x.f6.length ≤ 4) : errV x = 0 := by
  unfold errV
  rw [if_pos h1, if_pos h2, if_pos h3]
theorem Good.fits {L : List S28} (h : Good L) : Fits L := ⟨h.1, fun x hx => (errV_zero (h.2 x hx)).2.2.2.2.2.2.2⟩
theorem name_short {s : ByteArray} (h : nameB s = true) : s.size ≤ 140737488351232 := by
  by_cases hn : NameP s
  · have := hn.2.1; omega
  · rw [nameB_no hn] at h; cases h
theorem errV_short {x : S28} (h : errV x = 0) : Short x := by
  have h1 := (errV_zero h).1
  simp only [Bool.and_eq_true] at h1
  exact ⟨name_short h1.1, name_short h1.2.1, name_short h1.2.2⟩
end Go.Proofs.Ytagifiakjniedaa.PTab
end
section
namespace Go.Proofs.Ytagifiakjniedaa.PTab
open Go.RowKit Go.Proofs.YtagifiakjniedaaW.PrintWords Go.Proofs.YtagifiakjniedaaW.PrintLast
set_option linter.unusedVariables false
set_option linter.unusedSimpArgs false
theorem whyB_iff (n : Int) : whyB n = true ↔ 1 ≤ n ∧ n ≤ 9 := by unfold whyB; simp
theorem startB_iff (n : Int) (m : Nat) : startB n m = true ↔ 0 ≤ n ∧ m ≤ 4 := by unfold startB; simp
theorem err_deny {x : S28} (h : errV x = 0) (hs : x.f3 = 1) (n : Int) : errV { x with f3 := 2, f5 := n } = 0 ↔ whyB n = true := by
  obtain ⟨h1, h2, h3, h4, h5, h6, h7, h8⟩ := errV_zero h
  refine ⟨fun h => (errV_zero h).2.2.2.2.1 (.inl rfl), fun hk => errV_mk h1 (by simp) ⟨h3, fun _ => h4 (by omega), fun _ => hk, fun h => absurd (.inl rfl) h, fun _ => h7 (by omega), h8⟩⟩
theorem err_revoke {x : S28} (h : errV x = 0) (hs : x.f3 = 3) (n : Int) : errV { x with f3 := 4, f5 := n } = 0 ↔ whyB n = true := by
  obtain ⟨h1, h2, h3, h4, h5, h6, h7, h8⟩ := errV_zero h
  refine ⟨fun h => (errV_zero h).2.2.2.2.1 (.inr rfl), fun hk => errV_mk h1 (by simp) ⟨h3, fun h => by simp at h, fun _ => hk, fun h => absurd (.inr rfl) h, fun h => by simp at h, h8⟩⟩
theorem err_start {x : S28} (h : errV x = 0) (hs : x.f3 = 1) (n : Int) (l : List S71) : errV { x with f3 := 3, f4 := n, f6 := l } = 0 ↔ startB n l.length = true := by
  obtain ⟨h1, h2, h3, h4, h5, h6, h7, h8⟩ := errV_zero h
  rw [startB_iff]
  refine ⟨fun h => ⟨(errV_zero h).2.2.1, (errV_zero h).2.2.2.2.2.2.2⟩, fun hk => errV_mk h1 (by simp) ⟨hk.1, fun h => by simp at h, fun h => by simp at h, fun _ => h6 (by omega), fun h => by simp at h, hk.2⟩⟩
theorem err_end {x : S28} (h : errV x = 0) (hs : x.f3 = 3) : errV { x with f3 := 5 } = 0 := by
  obtain ⟨h1, h2, h3, h4, h5, h6, h7, h8⟩ := errV_zero h
  exact errV_mk h1 (by simp) ⟨h3, fun h => by simp at h, fun h => by simp at h, fun _ => h6 (by omega), fun h => by simp at h, h8⟩
theorem err_stand {x : S28} (h : errV x = 0) (hs : x.f3 = 3) (l : List S71) (hl : l.length = x.f6.length) : errV { x with f6 := l } = 0 := by
  obtain ⟨h1, h2, h3, h4, h5, h6, h7, h8⟩ := errV_zero h
  exact errV_mk h1 h2 ⟨h3, h4, h5, h6, fun h => by have : x.f3 < 3 := h; omega, by show l.length ≤ 4; omega⟩
theorem Good.set {L : List S28} (h : Good L) (i : Nat) {x : S28} (hx : errV x = 0) : Good (L.set i x) := by
  refine ⟨by rw [List.length_set]; exact h.1, fun y hy => ?_⟩
  rcases List.mem_or_eq_of_mem_set hy with hy | rfl
  · exact h.2 y hy
  · exact hx
theorem Good.request {L : List S28} (h : Good L) (s o p : ByteArray) : Good (requestV L s o p).1 := by
  unfold requestV
  split
  · split
    · exact h
    · refine ⟨by simp; omega, fun x hx => ?_⟩
      rcases List.mem_append.1 hx with hx | hx
      · exact h.2 x hx
      · rw [List.mem_singleton] at hx
        subst hx
        rw [errV_fresh, if_pos ‹_›]
  · exact h
/-- What the reference takes is what the table takes. -/
theorem lead_ok {x : S28} (h : errV x = 0) (o : S44) (hc : 1 ≤ o.f0 ∧ o.f0 ≤ 5) (hs : x.f3 = leadFr o) (hk : leadOk o x = true) : errV (leadDo o x) = 0 := by
  unfold leadFr at hs
  unfold leadOk at hk
  unfold leadDo
  by_cases h1 : o.f0 = 1
  · simp only [h1, if_true] at *
    exact (err_deny h hs _).2 hk
  by_cases h2 : o.f0 = 2
  · simp only [h2] at *
    exact (err_start h (by simpa using hs) _ _).2 (by simpa using hk)
  by_cases h3 : o.f0 = 3
  · simp only [h3] at *
    exact (err_revoke h (by simpa using hs) _).2 (by simpa using hk)
  by_cases h4 : o.f0 = 4
  · simp only [h4] at *
    exact err_end h (by simpa using hs)
  simp only [h1, h2, h3, h4, if_false] at *
  exact err_stand h hs _ (by simpa using hk)
theorem Good.lead {L : List S28} (h : Good L) (o : S44) (hc : 1 ≤ o.f0 ∧ o.f0 ≤ 5) : Good (leadO L o).1 := by
  unfold leadO
  rcases id_cases L o.f1 with h1 | ⟨h1, h2⟩ | ⟨i, hi, he⟩
  · rw [leadG_out (by omega)]; exact h
  · rw [leadG_out (by omega)]; exact h
  · rw [he, leadG_at hi]
    split
    · split
      · exact h.set i (lead_ok (h.2 _ (List.getElem_mem hi)) o hc ‹_› ‹_›)
      · exact h
    · exact h
theorem RLed.same {w w' : World} {ok : Nat → Prop} {L L' : List S28} {r r' : Int} {e : Ending} (h : RLed w ok L r e w') (hL : L = L') (hr : r = r') : RLed w ok L' r' e w' := by subst hL; subst hr; exact h
theorem rlead_deny (L : List S28) (ok : Nat → Prop) (o : S44) (A0 : Option Addr) (c0 : Nat) (A : Option Addr) (c : Nat) (w : World) (hV : Kd.V k28 28 w 0 ok (.slice A0 L.length c0) L) (hG : Good L) (hr : Kd.C k71 w A o.f6.length o.f6) (hc : o.f6.length ≤ c) (hn : o.f6.length * 16 ≤ 140737488351232) (h : o.f0 = 1) :
    Calls Try.prog 42 #[.slice A0 L.length c0, .int .i64 1, .int .i64 o.f1, .int .i64 o.f2, .slice A o.f6.length c] w (RLed w ok (leadO L o).1 (leadO L o).2) := by
  rw [leadO_1 h]
  have hL := hG.1
  rcases id_cases L o.f1 with h1 | ⟨h1, h2⟩ | ⟨i, hi, he⟩
  · rw [leadG_out (by omega)]
    exact rlead_out 1 L ok o.f1 o.f2 A0 c0 _ w hV hL (by omega)
  · rw [leadG_out (by omega)]
    exact rlead_out 1 L ok o.f1 o.f2 A0 c0 _ w hV hL (by omega)
  · rw [he, leadG_at hi]
    have hx := hG.2 _ (List.getElem_mem hi)
    by_cases hs : L[i].f3 = 1
    · rw [if_pos hs]
      by_cases hk : (whyB o.f2) = true
      · rw [if_pos hk]
        exact rlead_deny_yes L ok i o.f2 A0 c0 (.slice A o.f6.length c) w hV hL hi hs (errV_short hx)  ((err_deny hx hs o.f2).2 hk)
      · rw [if_neg hk]
        exact rlead_deny_no L ok i o.f2 A0 c0 (.slice A o.f6.length c) w hV hL hi hs (errV_short hx)  (fun h9 => hk ((err_deny hx hs o.f2).1 h9))
    · rw [if_neg hs]
      exact rlead_state 1 1 (by omega) L ok i o.f2 A0 c0 _ w hV hL hi hs
theorem rlead_start (L : List S28) (ok : Nat → Prop) (o : S44) (A0 : Option Addr) (c0 : Nat) (A : Option Addr) (c : Nat) (w : World) (hV : Kd.V k28 28 w 0 ok (.slice A0 L.length c0) L) (hG : Good L) (hr : Kd.C k71 w A o.f6.length o.f6) (hc : o.f6.length ≤ c) (hn : o.f6.length * 16 ≤ 140737488351232) (h : o.f0 = 2) :
    Calls Try.prog 42 #[.slice A0 L.length c0, .int .i64 2, .int .i64 o.f1, .int .i64 o.f2, .slice A o.f6.length c] w (RLed w ok (leadO L o).1 (leadO L o).2) := by
  rw [leadO_2 h]
  have hL := hG.1
  rcases id_cases L o.f1 with h1 | ⟨h1, h2⟩ | ⟨i, hi, he⟩
  · rw [leadG_out (by omega)]
    exact rlead_out 2 L ok o.f1 o.f2 A0 c0 _ w hV hL (by omega)
  · rw [leadG_out (by omega)]
    exact rlead_out 2 L ok o.f1 o.f2 A0 c0 _ w hV hL (by omega)
  · rw [he, leadG_at hi]
    have hx := hG.2 _ (List.getElem_mem hi)
    by_cases hs : L[i].f3 = 1
    · rw [if_pos hs]
      by_cases hk : (startB o.f2 o.f6.length) = true
      · rw [if_pos hk]
        exact rlead_start_yes L ok i o.f2 A0 c0 A c o.f6 w hV hL hi hs (errV_short hx) hr hc hn ((err_start hx hs o.f2 o.f6).2 hk)
      · rw [if_neg hk]
        exact rlead_start_no L ok i o.f2 A0 c0 A c o.f6 w hV hL hi hs (errV_short hx) hr hc hn (fun h9 => hk ((err_start hx hs o.f2 o.f6).1 h9))
    · rw [if_neg hs]
      exact rlead_state 2 1 (by omega) L ok i o.f2 A0 c0 _ w hV hL hi hs
theorem rlead_revoke (L : List S28) (ok : Nat → Prop) (o : S44) (A0 : Option Addr) (c0 : Nat) (A : Option Addr) (c : Nat) (w : World) (hV : Kd.V k28 28 w 0 ok (.slice A0 L.length c0) L) (hG : Good L) (hr : Kd.C k71 w A o.f6.length o.f6) (hc : o.f6.length ≤ c) (hn : o.f6.length * 16 ≤ 140737488351232) (h : o.f0 = 3) :
    Calls Try.prog 42 #[.slice A0 L.length c0, .int .i64 3, .int .i64 o.f1, .int .i64 o.f2, .slice A o.f6.length c] w (RLed w ok (leadO L o).1 (leadO L o).2) := by
  rw [leadO_3 h]
  have hL := hG.1
  rcases id_cases L o.f1 with h1 | ⟨h1, h2⟩ | ⟨i, hi, he⟩
  · rw [leadG_out (by omega)]
    exact rlead_out 3 L ok o.f1 o.f2 A0 c0 _ w hV hL (by omega)
  · rw [leadG_out (by omega)]
    exact rlead_out 3 L ok o.f1 o.f2 A0 c0 _ w hV hL (by omega)
  · rw [he, leadG_at hi]
    have hx := hG.2 _ (List.getElem_mem hi)
    by_cases hs : L[i].f3 = 3
    · rw [if_pos hs]
      by_cases hk : (whyB o.f2) = true
      · rw [if_pos hk]
        exact rlead_revoke_yes L ok i o.f2 A0 c0 (.slice A o.f6.length c) w hV hL hi hs (errV_short hx)  ((err_revoke hx hs o.f2).2 hk)
      · rw [if_neg hk]
        exact rlead_revoke_no L ok i o.f2 A0 c0 (.slice A o.f6.length c) w hV hL hi hs (errV_short hx)  (fun h9 => hk ((err_revoke hx hs o.f2).1 h9))
    · rw [if_neg hs]
      exact rlead_state 3 3 (by omega) L ok i o.f2 A0 c0 _ w hV hL hi hs
theorem rlead_end (L : List S28) (ok : Nat → Prop) (o : S44) (A0 : Option Addr) (c0 : Nat) (A : Option Addr) (c : Nat) (w : World) (hV : Kd.V k28 28 w 0 ok (.slice A0 L.length c0) L) (hG : Good L) (hr : Kd.C k71 w A o.f6.length o.f6) (hc : o.f6.length ≤ c) (hn : o.f6.length * 16 ≤ 140737488351232) (h : o.f0 = 4) :
    Calls Try.prog 42 #[.slice A0 L.length c0, .int .i64 4, .int .i64 o.f1, .int .i64 o.f2, .slice A o.f6.length c] w (RLed w ok (leadO L o).1 (leadO L o).2) := by
  rw [leadO_4 h]
  have hL := hG.1
  rcases id_cases L o.f1 with h1 | ⟨h1, h2⟩ | ⟨i, hi, he⟩
  · rw [leadG_out (by omega)]
    exact rlead_out 4 L ok o.f1 o.f2 A0 c0 _ w hV hL (by omega)
  · rw [leadG_out (by omega)]
    exact rlead_out 4 L ok o.f1 o.f2 A0 c0 _ w hV hL (by omega)
  · rw [he, leadG_at hi]
    have hx := hG.2 _ (List.getElem_mem hi)
    by_cases hs : L[i].f3 = 3
    · rw [if_pos hs]
      rw [if_pos rfl]
      exact rlead_end_yes L ok i o.f2 A0 c0 (.slice A o.f6.length c) w hV hL hi hs (errV_short hx) (err_end hx hs)
    · rw [if_neg hs]
      exact rlead_state 4 3 (by omega) L ok i o.f2 A0 c0 _ w hV hL hi hs
theorem rlead_stand (L : List S28) (ok : Nat → Prop) (o : S44) (A0 : Option Addr) (c0 : Nat) (A : Option Addr) (c : Nat) (w : World) (hV : Kd.V k28 28 w 0 ok (.slice A0 L.length c0) L) (hG : Good L) (hr : Kd.C k71 w A o.f6.length o.f6) (hc : o.f6.length ≤ c) (hn : o.f6.length * 16 ≤ 140737488351232) (h : o.f0 = 5) :
    Calls Try.prog 42 #[.slice A0 L.length c0, .int .i64 5, .int .i64 o.f1, .int .i64 o.f2, .slice A o.f6.length c] w (RLed w ok (leadO L o).1 (leadO L o).2) := by
  rw [leadO_5 (by omega) (by omega) (by omega) (by omega)]
  have hL := hG.1
  rcases id_cases L o.f1 with h1 | ⟨h1, h2⟩ | ⟨i, hi, he⟩
  · rw [leadG_out (by omega)]
    exact rlead_out 5 L ok o.f1 o.f2 A0 c0 _ w hV hL (by omega)
  · rw [leadG_out (by omega)]
    exact rlead_out 5 L ok o.f1 o.f2 A0 c0 _ w hV hL (by omega)
  · rw [he, leadG_at hi]
    have hx := hG.2 _ (List.getElem_mem hi)
    by_cases hs : L[i].f3 = 3
    · rw [if_pos hs]
      by_cases hk : o.f6.length = L[i].f6.length
      · rw [if_pos (decide_eq_true hk)]
        exact rlead_stand_yes L ok i o.f2 A0 c0 A c o.f6 w hV hL hi hs (errV_short hx) hr hc hn hk (err_stand hx hs _ hk)
      · rw [if_neg (by simp [hk])]
        exact rlead_stand_many L ok i o.f2 A0 c0 A o.f6.length c w hV hL hi hs hk
    · rw [if_neg hs]
      exact rlead_state 5 3 (by omega) L ok i o.f2 A0 c0 _ w hV hL hi hs
/-- The reference's Lead. -/
theorem reflead (L : List S28) (ok : Nat → Prop) (o : S44) (A0 : Option Addr) (c0 : Nat) (A : Option Addr) (c : Nat) (w : World) (hV : Kd.V k28 28 w 0 ok (.slice A0 L.length c0) L) (hG : Good L) (hr : Kd.C k71 w A o.f6.length o.f6) (hc : o.f6.length ≤ c) (hn : o.f6.length * 16 ≤ 140737488351232) (hcl : 1 ≤ o.f0 ∧ o.f0 ≤ 5) :
    Calls Try.prog 42 #[.slice A0 L.length c0, .int .i64 o.f0, .int .i64 o.f1, .int .i64 o.f2, .slice A o.f6.length c] w (RLed w ok (leadO L o).1 (leadO L o).2) := by
  rcases (show o.f0 = 1 ∨ o.f0 = 2 ∨ o.f0 = 3 ∨ o.f0 = 4 ∨ o.f0 = 5 by omega) with h | h | h | h | h
  · have := rlead_deny L ok o A0 c0 A c w hV hG hr hc hn h
    rwa [← h] at this
  · have := rlead_start L ok o A0 c0 A c w hV hG hr hc hn h
    rwa [← h] at this
  · have := rlead_revoke L ok o A0 c0 A c w hV hG hr hc hn h
    rwa [← h] at this
  · have := rlead_end L ok o A0 c0 A c w hV hG hr hc hn h
    rwa [← h] at this
  · have := rlead_stand L ok o A0 c0 A c w hV hG hr hc hn h
    rwa [← h] at this
end Go.Proofs.Ytagifiakjniedaa.PTab
end
