/-
  Less is an order: of two values of a kind that has an order just one is below the other, if they are not the same; what is below one that is below a third one is below that. Every values: no condition.
-/
import Derived.Test.YtelpppmnakblmaaLessOp
import Derived.Test.YtelpppmnakblmaaLesC
import Derived.Test.YtelpppmnakblmaaF6
import Derived.Test.YtelpppmnakblmaaOrd
namespace Go.Proofs.Ytelpppmnakblmaa.PLess
open Go.RowKit Go.Proofs.YtelpppmnakblmaaW.PrintWords Go.Proofs.YtelpppmnakblmaaW.PrintLast Go.Proofs.Ytelpppmnakblmaa.Hand Go.Proofs.Ytelpppmnakblmaa.PLes
set_option linter.unusedVariables false
set_option linter.unusedSimpArgs false
theorem bl_irr (x : List UInt8) : Op.bytesLess x x = false := by
  induction x with
  | nil => rfl
  | cons a x ih => simp [Op.bytesLess, ih]
theorem bl_tot : ∀ (x y : List UInt8), x ≠ y → Op.bytesLess x y = !(Op.bytesLess y x)
  | [], [], h => absurd rfl h
  | [], _ :: _, _ => rfl
  | _ :: _, [], _ => rfl
  | a :: x, b :: y, h => by
    by_cases hab : a = b
    · subst hab
      have := bl_tot x y (fun e => h (by rw [e]))
      simp [Op.bytesLess, this]
    · have h1 : (a == b) = false := by simp [hab]
      have h2 : (b == a) = false := by simp [Ne.symm hab]
      simp only [Op.bytesLess, h1, h2, Bool.false_and, Bool.or_false]
      have hn : a.toNat ≠ b.toNat := fun e => hab (UInt8.toNat_inj.1 e)
      by_cases hl : a < b
      · have : ¬ b < a := by rw [UInt8.lt_iff_toNat_lt] at hl ⊢; omega
        simp [hl, this]
      · have : b < a := by rw [UInt8.lt_iff_toNat_lt] at hl ⊢; omega
        simp [hl, this]
theorem bl_trans : ∀ (x y z : List UInt8), Op.bytesLess x y = true → Op.bytesLess y z = true → Op.bytesLess x z = true
  | _, [], _, h, _ => by cases ‹List UInt8› <;> simp [Op.bytesLess] at h
  | _, _ :: _, [], _, h => by simp [Op.bytesLess] at h
  | [], _ :: _, _ :: _, _, _ => rfl
  | a :: x, b :: y, c :: z, h1, h2 => by
    simp only [Op.bytesLess, Bool.or_eq_true, Bool.and_eq_true, decide_eq_true_eq, beq_iff_eq, UInt8.lt_iff_toNat_lt] at h1 h2 ⊢
    rcases h1 with h1 | ⟨rfl, h1⟩ <;> rcases h2 with h2 | ⟨rfl, h2⟩
    · left; omega
    · left; exact h1
    · left; exact h2
    · right; exact ⟨rfl, bl_trans x y z h1 h2⟩
/-- What may be of a kind has nothing of the others. -/
theorem ok_parts {a b : Int} {s : ByteArray} {c : Bool} {x : Nat} (h : okV a b s c x = true) :
    (a = 1 → s.toList = [] ∧ c = false ∧ ord x 0 = some .eq) ∧ (a = 2 → b = 0 ∧ c = false ∧ ord x 0 = some .eq) ∧ (a = 4 → b = 0 ∧ s.toList = [] ∧ c = false ∧ ord x x = some .eq) := by
  unfold okV rightV at h
  simp only [Bool.and_eq_true] at h
  have h := h.1
  have e0 : (⟨#[]⟩ : ByteArray).toList = [] := by decide +kernel
  unfold only eqV at h
  refine ⟨fun e => ?_, fun e => ?_, fun e => ?_⟩
  all_goals
    subst e
    simp [e0] at h
    simp [h]
theorem askV_parts {p q : Bool} {a a' : Int} (h : askV p q a a' = true) : p = true ∧ q = true ∧ a = a' ∧ (a = 1 ∨ a = 2 ∨ a = 4) := by
  unfold askV at h
  simp only [Bool.and_eq_true, Bool.or_eq_true, beq_iff_eq] at h
  exact ⟨h.1, h.2.1, h.2.2.1, by rcases h.2.2.2 with (h | h) | h <;> simp [h]⟩
theorem askV_mk {p q : Bool} {a a' : Int} (h1 : p = true) (h2 : q = true) (h3 : a = a') (h4 : a = 1 ∨ a = 2 ∨ a = 4) : askV p q a a' = true := by
  subst h1 h2 h3
  rcases h4 with rfl | rfl | rfl <;> rfl
/-- Of two values that are asked for just one is below the other, or they are the same. -/
theorem less_three {a b : Int} {s : ByteArray} {c : Bool} {x : Nat} {b' : Int} {s' : ByteArray} {c' : Bool} {x' : Nat} (hu : okV a b s c x = true) (hv : okV a b' s' c' x' = true) (ha : a = 1 ∨ a = 2 ∨ a = 4) :
    (lessV true true a b s c x a b' s' c' x' = true ∧ lessV true true a b' s' c' x' a b s c x = false ∧ eqV a b s c x a b' s' c' x' = false) ∨
    (lessV true true a b s c x a b' s' c' x' = false ∧ lessV true true a b' s' c' x' a b s c x = true ∧ eqV a b s c x a b' s' c' x' = false) ∨
    (lessV true true a b s c x a b' s' c' x' = false ∧ lessV true true a b' s' c' x' a b s c x = false ∧ eqV a b s c x a b' s' c' x' = true) := by
  have pu := ok_parts hu
  have pv := ok_parts hv
  unfold lessV eqV
  rw [askV_mk rfl rfl rfl ha, Bool.true_and, Bool.true_and]
  rcases ha with rfl | rfl | rfl
  · obtain ⟨e1, e2, e3⟩ := pu.1 rfl
    obtain ⟨f1, f2, f3⟩ := pv.1 rfl
    have g : ord x x' = some .eq := ord_eq_trans (ord_self e3) (ord_self f3) ord_zero e3 f3
    simp only [if_true, e1, f1, e2, f2, g, beq_self_eq_true, Bool.true_and, Bool.and_true]
    rcases Int.lt_trichotomy b b' with h | h | h
    · left; exact ⟨by simp [h], by simp; omega, by simp; omega⟩
    · right; right; subst h; simp
    · right; left; exact ⟨by simp; omega, by simp [h], by simp; omega⟩
  · obtain ⟨e1, e2, e3⟩ := pu.2.1 rfl
    obtain ⟨f1, f2, f3⟩ := pv.2.1 rfl
    have g : ord x x' = some .eq := ord_eq_trans (ord_self e3) (ord_self f3) ord_zero e3 f3
    simp only [if_true, if_neg (show ¬ ((2 : Int) = 1) by decide), e1, f1, e2, f2, g, beq_self_eq_true, Bool.true_and, Bool.and_true]
    by_cases he : s.toList = s'.toList
    · right; right; rw [he]; simp [bl_irr]
    · have ht := bl_tot _ _ he
      have hn : (s.toList == s'.toList) = false := by simp [he]
      rw [hn, ht]
      cases Op.bytesLess s'.toList s.toList <;> simp
  · obtain ⟨e1, e2, e3, e4⟩ := pu.2.2 rfl
    obtain ⟨f1, f2, f3, f4⟩ := pv.2.2 rfl
    simp only [if_neg (show ¬ ((4 : Int) = 1) by decide), if_neg (show ¬ ((4 : Int) = 2) by decide), e1, f1, e2, f2, e3, f3, beq_self_eq_true, Bool.true_and, Bool.and_true]
    rcases ord_three e4 f4 with ⟨h1, h2⟩ | ⟨h1, h2⟩ | ⟨h1, h2⟩
    · left; rw [h1, h2]; decide
    · right; left; rw [h1, h2]; decide
    · right; right; rw [h1, h2]; decide
theorem less_goes {a b : Int} {s : ByteArray} {c : Bool} {x : Nat} {b' : Int} {s' : ByteArray} {c' : Bool} {x' : Nat} {b'' : Int} {s'' : ByteArray} {c'' : Bool} {x'' : Nat}
    (hu : okV a b s c x = true) (hv : okV a b' s' c' x' = true) (hw : okV a b'' s'' c'' x'' = true) (ha : a = 1 ∨ a = 2 ∨ a = 4)
    (h1 : lessV true true a b s c x a b' s' c' x' = true) (h2 : lessV true true a b' s' c' x' a b'' s'' c'' x'' = true) : lessV true true a b s c x a b'' s'' c'' x'' = true := by
  have pu := ok_parts hu
  have pv := ok_parts hv
  have pw := ok_parts hw
  unfold lessV at *
  rw [askV_mk rfl rfl rfl ha, Bool.true_and] at *
  rcases ha with rfl | rfl | rfl
  · simp only [if_true, decide_eq_true_eq] at *
    omega
  · simp only [if_true, if_neg (show ¬ ((2 : Int) = 1) by decide)] at *
    exact bl_trans _ _ _ h1 h2
  · simp only [if_neg (show ¬ ((4 : Int) = 1) by decide), if_neg (show ¬ ((4 : Int) = 2) by decide), beq_iff_eq] at h1 h2 ⊢
    exact ord_trans (pu.2.2 rfl).2.2.2 (pv.2.2 rfl).2.2.2 (pw.2.2 rfl).2.2.2 h1 h2
theorem valueLess_walk (cs0 : Array Value) (x0 : S29) (cs1 : Array Value) (x1 : S29) (cs2 : Array Value) (x2 : S29) (W : World) (hr0 : k29.K W x0 cs0.toList) (b0 : B29 x0) (hr1 : k29.K W x1 cs1.toList) (b1 : B29 x1) (hr2 : k29.K W x2 cs2.toList) (b2 : B29 x2) : Calls Try.prog 5 #[.agg cs0, .agg cs1, .agg cs2] W fun e W' => e = .returned (.bool true) ∧ Below W.heap.size W W' := by
  rw [k29_cells hr0, k29_cells hr1, k29_cells hr2]
  obtain ⟨a0, i0, s0, c0, r0⟩ := x0
  obtain ⟨a1, i1, s1, c1, r1⟩ := x1
  obtain ⟨a2, i2, s2, c2, r2⟩ := x2
  have z0 : s0.size ≤ 140737488351232 := b0.2.2.1
  have z1 : s1.size ≤ 140737488351232 := b1.2.2.1
  have z2 : s2.size ≤ 140737488351232 := b2.2.2.1
  have g0 := okV_is a0 i0 s0 c0 r0 z0
  have g1 := okV_is a1 i1 s1 c1 r1 z1
  have g2 := okV_is a2 i2 s2 c2 r2 z2
  have k1 : LessIs _ _ _ _ := fun w => less_calls _ _ g0 g1 w
  have k2 : LessIs _ _ _ _ := fun w => less_calls _ _ g1 g0 w
  have k3 : LessIs _ _ _ _ := fun w => less_calls _ _ g1 g2 w
  have k4 : LessIs _ _ _ _ := fun w => less_calls _ _ g0 g2 w
  have k6 : SameIs _ _ _ := fun w => same_calls a0 i0 s0 c0 r0 a1 i1 s1 c1 r1 _ _ _ g0 g1 rfl w
  have k5 : LessIs #[.int .i64 1, .int .i64 (-1), .string (⟨#[]⟩ : ByteArray), .bool false, .float .f64 0] #[.int .i64 1, .int .i64 0, .string (⟨#[]⟩ : ByteArray), .bool false, .float .f64 0] true true := by
    intro w
    have q1 : okV 1 (-1) (⟨#[]⟩ : ByteArray) false 0 = true := by decide +kernel
    have q0 : okV 1 0 (⟨#[]⟩ : ByteArray) false 0 = true := by decide +kernel
    have := less_calls _ _ (okV_is 1 (-1) (⟨#[]⟩ : ByteArray) false 0 (by decide)) (okV_is 1 0 (⟨#[]⟩ : ByteArray) false 0 (by decide)) w
    rw [q1, q0] at this
    exact this
  generalize hU : okV a0 i0 s0 c0 r0 = U at *
  generalize hV : okV a1 i1 s1 c1 r1 = V at *
  generalize hW : okV a2 i2 s2 c2 r2 = X at *
  have hq : askV V U a1 a0 = askV U V a0 a1 := by
    cases h : askV U V a0 a1
    · cases h' : askV V U a1 a0
      · rfl
      · obtain ⟨d1, d2, d3, d4⟩ := askV_parts h'
        rw [askV_mk d2 d1 d3.symm (d3 ▸ d4)] at h
        cases h
    · obtain ⟨d1, d2, d3, d4⟩ := askV_parts h
      exact askV_mk d2 d1 d3.symm (d3 ▸ d4)
  cases hp : askV U V a0 a1
  · rw [hp] at hq k1
    rw [hq] at k2
    have e1 : lessV U V a0 i0 s0 c0 r0 a1 i1 s1 c1 r1 = false := by unfold lessV; rw [hp]; rfl
    have e2 : lessV V U a1 i1 s1 c1 r1 a0 i0 s0 c0 r0 = false := by unfold lessV; rw [hq]; rfl
    rw [e1] at k1
    rw [e2] at k2
    exact law_n _ _ _ _ _ _ _ _ _ _ _ _ _ _ _ _ _ _ _ _ k1 k2 k3 k4 k5 k6 W
  · rw [hp] at hq k1
    rw [hq] at k2
    obtain ⟨rfl, rfl, rfl, ha⟩ := askV_parts hp
    have h3 := less_three hU hV ha
    cases hr : askV true X a0 a2
    · rw [hr] at k3
      rcases h3 with ⟨e1, e2, e3⟩ | ⟨e1, e2, e3⟩ | ⟨e1, e2, e3⟩
      all_goals rw [e1] at k1
      all_goals rw [e2] at k2
      all_goals rw [e3] at k6
      · exact law_a0 _ _ _ _ _ _ _ _ _ _ _ _ _ _ _ _ _ _ k1 k2 k3 k4 k5 k6 W
      · exact law_b0 _ _ _ _ _ _ _ _ _ _ _ _ _ _ _ _ _ _ k1 k2 k3 k4 k5 k6 W
      · exact law_c0 _ _ _ _ _ _ _ _ _ _ _ _ _ _ _ _ _ _ k1 k2 k3 k4 k5 k6 W
    · rw [hr] at k3 k4
      obtain ⟨_, rfl, rfl, _⟩ := askV_parts hr
      rcases h3 with ⟨e1, e2, e3⟩ | ⟨e1, e2, e3⟩ | ⟨e1, e2, e3⟩
      · rw [e1] at k1
        rw [e2] at k2
        rw [e3] at k6
        cases hz : lessV true true a0 i1 s1 c1 r1 a0 i2 s2 c2 r2
        · rw [hz] at k3
          exact law_a1 _ _ _ _ _ _ _ _ _ _ _ _ _ _ _ _ k1 k2 k3 k4 k5 k6 W
        · rw [hz] at k3
          rw [less_goes hU hV hW ha e1 hz] at k4
          exact law_a2 _ _ _ _ _ _ _ _ _ _ _ _ _ _ _ k1 k2 k3 k4 k5 k6 W
      · rw [e1] at k1
        rw [e2] at k2
        rw [e3] at k6
        exact law_b1 _ _ _ _ _ _ _ _ _ _ _ _ _ _ _ _ _ k1 k2 k3 k4 k5 k6 W
      · rw [e1] at k1
        rw [e2] at k2
        rw [e3] at k6
        exact law_c1 _ _ _ _ _ _ _ _ _ _ _ _ _ _ _ _ _ k1 k2 k3 k4 k5 k6 W
end Go.Proofs.Ytelpppmnakblmaa.PLess
