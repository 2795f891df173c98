/-
  The order of floats that are no NaN: one of two is below the other, or they are alike; what is below goes on. Their data alone.
-/
import Derived.Test.YtelpppmnakblmaaF1
namespace Go.Proofs.Ytelpppmnakblmaa.Hand
open Ieee
/-- A datum's place in the order, seen from a place below all: its rank and its number. -/
def rank : Datum → Int
  | .infinity true => -1
  | .infinity false => 1
  | _ => 0
def numAt (L : Int) : Datum → Int
  | .number s m i => signed s m (i - L).toNat
  | _ => 0
def placeOf : Datum → Int
  | .number _ _ i => i
  | _ => 0
def isN : Datum → Bool
  | .nan _ _ => true
  | _ => false
theorem signed_up (s : Bool) (m a b : Nat) : signed s m (a + b) = signed s m a * (2 ^ b : Nat) := by
  unfold signed
  cases s <;> simp [Nat.shiftLeft_eq, Nat.pow_add, Int.neg_mul] <;> simp [Int.mul_assoc]
def cmpK (L : Int) (d e : Datum) : Ordering := if rank d = rank e then compare (numAt L d) (numAt L e) else compare (rank d) (rank e)
theorem cmp_mul (a b : Int) (c : Nat) (hc : 0 < c) : compare (a * (c : Int)) (b * (c : Int)) = compare a b := by
  have hc' : (0 : Int) < c := by omega
  rcases Int.lt_trichotomy a b with h | h | h
  · have := Int.mul_lt_mul_of_pos_right h hc'
    rw [Int.compare_eq_lt.2 h, Int.compare_eq_lt.2 this]
  · subst h; simp
  · have := Int.mul_lt_mul_of_pos_right h hc'
    rw [Int.compare_eq_gt.2 h, Int.compare_eq_gt.2 this]
theorem order_key (d e : Datum) (L : Int) (hd : isN d = false) (he : isN e = false) (h1 : L ≤ placeOf d) (h2 : L ≤ placeOf e) : d.order e = some (cmpK L d e) := by
  cases d with
  | nan _ _ => simp [isN] at hd
  | infinity s =>
    cases e with
    | nan _ _ => simp [isN] at he
    | infinity t => cases s <;> cases t <;> rfl
    | number t n j => cases s <;> rfl
  | number s m i =>
    cases e with
    | nan _ _ => simp [isN] at he
    | infinity t => cases t <;> rfl
    | number t n j =>
      simp only [placeOf] at h1 h2
      simp only [Datum.order, cmpK, rank, numAt, if_true]
      congr 1
      have e1 : (i - L).toNat = (i - min i j).toNat + (min i j - L).toNat := by omega
      have e2 : (j - L).toNat = (j - min i j).toNat + (min i j - L).toNat := by omega
      rw [e1, e2, signed_up, signed_up]
      exact (cmp_mul _ _ _ (Nat.pow_pos (by decide))).symm
/-- Below all three places. -/
def low3 (a b c : Datum) : Int := min (placeOf a) (min (placeOf b) (placeOf c))
theorem cmpK_gt (L : Int) (d e : Datum) : (cmpK L d e = .gt ↔ cmpK L e d = .lt) := by
  unfold cmpK
  by_cases h : rank d = rank e
  · rw [if_pos h, if_pos h.symm, Int.compare_eq_gt, Int.compare_eq_lt]
  · rw [if_neg h, if_neg (Ne.symm h), Int.compare_eq_gt, Int.compare_eq_lt]
theorem cmpK_eq (L : Int) (d e : Datum) : (cmpK L d e = .eq ↔ rank d = rank e ∧ numAt L d = numAt L e) := by
  unfold cmpK
  by_cases h : rank d = rank e
  · rw [if_pos h, Int.compare_eq_eq]; simp [h]
  · rw [if_neg h, Int.compare_eq_eq]; simp [h]
theorem cmpK_lt (L : Int) (d e : Datum) : (cmpK L d e = .lt ↔ rank d < rank e ∨ (rank d = rank e ∧ numAt L d < numAt L e)) := by
  unfold cmpK
  by_cases h : rank d = rank e
  · rw [if_pos h, Int.compare_eq_lt]; omega
  · rw [if_neg h, Int.compare_eq_lt]; omega
/-- A float that is alike itself is no NaN. -/
theorem notNaN {x : Nat} (h : ord x x = some .eq) : isN (FloatKind.f64.format.read x) = false := by
  have h' : (FloatKind.f64.format.read x).order (FloatKind.f64.format.read x) = some .eq := h
  cases hd : FloatKind.f64.format.read x with
  | nan _ _ => rw [hd] at h'; simp [Datum.order] at h'
  | infinity _ => rfl
  | number _ _ _ => rfl
theorem ord_key {x y : Nat} (z : Nat) (hx : ord x x = some .eq) (hy : ord y y = some .eq) :
    ord x y = some (cmpK (low3 (FloatKind.f64.format.read x) (FloatKind.f64.format.read y) (FloatKind.f64.format.read z)) (FloatKind.f64.format.read x) (FloatKind.f64.format.read y)) :=
  order_key _ _ _ (notNaN hx) (notNaN hy) (by unfold low3; omega) (by unfold low3; omega)
theorem ord_three {x y : Nat} (hx : ord x x = some .eq) (hy : ord y y = some .eq) :
    (ord x y = some .lt ∧ ord y x = some .gt) ∨ (ord x y = some .gt ∧ ord y x = some .lt) ∨ (ord x y = some .eq ∧ ord y x = some .eq) := by
  have a := order_key (FloatKind.f64.format.read x) (FloatKind.f64.format.read y) (min (placeOf (FloatKind.f64.format.read x)) (placeOf (FloatKind.f64.format.read y))) (notNaN hx) (notNaN hy) (by omega) (by omega)
  have b := order_key (FloatKind.f64.format.read y) (FloatKind.f64.format.read x) (min (placeOf (FloatKind.f64.format.read x)) (placeOf (FloatKind.f64.format.read y))) (notNaN hy) (notNaN hx) (by omega) (by omega)
  generalize min (placeOf (FloatKind.f64.format.read x)) (placeOf (FloatKind.f64.format.read y)) = L at a b
  have a' : ord x y = some (cmpK L (FloatKind.f64.format.read x) (FloatKind.f64.format.read y)) := a
  have b' : ord y x = some (cmpK L (FloatKind.f64.format.read y) (FloatKind.f64.format.read x)) := b
  rw [a', b']
  cases h : cmpK L (FloatKind.f64.format.read x) (FloatKind.f64.format.read y)
  · rw [(cmpK_gt L _ _).2 h]; simp
  · obtain ⟨e1, e2⟩ := (cmpK_eq L _ _).1 h
    rw [(cmpK_eq L _ _).2 ⟨e1.symm, e2.symm⟩]; simp
  · rw [(cmpK_gt L _ _).1 h]; simp
theorem ord_trans {x y z : Nat} (hx : ord x x = some .eq) (hy : ord y y = some .eq) (hz : ord z z = some .eq) (h1 : ord x y = some .lt) (h2 : ord y z = some .lt) : ord x z = some .lt := by
  have a : ord x y = _ := order_key (FloatKind.f64.format.read x) (FloatKind.f64.format.read y) (low3 (FloatKind.f64.format.read x) (FloatKind.f64.format.read y) (FloatKind.f64.format.read z)) (notNaN hx) (notNaN hy) (by unfold low3; omega) (by unfold low3; omega)
  have b : ord y z = _ := order_key (FloatKind.f64.format.read y) (FloatKind.f64.format.read z) (low3 (FloatKind.f64.format.read x) (FloatKind.f64.format.read y) (FloatKind.f64.format.read z)) (notNaN hy) (notNaN hz) (by unfold low3; omega) (by unfold low3; omega)
  have c : ord x z = _ := order_key (FloatKind.f64.format.read x) (FloatKind.f64.format.read z) (low3 (FloatKind.f64.format.read x) (FloatKind.f64.format.read y) (FloatKind.f64.format.read z)) (notNaN hx) (notNaN hz) (by unfold low3; omega) (by unfold low3; omega)
  generalize low3 (FloatKind.f64.format.read x) (FloatKind.f64.format.read y) (FloatKind.f64.format.read z) = L at a b c
  rw [a] at h1
  rw [b] at h2
  rw [c]
  have h1' := (cmpK_lt L _ _).1 (Option.some.inj h1)
  have h2' := (cmpK_lt L _ _).1 (Option.some.inj h2)
  rw [(cmpK_lt L _ _).2 (by omega)]
theorem ord_eq_trans {x y z : Nat} (hx : ord x x = some .eq) (hy : ord y y = some .eq) (hz : ord z z = some .eq) (h1 : ord x z = some .eq) (h2 : ord y z = some .eq) : ord x y = some .eq := by
  have a : ord x z = _ := order_key (FloatKind.f64.format.read x) (FloatKind.f64.format.read z) (low3 (FloatKind.f64.format.read x) (FloatKind.f64.format.read y) (FloatKind.f64.format.read z)) (notNaN hx) (notNaN hz) (by unfold low3; omega) (by unfold low3; omega)
  have b : ord y z = _ := order_key (FloatKind.f64.format.read y) (FloatKind.f64.format.read z) (low3 (FloatKind.f64.format.read x) (FloatKind.f64.format.read y) (FloatKind.f64.format.read z)) (notNaN hy) (notNaN hz) (by unfold low3; omega) (by unfold low3; omega)
  have c : ord x y = _ := order_key (FloatKind.f64.format.read x) (FloatKind.f64.format.read y) (low3 (FloatKind.f64.format.read x) (FloatKind.f64.format.read y) (FloatKind.f64.format.read z)) (notNaN hx) (notNaN hy) (by unfold low3; omega) (by unfold low3; omega)
  generalize low3 (FloatKind.f64.format.read x) (FloatKind.f64.format.read y) (FloatKind.f64.format.read z) = L at a b c
  rw [a] at h1
  rw [b] at h2
  rw [c]
  have h1' := (cmpK_eq L _ _).1 (Option.some.inj h1)
  have h2' := (cmpK_eq L _ _).1 (Option.some.inj h2)
  rw [(cmpK_eq L _ _).2 ⟨by omega, by omega⟩]
theorem ord_zero : ord 0 0 = some .eq := by decide +kernel
/-- A float that is alike another one is no NaN. -/
theorem ord_self {x y : Nat} {o : Ordering} (h : ord x y = some o) : ord x x = some .eq := by
  have h' : (FloatKind.f64.format.read x).order (FloatKind.f64.format.read y) = some o := h
  have : isN (FloatKind.f64.format.read x) = false := by
    cases hd : FloatKind.f64.format.read x with
    | nan _ _ => rw [hd] at h'; simp [Datum.order] at h'
    | infinity _ => rfl
    | number _ _ _ => rfl
  have k : ord x x = _ := order_key (FloatKind.f64.format.read x) (FloatKind.f64.format.read x) (placeOf (FloatKind.f64.format.read x)) this this (by omega) (by omega)
  rw [k, (cmpK_eq _ _ _).2 ⟨rfl, rfl⟩]
end Go.Proofs.Ytelpppmnakblmaa.Hand
