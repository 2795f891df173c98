/-
  The order of cells: the program's and the reference's answer alike, of every two cells; it is an order. Texts alone, no memory.
-/
import Derived.Test.YtelpppmnakblmaaPValx2
import Derived.Test.YtelpppmnakblmaaValNames
namespace Go.Proofs.Ytelpppmnakblmaa.PVal
open Go.RowKit Go.Proofs.YtelpppmnakblmaaW.PrintWords Go.Proofs.YtelpppmnakblmaaW.PrintLast
set_option linter.unusedVariables false
set_option linter.unusedSimpArgs false
theorem bl_irr (x : List UInt8) : Op.bytesLess x x = false := by
  induction x with
  | nil => rfl
  | cons a x ih => simp [Op.bytesLess, ih]
theorem bl_tot : ∀ (x y : List UInt8), x ≠ y → Op.bytesLess x y = !(Op.bytesLess y x)
  | [], [], h => absurd rfl h
  | [], _ :: _, _ => rfl
  | _ :: _, [], _ => rfl
  | a :: x, b :: y, h => by
    by_cases hab : a = b
    · subst hab
      have := bl_tot x y (fun e => h (by rw [e]))
      simp [Op.bytesLess, this]
    · have h1 : (a == b) = false := by simp [hab]
      have h2 : (b == a) = false := by simp [Ne.symm hab]
      simp only [Op.bytesLess, h1, h2, Bool.false_and, Bool.or_false]
      have hn : a.toNat ≠ b.toNat := fun e => hab (UInt8.toNat_inj.1 e)
      by_cases hl : a < b
      · have : ¬ b < a := by rw [UInt8.lt_iff_toNat_lt] at hl ⊢; omega
        simp [hl, this]
      · have : b < a := by rw [UInt8.lt_iff_toNat_lt] at hl ⊢; omega
        simp [hl, this]
theorem bl_trans : ∀ (x y z : List UInt8), Op.bytesLess x y = true → Op.bytesLess y z = true → Op.bytesLess x z = true
  | _, [], _, h, _ => by cases ‹List UInt8› <;> simp [Op.bytesLess] at h
  | _, _ :: _, [], _, h => by simp [Op.bytesLess] at h
  | [], _ :: _, _ :: _, _, _ => rfl
  | a :: x, b :: y, c :: z, h1, h2 => by
    simp only [Op.bytesLess, Bool.or_eq_true, Bool.and_eq_true, decide_eq_true_eq, beq_iff_eq, UInt8.lt_iff_toNat_lt] at h1 h2 ⊢
    rcases h1 with h1 | ⟨rfl, h1⟩ <;> rcases h2 with h2 | ⟨rfl, h2⟩
    · left; omega
    · left; exact h1
    · left; exact h2
    · right; exact ⟨rfl, bl_trans x y z h1 h2⟩
theorem drop_byte (s : ByteArray) (i : Nat) (h : i < s.size) : ∃ c : UInt8, s.toList.drop i = c :: s.toList.drop (i + 1) ∧ ((c.toNat : Int) = bt s i) := by
  have hl : s.toList.length = s.size := by rw [ByteArray.toList_eq]; exact data_length s
  refine ⟨s.toList[i]'(by omega), List.drop_eq_getElem_cons (by omega), ?_⟩
  rw [← bt_at s i (by simpa using h)]
  simp [ByteArray.toList_eq]
  rfl
theorem below_loop (a b : ByteArray) (ha : a.size ≤ 140737488351232) (d : Nat) : ∀ (k i : Nat), i ≤ a.size → i ≤ b.size → a.size - i = d → 2 * d + 2 ≤ k → sojournref03_below.l0 k a b i = some (if a.toList.drop i = b.toList.drop i then decide (a.size < b.size) else Op.bytesLess (a.toList.drop i) (b.toList.drop i)) := by
  have hla : a.toList.length = a.size := by rw [ByteArray.toList_eq]; exact data_length a
  have hlb : b.toList.length = b.size := by rw [ByteArray.toList_eq]; exact data_length b
  induction d with
  | zero =>
    intro k i hi hj hd hk
    obtain ⟨k, rfl⟩ : ∃ m, k = m + 1 + 1 := ⟨k - 2, by omega⟩
    have e1 : a.toList.drop i = [] := List.drop_eq_nil_of_le (by omega)
    rw [sojournref03_below.l0, if_neg (by omega), sojournref03_below.j1, if_neg (by decide), e1]
    by_cases he : [] = b.toList.drop i
    · rw [if_pos he]; congr 1; exact decide_eq_decide.2 (by omega)
    · rw [if_neg he]
      cases hb : b.toList.drop i with
      | nil => exact absurd hb.symm he
      | cons c r =>
        have : (b.toList.drop i).length = b.size - i := by simp [hlb]
        rw [hb] at this
        simp only [List.length_cons] at this
        simp only [Op.bytesLess]
        congr 1
        exact decide_eq_true (by omega)
  | succ d ih =>
    intro k i hi hj hd hk
    obtain ⟨k, rfl⟩ : ∃ m, k = m + 1 + 1 := ⟨k - 2, by omega⟩
    obtain ⟨c, hc, hcb⟩ := drop_byte a i (by omega)
    rw [sojournref03_below.l0, if_pos (by omega), sojournref03_below.j1]
    by_cases hb : (i : Int) < b.size
    · rw [if_pos (decide_eq_true hb), if_pos (by omega), if_pos (by omega), if_pos hb]
      obtain ⟨e, he, heb⟩ := drop_byte b i (by omega)
      rw [hc, he, ← hcb, ← heb]
      by_cases hce : c = e
      · subst hce
        rw [if_pos rfl, show wrap64 ((i : Int) + 1) = ((i + 1 : Nat) : Int) from by unfold wrap64; omega, ih k (i + 1) (by omega) (by omega) (by omega) (by omega)]
        by_cases hq : a.toList.drop (i + 1) = b.toList.drop (i + 1)
        · rw [if_pos hq, if_pos (by rw [hq])]
        · rw [if_neg hq, if_neg (by intro h; exact hq (List.cons.inj h).2)]
          simp [Op.bytesLess]
      · have hn : c.toNat ≠ e.toNat := fun h => hce (UInt8.toNat_inj.1 h)
        rw [if_neg (by omega), if_neg (by intro h; exact hce (List.cons.inj h).1)]
        have h1 : (c == e) = false := by simp [hce]
        simp only [Op.bytesLess, h1, Bool.false_and, Bool.or_false]
        congr 1
        exact decide_eq_decide.2 (by rw [UInt8.lt_iff_toNat_lt]; omega)
    · rw [if_neg (by simp only [decide_eq_true_eq]; exact hb)]
      have e1 : b.toList.drop i = [] := List.drop_eq_nil_of_le (by omega)
      rw [e1, hc, if_neg (by simp)]
      simp only [Op.bytesLess]
      congr 1
      exact decide_eq_false (by omega)
theorem below_tells (a b : ByteArray) (ha : a.size ≤ 140737488351232) (k : Nat) (hk : 2 * a.size + 2 ≤ k) : sojournref03_below.f k a b = some (Op.bytesLess a.toList b.toList) := by
  have h := below_loop a b ha a.size k 0 (by omega) (by omega) (by omega) hk
  simp only [List.drop_zero] at h
  rw [show ((0 : Nat) : Int) = 0 from rfl] at h
  show sojournref03_below.l0 k a b 0 = _
  rw [h]
  by_cases he : a.toList = b.toList
  · rw [if_pos he, he, bl_irr]
    have hla : a.toList.length = a.size := by rw [ByteArray.toList_eq]; exact data_length a
    have hlb : b.toList.length = b.size := by rw [ByteArray.toList_eq]; exact data_length b
    congr 1
    exact decide_eq_false (by rw [← hla, ← hlb, he]; omega)
  · rw [if_neg he]
/-- One cell's being ahead of another one. -/
def aheadV (n : Int) (o s : ByteArray) (m : Int) (p t : ByteArray) : Bool :=
  if n = m then (if o.toList = p.toList then Op.bytesLess s.toList t.toList else Op.bytesLess o.toList p.toList) else decide (n < m)
theorem Ahead_is (n : Int) (o s : ByteArray) (m : Int) (p t : ByteArray) : value_Ahead.f n o s m p t = some (aheadV n o s m p t) := by
  unfold value_Ahead.f aheadV
  repeat' split
  all_goals rfl
theorem refAhead_tells (n : Int) (o s : ByteArray) (m : Int) (p t : ByteArray) (ho : o.size ≤ 140737488351232) (hs : s.size ≤ 140737488351232) (k : Nat) (hk : 2 * o.size + 2 * s.size + 2 ≤ k) : sojournref03_Ahead.f k n o s m p t = some (aheadV n o s m p t) := by
  unfold sojournref03_Ahead.f aheadV
  rw [below_tells o p ho k (by omega), below_tells s t hs k (by omega)]
  repeat' split
  all_goals rfl
end Go.Proofs.Ytelpppmnakblmaa.PVal
