/-
  Sameness and order of two values, in the form that the law's walk takes. Texts up to the reach's size.
-/
import Derived.Test.YtelpppmnakblmaaF4
namespace Go.Proofs.Ytelpppmnakblmaa.PLes
open Go.RowKit Go.Proofs.YtelpppmnakblmaaW.PrintWords Go.Proofs.YtelpppmnakblmaaW.PrintLast Go.Proofs.Ytelpppmnakblmaa.Hand
set_option linter.unusedVariables false
theorem text_some (s : ByteArray) (hs : s.size ≤ 140737488351232) (d : Nat) : ∀ (k i : Nat), i ≤ s.size → s.size - i = d → d < k → ∃ b, PLess.value_text.l0 k s i = some b := by
  induction d with
  | zero =>
    intro k i hi hd hk
    obtain ⟨k, rfl⟩ : ∃ m, k = m + 1 := ⟨k - 1, by omega⟩
    rw [PLess.value_text.l0, if_neg (by omega)]
    exact ⟨_, rfl⟩
  | succ d ih =>
    intro k i hi hd hk
    obtain ⟨k, rfl⟩ : ∃ m, k = m + 1 := ⟨k - 1, by omega⟩
    rw [PLess.value_text.l0, if_pos (by omega), if_pos (by omega)]
    by_cases h1 : bt s i < 32
    · rw [if_pos h1]; exact ⟨_, rfl⟩
    rw [if_neg h1]
    by_cases h2 : bt s i > 126
    · rw [if_pos h2]; exact ⟨_, rfl⟩
    rw [if_neg h2, show wrap64 ((i : Int) + 1) = ((i + 1 : Nat) : Int) from by unfold wrap64; omega]
    exact ih k (i + 1) (by omega) (by omega) (by omega)
def textB (s : ByteArray) : Bool := (PLess.value_text.f (s.size + 1) s).getD false
theorem text_tells (s : ByteArray) (hs : s.size ≤ 140737488351232) : PLess.value_text.f (s.size + 1) s = some (textB s) := by
  obtain ⟨b, hb⟩ := text_some s hs s.size (s.size + 1) 0 (by omega) (by omega) (by omega)
  have : PLess.value_text.f (s.size + 1) s = some b := hb
  unfold textB
  rw [this]
  rfl
/-- Which values may be. -/
def okV (a b : Int) (s : ByteArray) (c : Bool) (x : Nat) : Bool := rightV (textB s) a b s c x
theorem okV_is (a b : Int) (s : ByteArray) (c : Bool) (x : Nat) (hs : s.size ≤ 140737488351232) : RightIs #[.int .i64 a, .int .i64 b, .string s, .bool c, .float .f64 x] (okV a b s c x) :=
  fun W => Right_calls a b s c x _ _ (text_tells s hs) W
def vS.f (a b : Int) (s : ByteArray) (c : Bool) (x : Nat) (a' b' : Int) (s' : ByteArray) (c' : Bool) (x' : Nat) : Option Bool :=
  if s.size ≤ 140737488351232 ∧ s'.size ≤ 140737488351232 then some (okV a b s c x && (okV a' b' s' c' x' && eqV a b s c x a' b' s' c' x')) else none
theorem vS.calls (a b : Int) (s : ByteArray) (c : Bool) (x : Nat) (a' b' : Int) (s' : ByteArray) (c' : Bool) (x' : Nat) (r : Bool) (w : World) (h : vS.f a b s c x a' b' s' c' x' = some r) :
    Calls Try.prog 10 #[.agg #[.int .i64 a, .int .i64 b, .string s, .bool c, .float .f64 x], .agg #[.int .i64 a', .int .i64 b', .string s', .bool c', .float .f64 x']] w fun e w' => e = .returned (.bool r) ∧ Below w.heap.size w w' := by
  unfold vS.f at h
  split at h
  · rename_i hs
    obtain rfl := Option.some.inj h
    exact same_calls a b s c x a' b' s' c' x' _ _ _ (okV_is a b s c x hs.1) (okV_is a' b' s' c' x' hs.2) rfl w
  · cases h
def vL.f (a b : Int) (s : ByteArray) (c : Bool) (x : Nat) (a' b' : Int) (s' : ByteArray) (c' : Bool) (x' : Nat) : Option (Bool × Bool) :=
  if s.size ≤ 140737488351232 ∧ s'.size ≤ 140737488351232 then some (lessV (okV a b s c x) (okV a' b' s' c' x') a b s c x a' b' s' c' x', askV (okV a b s c x) (okV a' b' s' c' x') a a') else none
theorem less_calls {a b : Int} {s : ByteArray} {c : Bool} {x : Nat} {a' b' : Int} {s' : ByteArray} {c' : Bool} {x' : Nat} (p q : Bool)
    (hp : RightIs #[.int .i64 a, .int .i64 b, .string s, .bool c, .float .f64 x] p) (hq : RightIs #[.int .i64 a', .int .i64 b', .string s', .bool c', .float .f64 x'] q) (w : World) :
    Calls Try.prog 9 #[.agg #[.int .i64 a, .int .i64 b, .string s, .bool c, .float .f64 x], .agg #[.int .i64 a', .int .i64 b', .string s', .bool c', .float .f64 x']] w fun e w' => e = .returned (.tuple #[.bool (lessV p q a b s c x a' b' s' c' x'), .bool (askV p q a a')]) ∧ Below w.heap.size w w' := by
  unfold lessV askV
  cases p
  · exact less_p a b s c x a' b' s' c' x' q hp hq w
  cases q
  · exact less_q a b s c x a' b' s' c' x' false hp hq w
  by_cases hk : a = a'
  · subst hk
    by_cases h1 : a = 1
    · subst h1; exact less_1 1 b s c x 1 b' s' c' x' true hp hq w
    by_cases h2 : a = 2
    · subst h2; exact less_2 2 b s c x 2 b' s' c' x' true hp hq w
    by_cases h4 : a = 4
    · subst h4; exact less_4 4 b s c x 4 b' s' c' x' true hp hq w
    have e1 : (a == 1) = false := by simp [h1]
    have e2 : (a == 2) = false := by simp [h2]
    have e4 : (a == 4) = false := by simp [h4]
    simp only [e1, e2, e4, Bool.or_self, Bool.and_false, Bool.false_and]
    exact less_0 a b s c x a b' s' c' x' h1 h2 h4 true hp hq w
  · have e : (a == a') = false := by simp [hk]
    simp only [e, Bool.false_and, Bool.and_false]
    exact less_k a b s c x a' b' s' c' x' hk true hp hq w
theorem vL.calls (a b : Int) (s : ByteArray) (c : Bool) (x : Nat) (a' b' : Int) (s' : ByteArray) (c' : Bool) (x' : Nat) (r1 r2 : Bool) (w : World) (h : vL.f a b s c x a' b' s' c' x' = some (r1, r2)) :
    Calls Try.prog 9 #[.agg #[.int .i64 a, .int .i64 b, .string s, .bool c, .float .f64 x], .agg #[.int .i64 a', .int .i64 b', .string s', .bool c', .float .f64 x']] w fun e w' => e = .returned (.tuple #[.bool r1, .bool r2]) ∧ Below w.heap.size w w' := by
  unfold vL.f at h
  split at h
  · rename_i hs
    obtain ⟨rfl, rfl⟩ := Prod.mk.inj (Option.some.inj h)
    exact less_calls _ _ (okV_is a b s c x hs.1) (okV_is a' b' s' c' x' hs.2) w
  · cases h
end Go.Proofs.Ytelpppmnakblmaa.PLes
