/-
  Which values may be: what the code tells. Every values up to the reach's size.
-/
import Derived.Test.YtelpppmnakblmaaF2
namespace Go.Proofs.Ytelpppmnakblmaa.Hand
open Go.RowKit Go.Proofs.YtelpppmnakblmaaW.PrintWords Go.Proofs.YtelpppmnakblmaaW.PrintLast
set_option linter.unusedVariables false
set_option linter.unusedSimpArgs false
@[local go_sem] theorem setCell_drewN (w : World) (n : Nat) (a : Addr) (v : Value) : (w.drewN n).setCell a v = (w.setCell a v).drewN n := by
  induction n generalizing w with
  | zero => rfl
  | succ n ih => rfl
@[local go_sem] theorem run_store_float {P : Program} {w : World} {a : Addr} {m : Mode} (k : FloatKind) (b : Nat) : (store a (.float k b) m).run P w = stored P w a (.float k b) m := run_store P w a _ m rfl
def only (a b : Int) (s : ByteArray) (c : Bool) (x : Nat) : Bool :=
  if a = 1 then eqV a b s c x a b (⟨#[]⟩ : ByteArray) false 0 else if a = 2 then eqV a b s c x a 0 s false 0 else if a = 3 then eqV a b s c x a 0 (⟨#[]⟩ : ByteArray) c 0 else if a = 4 then eqV a b s c x a 0 (⟨#[]⟩ : ByteArray) false x else false
def rightV (t : Bool) (a b : Int) (s : ByteArray) (c : Bool) (x : Nat) : Bool := only a b s c x && (t && (a != 4 || rateB x))
set_option maxRecDepth 100000
set_option maxHeartbeats 2000000
theorem right1 (b : Int) (s : ByteArray) (c : Bool) (x : Nat) (t : Bool) (k : Nat) (ht : PLess.value_text.f k s = some t) (w : World) :
    Calls Try.prog 14 #[.agg #[.int .i64 1, .int .i64 b, .string s, .bool c, .float .f64 x]] w fun e w' => e = .returned (.bool (eqV 1 b s c x 1 b (⟨#[]⟩ : ByteArray) false 0 && (t))) ∧ Below w.heap.size w w' := by
  have HT := Lib.hid ht
  clear ht
  have he := fun (d : Nat) (w : World) => eqA29 d w 1 b s c x 1 b (⟨#[]⟩ : ByteArray) false 0
  cases h : eqV 1 b s c x 1 b (⟨#[]⟩ : ByteArray) false 0 <;> rw [h] at he
  · go_enter Try.func14, Try.ntmps14
    go_wp2
    go_ret
    exact ⟨rfl, by repeat (first | (with_reducible exact Below.refl _ _) | (with_reducible refine Below.setCell ?_ (by first | (simp; done) | (simp; omega)) _) | (with_reducible refine Below.alloc ?_ (by first | (simp; done) | (simp; omega)) _) | (with_reducible refine pw_below_drewN ?_ _) | (with_reducible refine Below.drew ?_))⟩
  · cases t
    · go_enter Try.func14, Try.ntmps14
      go_wp2_with (go_at_call 16; refine (PLess.value_text.calls k s false _ HT.out).mono ?_; rintro e w1 ⟨rfl, ⟨n, rfl⟩⟩)
      go_ret
      exact ⟨rfl, by repeat (first | (with_reducible exact Below.refl _ _) | (with_reducible refine Below.setCell ?_ (by first | (simp; done) | (simp; omega)) _) | (with_reducible refine Below.alloc ?_ (by first | (simp; done) | (simp; omega)) _) | (with_reducible refine pw_below_drewN ?_ _) | (with_reducible refine Below.drew ?_))⟩
    · go_enter Try.func14, Try.ntmps14
      go_wp2_with (go_at_call 16; refine (PLess.value_text.calls k s true _ HT.out).mono ?_; rintro e w1 ⟨rfl, ⟨n, rfl⟩⟩)
      go_ret
      exact ⟨rfl, by repeat (first | (with_reducible exact Below.refl _ _) | (with_reducible refine Below.setCell ?_ (by first | (simp; done) | (simp; omega)) _) | (with_reducible refine Below.alloc ?_ (by first | (simp; done) | (simp; omega)) _) | (with_reducible refine pw_below_drewN ?_ _) | (with_reducible refine Below.drew ?_))⟩
theorem right2 (b : Int) (s : ByteArray) (c : Bool) (x : Nat) (t : Bool) (k : Nat) (ht : PLess.value_text.f k s = some t) (w : World) :
    Calls Try.prog 14 #[.agg #[.int .i64 2, .int .i64 b, .string s, .bool c, .float .f64 x]] w fun e w' => e = .returned (.bool (eqV 2 b s c x 2 0 s false 0 && (t))) ∧ Below w.heap.size w w' := by
  have HT := Lib.hid ht
  clear ht
  have he := fun (d : Nat) (w : World) => eqA29 d w 2 b s c x 2 0 s false 0
  cases h : eqV 2 b s c x 2 0 s false 0 <;> rw [h] at he
  · go_enter Try.func14, Try.ntmps14
    go_wp2
    go_ret
    exact ⟨rfl, by repeat (first | (with_reducible exact Below.refl _ _) | (with_reducible refine Below.setCell ?_ (by first | (simp; done) | (simp; omega)) _) | (with_reducible refine Below.alloc ?_ (by first | (simp; done) | (simp; omega)) _) | (with_reducible refine pw_below_drewN ?_ _) | (with_reducible refine Below.drew ?_))⟩
  · cases t
    · go_enter Try.func14, Try.ntmps14
      go_wp2_with (go_at_call 16; refine (PLess.value_text.calls k s false _ HT.out).mono ?_; rintro e w1 ⟨rfl, ⟨n, rfl⟩⟩)
      go_ret
      exact ⟨rfl, by repeat (first | (with_reducible exact Below.refl _ _) | (with_reducible refine Below.setCell ?_ (by first | (simp; done) | (simp; omega)) _) | (with_reducible refine Below.alloc ?_ (by first | (simp; done) | (simp; omega)) _) | (with_reducible refine pw_below_drewN ?_ _) | (with_reducible refine Below.drew ?_))⟩
    · go_enter Try.func14, Try.ntmps14
      go_wp2_with (go_at_call 16; refine (PLess.value_text.calls k s true _ HT.out).mono ?_; rintro e w1 ⟨rfl, ⟨n, rfl⟩⟩)
      go_ret
      exact ⟨rfl, by repeat (first | (with_reducible exact Below.refl _ _) | (with_reducible refine Below.setCell ?_ (by first | (simp; done) | (simp; omega)) _) | (with_reducible refine Below.alloc ?_ (by first | (simp; done) | (simp; omega)) _) | (with_reducible refine pw_below_drewN ?_ _) | (with_reducible refine Below.drew ?_))⟩
theorem right3 (b : Int) (s : ByteArray) (c : Bool) (x : Nat) (t : Bool) (k : Nat) (ht : PLess.value_text.f k s = some t) (w : World) :
    Calls Try.prog 14 #[.agg #[.int .i64 3, .int .i64 b, .string s, .bool c, .float .f64 x]] w fun e w' => e = .returned (.bool (eqV 3 b s c x 3 0 (⟨#[]⟩ : ByteArray) c 0 && (t))) ∧ Below w.heap.size w w' := by
  have HT := Lib.hid ht
  clear ht
  have he := fun (d : Nat) (w : World) => eqA29 d w 3 b s c x 3 0 (⟨#[]⟩ : ByteArray) c 0
  cases h : eqV 3 b s c x 3 0 (⟨#[]⟩ : ByteArray) c 0 <;> rw [h] at he
  · go_enter Try.func14, Try.ntmps14
    go_wp2
    go_ret
    exact ⟨rfl, by repeat (first | (with_reducible exact Below.refl _ _) | (with_reducible refine Below.setCell ?_ (by first | (simp; done) | (simp; omega)) _) | (with_reducible refine Below.alloc ?_ (by first | (simp; done) | (simp; omega)) _) | (with_reducible refine pw_below_drewN ?_ _) | (with_reducible refine Below.drew ?_))⟩
  · cases t
    · go_enter Try.func14, Try.ntmps14
      go_wp2_with (go_at_call 16; refine (PLess.value_text.calls k s false _ HT.out).mono ?_; rintro e w1 ⟨rfl, ⟨n, rfl⟩⟩)
      go_ret
      exact ⟨rfl, by repeat (first | (with_reducible exact Below.refl _ _) | (with_reducible refine Below.setCell ?_ (by first | (simp; done) | (simp; omega)) _) | (with_reducible refine Below.alloc ?_ (by first | (simp; done) | (simp; omega)) _) | (with_reducible refine pw_below_drewN ?_ _) | (with_reducible refine Below.drew ?_))⟩
    · go_enter Try.func14, Try.ntmps14
      go_wp2_with (go_at_call 16; refine (PLess.value_text.calls k s true _ HT.out).mono ?_; rintro e w1 ⟨rfl, ⟨n, rfl⟩⟩)
      go_ret
      exact ⟨rfl, by repeat (first | (with_reducible exact Below.refl _ _) | (with_reducible refine Below.setCell ?_ (by first | (simp; done) | (simp; omega)) _) | (with_reducible refine Below.alloc ?_ (by first | (simp; done) | (simp; omega)) _) | (with_reducible refine pw_below_drewN ?_ _) | (with_reducible refine Below.drew ?_))⟩
theorem right4 (b : Int) (s : ByteArray) (c : Bool) (x : Nat) (t : Bool) (k : Nat) (ht : PLess.value_text.f k s = some t) (w : World) :
    Calls Try.prog 14 #[.agg #[.int .i64 4, .int .i64 b, .string s, .bool c, .float .f64 x]] w fun e w' => e = .returned (.bool (eqV 4 b s c x 4 0 (⟨#[]⟩ : ByteArray) false x && (t && rateB x))) ∧ Below w.heap.size w w' := by
  have HT := Lib.hid ht
  clear ht
  have he := fun (d : Nat) (w : World) => eqA29 d w 4 b s c x 4 0 (⟨#[]⟩ : ByteArray) false x
  cases h : eqV 4 b s c x 4 0 (⟨#[]⟩ : ByteArray) false x <;> rw [h] at he
  · go_enter Try.func14, Try.ntmps14
    go_wp2
    go_ret
    exact ⟨rfl, by repeat (first | (with_reducible exact Below.refl _ _) | (with_reducible refine Below.setCell ?_ (by first | (simp; done) | (simp; omega)) _) | (with_reducible refine Below.alloc ?_ (by first | (simp; done) | (simp; omega)) _) | (with_reducible refine pw_below_drewN ?_ _) | (with_reducible refine Below.drew ?_))⟩
  · cases t
    · go_enter Try.func14, Try.ntmps14
      go_wp2_with (go_at_call 16; refine (PLess.value_text.calls k s false _ HT.out).mono ?_; rintro e w1 ⟨rfl, ⟨n, rfl⟩⟩)
      go_ret
      exact ⟨rfl, by repeat (first | (with_reducible exact Below.refl _ _) | (with_reducible refine Below.setCell ?_ (by first | (simp; done) | (simp; omega)) _) | (with_reducible refine Below.alloc ?_ (by first | (simp; done) | (simp; omega)) _) | (with_reducible refine pw_below_drewN ?_ _) | (with_reducible refine Below.drew ?_))⟩
    · cases hr : rateB x
      all_goals
        go_enter Try.func14, Try.ntmps14
        go_wp2_with (first | (go_at_call 16; refine (PLess.value_text.calls k s true _ HT.out).mono ?_; rintro e w1 ⟨rfl, ⟨n, rfl⟩⟩) | (go_at_call 17; refine (rate_Right_calls x _).mono ?_; rintro e w1 ⟨rfl, rfl⟩; simp only [hr]))
        go_ret
        exact ⟨rfl, by repeat (first | (with_reducible exact Below.refl _ _) | (with_reducible refine Below.setCell ?_ (by first | (simp; done) | (simp; omega)) _) | (with_reducible refine Below.alloc ?_ (by first | (simp; done) | (simp; omega)) _) | (with_reducible refine pw_below_drewN ?_ _) | (with_reducible refine Below.drew ?_))⟩
theorem right0 (a b : Int) (s : ByteArray) (c : Bool) (x : Nat) (h1 : a ≠ 1) (h2 : a ≠ 2) (h3 : a ≠ 3) (h4 : a ≠ 4) (w : World) :
    Calls Try.prog 14 #[.agg #[.int .i64 a, .int .i64 b, .string s, .bool c, .float .f64 x]] w fun e w' => e = .returned (.bool false) ∧ Below w.heap.size w w' := by
  go_enter Try.func14, Try.ntmps14
  go_wp2
  go_ret
  exact ⟨rfl, by repeat (first | (with_reducible exact Below.refl _ _) | (with_reducible refine Below.setCell ?_ (by first | (simp; done) | (simp; omega)) _) | (with_reducible refine Below.alloc ?_ (by first | (simp; done) | (simp; omega)) _) | (with_reducible refine pw_below_drewN ?_ _) | (with_reducible refine Below.drew ?_))⟩
theorem Right_calls (a b : Int) (s : ByteArray) (c : Bool) (x : Nat) (t : Bool) (k : Nat) (ht : PLess.value_text.f k s = some t) (w : World) :
    Calls Try.prog 14 #[.agg #[.int .i64 a, .int .i64 b, .string s, .bool c, .float .f64 x]] w fun e w' => e = .returned (.bool (rightV t a b s c x)) ∧ Below w.heap.size w w' := by
  unfold rightV only
  by_cases h1 : a = 1
  · subst h1
    rw [if_pos rfl]
    simpa using right1 b s c x t k ht w
  rw [if_neg h1]
  by_cases h2 : a = 2
  · subst h2
    rw [if_pos rfl]
    simpa using right2 b s c x t k ht w
  rw [if_neg h2]
  by_cases h3 : a = 3
  · subst h3
    rw [if_pos rfl]
    simpa using right3 b s c x t k ht w
  rw [if_neg h3]
  by_cases h4 : a = 4
  · subst h4
    rw [if_pos rfl]
    simpa using right4 b s c x t k ht w
  rw [if_neg h4]
  simpa using right0 a b s c x h1 h2 h3 h4 w
end Go.Proofs.Ytelpppmnakblmaa.Hand
