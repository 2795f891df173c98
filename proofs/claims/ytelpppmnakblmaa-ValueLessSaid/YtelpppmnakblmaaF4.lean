/-
  Sameness and order of values: what the code tells, by what it tells of each alone.
-/
import Derived.Test.YtelpppmnakblmaaF3
namespace Go.Proofs.Ytelpppmnakblmaa.Hand
open Go.RowKit Go.Proofs.YtelpppmnakblmaaW.PrintWords Go.Proofs.YtelpppmnakblmaaW.PrintLast
set_option linter.unusedVariables false
set_option linter.unusedSimpArgs false
theorem bcell {W w1 : World} (hb : Below W.heap.size W w1) : (∀ b o, b < W.heap.size → w1.cell? ⟨b, o, none⟩ = W.cell? ⟨b, o, none⟩) ∧ (∀ b o, b < W.heap.size → w1.frozen? ⟨b, o, none⟩ = W.frozen? ⟨b, o, none⟩) :=
  ⟨fun b o h => hb.cell (p := ⟨b, o, none⟩) h, fun b o h => hb.frozen (p := ⟨b, o, none⟩) h⟩
attribute [local go_sem] setCell_drewN
/-- What a call of Right tells of one value, in any world. -/
def RightIs (cs : Array Value) (r : Bool) : Prop := ∀ W, Calls Try.prog 14 #[.agg cs] W fun e w' => e = .returned (.bool r) ∧ Below W.heap.size W w'
set_option maxRecDepth 100000
set_option maxHeartbeats 1000000
theorem same_calls (a b : Int) (s : ByteArray) (c : Bool) (x : Nat) (a' b' : Int) (s' : ByteArray) (c' : Bool) (x' : Nat) (p q r : Bool) (hp : RightIs #[.int .i64 a, .int .i64 b, .string s, .bool c, .float .f64 x] p) (hq : RightIs #[.int .i64 a', .int .i64 b', .string s', .bool c', .float .f64 x'] q) (hr : eqV a b s c x a' b' s' c' x' = r) (w : World) :
    Calls Try.prog 10 #[.agg #[.int .i64 a, .int .i64 b, .string s, .bool c, .float .f64 x], .agg #[.int .i64 a', .int .i64 b', .string s', .bool c', .float .f64 x']] w fun e w' => e = .returned (.bool (p && (q && r))) ∧ Below w.heap.size w w' := by
  have he := fun (d : Nat) (w : World) => eqA29 d w a b s c x a' b' s' c' x'
  rw [hr] at he
  have HP := Lib.hid hp
  have HQ := Lib.hid hq
  clear hp hq hr
  cases p
  · go_enter Try.func10, Try.ntmps10
    go_wp2_with fail
    refine (HP.out _).mono ?_
    rintro e w1 ⟨rfl, hb⟩
    obtain ⟨hc, hf⟩ := bcell hb
    have hz1 : w.heap.size + 1 < w1.heap.size := by
      have h9 := hb.size
      simp at h9
      omega
    have hc0 := fun o => hc w.heap.size o (by simp; try omega)
    have hc1 := fun o => hc (w.heap.size + 1) o (by simp; try omega)
    have HB1 := Lib.hid hb
    clear hc hf hb
    go_wp2
    go_ret
    refine ⟨rfl, ?_⟩
    · refine Below.trans ?_ (HB1.out.mono (by simp; try omega))
      repeat (first | (with_reducible exact Below.refl _ _) | (with_reducible refine Below.setCell ?_ (by first | (simp; done) | (simp; omega)) _) | (with_reducible refine Below.alloc ?_ (by first | (simp; done) | (simp; omega)) _) | (with_reducible refine pw_below_drewN ?_ _) | (with_reducible refine Below.drew ?_))
  · cases q
    · go_enter Try.func10, Try.ntmps10
      go_wp2_with fail
      refine (HP.out _).mono ?_
      rintro e w1 ⟨rfl, hb⟩
      obtain ⟨hc, hf⟩ := bcell hb
      have hz1 : w.heap.size + 1 < w1.heap.size := by
        have h9 := hb.size
        simp at h9
        omega
      have hc0 := fun o => hc w.heap.size o (by simp; try omega)
      have hc1 := fun o => hc (w.heap.size + 1) o (by simp; try omega)
      have HB1 := Lib.hid hb
      clear hc hf hb
      go_wp2_with fail
      refine (HQ.out _).mono ?_
      rintro e w2 ⟨rfl, hb⟩
      obtain ⟨hc, hf⟩ := bcell hb
      have hd0 := fun o => hc w.heap.size o (by omega)
      have hd1 := fun o => hc (w.heap.size + 1) o (by omega)
      have HB2 := Lib.hid (Below.trans HB1.out (hb.mono HB1.out.size))
      clear hc hf hb
      go_wp2
      go_ret
      refine ⟨rfl, ?_⟩
      · refine Below.trans ?_ (HB2.out.mono (by simp; try omega))
        repeat (first | (with_reducible exact Below.refl _ _) | (with_reducible refine Below.setCell ?_ (by first | (simp; done) | (simp; omega)) _) | (with_reducible refine Below.alloc ?_ (by first | (simp; done) | (simp; omega)) _) | (with_reducible refine pw_below_drewN ?_ _) | (with_reducible refine Below.drew ?_))
    · cases r
      all_goals
        go_enter Try.func10, Try.ntmps10
        go_wp2_with fail
        refine (HP.out _).mono ?_
        rintro e w1 ⟨rfl, hb⟩
        obtain ⟨hc, hf⟩ := bcell hb
        have hz1 : w.heap.size + 1 < w1.heap.size := by
          have h9 := hb.size
          simp at h9
          omega
        have hc0 := fun o => hc w.heap.size o (by simp; try omega)
        have hc1 := fun o => hc (w.heap.size + 1) o (by simp; try omega)
        have HB1 := Lib.hid hb
        clear hc hf hb
        go_wp2_with fail
        refine (HQ.out _).mono ?_
        rintro e w2 ⟨rfl, hb⟩
        obtain ⟨hc, hf⟩ := bcell hb
        have hd0 := fun o => hc w.heap.size o (by omega)
        have hd1 := fun o => hc (w.heap.size + 1) o (by omega)
        have HB2 := Lib.hid (Below.trans HB1.out (hb.mono HB1.out.size))
        clear hc hf hb
        go_wp2
        go_ret
        refine ⟨rfl, ?_⟩
        · refine Below.trans ?_ (HB2.out.mono (by simp; try omega))
          repeat (first | (with_reducible exact Below.refl _ _) | (with_reducible refine Below.setCell ?_ (by first | (simp; done) | (simp; omega)) _) | (with_reducible refine Below.alloc ?_ (by first | (simp; done) | (simp; omega)) _) | (with_reducible refine pw_below_drewN ?_ _) | (with_reducible refine Below.drew ?_))
/-- Is the order of two values told, and what it is. -/
def askV (p q : Bool) (a a' : Int) : Bool := p && (q && (a == a' && (a == 1 || a == 2 || a == 4)))
def lessV (p q : Bool) (a b : Int) (s : ByteArray) (c : Bool) (x : Nat) (a' b' : Int) (s' : ByteArray) (c' : Bool) (x' : Nat) : Bool :=
  askV p q a a' && (if a = 1 then decide (b < b') else if a = 2 then Op.bytesLess s.toList s'.toList else ord x x' == some .lt)
theorem less_p (a b : Int) (s : ByteArray) (c : Bool) (x : Nat) (a' b' : Int) (s' : ByteArray) (c' : Bool) (x' : Nat) (q : Bool) (hp : RightIs #[.int .i64 a, .int .i64 b, .string s, .bool c, .float .f64 x] false) (hq : RightIs #[.int .i64 a', .int .i64 b', .string s', .bool c', .float .f64 x'] q) (w : World) :
    Calls Try.prog 9 #[.agg #[.int .i64 a, .int .i64 b, .string s, .bool c, .float .f64 x], .agg #[.int .i64 a', .int .i64 b', .string s', .bool c', .float .f64 x']] w fun e w' => e = .returned (.tuple #[.bool (false), .bool false]) ∧ Below w.heap.size w w' := by
  have HP := Lib.hid hp
  have HQ := Lib.hid hq
  clear hp hq
  go_enter Try.func9, Try.ntmps9
  go_wp2_with fail
  refine (HP.out _).mono ?_
  rintro e w1 ⟨rfl, hb⟩
  obtain ⟨hc, hf⟩ := bcell hb
  have hz1 : w.heap.size + 1 < w1.heap.size := by
    have h9 := hb.size
    simp at h9
    omega
  have hc0 := fun o => hc w.heap.size o (by simp; try omega)
  have hc1 := fun o => hc (w.heap.size + 1) o (by simp; try omega)
  have HB1 := Lib.hid hb
  clear hc hf hb

  go_wp2
  all_goals first
    | contradiction
    | skip
  go_ret2
  refine ⟨rfl, ?_⟩
  · refine Below.trans ?_ (HB1.out.mono (by simp; try omega))
    repeat (first | (with_reducible exact Below.refl _ _) | (with_reducible refine Below.setCell ?_ (by first | (simp; done) | (simp; omega)) _) | (with_reducible refine Below.alloc ?_ (by first | (simp; done) | (simp; omega)) _) | (with_reducible refine pw_below_drewN ?_ _) | (with_reducible refine Below.drew ?_))
theorem less_q (a b : Int) (s : ByteArray) (c : Bool) (x : Nat) (a' b' : Int) (s' : ByteArray) (c' : Bool) (x' : Nat) (q : Bool) (hp : RightIs #[.int .i64 a, .int .i64 b, .string s, .bool c, .float .f64 x] true) (hq : RightIs #[.int .i64 a', .int .i64 b', .string s', .bool c', .float .f64 x'] false) (w : World) :
    Calls Try.prog 9 #[.agg #[.int .i64 a, .int .i64 b, .string s, .bool c, .float .f64 x], .agg #[.int .i64 a', .int .i64 b', .string s', .bool c', .float .f64 x']] w fun e w' => e = .returned (.tuple #[.bool (false), .bool false]) ∧ Below w.heap.size w w' := by
  have HP := Lib.hid hp
  have HQ := Lib.hid hq
  clear hp hq
  go_enter Try.func9, Try.ntmps9
  go_wp2_with fail
  refine (HP.out _).mono ?_
  rintro e w1 ⟨rfl, hb⟩
  obtain ⟨hc, hf⟩ := bcell hb
  have hz1 : w.heap.size + 1 < w1.heap.size := by
    have h9 := hb.size
    simp at h9
    omega
  have hc0 := fun o => hc w.heap.size o (by simp; try omega)
  have hc1 := fun o => hc (w.heap.size + 1) o (by simp; try omega)
  have HB1 := Lib.hid hb
  clear hc hf hb
  go_wp2_with fail
  refine (HQ.out _).mono ?_
  rintro e w2 ⟨rfl, hb⟩
  obtain ⟨hc, hf⟩ := bcell hb
  have hd0 := fun o => hc w.heap.size o (by omega)
  have hd1 := fun o => hc (w.heap.size + 1) o (by omega)
  have HB2 := Lib.hid (Below.trans HB1.out (hb.mono HB1.out.size))
  clear hc hf hb
  go_wp2
  all_goals first
    | contradiction
    | skip
  go_ret2
  refine ⟨rfl, ?_⟩
  · refine Below.trans ?_ (HB2.out.mono (by simp; try omega))
    repeat (first | (with_reducible exact Below.refl _ _) | (with_reducible refine Below.setCell ?_ (by first | (simp; done) | (simp; omega)) _) | (with_reducible refine Below.alloc ?_ (by first | (simp; done) | (simp; omega)) _) | (with_reducible refine pw_below_drewN ?_ _) | (with_reducible refine Below.drew ?_))
theorem less_k (a b : Int) (s : ByteArray) (c : Bool) (x : Nat) (a' b' : Int) (s' : ByteArray) (c' : Bool) (x' : Nat) (hk : a ≠ a') (q : Bool) (hp : RightIs #[.int .i64 a, .int .i64 b, .string s, .bool c, .float .f64 x] true) (hq : RightIs #[.int .i64 a', .int .i64 b', .string s', .bool c', .float .f64 x'] true) (w : World) :
    Calls Try.prog 9 #[.agg #[.int .i64 a, .int .i64 b, .string s, .bool c, .float .f64 x], .agg #[.int .i64 a', .int .i64 b', .string s', .bool c', .float .f64 x']] w fun e w' => e = .returned (.tuple #[.bool (false), .bool false]) ∧ Below w.heap.size w w' := by
  have HP := Lib.hid hp
  have HQ := Lib.hid hq
  clear hp hq
  go_enter Try.func9, Try.ntmps9
  go_wp2_with fail
  refine (HP.out _).mono ?_
  rintro e w1 ⟨rfl, hb⟩
  obtain ⟨hc, hf⟩ := bcell hb
  have hz1 : w.heap.size + 1 < w1.heap.size := by
    have h9 := hb.size
    simp at h9
    omega
  have hc0 := fun o => hc w.heap.size o (by simp; try omega)
  have hc1 := fun o => hc (w.heap.size + 1) o (by simp; try omega)
  have HB1 := Lib.hid hb
  clear hc hf hb
  go_wp2_with fail
  refine (HQ.out _).mono ?_
  rintro e w2 ⟨rfl, hb⟩
  obtain ⟨hc, hf⟩ := bcell hb
  have hd0 := fun o => hc w.heap.size o (by omega)
  have hd1 := fun o => hc (w.heap.size + 1) o (by omega)
  have HB2 := Lib.hid (Below.trans HB1.out (hb.mono HB1.out.size))
  clear hc hf hb
  go_wp2
  all_goals first
    | contradiction
    | skip
  go_ret2
  refine ⟨rfl, ?_⟩
  · refine Below.trans ?_ (HB2.out.mono (by simp; try omega))
    repeat (first | (with_reducible exact Below.refl _ _) | (with_reducible refine Below.setCell ?_ (by first | (simp; done) | (simp; omega)) _) | (with_reducible refine Below.alloc ?_ (by first | (simp; done) | (simp; omega)) _) | (with_reducible refine pw_below_drewN ?_ _) | (with_reducible refine Below.drew ?_))
theorem less_1 (a b : Int) (s : ByteArray) (c : Bool) (x : Nat) (a' b' : Int) (s' : ByteArray) (c' : Bool) (x' : Nat) (q : Bool) (hp : RightIs #[.int .i64 1, .int .i64 b, .string s, .bool c, .float .f64 x] true) (hq : RightIs #[.int .i64 1, .int .i64 b', .string s', .bool c', .float .f64 x'] true) (w : World) :
    Calls Try.prog 9 #[.agg #[.int .i64 1, .int .i64 b, .string s, .bool c, .float .f64 x], .agg #[.int .i64 1, .int .i64 b', .string s', .bool c', .float .f64 x']] w fun e w' => e = .returned (.tuple #[.bool (decide (b < b')), .bool true]) ∧ Below w.heap.size w w' := by
  have HP := Lib.hid hp
  have HQ := Lib.hid hq
  clear hp hq
  go_enter Try.func9, Try.ntmps9
  go_wp2_with fail
  refine (HP.out _).mono ?_
  rintro e w1 ⟨rfl, hb⟩
  obtain ⟨hc, hf⟩ := bcell hb
  have hz1 : w.heap.size + 1 < w1.heap.size := by
    have h9 := hb.size
    simp at h9
    omega
  have hc0 := fun o => hc w.heap.size o (by simp; try omega)
  have hc1 := fun o => hc (w.heap.size + 1) o (by simp; try omega)
  have HB1 := Lib.hid hb
  clear hc hf hb
  go_wp2_with fail
  refine (HQ.out _).mono ?_
  rintro e w2 ⟨rfl, hb⟩
  obtain ⟨hc, hf⟩ := bcell hb
  have hd0 := fun o => hc w.heap.size o (by omega)
  have hd1 := fun o => hc (w.heap.size + 1) o (by omega)
  have HB2 := Lib.hid (Below.trans HB1.out (hb.mono HB1.out.size))
  clear hc hf hb
  go_wp2
  all_goals first
    | contradiction
    | skip
  go_ret2
  refine ⟨rfl, ?_⟩
  · refine Below.trans ?_ (HB2.out.mono (by simp; try omega))
    repeat (first | (with_reducible exact Below.refl _ _) | (with_reducible refine Below.setCell ?_ (by first | (simp; done) | (simp; omega)) _) | (with_reducible refine Below.alloc ?_ (by first | (simp; done) | (simp; omega)) _) | (with_reducible refine pw_below_drewN ?_ _) | (with_reducible refine Below.drew ?_))
theorem less_2 (a b : Int) (s : ByteArray) (c : Bool) (x : Nat) (a' b' : Int) (s' : ByteArray) (c' : Bool) (x' : Nat) (q : Bool) (hp : RightIs #[.int .i64 2, .int .i64 b, .string s, .bool c, .float .f64 x] true) (hq : RightIs #[.int .i64 2, .int .i64 b', .string s', .bool c', .float .f64 x'] true) (w : World) :
    Calls Try.prog 9 #[.agg #[.int .i64 2, .int .i64 b, .string s, .bool c, .float .f64 x], .agg #[.int .i64 2, .int .i64 b', .string s', .bool c', .float .f64 x']] w fun e w' => e = .returned (.tuple #[.bool (Op.bytesLess s.toList s'.toList), .bool true]) ∧ Below w.heap.size w w' := by
  have HP := Lib.hid hp
  have HQ := Lib.hid hq
  clear hp hq
  go_enter Try.func9, Try.ntmps9
  go_wp2_with fail
  refine (HP.out _).mono ?_
  rintro e w1 ⟨rfl, hb⟩
  obtain ⟨hc, hf⟩ := bcell hb
  have hz1 : w.heap.size + 1 < w1.heap.size := by
    have h9 := hb.size
    simp at h9
    omega
  have hc0 := fun o => hc w.heap.size o (by simp; try omega)
  have hc1 := fun o => hc (w.heap.size + 1) o (by simp; try omega)
  have HB1 := Lib.hid hb
  clear hc hf hb
  go_wp2_with fail
  refine (HQ.out _).mono ?_
  rintro e w2 ⟨rfl, hb⟩
  obtain ⟨hc, hf⟩ := bcell hb
  have hd0 := fun o => hc w.heap.size o (by omega)
  have hd1 := fun o => hc (w.heap.size + 1) o (by omega)
  have HB2 := Lib.hid (Below.trans HB1.out (hb.mono HB1.out.size))
  clear hc hf hb
  go_wp2
  all_goals first
    | contradiction
    | skip
  go_ret2
  refine ⟨rfl, ?_⟩
  · refine Below.trans ?_ (HB2.out.mono (by simp; try omega))
    repeat (first | (with_reducible exact Below.refl _ _) | (with_reducible refine Below.setCell ?_ (by first | (simp; done) | (simp; omega)) _) | (with_reducible refine Below.alloc ?_ (by first | (simp; done) | (simp; omega)) _) | (with_reducible refine pw_below_drewN ?_ _) | (with_reducible refine Below.drew ?_))
theorem less_4 (a b : Int) (s : ByteArray) (c : Bool) (x : Nat) (a' b' : Int) (s' : ByteArray) (c' : Bool) (x' : Nat) (q : Bool) (hp : RightIs #[.int .i64 4, .int .i64 b, .string s, .bool c, .float .f64 x] true) (hq : RightIs #[.int .i64 4, .int .i64 b', .string s', .bool c', .float .f64 x'] true) (w : World) :
    Calls Try.prog 9 #[.agg #[.int .i64 4, .int .i64 b, .string s, .bool c, .float .f64 x], .agg #[.int .i64 4, .int .i64 b', .string s', .bool c', .float .f64 x']] w fun e w' => e = .returned (.tuple #[.bool (ord x x' == some .lt), .bool true]) ∧ Below w.heap.size w w' := by
  have HP := Lib.hid hp
  have HQ := Lib.hid hq
  clear hp hq
  go_enter Try.func9, Try.ntmps9
  go_wp2_with fail
  refine (HP.out _).mono ?_
  rintro e w1 ⟨rfl, hb⟩
  obtain ⟨hc, hf⟩ := bcell hb
  have hz1 : w.heap.size + 1 < w1.heap.size := by
    have h9 := hb.size
    simp at h9
    omega
  have hc0 := fun o => hc w.heap.size o (by simp; try omega)
  have hc1 := fun o => hc (w.heap.size + 1) o (by simp; try omega)
  have HB1 := Lib.hid hb
  clear hc hf hb
  go_wp2_with fail
  refine (HQ.out _).mono ?_
  rintro e w2 ⟨rfl, hb⟩
  obtain ⟨hc, hf⟩ := bcell hb
  have hd0 := fun o => hc w.heap.size o (by omega)
  have hd1 := fun o => hc (w.heap.size + 1) o (by omega)
  have HB2 := Lib.hid (Below.trans HB1.out (hb.mono HB1.out.size))
  clear hc hf hb
  go_wp2
  all_goals first
    | contradiction
    | skip
  go_ret2
  refine ⟨rfl, ?_⟩
  · refine Below.trans ?_ (HB2.out.mono (by simp; try omega))
    repeat (first | (with_reducible exact Below.refl _ _) | (with_reducible refine Below.setCell ?_ (by first | (simp; done) | (simp; omega)) _) | (with_reducible refine Below.alloc ?_ (by first | (simp; done) | (simp; omega)) _) | (with_reducible refine pw_below_drewN ?_ _) | (with_reducible refine Below.drew ?_))
theorem less_0 (a b : Int) (s : ByteArray) (c : Bool) (x : Nat) (a' b' : Int) (s' : ByteArray) (c' : Bool) (x' : Nat) (h1 : a ≠ 1) (h2 : a ≠ 2) (h4 : a ≠ 4) (q : Bool) (hp : RightIs #[.int .i64 a, .int .i64 b, .string s, .bool c, .float .f64 x] true) (hq : RightIs #[.int .i64 a, .int .i64 b', .string s', .bool c', .float .f64 x'] true) (w : World) :
    Calls Try.prog 9 #[.agg #[.int .i64 a, .int .i64 b, .string s, .bool c, .float .f64 x], .agg #[.int .i64 a, .int .i64 b', .string s', .bool c', .float .f64 x']] w fun e w' => e = .returned (.tuple #[.bool (false), .bool false]) ∧ Below w.heap.size w w' := by
  have HP := Lib.hid hp
  have HQ := Lib.hid hq
  clear hp hq
  go_enter Try.func9, Try.ntmps9
  go_wp2_with fail
  refine (HP.out _).mono ?_
  rintro e w1 ⟨rfl, hb⟩
  obtain ⟨hc, hf⟩ := bcell hb
  have hz1 : w.heap.size + 1 < w1.heap.size := by
    have h9 := hb.size
    simp at h9
    omega
  have hc0 := fun o => hc w.heap.size o (by simp; try omega)
  have hc1 := fun o => hc (w.heap.size + 1) o (by simp; try omega)
  have HB1 := Lib.hid hb
  clear hc hf hb
  go_wp2_with fail
  refine (HQ.out _).mono ?_
  rintro e w2 ⟨rfl, hb⟩
  obtain ⟨hc, hf⟩ := bcell hb
  have hd0 := fun o => hc w.heap.size o (by omega)
  have hd1 := fun o => hc (w.heap.size + 1) o (by omega)
  have HB2 := Lib.hid (Below.trans HB1.out (hb.mono HB1.out.size))
  clear hc hf hb
  go_wp2
  all_goals first
    | contradiction
    | skip
  go_ret2
  refine ⟨rfl, ?_⟩
  · refine Below.trans ?_ (HB2.out.mono (by simp; try omega))
    repeat (first | (with_reducible exact Below.refl _ _) | (with_reducible refine Below.setCell ?_ (by first | (simp; done) | (simp; omega)) _) | (with_reducible refine Below.alloc ?_ (by first | (simp; done) | (simp; omega)) _) | (with_reducible refine pw_below_drewN ?_ _) | (with_reducible refine Below.drew ?_))
end Go.Proofs.Ytelpppmnakblmaa.Hand
