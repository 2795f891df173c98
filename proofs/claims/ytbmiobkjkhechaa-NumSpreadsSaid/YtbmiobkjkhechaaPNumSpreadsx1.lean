-- PRINTED BY print.sh 35421559b90ae4d0a3588c463048766b98c2df88dd9212a6774a882060cdf62d: not written by this session
import Derived.Test.YtbmiobkjkhechaaPNumSpreadsx0
namespace Go.Proofs.Ytbmiobkjkhechaa.PNumSpreads
open Go.RowKit Go.Proofs.YtbmiobkjkhechaaW.PrintWords Go.Proofs.YtbmiobkjkhechaaW.PrintLast Go.Proofs.YtbmiobkjkhechaaW.PrintMore
attribute [local go_sem] max2_int min2_int max_two min_two max_three min_three max_four min_four   -- for this text's walks alone
set_option linter.unusedVariables false
set_option linter.unusedSimpArgs false

/-! ### num_Add: function 9 -/
def num_Add.f (a0 : Int) (a1 : Int) : Option (Int × Bool) := if a1 > 0 then (if a0 > (wrap64 (9223372036854775807 - a1)) then (some (0, false)) else (if a1 < 0 then (if a0 < (wrap64 ((-9223372036854775808) - a1)) then (some (0, false)) else (some (wrap64 (a0 + a1), true))) else (some (wrap64 (a0 + a1), true)))) else (if a1 < 0 then (if a0 < (wrap64 ((-9223372036854775808) - a1)) then (some (0, false)) else (some (wrap64 (a0 + a1), true))) else (some (wrap64 (a0 + a1), true)))
set_option maxHeartbeats 8000000 in
set_option maxRecDepth 100000 in
theorem num_Add.calls (a0 : Int) (a1 : Int) (r1 : Int) (r2 : Bool) (w : World) (h : num_Add.f a0 a1 = some (r1, r2)) :
    Calls Try.prog 9 #[.int .i64 a0, .int .i64 a1] w fun e w' => e = .returned (.tuple #[.int .i64 r1, .bool r2]) ∧ Drawn0 w w' := by
  have H : (if a1 > 0 then (if a0 > (wrap64 (9223372036854775807 - a1)) then (some (0, false)) else (if a1 < 0 then (if a0 < (wrap64 ((-9223372036854775808) - a1)) then (some (0, false)) else (some (wrap64 (a0 + a1), true))) else (some (wrap64 (a0 + a1), true)))) else (if a1 < 0 then (if a0 < (wrap64 ((-9223372036854775808) - a1)) then (some (0, false)) else (some (wrap64 (a0 + a1), true))) else (some (wrap64 (a0 + a1), true)))) = some (r1, r2) := h
  clear h
  by_cases c3 : a1 > 0
  · rw [if_pos c3] at H
    have c3b0 : decide (0 < a1) = true := decide_eq_true c3
    clear c3
    by_cases c4 : a0 > (wrap64 (9223372036854775807 - a1))
    · rw [if_pos c4] at H
      have c4b0 : decide ((wrap64 (9223372036854775807 - a1)) < a0) = true := decide_eq_true c4
      clear c4
      simp only [Option.some.injEq, Prod.mk.injEq] at H
      obtain ⟨rfl, rfl⟩ := H
      go_enter Try.func9, Try.ntmps9
      go_wp2
      go_ret2
      exact ⟨by first | rfl | (simp; done) | (simp [*]; done), by repeat (first | exact Drawn0.refl _ | apply Drawn0.step)⟩
    · rw [if_neg c4] at H
      have c4b0 : decide ((wrap64 (9223372036854775807 - a1)) < a0) = false := decide_eq_false c4
      clear c4
      by_cases c5 : a1 < 0
      · rw [if_pos c5] at H
        have c5b0 : decide (a1 < 0) = true := decide_eq_true c5
        clear c5
        by_cases c6 : a0 < (wrap64 ((-9223372036854775808) - a1))
        · rw [if_pos c6] at H
          have c6b0 : decide (a0 < (wrap64 ((-9223372036854775808) - a1))) = true := decide_eq_true c6
          clear c6
          simp only [Option.some.injEq, Prod.mk.injEq] at H
          obtain ⟨rfl, rfl⟩ := H
          go_enter Try.func9, Try.ntmps9
          go_wp2
          go_ret2
          exact ⟨by first | rfl | (simp; done) | (simp [*]; done), by repeat (first | exact Drawn0.refl _ | apply Drawn0.step)⟩
        · rw [if_neg c6] at H
          have c6b0 : decide (a0 < (wrap64 ((-9223372036854775808) - a1))) = false := decide_eq_false c6
          clear c6
          simp only [Option.some.injEq, Prod.mk.injEq] at H
          obtain ⟨rfl, rfl⟩ := H
          go_enter Try.func9, Try.ntmps9
          go_wp2
          go_ret2
          exact ⟨by first | rfl | (simp; done) | (simp [*]; done), by repeat (first | exact Drawn0.refl _ | apply Drawn0.step)⟩
      · rw [if_neg c5] at H
        have c5b0 : decide (a1 < 0) = false := decide_eq_false c5
        clear c5
        simp only [Option.some.injEq, Prod.mk.injEq] at H
        obtain ⟨rfl, rfl⟩ := H
        go_enter Try.func9, Try.ntmps9
        go_wp2
        go_ret2
        exact ⟨by first | rfl | (simp; done) | (simp [*]; done), by repeat (first | exact Drawn0.refl _ | apply Drawn0.step)⟩
  · rw [if_neg c3] at H
    have c3b0 : decide (0 < a1) = false := decide_eq_false c3
    clear c3
    by_cases c7 : a1 < 0
    · rw [if_pos c7] at H
      have c7b0 : decide (a1 < 0) = true := decide_eq_true c7
      clear c7
      by_cases c8 : a0 < (wrap64 ((-9223372036854775808) - a1))
      · rw [if_pos c8] at H
        have c8b0 : decide (a0 < (wrap64 ((-9223372036854775808) - a1))) = true := decide_eq_true c8
        clear c8
        simp only [Option.some.injEq, Prod.mk.injEq] at H
        obtain ⟨rfl, rfl⟩ := H
        go_enter Try.func9, Try.ntmps9
        go_wp2
        go_ret2
        exact ⟨by first | rfl | (simp; done) | (simp [*]; done), by repeat (first | exact Drawn0.refl _ | apply Drawn0.step)⟩
      · rw [if_neg c8] at H
        have c8b0 : decide (a0 < (wrap64 ((-9223372036854775808) - a1))) = false := decide_eq_false c8
        clear c8
        simp only [Option.some.injEq, Prod.mk.injEq] at H
        obtain ⟨rfl, rfl⟩ := H
        go_enter Try.func9, Try.ntmps9
        go_wp2
        go_ret2
        exact ⟨by first | rfl | (simp; done) | (simp [*]; done), by repeat (first | exact Drawn0.refl _ | apply Drawn0.step)⟩
    · rw [if_neg c7] at H
      have c7b0 : decide (a1 < 0) = false := decide_eq_false c7
      clear c7
      simp only [Option.some.injEq, Prod.mk.injEq] at H
      obtain ⟨rfl, rfl⟩ := H
      go_enter Try.func9, Try.ntmps9
      go_wp2
      go_ret2
      exact ⟨by first | rfl | (simp; done) | (simp [*]; done), by repeat (first | exact Drawn0.refl _ | apply Drawn0.step)⟩

/-! ### num_Neg: function 19 -/
def num_Neg.f (a0 : Int) : Option (Int × Bool) := if a0 = (-9223372036854775808) then (some (0, false)) else (some (wrap64 (-a0), true))
set_option maxHeartbeats 8000000 in
set_option maxRecDepth 100000 in
theorem num_Neg.calls (a0 : Int) (r1 : Int) (r2 : Bool) (w : World) (h : num_Neg.f a0 = some (r1, r2)) :
    Calls Try.prog 19 #[.int .i64 a0] w fun e w' => e = .returned (.tuple #[.int .i64 r1, .bool r2]) ∧ Drawn0 w w' := by
  have H : (if a0 = (-9223372036854775808) then (some (0, false)) else (some (wrap64 (-a0), true))) = some (r1, r2) := h
  clear h
  by_cases c2 : a0 = (-9223372036854775808)
  · rw [if_pos c2] at H
    have c2b0 : (a0 == (-9223372036854775808)) = true := beq_iff_eq.mpr c2
    have c2b1 : (a0 != (-9223372036854775808)) = false := bne_eq_false_iff_eq.mpr c2
    clear c2
    simp only [Option.some.injEq, Prod.mk.injEq] at H
    obtain ⟨rfl, rfl⟩ := H
    go_enter Try.func19, Try.ntmps19
    go_wp2
    go_ret2
    exact ⟨by first | rfl | (simp; done) | (simp [*]; done), by repeat (first | exact Drawn0.refl _ | apply Drawn0.step)⟩
  · rw [if_neg c2] at H
    have c2b0 : (a0 == (-9223372036854775808)) = false := beq_eq_false_iff_ne.mpr c2
    have c2b1 : (a0 != (-9223372036854775808)) = true := bne_iff_ne.mpr c2
    simp only [Option.some.injEq, Prod.mk.injEq] at H
    obtain ⟨rfl, rfl⟩ := H
    go_enter Try.func19, Try.ntmps19
    go_wp2
    go_ret2
    exact ⟨by first | rfl | (simp; done) | (simp [*]; done), by repeat (first | exact Drawn0.refl _ | apply Drawn0.step)⟩

/-! ### num_Mul: function 17 -/
def num_Mul.j0 : Nat → Int → Int → Bool → Option (Int × Bool)
  | 0, _, _, _ => none
  | k + 1, x0, x1, x12 => if x12 = true then (some (0, true)) else (if x0 = (-1) then ((num_Neg.f x1).bind fun bt101 => (some (bt101.1, bt101.2))) else (if x0 = 0 then (none) else (if (wrap64 (Int.tdiv (wrap64 (x0 * x1)) x0)) = x1 then (some (wrap64 (x0 * x1), true)) else (some (0, false)))))
def num_Mul.f (k : Nat) (a0 : Int) (a1 : Int) : Option (Int × Bool) := if a0 = 0 then (num_Mul.j0 k a0 a1 true) else (num_Mul.j0 k a0 a1 (a1 == 0))
theorem num_Mul.mono_l : ∀ k, (∀ y0 y1 y2, LeO (num_Mul.j0 k y0 y1 y2) (num_Mul.j0 (k + 1) y0 y1 y2))
  | 0 => fun _ _ _ r h => by simp [num_Mul.j0] at h
  | k + 1 => by
    have ih0 := num_Mul.mono_l k
    · intro y0 y1 y2
      unfold num_Mul.j0
      repeat' first
      | (with_reducible exact ih0 _ _ _)
      | (with_reducible exact LeO.refl _)
      | (with_reducible exact LeO.none _)
      | (with_reducible refine LeO.ite ?_ ?_)
      | (with_reducible refine LeO.bind ?_ (fun _ => ?_))
      | exact ih0 _ _ _
      | exact LeO.none _
      | refine LeO.ite ?_ ?_
      | refine LeO.bind ?_ (fun _ => ?_)
theorem num_Mul.mono : ∀ a0 a1 k, LeO (num_Mul.f k a0 a1) (num_Mul.f (k + 1) a0 a1) := by
  intro a0 a1 k
  have ih0 := num_Mul.mono_l k
  unfold num_Mul.f
  repeat' first
      | (with_reducible exact ih0 _ _ _)
      | (with_reducible exact LeO.refl _)
      | (with_reducible exact LeO.none _)
      | (with_reducible refine LeO.ite ?_ ?_)
      | (with_reducible refine LeO.bind ?_ (fun _ => ?_))
      | exact ih0 _ _ _
      | exact LeO.none _
      | refine LeO.ite ?_ ?_
      | refine LeO.bind ?_ (fun _ => ?_)
set_option maxHeartbeats 8000000 in
set_option maxRecDepth 100000 in
theorem num_Mul.calls (k : Nat) (a0 : Int) (a1 : Int) (r1 : Int) (r2 : Bool) (w : World) (h : num_Mul.f k a0 a1 = some (r1, r2)) :
    Calls Try.prog 17 #[.int .i64 a0, .int .i64 a1] w fun e w' => e = .returned (.tuple #[.int .i64 r1, .bool r2]) ∧ Drawn0 w w' := by
  have H : (if a0 = 0 then (num_Mul.j0 k a0 a1 true) else (num_Mul.j0 k a0 a1 (a1 == 0))) = some (r1, r2) := h
  clear h
  have HC3 := Aside0.mk H
  clear H
  go_enter Try.func17, Try.ntmps17
  go_upto_region 1 with (fail)
  go_cut [12] (fun v12 wc => ∃ (kq : Nat) (x12_2 : Bool), v12 = .bool x12_2 ∧ Aside0 (num_Mul.j0 kq a0 a1 x12_2 = some (r1, r2)) ∧ Aside0 (kq ≤ k) ∧ Drawn0 w wc)
  case first =>
    have H := HC3.out
    clear HC3
    by_cases c4 : a0 = 0
    · rw [if_pos c4] at H
      have c4b0 : (a0 == 0) = true := beq_iff_eq.mpr c4
      have c4b1 : (a0 != 0) = false := bne_eq_false_iff_eq.mpr c4
      clear c4
      (first | rw [c4b0] | (simp only [i64_w, i32_w]; rw [c4b0]) | skip)
      have H' := Aside0.mk H
      clear H
      go_wp2
      go_meet
      case rel => exact ⟨_, (true), (by first | rfl | (simp; done) | (simp [*]; done)), H', ⟨by first | omega | exact Nat.le_refl _⟩, by repeat (first | exact Drawn0.refl _ | apply Drawn0.step)⟩
    · rw [if_neg c4] at H
      have c4b0 : (a0 == 0) = false := beq_eq_false_iff_ne.mpr c4
      have c4b1 : (a0 != 0) = true := bne_iff_ne.mpr c4
      (first | rw [c4b0] | (simp only [i64_w, i32_w]; rw [c4b0]) | skip)
      have H' := Aside0.mk H
      clear H
      go_wp2
      go_meet
      case rel => exact ⟨_, ((a1 == 0)), (by first | rfl | (simp; done) | (simp [*]; done)), H', ⟨by first | omega | exact Nat.le_refl _⟩, by repeat (first | exact Drawn0.refl _ | apply Drawn0.step)⟩
  case rest =>
    clear HC3
    try clear c1
    try clear p2
    try clear c4
    try clear c4b0
    try clear c4b1
    obtain ⟨kq, x12_2, rfl, HA, HJ2, ⟨mc2, rfl⟩⟩ := hcut
    cases kq with
    | zero => exact absurd HA.out (by simp [num_Mul.j0])
    | succ kj2 =>
      have H := HA.out
      clear HA
      simp only [num_Mul.j0] at H
      by_cases c5 : x12_2 = true
      · subst c5
        have H1 : (some (0, true)) = some (r1, r2) := by rw [if_pos rfl] at H; exact H
        clear H
        have H := H1
        clear H1
        simp only [Option.some.injEq, Prod.mk.injEq] at H
        obtain ⟨rfl, rfl⟩ := H
        go_wp2
        go_ret2
        exact ⟨by first | rfl | (simp; done) | (simp [*]; done), by repeat (first | exact Drawn0.refl _ | apply Drawn0.step)⟩
      · replace c5 := Bool.eq_false_iff.mpr c5
        subst c5
        have H1 : (if a0 = (-1) then ((num_Neg.f a1).bind fun bt101 => (some (bt101.1, bt101.2))) else (if a0 = 0 then (none) else (if (wrap64 (Int.tdiv (wrap64 (a0 * a1)) a0)) = a1 then (some (wrap64 (a0 * a1), true)) else (some (0, false))))) = some (r1, r2) := by rw [if_neg (show ¬ (false = true) by decide)] at H; exact H
        clear H
        have H := H1
        clear H1
        by_cases c6 : a0 = (-1)
        · rw [if_pos c6] at H
          have c6b0 : (a0 == (-1)) = true := beq_iff_eq.mpr c6
          have c6b1 : (a0 != (-1)) = false := bne_eq_false_iff_eq.mpr c6
          clear c6
          replace H := Option.bind_eq_some_iff.mp H
          obtain ⟨⟨t101, t102⟩, A70, H⟩ := H
          replace H : (some (t101, t102)) = some (r1, r2) := H
          have A7 := Aside0.mk A70
          clear A70
          simp only [Option.some.injEq, Prod.mk.injEq] at H
          obtain ⟨rfl, rfl⟩ := H
          go_wp2_with (first | ((with_reducible refine gate_callee (f := 19) rfl ?_); refine goesL_ (some 16) rfl rfl Try.func19 (by kernel_rfl) rfl #[.int .i64 a1] rfl (by (try simp only [List.map_toArray, List.map_cons, List.map_nil]); first | done | rfl | (simp only [List.length_drop, List.length_take]; rfl)) ?_; (with_reducible refine (num_Neg.calls a1 t101 t102 _ A7.out).mono ?_); rintro e w' ⟨rfl, ⟨nd, rfl⟩⟩; refine ⟨_, rfl, ?_⟩))
          go_ret2
          exact ⟨by first | rfl | (simp; done) | (simp [*]; done), by repeat (first | exact Drawn0.refl _ | apply Drawn0.step)⟩
        · rw [if_neg c6] at H
          have c6b0 : (a0 == (-1)) = false := beq_eq_false_iff_ne.mpr c6
          have c6b1 : (a0 != (-1)) = true := bne_iff_ne.mpr c6
          by_cases c8 : a0 = 0
          · rw [if_pos c8] at H
            exact absurd H (by simp)
          · rw [if_neg c8] at H
            have c8b0 : (a0 == 0) = false := beq_eq_false_iff_ne.mpr c8
            have c8b1 : (a0 != 0) = true := bne_iff_ne.mpr c8
            by_cases c9 : (wrap64 (Int.tdiv (wrap64 (a0 * a1)) a0)) = a1
            · rw [if_pos c9] at H
              have c9b0 : ((wrap64 (Int.tdiv (wrap64 (a0 * a1)) a0)) == a1) = true := beq_iff_eq.mpr c9
              have c9b1 : ((wrap64 (Int.tdiv (wrap64 (a0 * a1)) a0)) != a1) = false := bne_eq_false_iff_eq.mpr c9
              clear c9
              simp only [Option.some.injEq, Prod.mk.injEq] at H
              obtain ⟨rfl, rfl⟩ := H
              go_wp2
              go_ret2
              exact ⟨by first | rfl | (simp; done) | (simp [*]; done), by repeat (first | exact Drawn0.refl _ | apply Drawn0.step)⟩
            · rw [if_neg c9] at H
              have c9b0 : ((wrap64 (Int.tdiv (wrap64 (a0 * a1)) a0)) == a1) = false := beq_eq_false_iff_ne.mpr c9
              have c9b1 : ((wrap64 (Int.tdiv (wrap64 (a0 * a1)) a0)) != a1) = true := bne_iff_ne.mpr c9
              simp only [Option.some.injEq, Prod.mk.injEq] at H
              obtain ⟨rfl, rfl⟩ := H
              go_wp2
              go_ret2
              exact ⟨by first | rfl | (simp; done) | (simp [*]; done), by repeat (first | exact Drawn0.refl _ | apply Drawn0.step)⟩

/-! ### sojournlaw01_NumSpreads: function 6 -/
mutual
def sojournlaw01_NumSpreads.j0 : Nat → Int → Int → Bool → Int → Bool → Int → Bool → Bool → Option (Bool)
  | 0, _, _, _, _, _, _, _, _ => none
  | k + 1, x2, x7, x8, x9, x10, x11, x12, x45 => if x45 = true then (some false) else (if x8 = true then (if x10 = true then (sojournlaw01_NumSpreads.j1 k x2 x7 x9 x11 (!x12)) else (sojournlaw01_NumSpreads.j1 k x2 x7 x9 x11 true)) else (sojournlaw01_NumSpreads.j1 k x2 x7 x9 x11 true))
def sojournlaw01_NumSpreads.j1 : Nat → Int → Int → Int → Int → Bool → Option (Bool)
  | 0, _, _, _, _, _ => none
  | k + 1, x2, x7, x9, x11, x55 => if x55 = true then (some true) else ((num_Mul.f k x7 x2).bind fun bt111 => ((num_Add.f x9 x11).bind fun bt113 => (if (bt111.2 == bt113.2) = true then (some (bt111.1 == bt113.1)) else (some false))))
end
def sojournlaw01_NumSpreads.f (k : Nat) (a0 : Int) (a1 : Int) (a2 : Int) : Option (Bool) := (num_Add.f a0 a1).bind fun bt103 => ((num_Mul.f k a0 a2).bind fun bt105 => ((num_Mul.f k a1 a2).bind fun bt107 => ((num_Add.f 1 1).bind fun bt109 => (if bt109.2 = true then (sojournlaw01_NumSpreads.j0 k a2 bt103.1 bt103.2 bt105.1 bt105.2 bt107.1 bt107.2 (bt109.1 != 2)) else (sojournlaw01_NumSpreads.j0 k a2 bt103.1 bt103.2 bt105.1 bt105.2 bt107.1 bt107.2 true)))))
theorem sojournlaw01_NumSpreads.mono_l : ∀ k, (∀ y0 y1 y2 y3 y4 y5 y6 y7, LeO (sojournlaw01_NumSpreads.j0 k y0 y1 y2 y3 y4 y5 y6 y7) (sojournlaw01_NumSpreads.j0 (k + 1) y0 y1 y2 y3 y4 y5 y6 y7)) ∧ (∀ y0 y1 y2 y3 y4, LeO (sojournlaw01_NumSpreads.j1 k y0 y1 y2 y3 y4) (sojournlaw01_NumSpreads.j1 (k + 1) y0 y1 y2 y3 y4))
  | 0 => ⟨fun _ _ _ _ _ _ _ _ r h => by simp [sojournlaw01_NumSpreads.j0] at h, fun _ _ _ _ _ r h => by simp [sojournlaw01_NumSpreads.j1] at h⟩
  | k + 1 => by
    obtain ⟨ih0, ih1⟩ := sojournlaw01_NumSpreads.mono_l k
    refine ⟨?_, ?_⟩
    · intro y0 y1 y2 y3 y4 y5 y6 y7
      unfold sojournlaw01_NumSpreads.j0
      repeat' first
      | (with_reducible exact ih0 _ _ _ _ _ _ _ _)
      | (with_reducible exact ih1 _ _ _ _ _)
      | (with_reducible exact num_Mul.mono _ _ _)
      | (with_reducible exact LeO.refl _)
      | (with_reducible exact LeO.none _)
      | (with_reducible refine LeO.ite ?_ ?_)
      | (with_reducible refine LeO.bind ?_ (fun _ => ?_))
      | exact ih0 _ _ _ _ _ _ _ _
      | exact ih1 _ _ _ _ _
      | exact num_Mul.mono _ _ _
      | exact LeO.none _
      | refine LeO.ite ?_ ?_
      | refine LeO.bind ?_ (fun _ => ?_)
    · intro y0 y1 y2 y3 y4
      unfold sojournlaw01_NumSpreads.j1
      repeat' first
      | (with_reducible exact ih0 _ _ _ _ _ _ _ _)
      | (with_reducible exact ih1 _ _ _ _ _)
      | (with_reducible exact num_Mul.mono _ _ _)
      | (with_reducible exact LeO.refl _)
      | (with_reducible exact LeO.none _)
      | (with_reducible refine LeO.ite ?_ ?_)
      | (with_reducible refine LeO.bind ?_ (fun _ => ?_))
      | exact ih0 _ _ _ _ _ _ _ _
      | exact ih1 _ _ _ _ _
      | exact num_Mul.mono _ _ _
      | exact LeO.none _
      | refine LeO.ite ?_ ?_
      | refine LeO.bind ?_ (fun _ => ?_)
theorem sojournlaw01_NumSpreads.mono : ∀ a0 a1 a2 k, LeO (sojournlaw01_NumSpreads.f k a0 a1 a2) (sojournlaw01_NumSpreads.f (k + 1) a0 a1 a2) := by
  intro a0 a1 a2 k
  obtain ⟨ih0, ih1⟩ := sojournlaw01_NumSpreads.mono_l k
  unfold sojournlaw01_NumSpreads.f
  repeat' first
      | (with_reducible exact ih0 _ _ _ _ _ _ _ _)
      | (with_reducible exact ih1 _ _ _ _ _)
      | (with_reducible exact num_Mul.mono _ _ _)
      | (with_reducible exact LeO.refl _)
      | (with_reducible exact LeO.none _)
      | (with_reducible refine LeO.ite ?_ ?_)
      | (with_reducible refine LeO.bind ?_ (fun _ => ?_))
      | exact ih0 _ _ _ _ _ _ _ _
      | exact ih1 _ _ _ _ _
      | exact num_Mul.mono _ _ _
      | exact LeO.none _
      | refine LeO.ite ?_ ?_
      | refine LeO.bind ?_ (fun _ => ?_)
set_option maxHeartbeats 8000000 in
set_option maxRecDepth 100000 in
theorem sojournlaw01_NumSpreads.calls (k : Nat) (a0 : Int) (a1 : Int) (a2 : Int) (r : Bool) (w : World) (h : sojournlaw01_NumSpreads.f k a0 a1 a2 = some r) :
    Calls Try.prog 6 #[.int .i64 a0, .int .i64 a1, .int .i64 a2] w fun e w' => e = .returned (.bool r) ∧ Drawn0 w w' := by
  have H : ((num_Add.f a0 a1).bind fun bt103 => ((num_Mul.f k a0 a2).bind fun bt105 => ((num_Mul.f k a1 a2).bind fun bt107 => ((num_Add.f 1 1).bind fun bt109 => (if bt109.2 = true then (sojournlaw01_NumSpreads.j0 k a2 bt103.1 bt103.2 bt105.1 bt105.2 bt107.1 bt107.2 (bt109.1 != 2)) else (sojournlaw01_NumSpreads.j0 k a2 bt103.1 bt103.2 bt105.1 bt105.2 bt107.1 bt107.2 true)))))) = some r := h
  clear h
  replace H := Option.bind_eq_some_iff.mp H
  obtain ⟨⟨t103, t104⟩, A40, H⟩ := H
  replace H : ((num_Mul.f k a0 a2).bind fun bt105 => ((num_Mul.f k a1 a2).bind fun bt107 => ((num_Add.f 1 1).bind fun bt109 => (if bt109.2 = true then (sojournlaw01_NumSpreads.j0 k a2 t103 t104 bt105.1 bt105.2 bt107.1 bt107.2 (bt109.1 != 2)) else (sojournlaw01_NumSpreads.j0 k a2 t103 t104 bt105.1 bt105.2 bt107.1 bt107.2 true))))) = some r := H
  have A4 := Aside0.mk A40
  clear A40
  replace H := Option.bind_eq_some_iff.mp H
  obtain ⟨⟨t105, t106⟩, A50, H⟩ := H
  replace H : ((num_Mul.f k a1 a2).bind fun bt107 => ((num_Add.f 1 1).bind fun bt109 => (if bt109.2 = true then (sojournlaw01_NumSpreads.j0 k a2 t103 t104 t105 t106 bt107.1 bt107.2 (bt109.1 != 2)) else (sojournlaw01_NumSpreads.j0 k a2 t103 t104 t105 t106 bt107.1 bt107.2 true)))) = some r := H
  have A5 := Aside0.mk A50
  clear A50
  replace H := Option.bind_eq_some_iff.mp H
  obtain ⟨⟨t107, t108⟩, A60, H⟩ := H
  replace H : ((num_Add.f 1 1).bind fun bt109 => (if bt109.2 = true then (sojournlaw01_NumSpreads.j0 k a2 t103 t104 t105 t106 t107 t108 (bt109.1 != 2)) else (sojournlaw01_NumSpreads.j0 k a2 t103 t104 t105 t106 t107 t108 true))) = some r := H
  have A6 := Aside0.mk A60
  clear A60
  replace H := Option.bind_eq_some_iff.mp H
  obtain ⟨⟨t109, t110⟩, A70, H⟩ := H
  replace H : (if t110 = true then (sojournlaw01_NumSpreads.j0 k a2 t103 t104 t105 t106 t107 t108 (t109 != 2)) else (sojournlaw01_NumSpreads.j0 k a2 t103 t104 t105 t106 t107 t108 true)) = some r := H
  have A7 := Aside0.mk A70
  clear A70
  have HC8 := Aside0.mk H
  clear H
  go_enter Try.func6, Try.ntmps6
  go_upto_region 5 with (first | ((with_reducible refine gate_callee (f := 9) rfl ?_); refine goesL_ (some 21) rfl rfl Try.func9 (by kernel_rfl) rfl #[.int .i64 a0, .int .i64 a1] rfl (by (try simp only [List.map_toArray, List.map_cons, List.map_nil]); first | done | rfl | (simp only [List.length_drop, List.length_take]; rfl)) ?_; (with_reducible refine (num_Add.calls a0 a1 t103 t104 _ A4.out).mono ?_); rintro e w' ⟨rfl, ⟨nd, rfl⟩⟩; refine ⟨_, rfl, ?_⟩) | ((with_reducible refine gate_callee (f := 17) rfl ?_); refine goesL_ (some 27) rfl rfl Try.func17 (by kernel_rfl) rfl #[.int .i64 a0, .int .i64 a2] rfl (by (try simp only [List.map_toArray, List.map_cons, List.map_nil]); first | done | rfl | (simp only [List.length_drop, List.length_take]; rfl)) ?_; (with_reducible refine (num_Mul.calls k a0 a2 t105 t106 _ A5.out).mono ?_); rintro e w' ⟨rfl, ⟨nd, rfl⟩⟩; refine ⟨_, rfl, ?_⟩) | ((with_reducible refine gate_callee (f := 17) rfl ?_); refine goesL_ (some 33) rfl rfl Try.func17 (by kernel_rfl) rfl #[.int .i64 a1, .int .i64 a2] rfl (by (try simp only [List.map_toArray, List.map_cons, List.map_nil]); first | done | rfl | (simp only [List.length_drop, List.length_take]; rfl)) ?_; (with_reducible refine (num_Mul.calls k a1 a2 t107 t108 _ A6.out).mono ?_); rintro e w' ⟨rfl, ⟨nd, rfl⟩⟩; refine ⟨_, rfl, ?_⟩) | ((with_reducible refine gate_callee (f := 9) rfl ?_); refine goesL_ (some 37) rfl rfl Try.func9 (by kernel_rfl) rfl #[.int .i64 1, .int .i64 1] rfl (by (try simp only [List.map_toArray, List.map_cons, List.map_nil]); first | done | rfl | (simp only [List.length_drop, List.length_take]; rfl)) ?_; (with_reducible refine (num_Add.calls 1 1 t109 t110 _ A7.out).mono ?_); rintro e w' ⟨rfl, ⟨nd, rfl⟩⟩; refine ⟨_, rfl, ?_⟩))
  (try simp only [Act.put, List.setIfInBounds_toArray, List.set_cons_zero, List.set_cons_succ])
  go_cut [45] (fun v45 wc => ∃ (kq : Nat) (x45_7 : Bool), v45 = .bool x45_7 ∧ Aside0 (sojournlaw01_NumSpreads.j0 kq a2 t103 t104 t105 t106 t107 t108 x45_7 = some r) ∧ Aside0 (kq ≤ k) ∧ Drawn0 w wc)
  case first =>
    have H := HC8.out
    clear HC8
    by_cases c9 : t110 = true
    · subst c9
      have H1 : (sojournlaw01_NumSpreads.j0 k a2 t103 t104 t105 t106 t107 t108 (t109 != 2)) = some r := by rw [if_pos rfl] at H; exact H
      clear H
      have H := H1
      clear H1
      have H' := Aside0.mk H
      clear H
      go_wp2
      go_meet
      case rel => exact ⟨_, ((t109 != 2)), (by first | rfl | (simp; done) | (simp [*]; done)), H', ⟨by first | omega | exact Nat.le_refl _⟩, by repeat (first | exact Drawn0.refl _ | apply Drawn0.step)⟩
    · replace c9 := Bool.eq_false_iff.mpr c9
      subst c9
      have H1 : (sojournlaw01_NumSpreads.j0 k a2 t103 t104 t105 t106 t107 t108 true) = some r := by rw [if_neg (show ¬ (false = true) by decide)] at H; exact H
      clear H
      have H := H1
      clear H1
      have H' := Aside0.mk H
      clear H
      go_wp2
      go_meet
      case rel => exact ⟨_, (true), (by first | rfl | (simp; done) | (simp [*]; done)), H', ⟨by first | omega | exact Nat.le_refl _⟩, by repeat (first | exact Drawn0.refl _ | apply Drawn0.step)⟩
  case rest =>
    clear HC8
    try clear c1
    try clear p2
    try clear c6
    try clear c9
    obtain ⟨kq, x45_7, rfl, HA, HJ7, ⟨mc7, rfl⟩⟩ := hcut
    cases kq with
    | zero => exact absurd HA.out (by simp [sojournlaw01_NumSpreads.j0])
    | succ kj7 =>
      have H := HA.out
      clear HA
      simp only [sojournlaw01_NumSpreads.j0] at H
      by_cases c10 : x45_7 = true
      · subst c10
        have H1 : (some false) = some r := by rw [if_pos rfl] at H; exact H
        clear H
        have H := H1
        clear H1
        obtain rfl := Option.some.inj H
        go_wp2
        go_ret
        exact ⟨by first | rfl | (simp; done) | (simp [*]; done), by repeat (first | exact Drawn0.refl _ | apply Drawn0.step)⟩
      · replace c10 := Bool.eq_false_iff.mpr c10
        subst c10
        have H1 : (if t104 = true then (if t106 = true then (sojournlaw01_NumSpreads.j1 kj7 a2 t103 t105 t107 (!t108)) else (sojournlaw01_NumSpreads.j1 kj7 a2 t103 t105 t107 true)) else (sojournlaw01_NumSpreads.j1 kj7 a2 t103 t105 t107 true)) = some r := by rw [if_neg (show ¬ (false = true) by decide)] at H; exact H
        clear H
        have H := H1
        clear H1
        have HC11 := Aside0.mk H
        clear H
        go_upto_region 7 with (fail)
        go_cut [55] (fun v55 wc => ∃ (kq : Nat) (x55_10 : Bool), v55 = .bool x55_10 ∧ Aside0 (sojournlaw01_NumSpreads.j1 kq a2 t103 t105 t107 x55_10 = some r) ∧ Aside0 (kq ≤ kj7) ∧ Drawn0 w wc)
        case first =>
          have H := HC11.out
          clear HC11
          by_cases c12 : t104 = true
          · subst c12
            have H1 : (if t106 = true then (sojournlaw01_NumSpreads.j1 kj7 a2 t103 t105 t107 (!t108)) else (sojournlaw01_NumSpreads.j1 kj7 a2 t103 t105 t107 true)) = some r := by rw [if_pos rfl] at H; exact H
            clear H
            have H := H1
            clear H1
            by_cases c13 : t106 = true
            · subst c13
              have H1 : (sojournlaw01_NumSpreads.j1 kj7 a2 t103 t105 t107 (!t108)) = some r := by rw [if_pos rfl] at H; exact H
              clear H
              have H := H1
              clear H1
              have H' := Aside0.mk H
              clear H
              go_wp2
              go_meet
              case rel => exact ⟨_, (!t108), (by first | rfl | (simp; done) | (simp [*]; done)), H', ⟨by have := HJ7.out; first | omega | exact Nat.le_refl _⟩, by repeat (first | exact Drawn0.refl _ | apply Drawn0.step)⟩
            · replace c13 := Bool.eq_false_iff.mpr c13
              subst c13
              have H1 : (sojournlaw01_NumSpreads.j1 kj7 a2 t103 t105 t107 true) = some r := by rw [if_neg (show ¬ (false = true) by decide)] at H; exact H
              clear H
              have H := H1
              clear H1
              have H' := Aside0.mk H
              clear H
              go_wp2
              go_meet
              case rel => exact ⟨_, (true), (by first | rfl | (simp; done) | (simp [*]; done)), H', ⟨by have := HJ7.out; first | omega | exact Nat.le_refl _⟩, by repeat (first | exact Drawn0.refl _ | apply Drawn0.step)⟩
          · replace c12 := Bool.eq_false_iff.mpr c12
            subst c12
            have H1 : (sojournlaw01_NumSpreads.j1 kj7 a2 t103 t105 t107 true) = some r := by rw [if_neg (show ¬ (false = true) by decide)] at H; exact H
            clear H
            have H := H1
            clear H1
            have H' := Aside0.mk H
            clear H
            go_wp2
            go_meet
            case rel => exact ⟨_, (true), (by first | rfl | (simp; done) | (simp [*]; done)), H', ⟨by have := HJ7.out; first | omega | exact Nat.le_refl _⟩, by repeat (first | exact Drawn0.refl _ | apply Drawn0.step)⟩
        case rest =>
          clear HC11
          try clear c1
          try clear p2
          try clear c6
          try clear c7
          try clear c9
          try clear c10
          try clear c12
          try clear c13
          try clear p2
          obtain ⟨kq, x55_10, rfl, HA, HJ10, ⟨mc10, rfl⟩⟩ := hcut
          cases kq with
          | zero => exact absurd HA.out (by simp [sojournlaw01_NumSpreads.j1])
          | succ kj10 =>
            have H := HA.out
            clear HA
            simp only [sojournlaw01_NumSpreads.j1] at H
            by_cases c14 : x55_10 = true
            · subst c14
              have H1 : (some true) = some r := by rw [if_pos rfl] at H; exact H
              clear H
              have H := H1
              clear H1
              obtain rfl := Option.some.inj H
              go_wp2
              go_ret
              exact ⟨by first | rfl | (simp; done) | (simp [*]; done), by repeat (first | exact Drawn0.refl _ | apply Drawn0.step)⟩
            · replace c14 := Bool.eq_false_iff.mpr c14
              subst c14
              have H1 : ((num_Mul.f kj10 t103 a2).bind fun bt111 => ((num_Add.f t105 t107).bind fun bt113 => (if (bt111.2 == bt113.2) = true then (some (bt111.1 == bt113.1)) else (some false)))) = some r := by rw [if_neg (show ¬ (false = true) by decide)] at H; exact H
              clear H
              have H := H1
              clear H1
              replace H := Option.bind_eq_some_iff.mp H
              obtain ⟨⟨t111, t112⟩, A150, H⟩ := H
              replace H : ((num_Add.f t105 t107).bind fun bt113 => (if (t112 == bt113.2) = true then (some (t111 == bt113.1)) else (some false))) = some r := H
              have A15 := Aside0.mk A150
              clear A150
              replace H := Option.bind_eq_some_iff.mp H
              obtain ⟨⟨t113, t114⟩, A160, H⟩ := H
              replace H : (if (t112 == t114) = true then (some (t111 == t113)) else (some false)) = some r := H
              have A16 := Aside0.mk A160
              clear A160
              by_cases c17 : (t112 == t114) = true
              · rw [if_pos c17] at H
                have c17b0 : (t112 == t114) = true := c17
                (try (have c17b1 : decide (t112 = t114) = true := by simpa using c17))
                (try (have c17b2 : (t112 == t114) = true := by simpa using c17))
                clear c17
                obtain rfl := Option.some.inj H
                go_wp2_with (first | ((with_reducible refine gate_callee (f := 17) rfl ?_); refine goesL_ (some 59) rfl rfl Try.func17 (by kernel_rfl) rfl #[.int .i64 t103, .int .i64 a2] rfl (by (try simp only [List.map_toArray, List.map_cons, List.map_nil]); first | done | rfl | (simp only [List.length_drop, List.length_take]; rfl)) ?_; (with_reducible refine (num_Mul.calls kj10 t103 a2 t111 t112 _ A15.out).mono ?_); rintro e w' ⟨rfl, ⟨nd, rfl⟩⟩; refine ⟨_, rfl, ?_⟩) | ((with_reducible refine gate_callee (f := 9) rfl ?_); refine goesL_ (some 65) rfl rfl Try.func9 (by kernel_rfl) rfl #[.int .i64 t105, .int .i64 t107] rfl (by (try simp only [List.map_toArray, List.map_cons, List.map_nil]); first | done | rfl | (simp only [List.length_drop, List.length_take]; rfl)) ?_; (with_reducible refine (num_Add.calls t105 t107 t113 t114 _ A16.out).mono ?_); rintro e w' ⟨rfl, ⟨nd, rfl⟩⟩; refine ⟨_, rfl, ?_⟩))
                go_ret
                exact ⟨by first | rfl | (simp; done) | (simp [*]; done), by repeat (first | exact Drawn0.refl _ | apply Drawn0.step)⟩
              · rw [if_neg c17] at H
                have c17b0 : (t112 == t114) = false := by simpa using c17
                (try (have c17b1 : decide (t112 = t114) = false := by simpa using c17))
                (try (have c17b2 : (t112 == t114) = false := by simpa using c17))
                (try (have c17b3 : ¬ (t112 = t114) := by simpa using c17))
                clear c17
                obtain rfl := Option.some.inj H
                go_wp2_with (first | ((with_reducible refine gate_callee (f := 17) rfl ?_); refine goesL_ (some 59) rfl rfl Try.func17 (by kernel_rfl) rfl #[.int .i64 t103, .int .i64 a2] rfl (by (try simp only [List.map_toArray, List.map_cons, List.map_nil]); first | done | rfl | (simp only [List.length_drop, List.length_take]; rfl)) ?_; (with_reducible refine (num_Mul.calls kj10 t103 a2 t111 t112 _ A15.out).mono ?_); rintro e w' ⟨rfl, ⟨nd, rfl⟩⟩; refine ⟨_, rfl, ?_⟩) | ((with_reducible refine gate_callee (f := 9) rfl ?_); refine goesL_ (some 65) rfl rfl Try.func9 (by kernel_rfl) rfl #[.int .i64 t105, .int .i64 t107] rfl (by (try simp only [List.map_toArray, List.map_cons, List.map_nil]); first | done | rfl | (simp only [List.length_drop, List.length_take]; rfl)) ?_; (with_reducible refine (num_Add.calls t105 t107 t113 t114 _ A16.out).mono ?_); rintro e w' ⟨rfl, ⟨nd, rfl⟩⟩; refine ⟨_, rfl, ?_⟩))
                go_ret
                exact ⟨by first | rfl | (simp; done) | (simp [*]; done), by repeat (first | exact Drawn0.refl _ | apply Drawn0.step)⟩

/-- THE ONE PURE STATEMENT of sojournlaw01_NumSpreads: yours. -/
def sojournlaw01_NumSpreads.Pure : Prop := ∀ (a0 : Int) (a1 : Int) (a2 : Int), (Lit.int .i64 a0).wf = true → (Lit.int .i64 a1).wf = true → (Lit.int .i64 a2).wf = true → ∃ k, sojournlaw01_NumSpreads.f k a0 a1 a2 = some true
theorem sojournlaw01_NumSpreads.walk (P : sojournlaw01_NumSpreads.Pure) (a0 : Int) (a1 : Int) (a2 : Int) (w : World) (w0 : (Lit.int .i64 a0).wf = true) (w1 : (Lit.int .i64 a1).wf = true) (w2 : (Lit.int .i64 a2).wf = true) :
    Calls Try.prog 6 #[.int .i64 a0, .int .i64 a1, .int .i64 a2] w fun e w' => e = .returned (.bool true) ∧ Below w.heap.size w w' := by
  obtain ⟨k, h⟩ := P a0 a1 a2 w0 w1 w2
  refine (sojournlaw01_NumSpreads.calls k a0 a1 a2 true w h).mono ?_
  rintro e w' ⟨rfl, hd⟩
  exact ⟨rfl, hd.below⟩

end Go.Proofs.Ytbmiobkjkhechaa.PNumSpreads
