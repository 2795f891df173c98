-- PRINTED by print.py (a twelfth state) out of the translation. Not trusted: Lean checks it.
import Derived.Test.YtagifiakjniedaaPTabx0
namespace Go.Proofs.Ytagifiakjniedaa.PTab
open Go.RowKit Go.Proofs.YtagifiakjniedaaW.PrintWords Go.Proofs.YtagifiakjniedaaW.PrintLast Go.Proofs.YtagifiakjniedaaW.PrintMore
attribute [local go_sem] max2_int min2_int max_two min_two max_three min_three max_four min_four   -- for this text's walks alone
set_option linter.unusedVariables false
set_option linter.unusedSimpArgs false

/-! ### value_reserved: function 64 -/
def value_reserved.f (a0 : ByteArray) : Option (Bool) := if a0.toList = ([116, 114, 117, 101] : List UInt8) then (some true) else (if a0.toList = ([102, 97, 108, 115, 101] : List UInt8) then (some true) else (if a0.toList = ([110, 111, 119] : List UInt8) then (some true) else (if a0.toList = ([98, 101, 103, 97, 110] : List UInt8) then (some true) else (if a0.toList = ([104, 97, 115] : List UInt8) then (some true) else (if a0.toList = ([108, 101, 110] : List UInt8) then (some true) else (if a0.toList = ([114, 97, 116, 101] : List UInt8) then (some true) else (if a0.toList = ([102, 108, 111, 111, 114] : List UInt8) then (some true) else (if a0.toList = ([109, 105, 110] : List UInt8) then (some true) else (if a0.toList = ([109, 97, 120] : List UInt8) then (some true) else (some false))))))))))
set_option maxHeartbeats 8000000 in
set_option maxRecDepth 100000 in
theorem value_reserved.calls (a0 : ByteArray) (r : Bool) (w : World) (h : value_reserved.f a0 = some r) :
    Calls Try.prog 64 #[.string a0] w fun e w' => e = .returned (.bool r) ∧ Drawn0 w w' := by
  have H : (if a0.toList = ([116, 114, 117, 101] : List UInt8) then (some true) else (if a0.toList = ([102, 97, 108, 115, 101] : List UInt8) then (some true) else (if a0.toList = ([110, 111, 119] : List UInt8) then (some true) else (if a0.toList = ([98, 101, 103, 97, 110] : List UInt8) then (some true) else (if a0.toList = ([104, 97, 115] : List UInt8) then (some true) else (if a0.toList = ([108, 101, 110] : List UInt8) then (some true) else (if a0.toList = ([114, 97, 116, 101] : List UInt8) then (some true) else (if a0.toList = ([102, 108, 111, 111, 114] : List UInt8) then (some true) else (if a0.toList = ([109, 105, 110] : List UInt8) then (some true) else (if a0.toList = ([109, 97, 120] : List UInt8) then (some true) else (some false))))))))))) = some r := h
  clear h
  by_cases c2 : a0.toList = ([116, 114, 117, 101] : List UInt8)
  · rw [if_pos c2] at H
    have c2b0 : (a0.toList == ([116, 114, 117, 101] : List UInt8)) = true := beq_iff_eq.mpr c2
    have c2b1 : (a0.toList != ([116, 114, 117, 101] : List UInt8)) = false := bne_eq_false_iff_eq.mpr c2
    clear c2
    obtain rfl := Option.some.inj H
    go_enter Try.func64, Try.ntmps64
    go_wp2
    go_ret
    exact ⟨by first | rfl | (simp; done) | (simp [*]; done), by repeat (first | exact Drawn0.refl _ | apply Drawn0.step)⟩
  · rw [if_neg c2] at H
    have c2b0 : (a0.toList == ([116, 114, 117, 101] : List UInt8)) = false := beq_eq_false_iff_ne.mpr c2
    have c2b1 : (a0.toList != ([116, 114, 117, 101] : List UInt8)) = true := bne_iff_ne.mpr c2
    by_cases c3 : a0.toList = ([102, 97, 108, 115, 101] : List UInt8)
    · rw [if_pos c3] at H
      have c3b0 : (a0.toList == ([102, 97, 108, 115, 101] : List UInt8)) = true := beq_iff_eq.mpr c3
      have c3b1 : (a0.toList != ([102, 97, 108, 115, 101] : List UInt8)) = false := bne_eq_false_iff_eq.mpr c3
      clear c3
      obtain rfl := Option.some.inj H
      go_enter Try.func64, Try.ntmps64
      go_wp2
      go_ret
      exact ⟨by first | rfl | (simp; done) | (simp [*]; done), by repeat (first | exact Drawn0.refl _ | apply Drawn0.step)⟩
    · rw [if_neg c3] at H
      have c3b0 : (a0.toList == ([102, 97, 108, 115, 101] : List UInt8)) = false := beq_eq_false_iff_ne.mpr c3
      have c3b1 : (a0.toList != ([102, 97, 108, 115, 101] : List UInt8)) = true := bne_iff_ne.mpr c3
      by_cases c4 : a0.toList = ([110, 111, 119] : List UInt8)
      · rw [if_pos c4] at H
        have c4b0 : (a0.toList == ([110, 111, 119] : List UInt8)) = true := beq_iff_eq.mpr c4
        have c4b1 : (a0.toList != ([110, 111, 119] : List UInt8)) = false := bne_eq_false_iff_eq.mpr c4
        clear c4
        obtain rfl := Option.some.inj H
        go_enter Try.func64, Try.ntmps64
        go_wp2
        go_ret
        exact ⟨by first | rfl | (simp; done) | (simp [*]; done), by repeat (first | exact Drawn0.refl _ | apply Drawn0.step)⟩
      · rw [if_neg c4] at H
        have c4b0 : (a0.toList == ([110, 111, 119] : List UInt8)) = false := beq_eq_false_iff_ne.mpr c4
        have c4b1 : (a0.toList != ([110, 111, 119] : List UInt8)) = true := bne_iff_ne.mpr c4
        by_cases c5 : a0.toList = ([98, 101, 103, 97, 110] : List UInt8)
        · rw [if_pos c5] at H
          have c5b0 : (a0.toList == ([98, 101, 103, 97, 110] : List UInt8)) = true := beq_iff_eq.mpr c5
          have c5b1 : (a0.toList != ([98, 101, 103, 97, 110] : List UInt8)) = false := bne_eq_false_iff_eq.mpr c5
          clear c5
          obtain rfl := Option.some.inj H
          go_enter Try.func64, Try.ntmps64
          go_wp2
          go_ret
          exact ⟨by first | rfl | (simp; done) | (simp [*]; done), by repeat (first | exact Drawn0.refl _ | apply Drawn0.step)⟩
        · rw [if_neg c5] at H
          have c5b0 : (a0.toList == ([98, 101, 103, 97, 110] : List UInt8)) = false := beq_eq_false_iff_ne.mpr c5
          have c5b1 : (a0.toList != ([98, 101, 103, 97, 110] : List UInt8)) = true := bne_iff_ne.mpr c5
          by_cases c6 : a0.toList = ([104, 97, 115] : List UInt8)
          · rw [if_pos c6] at H
            have c6b0 : (a0.toList == ([104, 97, 115] : List UInt8)) = true := beq_iff_eq.mpr c6
            have c6b1 : (a0.toList != ([104, 97, 115] : List UInt8)) = false := bne_eq_false_iff_eq.mpr c6
            clear c6
            obtain rfl := Option.some.inj H
            go_enter Try.func64, Try.ntmps64
            go_wp2
            go_ret
            exact ⟨by first | rfl | (simp; done) | (simp [*]; done), by repeat (first | exact Drawn0.refl _ | apply Drawn0.step)⟩
          · rw [if_neg c6] at H
            have c6b0 : (a0.toList == ([104, 97, 115] : List UInt8)) = false := beq_eq_false_iff_ne.mpr c6
            have c6b1 : (a0.toList != ([104, 97, 115] : List UInt8)) = true := bne_iff_ne.mpr c6
            by_cases c7 : a0.toList = ([108, 101, 110] : List UInt8)
            · rw [if_pos c7] at H
              have c7b0 : (a0.toList == ([108, 101, 110] : List UInt8)) = true := beq_iff_eq.mpr c7
              have c7b1 : (a0.toList != ([108, 101, 110] : List UInt8)) = false := bne_eq_false_iff_eq.mpr c7
              clear c7
              obtain rfl := Option.some.inj H
              go_enter Try.func64, Try.ntmps64
              go_wp2
              go_ret
              exact ⟨by first | rfl | (simp; done) | (simp [*]; done), by repeat (first | exact Drawn0.refl _ | apply Drawn0.step)⟩
            · rw [if_neg c7] at H
              have c7b0 : (a0.toList == ([108, 101, 110] : List UInt8)) = false := beq_eq_false_iff_ne.mpr c7
              have c7b1 : (a0.toList != ([108, 101, 110] : List UInt8)) = true := bne_iff_ne.mpr c7
              by_cases c8 : a0.toList = ([114, 97, 116, 101] : List UInt8)
              · rw [if_pos c8] at H
                have c8b0 : (a0.toList == ([114, 97, 116, 101] : List UInt8)) = true := beq_iff_eq.mpr c8
                have c8b1 : (a0.toList != ([114, 97, 116, 101] : List UInt8)) = false := bne_eq_false_iff_eq.mpr c8
                clear c8
                obtain rfl := Option.some.inj H
                go_enter Try.func64, Try.ntmps64
                go_wp2
                go_ret
                exact ⟨by first | rfl | (simp; done) | (simp [*]; done), by repeat (first | exact Drawn0.refl _ | apply Drawn0.step)⟩
              · rw [if_neg c8] at H
                have c8b0 : (a0.toList == ([114, 97, 116, 101] : List UInt8)) = false := beq_eq_false_iff_ne.mpr c8
                have c8b1 : (a0.toList != ([114, 97, 116, 101] : List UInt8)) = true := bne_iff_ne.mpr c8
                by_cases c9 : a0.toList = ([102, 108, 111, 111, 114] : List UInt8)
                · rw [if_pos c9] at H
                  have c9b0 : (a0.toList == ([102, 108, 111, 111, 114] : List UInt8)) = true := beq_iff_eq.mpr c9
                  have c9b1 : (a0.toList != ([102, 108, 111, 111, 114] : List UInt8)) = false := bne_eq_false_iff_eq.mpr c9
                  clear c9
                  obtain rfl := Option.some.inj H
                  go_enter Try.func64, Try.ntmps64
                  go_wp2
                  go_ret
                  exact ⟨by first | rfl | (simp; done) | (simp [*]; done), by repeat (first | exact Drawn0.refl _ | apply Drawn0.step)⟩
                · rw [if_neg c9] at H
                  have c9b0 : (a0.toList == ([102, 108, 111, 111, 114] : List UInt8)) = false := beq_eq_false_iff_ne.mpr c9
                  have c9b1 : (a0.toList != ([102, 108, 111, 111, 114] : List UInt8)) = true := bne_iff_ne.mpr c9
                  by_cases c10 : a0.toList = ([109, 105, 110] : List UInt8)
                  · rw [if_pos c10] at H
                    have c10b0 : (a0.toList == ([109, 105, 110] : List UInt8)) = true := beq_iff_eq.mpr c10
                    have c10b1 : (a0.toList != ([109, 105, 110] : List UInt8)) = false := bne_eq_false_iff_eq.mpr c10
                    clear c10
                    obtain rfl := Option.some.inj H
                    go_enter Try.func64, Try.ntmps64
                    go_wp2
                    go_ret
                    exact ⟨by first | rfl | (simp; done) | (simp [*]; done), by repeat (first | exact Drawn0.refl _ | apply Drawn0.step)⟩
                  · rw [if_neg c10] at H
                    have c10b0 : (a0.toList == ([109, 105, 110] : List UInt8)) = false := beq_eq_false_iff_ne.mpr c10
                    have c10b1 : (a0.toList != ([109, 105, 110] : List UInt8)) = true := bne_iff_ne.mpr c10
                    by_cases c11 : a0.toList = ([109, 97, 120] : List UInt8)
                    · rw [if_pos c11] at H
                      have c11b0 : (a0.toList == ([109, 97, 120] : List UInt8)) = true := beq_iff_eq.mpr c11
                      have c11b1 : (a0.toList != ([109, 97, 120] : List UInt8)) = false := bne_eq_false_iff_eq.mpr c11
                      clear c11
                      obtain rfl := Option.some.inj H
                      go_enter Try.func64, Try.ntmps64
                      go_wp2
                      go_ret
                      exact ⟨by first | rfl | (simp; done) | (simp [*]; done), by repeat (first | exact Drawn0.refl _ | apply Drawn0.step)⟩
                    · rw [if_neg c11] at H
                      have c11b0 : (a0.toList == ([109, 97, 120] : List UInt8)) = false := beq_eq_false_iff_ne.mpr c11
                      have c11b1 : (a0.toList != ([109, 97, 120] : List UInt8)) = true := bne_iff_ne.mpr c11
                      obtain rfl := Option.some.inj H
                      go_enter Try.func64, Try.ntmps64
                      go_wp2
                      go_ret
                      exact ⟨by first | rfl | (simp; done) | (simp [*]; done), by repeat (first | exact Drawn0.refl _ | apply Drawn0.step)⟩

/-! ### value_Name: function 49 -/
mutual
def value_Name.j0 : Nat → ByteArray → Bool → Option (Bool)
  | 0, _, _ => none
  | k + 1, x0, x25 => if x25 = true then (some false) else (value_Name.l0 k x0 0)
def value_Name.l0 : Nat → ByteArray → Int → Option (Bool)
  | 0, _, _ => none
  | k + 1, x0, x3 => if x3 < (x0.size : Int) then (if 0 ≤ x3 then (if (bt x0 x3) < 97 then (if (bt x0 x3) < 48 then (if (bt x0 x3) = 95 then (value_Name.l0 k x0 (wrap64 (x3 + 1))) else (some false)) else (if (bt x0 x3) > 57 then (if (bt x0 x3) = 95 then (value_Name.l0 k x0 (wrap64 (x3 + 1))) else (some false)) else (value_Name.l0 k x0 (wrap64 (x3 + 1))))) else (if (bt x0 x3) > 122 then (if (bt x0 x3) < 48 then (if (bt x0 x3) = 95 then (value_Name.l0 k x0 (wrap64 (x3 + 1))) else (some false)) else (if (bt x0 x3) > 57 then (if (bt x0 x3) = 95 then (value_Name.l0 k x0 (wrap64 (x3 + 1))) else (some false)) else (value_Name.l0 k x0 (wrap64 (x3 + 1))))) else (value_Name.l0 k x0 (wrap64 (x3 + 1))))) else (none)) else (some true)
end
def value_Name.f (k : Nat) (a0 : ByteArray) : Option (Bool) := if a0.toList = ([] : List UInt8) then (value_Name.j0 k a0 true) else (if (a0.size : Int) > 16 then (value_Name.j0 k a0 true) else (if 0 < (a0.size : Int) then (if (bt a0 0) < 97 then (value_Name.j0 k a0 true) else (if (bt a0 0) > 122 then (value_Name.j0 k a0 true) else ((value_reserved.f a0).bind fun t101 => (value_Name.j0 k a0 t101)))) else (none)))
theorem value_Name.mono_l : ∀ k, (∀ y0 y1, LeO (value_Name.j0 k y0 y1) (value_Name.j0 (k + 1) y0 y1)) ∧ (∀ y0 y1, LeO (value_Name.l0 k y0 y1) (value_Name.l0 (k + 1) y0 y1))
  | 0 => ⟨fun _ _ r h => by simp [value_Name.j0] at h, fun _ _ r h => by simp [value_Name.l0] at h⟩
  | k + 1 => by
    obtain ⟨ih0, ih1⟩ := value_Name.mono_l k
    refine ⟨?_, ?_⟩
    · intro y0 y1
      unfold value_Name.j0
      repeat' first
      | (with_reducible exact ih0 _ _)
      | (with_reducible exact ih1 _ _)
      | (with_reducible exact LeO.refl _)
      | (with_reducible exact LeO.none _)
      | (with_reducible refine LeO.ite ?_ ?_)
      | (with_reducible refine LeO.bind ?_ (fun _ => ?_))
      | exact ih0 _ _
      | exact ih1 _ _
      | exact LeO.none _
      | refine LeO.ite ?_ ?_
      | refine LeO.bind ?_ (fun _ => ?_)
    · intro y0 y1
      unfold value_Name.l0
      repeat' first
      | (with_reducible exact ih0 _ _)
      | (with_reducible exact ih1 _ _)
      | (with_reducible exact LeO.refl _)
      | (with_reducible exact LeO.none _)
      | (with_reducible refine LeO.ite ?_ ?_)
      | (with_reducible refine LeO.bind ?_ (fun _ => ?_))
      | exact ih0 _ _
      | exact ih1 _ _
      | exact LeO.none _
      | refine LeO.ite ?_ ?_
      | refine LeO.bind ?_ (fun _ => ?_)
theorem value_Name.mono : ∀ a0 k, LeO (value_Name.f k a0) (value_Name.f (k + 1) a0) := by
  intro a0 k
  obtain ⟨ih0, ih1⟩ := value_Name.mono_l k
  unfold value_Name.f
  repeat' first
      | (with_reducible exact ih0 _ _)
      | (with_reducible exact ih1 _ _)
      | (with_reducible exact LeO.refl _)
      | (with_reducible exact LeO.none _)
      | (with_reducible refine LeO.ite ?_ ?_)
      | (with_reducible refine LeO.bind ?_ (fun _ => ?_))
      | exact ih0 _ _
      | exact ih1 _ _
      | exact LeO.none _
      | refine LeO.ite ?_ ?_
      | refine LeO.bind ?_ (fun _ => ?_)
set_option maxHeartbeats 8000000 in
set_option maxRecDepth 100000 in
theorem value_Name.calls (k : Nat) (a0 : ByteArray) (r : Bool) (w : World) (h : value_Name.f k a0 = some r) :
    Calls Try.prog 49 #[.string a0] w fun e w' => e = .returned (.bool r) ∧ Drawn0 w w' := by
  have H : (if a0.toList = ([] : List UInt8) then (value_Name.j0 k a0 true) else (if (a0.size : Int) > 16 then (value_Name.j0 k a0 true) else (if 0 < (a0.size : Int) then (if (bt a0 0) < 97 then (value_Name.j0 k a0 true) else (if (bt a0 0) > 122 then (value_Name.j0 k a0 true) else ((value_reserved.f a0).bind fun t101 => (value_Name.j0 k a0 t101)))) else (none)))) = some r := h
  clear h
  have HC2 := Aside0.mk H
  clear H
  go_enter Try.func49, Try.ntmps49
  go_upto_region 1 with (fail)
  go_cut [25] (fun v25 wc => ∃ (kq : Nat) (x25_1 : Bool), v25 = .bool x25_1 ∧ Aside0 (value_Name.j0 kq a0 x25_1 = some r) ∧ Aside0 (kq ≤ k) ∧ Drawn0 w wc)
  case first =>
    have H := HC2.out
    clear HC2
    by_cases c3 : a0.toList = ([] : List UInt8)
    · rw [if_pos c3] at H
      have c3b0 : (a0.toList == ([] : List UInt8)) = true := beq_iff_eq.mpr c3
      have c3b1 : (a0.toList != ([] : List UInt8)) = false := bne_eq_false_iff_eq.mpr c3
      clear c3
      (first | rw [c3b0] | (simp only [i64_w, i32_w]; rw [c3b0]) | skip)
      have H' := Aside0.mk H
      clear H
      go_wp2
      go_meet
      case rel => exact ⟨_, (true), (by first | rfl | (simp; done) | (simp [*]; done)), H', ⟨by first | omega | exact Nat.le_refl _⟩, by repeat (first | exact Drawn0.refl _ | apply Drawn0.step)⟩
    · rw [if_neg c3] at H
      have c3b0 : (a0.toList == ([] : List UInt8)) = false := beq_eq_false_iff_ne.mpr c3
      have c3b1 : (a0.toList != ([] : List UInt8)) = true := bne_iff_ne.mpr c3
      (first | rw [c3b0] | (simp only [i64_w, i32_w]; rw [c3b0]) | skip)
      by_cases c4 : (a0.size : Int) > 16
      · rw [if_pos c4] at H
        have c4b0 : decide (16 < (a0.size : Int)) = true := decide_eq_true c4
        have c4b1 : decide (16 < a0.size) = true := decide_eq_true (by omega)
        clear c4
        have H' := Aside0.mk H
        clear H
        go_wp2
        go_meet
        case rel => exact ⟨_, (true), (by first | rfl | (simp; done) | (simp [*]; done)), H', ⟨by first | omega | exact Nat.le_refl _⟩, by repeat (first | exact Drawn0.refl _ | apply Drawn0.step)⟩
      · rw [if_neg c4] at H
        have c4b0 : decide (16 < (a0.size : Int)) = false := decide_eq_false c4
        have c4b1 : decide (16 < a0.size) = false := decide_eq_false (by omega)
        clear c4
        by_cases c5 : 0 < (a0.size : Int)
        · rw [if_pos c5] at H
          have c5b0 : decide (0 < (a0.size : Int)) = true := decide_eq_true c5
          have c5b1 : decide (0 < a0.size) = true := decide_eq_true (by omega)
          clear c5
          by_cases c7 : (bt a0 0) < 97
          · rw [if_pos c7] at H
            have c7b0 : decide ((bt a0 0) < 97) = true := decide_eq_true c7
            clear c7
            have H' := Aside0.mk H
            clear H
            have p6 : 0 ≤ (0 : Int) := (by omega)
            have q6 : 0 < a0.size := (by have : (0 : Int) < (a0.size : Int) := of_decide_eq_true (by first | (with_reducible assumption) | assumption); omega)
            have hx6 : ∀ h : 0 < a0.size, ((a0[0]'h).toNat : Int) = bt a0 0 := bt_at a0 0
            clear p6
            have qi6 : (0 < (a0.size : Int)) = True := eq_true (of_decide_eq_true (by first | (with_reducible assumption) | assumption))
            replace q6 := eq_true q6
            go_wp2
            go_meet
            case rel => exact ⟨_, (true), (by first | rfl | (simp; done) | (simp [*]; done)), H', ⟨by first | omega | exact Nat.le_refl _⟩, by repeat (first | exact Drawn0.refl _ | apply Drawn0.step)⟩
          · rw [if_neg c7] at H
            have c7b0 : decide ((bt a0 0) < 97) = false := decide_eq_false c7
            clear c7
            by_cases c9 : (bt a0 0) > 122
            · rw [if_pos c9] at H
              have c9b0 : decide (122 < (bt a0 0)) = true := decide_eq_true c9
              clear c9
              have H' := Aside0.mk H
              clear H
              have p6 : 0 ≤ (0 : Int) := (by omega)
              have q6 : 0 < a0.size := (by have : (0 : Int) < (a0.size : Int) := of_decide_eq_true (by first | (with_reducible assumption) | assumption); omega)
              have hx6 : ∀ h : 0 < a0.size, ((a0[0]'h).toNat : Int) = bt a0 0 := bt_at a0 0
              clear p6
              have qi6 : (0 < (a0.size : Int)) = True := eq_true (of_decide_eq_true (by first | (with_reducible assumption) | assumption))
              replace q6 := eq_true q6
              have p8 : 0 ≤ (0 : Int) := (by omega)
              have q8 : 0 < a0.size := (by have : (0 : Int) < (a0.size : Int) := of_decide_eq_true (by first | (with_reducible assumption) | assumption); omega)
              have hx8 : ∀ h : 0 < a0.size, ((a0[0]'h).toNat : Int) = bt a0 0 := bt_at a0 0
              clear p8
              have qi8 : (0 < (a0.size : Int)) = True := eq_true (of_decide_eq_true (by first | (with_reducible assumption) | assumption))
              replace q8 := eq_true q8
              go_wp2
              go_meet
              case rel => exact ⟨_, (true), (by first | rfl | (simp; done) | (simp [*]; done)), H', ⟨by first | omega | exact Nat.le_refl _⟩, by repeat (first | exact Drawn0.refl _ | apply Drawn0.step)⟩
            · rw [if_neg c9] at H
              have c9b0 : decide (122 < (bt a0 0)) = false := decide_eq_false c9
              clear c9
              replace H := Option.bind_eq_some_iff.mp H
              obtain ⟨t101, A100, H⟩ := H
              replace H : (value_Name.j0 k a0 t101) = some r := H
              have A10 := Aside0.mk A100
              clear A100
              have H' := Aside0.mk H
              clear H
              have p6 : 0 ≤ (0 : Int) := (by omega)
              have q6 : 0 < a0.size := (by have : (0 : Int) < (a0.size : Int) := of_decide_eq_true (by first | (with_reducible assumption) | assumption); omega)
              have hx6 : ∀ h : 0 < a0.size, ((a0[0]'h).toNat : Int) = bt a0 0 := bt_at a0 0
              clear p6
              have qi6 : (0 < (a0.size : Int)) = True := eq_true (of_decide_eq_true (by first | (with_reducible assumption) | assumption))
              replace q6 := eq_true q6
              have p8 : 0 ≤ (0 : Int) := (by omega)
              have q8 : 0 < a0.size := (by have : (0 : Int) < (a0.size : Int) := of_decide_eq_true (by first | (with_reducible assumption) | assumption); omega)
              have hx8 : ∀ h : 0 < a0.size, ((a0[0]'h).toNat : Int) = bt a0 0 := bt_at a0 0
              clear p8
              have qi8 : (0 < (a0.size : Int)) = True := eq_true (of_decide_eq_true (by first | (with_reducible assumption) | assumption))
              replace q8 := eq_true q8
              go_wp2_with (first | (go_at_call 64; (with_reducible refine (value_reserved.calls a0 t101 _ A10.out).mono ?_); rintro e w' ⟨rfl, ⟨nd, rfl⟩⟩))
              go_meet
              case rel => exact ⟨_, (t101), (by first | rfl | (simp; done) | (simp [*]; done)), H', ⟨by first | omega | exact Nat.le_refl _⟩, by repeat (first | exact Drawn0.refl _ | apply Drawn0.step)⟩
        · rw [if_neg c5] at H
          exact absurd H (by simp)
  case rest =>
    clear HC2
    try clear p2
    try clear c3
    try clear c3b0
    try clear c3b1
    try clear c4
    try clear c4b0
    try clear c4b1
    try clear c5
    try clear c5b0
    try clear c5b1
    try clear p6
    try clear q6
    try clear hx6
    try clear qi6
    try clear c7
    try clear c7b0
    try clear p8
    try clear q8
    try clear hx8
    try clear qi8
    try clear c9
    try clear c9b0
    try clear p6
    try clear p8
    try clear q6
    try clear q8
    obtain ⟨kq, x25_1, rfl, HA, HJ1, ⟨mc1, rfl⟩⟩ := hcut
    cases kq with
    | zero => exact absurd HA.out (by simp [value_Name.j0])
    | succ kj1 =>
      have H := HA.out
      clear HA
      simp only [value_Name.j0] at H
      by_cases c11 : x25_1 = true
      · subst c11
        have H1 : (some false) = some r := by rw [if_pos rfl] at H; exact H
        clear H
        have H := H1
        clear H1
        obtain rfl := Option.some.inj H
        go_wp2
        go_ret
        exact ⟨by first | rfl | (simp; done) | (simp [*]; done), by repeat (first | exact Drawn0.refl _ | apply Drawn0.step)⟩
      · replace c11 := Bool.eq_false_iff.mpr c11
        subst c11
        have H1 : (value_Name.l0 kj1 a0 0) = some r := by rw [if_neg (show ¬ (false = true) by decide)] at H; exact H
        clear H
        have H := H1
        clear H1
        have H' := Aside0.mk H
        clear H
        go_wp2
        go_loopg [3] kj1 (fun kq v3 w' => ∃ (x3_2 : Int), v3 = .int .i64 x3_2 ∧ Aside0 (value_Name.l0 kq a0 x3_2 = some r) ∧ Aside0 (kq ≤ kj1) ∧ Drawn0 w w')
        case atStart => exact ⟨(0), (by first | rfl | (simp; done) | (simp [*]; done)), H', ⟨Nat.le_refl _⟩, by repeat (first | exact Drawn0.refl _ | apply Drawn0.step)⟩
        case round =>
          clear H'
          try clear c1
          try clear p2
          try clear c3
          try clear c3b0
          try clear c3b1
          try clear c4
          try clear c4b0
          try clear c4b1
          try clear c5
          try clear c5b0
          try clear c5b1
          try clear p6
          try clear q6
          try clear hx6
          try clear qi6
          try clear c7
          try clear c7b0
          try clear p8
          try clear q8
          try clear hx8
          try clear qi8
          try clear c9
          try clear c9b0
          try clear c11
          try clear p2
          try clear p6
          try clear p8
          try clear q6
          try clear q8
          obtain ⟨x3_2, rfl, HA, HK2, ⟨m2, rfl⟩⟩ := hrel
          cases gk with
          | zero => exact absurd HA.out (by simp [value_Name.l0])
          | succ k2 =>
            have H := HA.out
            clear HA
            simp only [value_Name.l0] at H
            by_cases c12 : x3_2 < (a0.size : Int)
            · rw [if_pos c12] at H
              have c12b0 : decide (x3_2 < (a0.size : Int)) = true := decide_eq_true c12
              clear c12
              by_cases c13 : 0 ≤ x3_2
              · rw [if_pos c13] at H
                have c13b0 : decide (0 ≤ x3_2) = true := decide_eq_true c13
                clear c13
                by_cases c15 : (bt a0 x3_2) < 97
                · rw [if_pos c15] at H
                  have c15b0 : decide ((bt a0 x3_2) < 97) = true := decide_eq_true c15
                  clear c15
                  by_cases c16 : (bt a0 x3_2) < 48
                  · rw [if_pos c16] at H
                    have c16b0 : decide ((bt a0 x3_2) < 48) = true := decide_eq_true c16
                    clear c16
                    by_cases c17 : (bt a0 x3_2) = 95
                    · rw [if_pos c17] at H
                      have c17b0 : ((bt a0 x3_2) == 95) = true := beq_iff_eq.mpr c17
                      have c17b1 : ((bt a0 x3_2) != 95) = false := bne_eq_false_iff_eq.mpr c17
                      clear c17
                      have H' := Aside0.mk H
                      clear H
                      have p14 : 0 ≤ (x3_2 : Int) := of_decide_eq_true (by first | (with_reducible assumption) | assumption)
                      have q14 : x3_2 < (a0.size : Int) := of_decide_eq_true (by first | (with_reducible assumption) | assumption)
                      have hx14 := bt_at a0 x3_2
                      replace p14 := eq_true p14
                      replace q14 := eq_true q14
                      go_wp2
                      go_roundg k2
                      case measure => have := HJ1.out; have := HK2.out; omega
                      case rel => exact ⟨(wrap64 (x3_2 + 1)), (by first | rfl | (simp; done) | (simp [*]; done)), H', ⟨by have := HJ1.out; have := HK2.out; omega⟩, by repeat (first | exact Drawn0.refl _ | apply Drawn0.step)⟩
                    · rw [if_neg c17] at H
                      have c17b0 : ((bt a0 x3_2) == 95) = false := beq_eq_false_iff_ne.mpr c17
                      have c17b1 : ((bt a0 x3_2) != 95) = true := bne_iff_ne.mpr c17
                      obtain rfl := Option.some.inj H
                      have p14 : 0 ≤ (x3_2 : Int) := of_decide_eq_true (by first | (with_reducible assumption) | assumption)
                      have q14 : x3_2 < (a0.size : Int) := of_decide_eq_true (by first | (with_reducible assumption) | assumption)
                      have hx14 := bt_at a0 x3_2
                      replace p14 := eq_true p14
                      replace q14 := eq_true q14
                      go_wp2
                      go_ret
                      exact ⟨by first | rfl | (simp; done) | (simp [*]; done), by repeat (first | exact Drawn0.refl _ | apply Drawn0.step)⟩
                  · rw [if_neg c16] at H
                    have c16b0 : decide ((bt a0 x3_2) < 48) = false := decide_eq_false c16
                    clear c16
                    by_cases c18 : (bt a0 x3_2) > 57
                    · rw [if_pos c18] at H
                      have c18b0 : decide (57 < (bt a0 x3_2)) = true := decide_eq_true c18
                      clear c18
                      by_cases c19 : (bt a0 x3_2) = 95
                      · rw [if_pos c19] at H
                        have c19b0 : ((bt a0 x3_2) == 95) = true := beq_iff_eq.mpr c19
                        have c19b1 : ((bt a0 x3_2) != 95) = false := bne_eq_false_iff_eq.mpr c19
                        clear c19
                        have H' := Aside0.mk H
                        clear H
                        have p14 : 0 ≤ (x3_2 : Int) := of_decide_eq_true (by first | (with_reducible assumption) | assumption)
                        have q14 : x3_2 < (a0.size : Int) := of_decide_eq_true (by first | (with_reducible assumption) | assumption)
                        have hx14 := bt_at a0 x3_2
                        replace p14 := eq_true p14
                        replace q14 := eq_true q14
                        go_wp2
                        go_roundg k2
                        case measure => have := HJ1.out; have := HK2.out; omega
                        case rel => exact ⟨(wrap64 (x3_2 + 1)), (by first | rfl | (simp; done) | (simp [*]; done)), H', ⟨by have := HJ1.out; have := HK2.out; omega⟩, by repeat (first | exact Drawn0.refl _ | apply Drawn0.step)⟩
                      · rw [if_neg c19] at H
                        have c19b0 : ((bt a0 x3_2) == 95) = false := beq_eq_false_iff_ne.mpr c19
                        have c19b1 : ((bt a0 x3_2) != 95) = true := bne_iff_ne.mpr c19
                        obtain rfl := Option.some.inj H
                        have p14 : 0 ≤ (x3_2 : Int) := of_decide_eq_true (by first | (with_reducible assumption) | assumption)
                        have q14 : x3_2 < (a0.size : Int) := of_decide_eq_true (by first | (with_reducible assumption) | assumption)
                        have hx14 := bt_at a0 x3_2
                        replace p14 := eq_true p14
                        replace q14 := eq_true q14
                        go_wp2
                        go_ret
                        exact ⟨by first | rfl | (simp; done) | (simp [*]; done), by repeat (first | exact Drawn0.refl _ | apply Drawn0.step)⟩
                    · rw [if_neg c18] at H
                      have c18b0 : decide (57 < (bt a0 x3_2)) = false := decide_eq_false c18
                      clear c18
                      have H' := Aside0.mk H
                      clear H
                      have p14 : 0 ≤ (x3_2 : Int) := of_decide_eq_true (by first | (with_reducible assumption) | assumption)
                      have q14 : x3_2 < (a0.size : Int) := of_decide_eq_true (by first | (with_reducible assumption) | assumption)
                      have hx14 := bt_at a0 x3_2
                      replace p14 := eq_true p14
                      replace q14 := eq_true q14
                      go_wp2
                      go_roundg k2
                      case measure => have := HJ1.out; have := HK2.out; omega
                      case rel => exact ⟨(wrap64 (x3_2 + 1)), (by first | rfl | (simp; done) | (simp [*]; done)), H', ⟨by have := HJ1.out; have := HK2.out; omega⟩, by repeat (first | exact Drawn0.refl _ | apply Drawn0.step)⟩
                · rw [if_neg c15] at H
                  have c15b0 : decide ((bt a0 x3_2) < 97) = false := decide_eq_false c15
                  clear c15
                  by_cases c20 : (bt a0 x3_2) > 122
                  · rw [if_pos c20] at H
                    have c20b0 : decide (122 < (bt a0 x3_2)) = true := decide_eq_true c20
                    clear c20
                    by_cases c21 : (bt a0 x3_2) < 48
                    · rw [if_pos c21] at H
                      have c21b0 : decide ((bt a0 x3_2) < 48) = true := decide_eq_true c21
                      clear c21
                      by_cases c22 : (bt a0 x3_2) = 95
                      · rw [if_pos c22] at H
                        have c22b0 : ((bt a0 x3_2) == 95) = true := beq_iff_eq.mpr c22
                        have c22b1 : ((bt a0 x3_2) != 95) = false := bne_eq_false_iff_eq.mpr c22
                        clear c22
                        have H' := Aside0.mk H
                        clear H
                        have p14 : 0 ≤ (x3_2 : Int) := of_decide_eq_true (by first | (with_reducible assumption) | assumption)
                        have q14 : x3_2 < (a0.size : Int) := of_decide_eq_true (by first | (with_reducible assumption) | assumption)
                        have hx14 := bt_at a0 x3_2
                        replace p14 := eq_true p14
                        replace q14 := eq_true q14
                        go_wp2
                        go_roundg k2
                        case measure => have := HJ1.out; have := HK2.out; omega
                        case rel => exact ⟨(wrap64 (x3_2 + 1)), (by first | rfl | (simp; done) | (simp [*]; done)), H', ⟨by have := HJ1.out; have := HK2.out; omega⟩, by repeat (first | exact Drawn0.refl _ | apply Drawn0.step)⟩
                      · rw [if_neg c22] at H
                        have c22b0 : ((bt a0 x3_2) == 95) = false := beq_eq_false_iff_ne.mpr c22
                        have c22b1 : ((bt a0 x3_2) != 95) = true := bne_iff_ne.mpr c22
                        obtain rfl := Option.some.inj H
                        have p14 : 0 ≤ (x3_2 : Int) := of_decide_eq_true (by first | (with_reducible assumption) | assumption)
                        have q14 : x3_2 < (a0.size : Int) := of_decide_eq_true (by first | (with_reducible assumption) | assumption)
                        have hx14 := bt_at a0 x3_2
                        replace p14 := eq_true p14
                        replace q14 := eq_true q14
                        go_wp2
                        go_ret
                        exact ⟨by first | rfl | (simp; done) | (simp [*]; done), by repeat (first | exact Drawn0.refl _ | apply Drawn0.step)⟩
                    · rw [if_neg c21] at H
                      have c21b0 : decide ((bt a0 x3_2) < 48) = false := decide_eq_false c21
                      clear c21
                      by_cases c23 : (bt a0 x3_2) > 57
                      · rw [if_pos c23] at H
                        have c23b0 : decide (57 < (bt a0 x3_2)) = true := decide_eq_true c23
                        clear c23
                        by_cases c24 : (bt a0 x3_2) = 95
                        · rw [if_pos c24] at H
                          have c24b0 : ((bt a0 x3_2) == 95) = true := beq_iff_eq.mpr c24
                          have c24b1 : ((bt a0 x3_2) != 95) = false := bne_eq_false_iff_eq.mpr c24
                          clear c24
                          have H' := Aside0.mk H
                          clear H
                          have p14 : 0 ≤ (x3_2 : Int) := of_decide_eq_true (by first | (with_reducible assumption) | assumption)
                          have q14 : x3_2 < (a0.size : Int) := of_decide_eq_true (by first | (with_reducible assumption) | assumption)
                          have hx14 := bt_at a0 x3_2
                          replace p14 := eq_true p14
                          replace q14 := eq_true q14
                          go_wp2
                          go_roundg k2
                          case measure => have := HJ1.out; have := HK2.out; omega
                          case rel => exact ⟨(wrap64 (x3_2 + 1)), (by first | rfl | (simp; done) | (simp [*]; done)), H', ⟨by have := HJ1.out; have := HK2.out; omega⟩, by repeat (first | exact Drawn0.refl _ | apply Drawn0.step)⟩
                        · rw [if_neg c24] at H
                          have c24b0 : ((bt a0 x3_2) == 95) = false := beq_eq_false_iff_ne.mpr c24
                          have c24b1 : ((bt a0 x3_2) != 95) = true := bne_iff_ne.mpr c24
                          obtain rfl := Option.some.inj H
                          have p14 : 0 ≤ (x3_2 : Int) := of_decide_eq_true (by first | (with_reducible assumption) | assumption)
                          have q14 : x3_2 < (a0.size : Int) := of_decide_eq_true (by first | (with_reducible assumption) | assumption)
                          have hx14 := bt_at a0 x3_2
                          replace p14 := eq_true p14
                          replace q14 := eq_true q14
                          go_wp2
                          go_ret
                          exact ⟨by first | rfl | (simp; done) | (simp [*]; done), by repeat (first | exact Drawn0.refl _ | apply Drawn0.step)⟩
                      · rw [if_neg c23] at H
                        have c23b0 : decide (57 < (bt a0 x3_2)) = false := decide_eq_false c23
                        clear c23
                        have H' := Aside0.mk H
                        clear H
                        have p14 : 0 ≤ (x3_2 : Int) := of_decide_eq_true (by first | (with_reducible assumption) | assumption)
                        have q14 : x3_2 < (a0.size : Int) := of_decide_eq_true (by first | (with_reducible assumption) | assumption)
                        have hx14 := bt_at a0 x3_2
                        replace p14 := eq_true p14
                        replace q14 := eq_true q14
                        go_wp2
                        go_roundg k2
                        case measure => have := HJ1.out; have := HK2.out; omega
                        case rel => exact ⟨(wrap64 (x3_2 + 1)), (by first | rfl | (simp; done) | (simp [*]; done)), H', ⟨by have := HJ1.out; have := HK2.out; omega⟩, by repeat (first | exact Drawn0.refl _ | apply Drawn0.step)⟩
                  · rw [if_neg c20] at H
                    have c20b0 : decide (122 < (bt a0 x3_2)) = false := decide_eq_false c20
                    clear c20
                    have H' := Aside0.mk H
                    clear H
                    have p14 : 0 ≤ (x3_2 : Int) := of_decide_eq_true (by first | (with_reducible assumption) | assumption)
                    have q14 : x3_2 < (a0.size : Int) := of_decide_eq_true (by first | (with_reducible assumption) | assumption)
                    have hx14 := bt_at a0 x3_2
                    replace p14 := eq_true p14
                    replace q14 := eq_true q14
                    go_wp2
                    go_roundg k2
                    case measure => have := HJ1.out; have := HK2.out; omega
                    case rel => exact ⟨(wrap64 (x3_2 + 1)), (by first | rfl | (simp; done) | (simp [*]; done)), H', ⟨by have := HJ1.out; have := HK2.out; omega⟩, by repeat (first | exact Drawn0.refl _ | apply Drawn0.step)⟩
              · rw [if_neg c13] at H
                exact absurd H (by simp)
            · rw [if_neg c12] at H
              have c12b0 : decide (x3_2 < (a0.size : Int)) = false := decide_eq_false c12
              clear c12
              obtain rfl := Option.some.inj H
              go_wp2
              go_ret
              exact ⟨by first | rfl | (simp; done) | (simp [*]; done), by repeat (first | exact Drawn0.refl _ | apply Drawn0.step)⟩

/-- THE ONE PURE STATEMENT of value_Name: yours. -/
def value_Name.Pure : Prop := ∀ (a0 : ByteArray), a0.size ≤ 140737488351232 → ∃ k, value_Name.f k a0 = some true
theorem value_Name.walk (P : value_Name.Pure) (a0 : ByteArray) (w : World) (w0 : a0.size ≤ 140737488351232) :
    Calls Try.prog 49 #[.string a0] w fun e w' => e = .returned (.bool true) ∧ Below w.heap.size w w' := by
  obtain ⟨k, h⟩ := P a0 w0
  refine (value_Name.calls k a0 true w h).mono ?_
  rintro e w' ⟨rfl, hd⟩
  exact ⟨rfl, hd.below⟩

/-! ### table_because: function 53 -/
def table_because.f (a0 : Int) : Option (Bool) := if a0 ≥ 1 then (some (decide (a0 ≤ 9))) else (some false)
set_option maxHeartbeats 8000000 in
set_option maxRecDepth 100000 in
theorem table_because.calls (a0 : Int) (r : Bool) (w : World) (h : table_because.f a0 = some r) :
    Calls Try.prog 53 #[.int .i64 a0] w fun e w' => e = .returned (.bool r) ∧ Drawn0 w w' := by
  have H : (if a0 ≥ 1 then (some (decide (a0 ≤ 9))) else (some false)) = some r := h
  clear h
  by_cases c2 : a0 ≥ 1
  · rw [if_pos c2] at H
    have c2b0 : decide (1 ≤ a0) = true := decide_eq_true c2
    clear c2
    obtain rfl := Option.some.inj H
    go_enter Try.func53, Try.ntmps53
    go_wp2
    go_ret
    exact ⟨by first | rfl | (simp; done) | (simp [*]; done), by repeat (first | exact Drawn0.refl _ | apply Drawn0.step)⟩
  · rw [if_neg c2] at H
    have c2b0 : decide (1 ≤ a0) = false := decide_eq_false c2
    clear c2
    obtain rfl := Option.some.inj H
    go_enter Try.func53, Try.ntmps53
    go_wp2
    go_ret
    exact ⟨by first | rfl | (simp; done) | (simp [*]; done), by repeat (first | exact Drawn0.refl _ | apply Drawn0.step)⟩

/-- THE ONE PURE STATEMENT of table_because: yours. -/
def table_because.Pure : Prop := ∀ (a0 : Int), (Lit.int .i64 a0).wf = true → table_because.f a0 = some true
theorem table_because.walk (P : table_because.Pure) (a0 : Int) (w : World) (w0 : (Lit.int .i64 a0).wf = true) :
    Calls Try.prog 53 #[.int .i64 a0] w fun e w' => e = .returned (.bool true) ∧ Below w.heap.size w w' := by
  have h := P a0 w0
  refine (table_because.calls a0 true w h).mono ?_
  rintro e w' ⟨rfl, hd⟩
  exact ⟨rfl, hd.below⟩

-- NOT PRINTED: function 63 (slices_IndexFunc_string_string)

-- NOT PRINTED: function 47 (slices_ContainsFunc_string_string)

-- NOT PRINTED: function 30 (table_named)

-- NOT PRINTED: function 12 (table_Table_Request)

-- NOT PRINTED: function 31 (table_Table_lead)

-- NOT PRINTED: function 13 (table_Table_Start)

-- NOT PRINTED: function 50 (api_Pending)

-- NOT PRINTED: function 34 (table_own)

-- NOT PRINTED: function 16 (table_Table_Get)

/-- A state of type 65 at block g of W; what its slices lead to came in by w0. -/
def IsS65 (w0 W : World) (g : Nat) (f0 : List (S28)) : Prop := ∃ A0 c0, W.heap[g]? = some (.cells #[.slice A0 f0.length c0] 65 (0, 0)) ∧ w0.heap.size ≤ g ∧ Kd.C k28 w0 A0 f0.length f0
theorem IsS65.grown {w0 W : World} {g : Nat} {f0 : List (S28)} {W1 : World} {row : Option Nat} (h : IsS65 w0 W g f0) (hw : W.grownBy W1 row) (hne : some g ≠ row) : IsS65 w0 W1 g f0 := by
  obtain ⟨A0, c0, hb, hg, hr0⟩ := h
  exact ⟨A0, c0, blk_grown hb hw hne, hg, hr0⟩
theorem IsS65.own_neN {w0 W : World} {g : Nat} {f0 : List (S28)} {α : Type} {d : Kd α} {e : Nat} {base : Nat} {ok : Nat → Prop} {v : Value} {xs : List α} (h : IsS65 w0 W g f0) (ho : Kd.N d e W base ok v xs) (ht : e ≠ 65) : some g ≠ v.ownBlock := by
  obtain ⟨A0, c0, hb, hg, hr0⟩ := h
  exact Kd.N_ne ho hb ht
theorem IsS65.fresh {w0 W : World} {g : Nat} {f0 : List (S28)} (h : IsS65 w0 W g f0) : ∀ k, W.heap.size ≤ k → k ≠ g := by
  obtain ⟨A0, c0, hb, hg, hr0⟩ := h
  exact Kd.freshB hb
theorem IsS65.kept {w0 W : World} {g : Nat} {f0 : List (S28)} {W1 : World} {S : Nat → Prop} (h : IsS65 w0 W g f0) (hk : Kept W W1 S) (hne : ¬ S g) : IsS65 w0 W1 g f0 := by
  obtain ⟨A0, c0, hb, hg, hr0⟩ := h
  exact ⟨A0, c0, blk_kept hb hk hne, hg, hr0⟩
theorem IsS65.below {w0 W : World} {g : Nat} {f0 : List (S28)} {W1 : World} (h : IsS65 w0 W g f0) (hw : Below W.heap.size W W1) : IsS65 w0 W1 g f0 := h.grown (grown_of_below hw none) (by simp)
theorem IsS65.alloc {w0 W : World} {g : Nat} {f0 : List (S28)} (h : IsS65 w0 W g f0) (o : Obj) : IsS65 w0 (W.alloc o) g f0 := h.below (below_alloc (Below.refl _ _) o)
theorem IsS65.drewN {w0 W : World} {g : Nat} {f0 : List (S28)} (h : IsS65 w0 W g f0) (m : Nat) : IsS65 w0 (W.drewN m) g f0 := h
theorem IsS65.drew {w0 W : World} {g : Nat} {f0 : List (S28)} (h : IsS65 w0 W g f0) : IsS65 w0 W.drew g f0 := h
theorem IsS65.at_ {w0 W : World} {g : Nat} {f0 : List (S28)} {w' : World} {m : Nat} (hq : W.drewN m = w') (h : IsS65 w0 W g f0) : IsS65 w0 w' g f0 := by subst hq; exact IsS65.drewN h m
theorem IsS65.apart {w0 W : World} {g : Nat} {f0 : List (S28)} {α : Type} {d : Kd α} {e : Nat} {base : Nat} {ok : Nat → Prop} {v : Value} {xs : List α} (h : IsS65 w0 W g f0) (ho : d.R e W base ok v xs) (ht : ∀ q, q ∈ e :: d.E → q ≠ 65) : d.R e W base (fun k => ok k ∧ k ≠ g) v xs := by
  obtain ⟨A0, c0, hb, hg, hr0⟩ := h
  exact Kd.R_types ho hb ht
theorem IsS65.own_ne {w0 W : World} {g : Nat} {f0 : List (S28)} {α : Type} {d : Kd α} {e : Nat} {base : Nat} {ok : Nat → Prop} {v : Value} {xs : List α} (h : IsS65 w0 W g f0) (ho : d.R e W base ok v xs) (ht : e ≠ 65) : some g ≠ v.ownBlock := by
  obtain ⟨A0, c0, hb, hg, hr0⟩ := h
  exact Kd.R_ne ho hb ht
theorem IsS65.apartQ {w0 W : World} {g : Nat} {f0 : List (S28)} {α : Type} {d : Kd α} {e : Nat} {base : Nat} {ok : Nat → Prop} {v : Value} {xs : List α} (h : IsS65 w0 W g f0) (ho : d.Q e W base ok v xs) (ht : ∀ q, q ∈ e :: d.E → q ≠ 65) : d.Q e W base (fun k => ok k ∧ k ≠ g) v xs := by
  obtain ⟨A0, c0, hb, hg, hr0⟩ := h
  exact Kd.Q_types ho hb ht
theorem IsS65.own_neQ {w0 W : World} {g : Nat} {f0 : List (S28)} {α : Type} {d : Kd α} {e : Nat} {base : Nat} {ok : Nat → Prop} {v : Value} {xs : List α} (h : IsS65 w0 W g f0) (ho : d.Q e W base ok v xs) (ht : e ≠ 65) : some g ≠ v.ownBlock := by
  obtain ⟨A0, c0, hb, hg, hr0⟩ := h
  exact Kd.Q_ne ho hb ht
theorem IsS65.apartS {w0 W : World} {g : Nat} {f0 : List (S28)} {α : Type} {d : Kd α} {e : Nat} {base : Nat} {ok : Nat → Prop} {v : Value} {xs : List α} (h : IsS65 w0 W g f0) (ho : d.S e W base ok v xs) (ht : ∀ q, q ∈ e :: d.E → q ≠ 65) : d.S e W base (fun k => ok k ∧ k ≠ g) v xs := by
  obtain ⟨A0, c0, hb, hg, hr0⟩ := h
  exact Kd.S_types ho hb ht
theorem IsS65.own_neS {w0 W : World} {g : Nat} {f0 : List (S28)} {α : Type} {d : Kd α} {e : Nat} {base : Nat} {ok : Nat → Prop} {v : Value} {xs : List α} (h : IsS65 w0 W g f0) (ho : d.S e W base ok v xs) (ht : e ≠ 65) : some g ≠ v.ownBlock := by
  obtain ⟨A0, c0, hb, hg, hr0⟩ := h
  exact Kd.S_ne ho hb ht
theorem IsS65.lt {w0 W : World} {g : Nat} {f0 : List (S28)} (h : IsS65 w0 W g f0) : g < W.heap.size := by
  obtain ⟨A0, c0, hb, hg, hr0⟩ := h
  exact blk_lt hb
theorem IsS65.ge {w0 W : World} {g : Nat} {f0 : List (S28)} (h : IsS65 w0 W g f0) : w0.heap.size ≤ g := by
  obtain ⟨A0, c0, hb, hg, hr0⟩ := h
  exact hg
theorem IsS65.ne_blk {w0 W : World} {g : Nat} {f0 : List (S28)} {a : Nat} {cs : Array Value} {t : TypeId} {fr : Nat × Nat} (h : IsS65 w0 W g f0) (hb2 : W.heap[a]? = some (.cells cs t fr)) (ht : t ≠ 65) : g ≠ a := by
  obtain ⟨A0, c0, hb, hg, hr0⟩ := h
  rintro rfl
  rw [hb] at hb2
  injection hb2 with hb2
  injection hb2 with _ ht2
  exact ht ht2.symm
theorem IsS65.far {w0 W : World} {g : Nat} {f0 : List (S28)} {p : Addr} (h : IsS65 w0 W g f0) (hne : g ≠ p.block) (u : Value) : IsS65 w0 (W.setCell p u) g f0 := by
  obtain ⟨A0, c0, hb, hg, hr0⟩ := h
  exact ⟨A0, c0, blk_far hb hne u, hg, hr0⟩
theorem cellS65_0 {W : World} {g : Nat} {A0 : Option Addr} {c0 : Nat} {f0 : List (S28)} (h : W.heap[g]? = some (.cells #[.slice A0 f0.length c0] 65 (0, 0))) : W.cell? ⟨g, 0, none⟩ = some (.slice A0 f0.length c0) := (blk_cell h 0).trans rfl
theorem IsS65.new (w0 W : World) (A0 : Option Addr) (c0 : Nat) (f0 : List (S28)) (hB : Below w0.heap.size w0 W) (hr0 : Kd.C k28 w0 A0 f0.length f0) : IsS65 w0 (W.alloc (.cells #[.slice A0 f0.length c0] 65)) W.heap.size f0 := ⟨A0, c0, by simpa using heap_alloc_new W _, hB.size, hr0⟩

/-! ### table_Table_Len: function 23 -/
def table_Table_Len.f (s0_0 : List (S28)) : Option (Int) := some (s0_0.length : Int)
set_option maxHeartbeats 8000000 in
set_option maxRecDepth 100000 in
theorem table_Table_Len.calls (g : Nat) (s0_0 : List (S28)) (r : Int) (w0 w : World) (hI : IsS65 w0 w g s0_0) (hB : Below w0.heap.size w0 w) (h : table_Table_Len.f s0_0 = some r) :
    Calls Try.prog 23 #[.pointer (some ⟨g, 0, none⟩)] w fun e w' => e = .returned (.int .i64 r) ∧ IsS65 w0 w' g s0_0 ∧ Below w0.heap.size w0 w' ∧ KeepBut w w' g none := by
  have HI0 := Aside0.mk hI
  have HK := Aside0.mk (KeepBut.refl w g none)
  have HL := Aside0.mk hB.size
  clear hI
  have HW0 := Aside0.mk hB.size
  have HB := Aside0.mk hB
  clear hB
  have H : (some (s0_0.length : Int)) = some r := h
  clear h
  obtain rfl := Option.some.inj H
  obtain ⟨ASz2_0, cSz2_0, HGz2, hgz2, HSz2_0⟩ := HI0.out
  have hcz2_0 := cellS65_0 HGz2
  clear HGz2 hgz2
  go_enter Try.func23, Try.ntmps23
  go_wp2
  go_ret
  exact ⟨by first | rfl | (simp [errW_none, errW_some] <;> rfl) | (simp [*, errW_none, errW_some] <;> rfl), by repeat (first | (with_reducible first | exact HI0.out | apply IsS65.alloc | apply IsS65.drewN | apply IsS65.drew) | exact HI0.out), by repeat (first | (with_reducible first | exact HB.out | apply below_alloc | apply pw_below_drewN | apply below_drew1 | refine below_set ?_ (IsS65.ge HI0.out)) | exact HB.out), by repeat (first | (with_reducible first | exact HK.out | apply KeepBut.set_ | apply keep_drewN | apply keep_drew | apply keep_alloc) | exact HK.out)⟩

/-! ### table_New: function 29 -/
def table_New.f  : Option ((List (S28))) := some ([] : List (S28))
set_option maxHeartbeats 8000000 in
set_option maxRecDepth 100000 in
theorem table_New.calls  (r : List (S28)) (w0 w : World) (hB : Below w0.heap.size w0 w) (h : table_New.f  = some r) :
    Calls Try.prog 29 #[] w fun e w' => ∃ g_ : Nat, e = .returned (.pointer (some ⟨g_, 0, none⟩)) ∧ IsS65 w0 w' g_ r ∧ Below w0.heap.size w0 w' ∧ Below w.heap.size w w' := by
  have hu65 := Try.underlying65
  have HBW := Aside0.mk (Below.refl w.heap.size w)
  have HW0 := Aside0.mk hB.size
  have HB := Aside0.mk hB
  clear hB
  have H : (some ([] : List (S28))) = some r := h
  clear h
  obtain rfl := Option.some.inj H
  go_enter Try.func29, Try.ntmps29
  go_wp2_with (first | ((with_reducible refine gate_dst (N := 2) rfl ?_); refine box_event ?hg (N := 2) ?hd (cs := #[.slice none 0 0]) (t := 65) ?hr ?_; (case hd => rfl); (case hg => rfl); (case hr => first | (go_simp; done) | (go_simp; rfl)); intro gb108 hg w1 hbox hb; have n0_ := Aside0.mk (below_step HBW.out hb); have n1_ := Aside0.mk (below_step (by repeat (first | (with_reducible first | exact HB.out | apply below_alloc | apply pw_below_drewN | apply below_drew1) | exact HB.out)) hb); have n2_ := Aside0.mk (hbox); have n3_ := Aside0.mk ((by rw [hg]; exact (below_size (by repeat (first | (with_reducible first | exact HBW.out | apply below_alloc | apply pw_below_drewN | apply below_drew1) | exact HBW.out))) : w.heap.size ≤ gb108)); have n4_ := Aside0.mk ((Nat.le_trans HW0.out (by rw [hg]; exact (below_size (by repeat (first | (with_reducible first | exact HBW.out | apply below_alloc | apply pw_below_drewN | apply below_drew1) | exact HBW.out))) : w.heap.size ≤ gb108) : w0.heap.size ≤ gb108)); clear HBW; clear HB; have HBW := n0_; have HB := n1_; have BK108 := n2_; have GW108 := n3_; have GE108 := n4_; clear n0_ n1_ n2_ n3_ n4_; clear hb hbox hg))
  go_ret
  exact ⟨_, rfl, (show IsS65 w0 _ gb108 ([] : List (S28)) from ⟨none, 0, by (with_reducible repeat (first | refine blk_drewN ?_ _ | refine blk_drew ?_ | refine blk_alloc ?_ _)); exact BK108.out, GE108.out, (Kd.C_nil _ _)⟩), by repeat (first | (with_reducible first | exact HB.out | apply below_alloc | apply pw_below_drewN | apply below_drew1 | refine below_set ?_ GE108.out) | exact HB.out), by repeat (first | (with_reducible first | exact HBW.out | apply below_alloc | apply pw_below_drewN | apply below_drew1 | refine below_set ?_ GW108.out) | exact HBW.out)⟩

-- NOT PRINTED: function 10 (sojournlaw16_begun)

-- NOT PRINTED: function 51 (api_Session)

-- NOT PRINTED: function 37 (table_all)

-- NOT PRINTED: function 17 (table_Table_List)

end Go.Proofs.Ytagifiakjniedaa.PTab
