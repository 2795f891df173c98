import Derived.Test.YtbmiobkjkhechaaA5
import Derived.Test.YtbmiobkjkhechaaPSumsx0
namespace Go.Proofs.Ytbmiobkjkhechaa.Hand
open Go.RowKit Go.Proofs.YtbmiobkjkhechaaW.PrintWords Go.Proofs.YtbmiobkjkhechaaW.PrintLast Go.Proofs.YtbmiobkjkhechaaPlain
set_option linter.unusedVariables false
/-- The number that a sign and two digits are. -/
def num2 (b : Bool) (d0 d1 : Int) : Int := if b then -(4294967296 * d1 + d0) else 4294967296 * d1 + d0
def pairV (v : Int) : Int × Bool := if -9223372036854775808 ≤ v then (if v ≤ 9223372036854775807 then (v, true) else (0, false)) else (0, false)
theorem pairV_in {v : Int} (h : In v) : pairV v = (v, true) := by unfold pairV; rw [if_pos h.1, if_pos h.2]
theorem pairV_out {v : Int} (h : ¬ In v) : pairV v = (0, false) := by
  unfold pairV
  unfold In at h
  repeat' split
  all_goals first | rfl | (exfalso; omega)
def num4 (b : Bool) (d0 d1 d2 d3 : Int) : Int := if b then -(79228162514264337593543950336 * d3 + 18446744073709551616 * d2 + 4294967296 * d1 + d0) else 79228162514264337593543950336 * d3 + 18446744073709551616 * d2 + 4294967296 * d1 + d0
theorem fits_num (b : Bool) (d0 d1 d2 d3 : Int) (h0 : Dg d0) (h1 : Dg d1) (h2 : Dg d2) (h3 : Dg d3) : fitsV b d0 d1 d2 d3 = pairV (num4 b d0 d1 d2 d3) := by
  unfold Dg at *
  by_cases hi : In (num4 b d0 d1 d2 d3)
  · rw [pairV_in hi]
    unfold In num4 at *
    unfold fitsV
    cases b
    all_goals
      simp only [if_true, if_false, Bool.false_eq_true] at *
      repeat' split
      all_goals first | (exfalso; omega) | (simp; omega)
  · rw [pairV_out hi]
    unfold In num4 at *
    unfold fitsV
    cases b
    all_goals
      simp only [if_true, if_false, Bool.false_eq_true] at *
      repeat' split
      all_goals first | rfl | (exfalso; omega)
theorem num2_of (n : Int) (hn : In n) : num2 (decide (n < 0)) (lo n) (hi n) = n := by
  unfold num2 lo hi
  by_cases h : n < 0
  · rw [decide_eq_true h]; simp only [if_true]; omega
  · rw [decide_eq_false h]; simp only [Bool.false_eq_true, if_false]; omega
theorem lo_dg (n : Int) : Dg (lo n) := by unfold Dg lo; omega
theorem hi_dg (n : Int) (hn : In n) : Dg (hi n) ∧ hi n ≤ 2147483648 := by unfold Dg hi In at *; omega
theorem dg0 : Dg 0 := by unfold Dg; omega
/-- What sum leaves: a number in sign and digits. -/
def SumTo (v : Int) (w : World) (e : Ending) (w' : World) : Prop := ∃ (s : Bool) (z0 z1 z2 z3 : Int), e = .returned (wd s z0 z1 z2 z3) ∧ Dg z0 ∧ Dg z1 ∧ Dg z2 ∧ Dg z3 ∧ num4 s z0 z1 z2 z3 = v ∧ Below w.heap.size w w'
theorem plus2 (x0 x1 y0 y1 : Int) (w : World) (hx0 : Dg x0) (hx1 : Dg x1) (hy0 : Dg y0) (hy1 : Dg y1) : ∃ z0 z1 z2 z3 : Int, Dg z0 ∧ Dg z1 ∧ Dg z2 ∧ Dg z3 ∧ 79228162514264337593543950336 * z3 + 18446744073709551616 * z2 + 4294967296 * z1 + z0 = 4294967296 * (x1 + y1) + (x0 + y0) ∧
    ∀ W, Calls Try.prog 27 #[ar x0 x1 0 0, ar y0 y1 0 0] W fun e w' => e = .returned (ar z0 z1 z2 z3) ∧ Below W.heap.size W w' := by
  unfold Dg at *
  refine ⟨(x0 + y0) % 4294967296, (x1 + y1 + (x0 + y0) / 4294967296) % 4294967296, (x1 + y1 + (x0 + y0) / 4294967296) / 4294967296, 0, by omega, by omega, by omega, by omega, by omega, fun W => ?_⟩
  exact plus_calls x0 x1 0 0 y0 y1 0 0 _ _ _ _ ((x0 + y0) / 4294967296) ((x1 + y1 + (x0 + y0) / 4294967296) / 4294967296) 0 0 W hx0 hx1 dg0 dg0 hy0 hy1 dg0 dg0 (by unfold Dg; omega) (by unfold Dg; omega) (by unfold Dg; omega) (by unfold Dg; omega) (by omega) (by omega) (by omega) (by omega)
theorem less2 (x0 x1 y0 y1 : Int) (hx0 : Dg x0) (hx1 : Dg x1) (hy0 : Dg y0) (hy1 : Dg y1) (hge : 4294967296 * y1 + y0 ≤ 4294967296 * x1 + x0) : ∃ z0 z1 : Int, Dg z0 ∧ Dg z1 ∧ 4294967296 * z1 + z0 = (4294967296 * x1 + x0) - (4294967296 * y1 + y0) ∧
    ∀ W, Calls Try.prog 29 #[ar x0 x1 0 0, ar y0 y1 0 0] W fun e w' => e = .returned (ar z0 z1 0 0) ∧ Below W.heap.size W w' := by
  unfold Dg at *
  obtain ⟨c, hc⟩ : ∃ c : Int, c = if x0 - y0 < 0 then 1 else 0 := ⟨_, rfl⟩
  have hc' : (x0 - y0 < 0 ∧ c = 1) ∨ (0 ≤ x0 - y0 ∧ c = 0) := by rw [hc]; split <;> omega
  clear hc
  refine ⟨x0 - y0 + 4294967296 * c, x1 - y1 - c, by omega, by omega, by omega, fun W => ?_⟩
  exact less_calls x0 x1 0 0 y0 y1 0 0 _ _ _ _ c 0 0 0 W hx0 hx1 dg0 dg0 hy0 hy1 dg0 dg0 (by unfold Dg; omega) (by unfold Dg; omega) (by unfold Dg; omega) (by unfold Dg; omega) (by omega) (by omega) (by omega) (by omega) (by omega)
theorem cmp_ge (x0 x1 y0 y1 : Int) (hx0 : Dg x0) (hx1 : Dg x1) (hy0 : Dg y0) (hy1 : Dg y1) : (0 ≤ cmpV x0 x1 0 0 y0 y1 0 0 ∧ 4294967296 * y1 + y0 ≤ 4294967296 * x1 + x0) ∨ (cmpV x0 x1 0 0 y0 y1 0 0 < 0 ∧ 4294967296 * x1 + x0 ≤ 4294967296 * y1 + y0) := by
  unfold cmpV Dg at *
  repeat' split
  all_goals omega
theorem sum_calls (p q : Bool) (x0 x1 y0 y1 : Int) (w : World) (hx0 : Dg x0) (hx1 : Dg x1) (hy0 : Dg y0) (hy1 : Dg y1) :
    Calls Try.prog 22 #[wd p x0 x1 0 0, wd q y0 y1 0 0] w (SumTo (num2 p x0 x1 + num2 q y0 y1) w) := by
  by_cases hpq : q = p
  · subst hpq
    obtain ⟨z0, z1, z2, z3, h0, h1, h2, h3, hv, hp⟩ := plus2 x0 x1 y0 y1 w hx0 hx1 hy0 hy1
    refine (sum_same q x0 x1 0 0 y0 y1 0 0 z0 z1 z2 z3 w hp).mono ?_
    rintro e w' ⟨rfl, hb⟩
    refine ⟨q, z0, z1, z2, z3, rfl, h0, h1, h2, h3, ?_, hb⟩
    unfold num4 num2
    cases q <;> simp only [if_true, if_false, Bool.false_eq_true] <;> omega
  · obtain rfl : q = !p := by cases p <;> cases q <;> simp_all
    rcases cmp_ge x0 x1 y0 y1 hx0 hx1 hy0 hy1 with ⟨hc, hge⟩ | ⟨hc, hge⟩
    · obtain ⟨z0, z1, h0, h1, hv, hp⟩ := less2 x0 x1 y0 y1 hx0 hx1 hy0 hy1 hge
      refine (sum_ge p x0 x1 0 0 y0 y1 0 0 z0 z1 0 0 w hc hp).mono ?_
      rintro e w' ⟨rfl, hb⟩
      refine ⟨p, z0, z1, 0, 0, rfl, h0, h1, dg0, dg0, ?_, hb⟩
      unfold num4 num2
      cases p <;> simp only [if_true, if_false, Bool.false_eq_true, Bool.not_true, Bool.not_false] <;> omega
    · obtain ⟨z0, z1, h0, h1, hv, hp⟩ := less2 y0 y1 x0 x1 hy0 hy1 hx0 hx1 hge
      refine (sum_lt p x0 x1 0 0 y0 y1 0 0 z0 z1 0 0 w hc hp).mono ?_
      rintro e w' ⟨rfl, hb⟩
      refine ⟨!p, z0, z1, 0, 0, rfl, h0, h1, dg0, dg0, ?_, hb⟩
      unfold num4 num2
      cases p <;> simp only [if_true, if_false, Bool.false_eq_true, Bool.not_true, Bool.not_false] <;> omega
def inr (a : Int) (r : Option (Int × Bool)) : Option (Int × Bool) := if -9223372036854775808 ≤ a then (if a ≤ 9223372036854775807 then r else none) else none
theorem inr_some {a : Int} {r : Option (Int × Bool)} {x : Int × Bool} (h : inr a r = some x) : In a ∧ r = some x := by
  unfold inr at h
  split at h
  · split at h
    · exact ⟨⟨‹_›, ‹_›⟩, h⟩
    · cases h
  · cases h
theorem inr_in {a : Int} {r : Option (Int × Bool)} (h : In a) : inr a r = r := by unfold inr; rw [if_pos h.1, if_pos h.2]
end Go.Proofs.Ytbmiobkjkhechaa.Hand
namespace Go.Proofs.Ytbmiobkjkhechaa.PSums
open Go.RowKit Go.Proofs.YtbmiobkjkhechaaW.PrintWords Go.Proofs.YtbmiobkjkhechaaW.PrintLast Go.Proofs.YtbmiobkjkhechaaPlain Go.Proofs.Ytbmiobkjkhechaa.Hand
set_option linter.unusedVariables false
def sojournref01_Add.f (a0 a1 : Int) : Option (Int × Bool) := inr a0 (inr a1 (some (pairV (a0 + a1))))
set_option maxRecDepth 100000 in
theorem sojournref01_Add.calls (a0 a1 r1 : Int) (r2 : Bool) (w : World) (h : sojournref01_Add.f a0 a1 = some (r1, r2)) :
    Calls Try.prog 10 #[.int .i64 a0, .int .i64 a1] w fun e w' => e = .returned (.tuple #[.int .i64 r1, .bool r2]) ∧ Below w.heap.size w w' := by
  obtain ⟨h0, h⟩ := inr_some h
  obtain ⟨h1, h⟩ := inr_some h
  have h := Lib.hid (Option.some.inj h)
  go_enter Try.func10, Try.ntmps10
  go_wp2_with fail
  refine (of_calls a0 _ h0).mono ?_
  rintro e w1 ⟨rfl, hb1⟩
  have HB1 := Lib.hid hb1
  clear hb1
  go_wp2_with fail
  refine (of_calls a1 _ h1).mono ?_
  rintro e w2 ⟨rfl, hb2⟩
  have HB2 := Lib.hid (Below.trans HB1.out (hb2.mono HB1.out.size))
  clear hb2 HB1
  go_wp2_with fail
  refine (sum_calls _ _ _ _ _ _ _ (lo_dg a0) (hi_dg a0 h0).1 (lo_dg a1) (hi_dg a1 h1).1).mono ?_
  rintro e w3 ⟨s, z0, z1, z2, z3, rfl, g0, g1, g2, g3, hv, hb3⟩
  have HB3 := Lib.hid (Below.trans HB2.out (hb3.mono HB2.out.size))
  have HV := Lib.hid hv
  clear hb3 HB2 hv
  go_wp2_with fail
  refine (fits_calls s z0 z1 z2 z3 _ g0 g1 g2 g3).mono ?_
  rintro e w4 ⟨rfl, hb4⟩
  have HB4 := Lib.hid (Below.trans HB3.out (hb4.mono HB3.out.size))
  clear hb4 HB3
  go_wp2
  go_ret2
  refine ⟨?_, HB4.out⟩
  rw [fits_num s z0 z1 z2 z3 g0 g1 g2 g3, HV.out, num2_of a0 h0, num2_of a1 h1, h.out]
  rfl
end Go.Proofs.Ytbmiobkjkhechaa.PSums
