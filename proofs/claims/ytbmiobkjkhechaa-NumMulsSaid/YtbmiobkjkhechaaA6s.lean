import Derived.Test.YtbmiobkjkhechaaA6
import Derived.Test.YtbmiobkjkhechaaA4t
namespace Go.Proofs.Ytbmiobkjkhechaa.PSums
open Go.RowKit Go.Proofs.YtbmiobkjkhechaaW.PrintWords Go.Proofs.YtbmiobkjkhechaaW.PrintLast Go.Proofs.YtbmiobkjkhechaaPlain Go.Proofs.Ytbmiobkjkhechaa.Hand
set_option linter.unusedVariables false
def sojournref01_Sub.f (a0 a1 : Int) : Option (Int × Bool) := inr a0 (inr a1 (some (pairV (a0 - a1))))
def sojournref01_Neg.f (a0 : Int) : Option (Int × Bool) := inr a0 (some (pairV (-a0)))
theorem num2_not (b : Bool) (d0 d1 : Int) : num2 (!b) d0 d1 = -num2 b d0 d1 := by
  unfold num2
  cases b <;> simp only [if_true, if_false, Bool.false_eq_true, Bool.not_true, Bool.not_false] <;> omega
theorem num4_2 (b : Bool) (d0 d1 : Int) : num4 b d0 d1 0 0 = num2 b d0 d1 := by
  unfold num2 num4
  cases b <;> simp only [if_true, if_false, Bool.false_eq_true] <;> omega
set_option maxRecDepth 100000 in
theorem sojournref01_Sub.calls (a0 a1 r1 : Int) (r2 : Bool) (w : World) (h : sojournref01_Sub.f a0 a1 = some (r1, r2)) :
    Calls Try.prog 12 #[.int .i64 a0, .int .i64 a1] w fun e w' => e = .returned (.tuple #[.int .i64 r1, .bool r2]) ∧ Below w.heap.size w w' := by
  obtain ⟨h0, h⟩ := inr_some h
  obtain ⟨h1, h⟩ := inr_some h
  have h := Lib.hid (Option.some.inj h)
  go_enter Try.func12, Try.ntmps12
  go_wp2_with fail
  refine (of_calls a0 _ h0).mono ?_
  rintro e w1 ⟨rfl, hb1⟩
  have HB1 := Lib.hid hb1
  clear hb1
  go_wp2_with fail
  refine (of_calls a1 _ h1).mono ?_
  rintro e w2 ⟨rfl, hb2⟩
  have HB2 := Lib.hid (Below.trans HB1.out (hb2.mono HB1.out.size))
  clear hb2 HB1
  go_wp2_with fail
  refine (turned_calls _ _ _ _ _ _).mono ?_
  rintro e w3 ⟨rfl, hb3⟩
  have HB3 := Lib.hid (Below.trans HB2.out (hb3.mono HB2.out.size))
  clear hb3 HB2
  go_wp2_with fail
  refine (sum_calls _ _ _ _ _ _ _ (lo_dg a0) (hi_dg a0 h0).1 (lo_dg a1) (hi_dg a1 h1).1).mono ?_
  rintro e w4 ⟨s, z0, z1, z2, z3, rfl, g0, g1, g2, g3, hv, hb4⟩
  have HB4 := Lib.hid (Below.trans HB3.out (hb4.mono HB3.out.size))
  have HV := Lib.hid hv
  clear hb4 HB3 hv
  go_wp2_with fail
  refine (fits_calls s z0 z1 z2 z3 _ g0 g1 g2 g3).mono ?_
  rintro e w5 ⟨rfl, hb5⟩
  have HB5 := Lib.hid (Below.trans HB4.out (hb5.mono HB4.out.size))
  clear hb5 HB4
  go_wp2
  go_ret2
  refine ⟨?_, HB5.out⟩
  rw [fits_num s z0 z1 z2 z3 g0 g1 g2 g3, HV.out, num2_not, num2_of a0 h0, num2_of a1 h1, ← Int.sub_eq_add_neg, h.out]
  rfl
set_option maxRecDepth 100000 in
theorem sojournref01_Neg.calls (a0 r1 : Int) (r2 : Bool) (w : World) (h : sojournref01_Neg.f a0 = some (r1, r2)) :
    Calls Try.prog 20 #[.int .i64 a0] w fun e w' => e = .returned (.tuple #[.int .i64 r1, .bool r2]) ∧ Below w.heap.size w w' := by
  obtain ⟨h0, h⟩ := inr_some h
  have h := Lib.hid (Option.some.inj h)
  go_enter Try.func20, Try.ntmps20
  go_wp2_with fail
  refine (of_calls a0 _ h0).mono ?_
  rintro e w1 ⟨rfl, hb1⟩
  have HB1 := Lib.hid hb1
  clear hb1
  go_wp2_with fail
  refine (turned_calls _ _ _ _ _ _).mono ?_
  rintro e w3 ⟨rfl, hb3⟩
  have HB3 := Lib.hid (Below.trans HB1.out (hb3.mono HB1.out.size))
  clear hb3 HB1
  go_wp2_with fail
  refine (fits_calls _ _ _ _ _ _ (lo_dg a0) (hi_dg a0 h0).1 dg0 dg0).mono ?_
  rintro e w5 ⟨rfl, hb5⟩
  have HB5 := Lib.hid (Below.trans HB3.out (hb5.mono HB3.out.size))
  clear hb5 HB3
  go_wp2
  go_ret2
  refine ⟨?_, HB5.out⟩
  rw [fits_num _ _ _ _ _ (lo_dg a0) (hi_dg a0 h0).1 dg0 dg0, num4_2, num2_not, num2_of a0 h0, h.out]
  rfl
end Go.Proofs.Ytbmiobkjkhechaa.PSums
