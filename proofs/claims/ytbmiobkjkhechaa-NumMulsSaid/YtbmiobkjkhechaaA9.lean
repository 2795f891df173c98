import Derived.Test.YtbmiobkjkhechaaA8
namespace Go.Proofs.Ytbmiobkjkhechaa.PSums
open Go.RowKit Go.Proofs.YtbmiobkjkhechaaW.PrintWords Go.Proofs.YtbmiobkjkhechaaW.PrintLast Go.Proofs.YtbmiobkjkhechaaPlain Go.Proofs.Ytbmiobkjkhechaa.Hand
set_option linter.unusedVariables false
def sojournref01_Mul.f (a0 a1 : Int) : Option (Int × Bool) := inr a0 (inr a1 (some (pairV (a0 * a1))))
set_option maxRecDepth 100000 in
theorem sojournref01_Mul.calls (a0 a1 r1 : Int) (r2 : Bool) (w : World) (h : sojournref01_Mul.f a0 a1 = some (r1, r2)) :
    Calls Try.prog 18 #[.int .i64 a0, .int .i64 a1] w fun e w' => e = .returned (.tuple #[.int .i64 r1, .bool r2]) ∧ Below w.heap.size w w' := by
  obtain ⟨h0, h⟩ := inr_some h
  obtain ⟨h1, h⟩ := inr_some h
  have h := Lib.hid (Option.some.inj h)
  go_enter Try.func18, Try.ntmps18
  go_wp2_with fail
  refine (of_calls a0 _ h0).mono ?_
  rintro e w1 ⟨rfl, hb1⟩
  have HB1 := Lib.hid hb1
  clear hb1
  go_wp2_with fail
  refine (of_calls a1 _ h1).mono ?_
  rintro e w2 ⟨rfl, hb2⟩
  have HB2 := Lib.hid (Below.trans HB1.out (hb2.mono HB1.out.size))
  clear hb2 HB1
  go_wp2_with fail
  refine (product_calls _ _ _ _ _ _ _ (lo_dg a0) (hi_dg a0 h0).1 (lo_dg a1) (hi_dg a1 h1).1).mono ?_
  rintro e w3 ⟨s, z0, z1, z2, z3, rfl, g0, g1, g2, g3, hv, hb3⟩
  have HB3 := Lib.hid (Below.trans HB2.out (hb3.mono HB2.out.size))
  have HV := Lib.hid hv
  clear hb3 HB2 hv
  go_wp2_with fail
  refine (fits_calls s z0 z1 z2 z3 _ g0 g1 g2 g3).mono ?_
  rintro e w4 ⟨rfl, hb4⟩
  have HB4 := Lib.hid (Below.trans HB3.out (hb4.mono HB3.out.size))
  clear hb4 HB3
  go_wp2
  go_ret2
  refine ⟨?_, HB4.out⟩
  rw [fits_num s z0 z1 z2 z3 g0 g1 g2 g3, HV.out, num2_of a0 h0, num2_of a1 h1, h.out]
  rfl
end Go.Proofs.Ytbmiobkjkhechaa.PSums
