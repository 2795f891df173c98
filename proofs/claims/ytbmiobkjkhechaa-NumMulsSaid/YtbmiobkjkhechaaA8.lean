import Derived.Test.YtbmiobkjkhechaaA7
namespace Go.Proofs.Ytbmiobkjkhechaa.Hand
open Go.RowKit Go.Proofs.YtbmiobkjkhechaaW.PrintWords Go.Proofs.YtbmiobkjkhechaaW.PrintLast Go.Proofs.YtbmiobkjkhechaaPlain
set_option linter.unusedVariables false
set_option linter.unusedSimpArgs false
/-- The number that four digits are. -/
def vl (d0 d1 d2 d3 : Int) : Int := 79228162514264337593543950336 * d3 + 18446744073709551616 * d2 + 4294967296 * d1 + d0
theorem plus_ex (x0 x1 x2 x3 y0 y1 y2 y3 : Int) (hx0 : Dg x0) (hx1 : Dg x1) (hx2 : Dg x2) (hx3 : Dg x3) (hy0 : Dg y0) (hy1 : Dg y1) (hy2 : Dg y2) (hy3 : Dg y3) (hs : vl x0 x1 x2 x3 + vl y0 y1 y2 y3 < 340282366920938463463374607431768211456) :
    ∃ z0 z1 z2 z3 : Int, Dg z0 ∧ Dg z1 ∧ Dg z2 ∧ Dg z3 ∧ vl z0 z1 z2 z3 = vl x0 x1 x2 x3 + vl y0 y1 y2 y3 ∧ ∀ W, Calls Try.prog 27 #[ar x0 x1 x2 x3, ar y0 y1 y2 y3] W fun e w' => e = .returned (ar z0 z1 z2 z3) ∧ Below W.heap.size W w' := by
  obtain ⟨c0, d0, e0, hd0, hc0⟩ : ∃ c d : Int, x0 + y0 = 4294967296 * c + d ∧ Dg d ∧ 0 ≤ c ∧ c ≤ 1 := ⟨(x0 + y0) / 4294967296, (x0 + y0) % 4294967296, by omega, by unfold Dg at *; omega, by unfold Dg at *; omega⟩
  obtain ⟨c1, d1, e1, hd1, hc1⟩ : ∃ c d : Int, x1 + y1 + c0 = 4294967296 * c + d ∧ Dg d ∧ 0 ≤ c ∧ c ≤ 1 := ⟨(x1 + y1 + c0) / 4294967296, (x1 + y1 + c0) % 4294967296, by omega, by unfold Dg at *; omega, by unfold Dg at *; omega⟩
  obtain ⟨c2, d2, e2, hd2, hc2⟩ : ∃ c d : Int, x2 + y2 + c1 = 4294967296 * c + d ∧ Dg d ∧ 0 ≤ c ∧ c ≤ 1 := ⟨(x2 + y2 + c1) / 4294967296, (x2 + y2 + c1) % 4294967296, by omega, by unfold Dg at *; omega, by unfold Dg at *; omega⟩
  obtain ⟨c3, d3, e3, hd3, hc3⟩ : ∃ c d : Int, x3 + y3 + c2 = 4294967296 * c + d ∧ Dg d ∧ 0 ≤ c ∧ c ≤ 1 := ⟨(x3 + y3 + c2) / 4294967296, (x3 + y3 + c2) % 4294967296, by omega, by unfold Dg at *; omega, by unfold Dg at *; omega⟩
  refine ⟨d0, d1, d2, d3, hd0, hd1, hd2, hd3, ?_, fun W => plus_calls x0 x1 x2 x3 y0 y1 y2 y3 d0 d1 d2 d3 c0 c1 c2 c3 W hx0 hx1 hx2 hx3 hy0 hy1 hy2 hy3 hd0 hd1 hd2 hd3 e0 e1 e2 e3⟩
  unfold vl Dg at *
  omega
theorem mul_bd (a b : Int) (h0 : 0 ≤ a) (h1 : a ≤ 65535) (hb : Dg b) : 0 ≤ a * b ∧ a * b ≤ 281470681677825 := by
  unfold Dg at hb
  refine ⟨Int.mul_nonneg h0 hb.1, ?_⟩
  have := Int.mul_le_mul h1 (show b ≤ 4294967295 by omega) hb.1 (by omega)
  omega
theorem halves (a b : Int) : a * b = a % 65536 * b + 65536 * (a / 65536 * b) := by
  rw [← Int.mul_assoc, ← Int.add_mul]
  congr 1
  omega
theorem num2_mul (p q : Bool) (a0 a1 b0 b1 : Int) : num2 p a0 a1 * num2 q b0 b1 = if (p != q) = true then -(18446744073709551616 * (a1 * b1) + 4294967296 * (a0 * b1) + 4294967296 * (a1 * b0) + a0 * b0) else 18446744073709551616 * (a1 * b1) + 4294967296 * (a0 * b1) + 4294967296 * (a1 * b0) + a0 * b0 := by
  have e : (4294967296 * a1 + a0) * (4294967296 * b1 + b0) = 18446744073709551616 * (a1 * b1) + 4294967296 * (a0 * b1) + 4294967296 * (a1 * b0) + a0 * b0 := by
    rw [Int.add_mul, Int.mul_add, Int.mul_add]
    have h1 : 4294967296 * a1 * (4294967296 * b1) = 18446744073709551616 * (a1 * b1) := by
      rw [Int.mul_assoc, Int.mul_left_comm a1, ← Int.mul_assoc]; rfl
    have h2 : 4294967296 * a1 * b0 = 4294967296 * (a1 * b0) := Int.mul_assoc _ _ _
    have h3 : a0 * (4294967296 * b1) = 4294967296 * (a0 * b1) := Int.mul_left_comm _ _ _
    omega
  unfold num2
  cases p <;> cases q <;> simp only [if_true, if_false, Bool.false_eq_true, bne_self_eq_false, Bool.true_bne, Bool.false_bne, Bool.not_false, Bool.not_true, Int.neg_mul, Int.mul_neg, Int.neg_neg, e]

theorem product_calls (p q : Bool) (a0 a1 b0 b1 : Int) (w : World) (ha0 : Dg a0) (ha1 : Dg a1) (hb0 : Dg b0) (hb1 : Dg b1) :
    Calls Try.prog 26 #[wd p a0 a1 0 0, wd q b0 b1 0 0] w (SumTo (num2 p a0 a1 * num2 q b0 b1) w) := by
  have hL00 := mul_bd (a0 % 65536) b0 (by omega) (by omega) hb0
  have hH00 := mul_bd (a0 / 65536) b0 (by unfold Dg at ha0; omega) (by unfold Dg at ha0; omega) hb0
  have hh00 := halves a0 b0
  have hL01 := mul_bd (a0 % 65536) b1 (by omega) (by omega) hb1
  have hH01 := mul_bd (a0 / 65536) b1 (by unfold Dg at ha0; omega) (by unfold Dg at ha0; omega) hb1
  have hh01 := halves a0 b1
  have hL10 := mul_bd (a1 % 65536) b0 (by omega) (by omega) hb0
  have hH10 := mul_bd (a1 / 65536) b0 (by unfold Dg at ha1; omega) (by unfold Dg at ha1; omega) hb0
  have hh10 := halves a1 b0
  have hL11 := mul_bd (a1 % 65536) b1 (by omega) (by omega) hb1
  have hH11 := mul_bd (a1 / 65536) b1 (by unfold Dg at ha1; omega) (by unfold Dg at ha1; omega) hb1
  have hh11 := halves a1 b1
  rw [num2_mul]
  obtain ⟨L00, eL00⟩ : ∃ L : Int, a0 % 65536 * b0 = L := ⟨_, rfl⟩
  obtain ⟨H00, eH00⟩ : ∃ H : Int, a0 / 65536 * b0 = H := ⟨_, rfl⟩
  rw [eL00] at hL00 hh00
  rw [eH00] at hH00 hh00
  rw [hh00]
  obtain ⟨L01, eL01⟩ : ∃ L : Int, a0 % 65536 * b1 = L := ⟨_, rfl⟩
  obtain ⟨H01, eH01⟩ : ∃ H : Int, a0 / 65536 * b1 = H := ⟨_, rfl⟩
  rw [eL01] at hL01 hh01
  rw [eH01] at hH01 hh01
  rw [hh01]
  obtain ⟨L10, eL10⟩ : ∃ L : Int, a1 % 65536 * b0 = L := ⟨_, rfl⟩
  obtain ⟨H10, eH10⟩ : ∃ H : Int, a1 / 65536 * b0 = H := ⟨_, rfl⟩
  rw [eL10] at hL10 hh10
  rw [eH10] at hH10 hh10
  rw [hh10]
  obtain ⟨L11, eL11⟩ : ∃ L : Int, a1 % 65536 * b1 = L := ⟨_, rfl⟩
  obtain ⟨H11, eH11⟩ : ∃ H : Int, a1 / 65536 * b1 = H := ⟨_, rfl⟩
  rw [eL11] at hL11 hh11
  rw [eH11] at hH11 hh11
  rw [hh11]
  have hw1 : vl (L00 % 4294967296) (L00 / 4294967296) 0 0 = 1*L00 := by unfold vl; omega
  obtain ⟨z10, z11, z12, z13, hz10, hz11, hz12, hz13, hv1, hp1⟩ := plus_ex 0 0 0 0 (L00 % 4294967296) (L00 / 4294967296) 0 0 dg0 dg0 dg0 dg0 (by unfold Dg; omega) (by unfold Dg; omega) dg0 dg0 (by rw [hw1]; unfold vl; omega)
  replace hv1 : vl z10 z11 z12 z13 = 1*L00 := by rw [hv1, hw1]; unfold vl; omega
  have hw2 : vl (H00 % 65536 * 65536) (H00 / 65536 % 4294967296) 0 0 = 1*(65536*H00) := by unfold vl; omega
  obtain ⟨z20, z21, z22, z23, hz20, hz21, hz22, hz23, hv2, hp2⟩ := plus_ex z10 z11 z12 z13 (H00 % 65536 * 65536) (H00 / 65536 % 4294967296) 0 0 hz10 hz11 hz12 hz13 (by unfold Dg; omega) (by unfold Dg; omega) dg0 dg0 (by rw [hw2, hv1]; omega)
  replace hv2 : vl z20 z21 z22 z23 = 1*L00 + 1*(65536*H00) := by rw [hv2, hw2, hv1]
  have hw3 : vl 0 (L01 % 4294967296) (L01 / 4294967296) 0 = 4294967296*L01 := by unfold vl; omega
  obtain ⟨z30, z31, z32, z33, hz30, hz31, hz32, hz33, hv3, hp3⟩ := plus_ex z20 z21 z22 z23 0 (L01 % 4294967296) (L01 / 4294967296) 0 hz20 hz21 hz22 hz23 dg0 (by unfold Dg; omega) (by unfold Dg; omega) dg0 (by rw [hw3, hv2]; omega)
  replace hv3 : vl z30 z31 z32 z33 = 1*L00 + 1*(65536*H00) + 4294967296*L01 := by rw [hv3, hw3, hv2]
  have hw4 : vl 0 (H01 % 65536 * 65536) (H01 / 65536 % 4294967296) 0 = 4294967296*(65536*H01) := by unfold vl; omega
  obtain ⟨z40, z41, z42, z43, hz40, hz41, hz42, hz43, hv4, hp4⟩ := plus_ex z30 z31 z32 z33 0 (H01 % 65536 * 65536) (H01 / 65536 % 4294967296) 0 hz30 hz31 hz32 hz33 dg0 (by unfold Dg; omega) (by unfold Dg; omega) dg0 (by rw [hw4, hv3]; omega)
  replace hv4 : vl z40 z41 z42 z43 = 1*L00 + 1*(65536*H00) + 4294967296*L01 + 4294967296*(65536*H01) := by rw [hv4, hw4, hv3]
  have hw5 : vl 0 (L10 % 4294967296) (L10 / 4294967296) 0 = 4294967296*L10 := by unfold vl; omega
  obtain ⟨z50, z51, z52, z53, hz50, hz51, hz52, hz53, hv5, hp5⟩ := plus_ex z40 z41 z42 z43 0 (L10 % 4294967296) (L10 / 4294967296) 0 hz40 hz41 hz42 hz43 dg0 (by unfold Dg; omega) (by unfold Dg; omega) dg0 (by rw [hw5, hv4]; omega)
  replace hv5 : vl z50 z51 z52 z53 = 1*L00 + 1*(65536*H00) + 4294967296*L01 + 4294967296*(65536*H01) + 4294967296*L10 := by rw [hv5, hw5, hv4]
  have hw6 : vl 0 (H10 % 65536 * 65536) (H10 / 65536 % 4294967296) 0 = 4294967296*(65536*H10) := by unfold vl; omega
  obtain ⟨z60, z61, z62, z63, hz60, hz61, hz62, hz63, hv6, hp6⟩ := plus_ex z50 z51 z52 z53 0 (H10 % 65536 * 65536) (H10 / 65536 % 4294967296) 0 hz50 hz51 hz52 hz53 dg0 (by unfold Dg; omega) (by unfold Dg; omega) dg0 (by rw [hw6, hv5]; omega)
  replace hv6 : vl z60 z61 z62 z63 = 1*L00 + 1*(65536*H00) + 4294967296*L01 + 4294967296*(65536*H01) + 4294967296*L10 + 4294967296*(65536*H10) := by rw [hv6, hw6, hv5]
  have hw7 : vl 0 0 (L11 % 4294967296) (L11 / 4294967296) = 18446744073709551616*L11 := by unfold vl; omega
  obtain ⟨z70, z71, z72, z73, hz70, hz71, hz72, hz73, hv7, hp7⟩ := plus_ex z60 z61 z62 z63 0 0 (L11 % 4294967296) (L11 / 4294967296) hz60 hz61 hz62 hz63 dg0 dg0 (by unfold Dg; omega) (by unfold Dg; omega) (by rw [hw7, hv6]; omega)
  replace hv7 : vl z70 z71 z72 z73 = 1*L00 + 1*(65536*H00) + 4294967296*L01 + 4294967296*(65536*H01) + 4294967296*L10 + 4294967296*(65536*H10) + 18446744073709551616*L11 := by rw [hv7, hw7, hv6]
  have hw8 : vl 0 0 (H11 % 65536 * 65536) (H11 / 65536 % 4294967296) = 18446744073709551616*(65536*H11) := by unfold vl; omega
  obtain ⟨z80, z81, z82, z83, hz80, hz81, hz82, hz83, hv8, hp8⟩ := plus_ex z70 z71 z72 z73 0 0 (H11 % 65536 * 65536) (H11 / 65536 % 4294967296) hz70 hz71 hz72 hz73 dg0 dg0 (by unfold Dg; omega) (by unfold Dg; omega) (by rw [hw8, hv7]; omega)
  replace hv8 : vl z80 z81 z82 z83 = 1*L00 + 1*(65536*H00) + 4294967296*L01 + 4294967296*(65536*H01) + 4294967296*L10 + 4294967296*(65536*H10) + 18446744073709551616*L11 + 18446744073709551616*(65536*H11) := by rw [hv8, hw8, hv7]
  refine (product_walk p q a0 a1 b0 b1 L00 H00 L01 H01 L10 H10 L11 H11 z10 z11 z12 z13 z20 z21 z22 z23 z30 z31 z32 z33 z40 z41 z42 z43 z50 z51 z52 z53 z60 z61 z62 z63 z70 z71 z72 z73 z80 z81 z82 z83 w ha0 ha1 hb0 hb1 eL00 eH00 (by omega) (by omega) eL01 eH01 (by omega) (by omega) eL10 eH10 (by omega) (by omega) eL11 eH11 (by omega) (by omega) hp1 hp2 hp3 hp4 hp5 hp6 hp7 hp8).mono ?_
  rintro e w' ⟨rfl, hb⟩
  refine ⟨p != q, z80, z81, z82, z83, rfl, hz80, hz81, hz82, hz83, ?_, hb⟩
  have e : num4 (p != q) z80 z81 z82 z83 = if (p != q) = true then -vl z80 z81 z82 z83 else vl z80 z81 z82 z83 := rfl
  rw [e, hv8]
  cases (p != q) <;> simp only [if_true, if_false, Bool.false_eq_true] <;> omega

end Go.Proofs.Ytbmiobkjkhechaa.Hand
