import Derived.Test.YtbmiobkjkhechaaA6
namespace Go.Proofs.Ytbmiobkjkhechaa.Hand
open Go.RowKit Go.Proofs.YtbmiobkjkhechaaW.PrintWords Go.Proofs.YtbmiobkjkhechaaW.PrintLast Go.Proofs.YtbmiobkjkhechaaPlain
set_option linter.unusedVariables false
set_option linter.unusedSimpArgs false
attribute [local go_sem] setCell_drewN
attribute [local simp, local go_sem] ne2 ne2'
@[local go_sem] theorem alloc_drewN (w : World) (n : Nat) (o : Obj) : (w.drewN n).alloc o = (w.alloc o).drewN n := by
  induction n generalizing w with
  | zero => rfl
  | succ n ih => rfl
@[local simp, local go_sem] theorem ne3 (n : Nat) : (n = n + 1 + 1 + 1) ↔ False := iff_false_intro (by omega)
@[local simp, local go_sem] theorem ne3' (n : Nat) : (n + 1 + 1 + 1 = n) ↔ False := iff_false_intro (by omega)
@[local simp, local go_sem] theorem ne4 (n : Nat) : (n = n + 1 + 1 + 1 + 1) ↔ False := iff_false_intro (by omega)
@[local simp, local go_sem] theorem ne4' (n : Nat) : (n + 1 + 1 + 1 + 1 = n) ↔ False := iff_false_intro (by omega)
/-- What the walk keeps of a world: the two numbers, the product so far, the result's cells; g: the first block. -/
structure Inv (g : Nat) (v : World) (p q : Bool) (a0 a1 b0 b1 z0 z1 z2 z3 : Int) : Prop where
  c01 : v.cell? ⟨g, 1, none⟩ = some (.int .i64 a0)
  c02 : v.cell? ⟨g, 2, none⟩ = some (.int .i64 a1)
  c11 : v.cell? ⟨g + 1, 1, none⟩ = some (.int .i64 b0)
  c12 : v.cell? ⟨g + 1, 2, none⟩ = some (.int .i64 b1)
  c30 : v.cell? ⟨g + 1 + 1 + 1, 0, none⟩ = some (.bool (!p == q))
  c31 : v.cell? ⟨g + 1 + 1 + 1, 1, none⟩ = some (.int .i64 z0)
  c32 : v.cell? ⟨g + 1 + 1 + 1, 2, none⟩ = some (.int .i64 z1)
  c33 : v.cell? ⟨g + 1 + 1 + 1, 3, none⟩ = some (.int .i64 z2)
  c34 : v.cell? ⟨g + 1 + 1 + 1, 4, none⟩ = some (.int .i64 z3)
  c20 : v.cell? ⟨g + 1 + 1, 0, none⟩ = some (.bool false)
  c21 : v.cell? ⟨g + 1 + 1, 1, none⟩ = some (.int .i64 0)
  c22 : v.cell? ⟨g + 1 + 1, 2, none⟩ = some (.int .i64 0)
  c23 : v.cell? ⟨g + 1 + 1, 3, none⟩ = some (.int .i64 0)
  c24 : v.cell? ⟨g + 1 + 1, 4, none⟩ = some (.int .i64 0)
  f20 : v.frozen? ⟨g + 1 + 1, 0, none⟩ = false
  f21 : v.frozen? ⟨g + 1 + 1, 1, none⟩ = false
  f22 : v.frozen? ⟨g + 1 + 1, 2, none⟩ = false
  f23 : v.frozen? ⟨g + 1 + 1, 3, none⟩ = false
  f24 : v.frozen? ⟨g + 1 + 1, 4, none⟩ = false
  f30 : v.frozen? ⟨g + 1 + 1 + 1, 0, none⟩ = false
  f31 : v.frozen? ⟨g + 1 + 1 + 1, 1, none⟩ = false
  f32 : v.frozen? ⟨g + 1 + 1 + 1, 2, none⟩ = false
  f33 : v.frozen? ⟨g + 1 + 1 + 1, 3, none⟩ = false
  f34 : v.frozen? ⟨g + 1 + 1 + 1, 4, none⟩ = false
  hz : g + 1 + 1 + 1 < v.heap.size
theorem wp_forget {P : Program} {c : Code} {Q : Exit → Act → World → Prop} {a : Act} {w : World} (I : World → Prop) (hI : I w) (h : ∀ v, I v → Code.wp P c Q a v) : Code.wp P c Q a w := h w hI
set_option maxRecDepth 100000 in
set_option maxHeartbeats 4000000 in
theorem product_walk (p q : Bool) (a0 a1 b0 b1 L00 H00 L01 H01 L10 H10 L11 H11 z10 z11 z12 z13 z20 z21 z22 z23 z30 z31 z32 z33 z40 z41 z42 z43 z50 z51 z52 z53 z60 z61 z62 z63 z70 z71 z72 z73 z80 z81 z82 z83 : Int) (w : World) (ha0 : Dg a0) (ha1 : Dg a1) (hb0 : Dg b0) (hb1 : Dg b1) (hL00 : a0 % 65536 * b0 = L00) (hH00 : a0 / 65536 * b0 = H00) (bL00 : 0 ≤ L00 ∧ L00 < 281474976710656) (bH00 : 0 ≤ H00 ∧ H00 < 281474976710656) (hL01 : a0 % 65536 * b1 = L01) (hH01 : a0 / 65536 * b1 = H01) (bL01 : 0 ≤ L01 ∧ L01 < 281474976710656) (bH01 : 0 ≤ H01 ∧ H01 < 281474976710656) (hL10 : a1 % 65536 * b0 = L10) (hH10 : a1 / 65536 * b0 = H10) (bL10 : 0 ≤ L10 ∧ L10 < 281474976710656) (bH10 : 0 ≤ H10 ∧ H10 < 281474976710656) (hL11 : a1 % 65536 * b1 = L11) (hH11 : a1 / 65536 * b1 = H11) (bL11 : 0 ≤ L11 ∧ L11 < 281474976710656) (bH11 : 0 ≤ H11 ∧ H11 < 281474976710656)
    (hp1 : ∀ W, Calls Try.prog 27 #[ar 0 0 0 0, ar (L00 % 4294967296) (L00 / 4294967296) 0 0] W fun e w' => e = .returned (ar z10 z11 z12 z13) ∧ Below W.heap.size W w')
    (hp2 : ∀ W, Calls Try.prog 27 #[ar z10 z11 z12 z13, ar (H00 % 65536 * 65536) (H00 / 65536 % 4294967296) 0 0] W fun e w' => e = .returned (ar z20 z21 z22 z23) ∧ Below W.heap.size W w')
    (hp3 : ∀ W, Calls Try.prog 27 #[ar z20 z21 z22 z23, ar 0 (L01 % 4294967296) (L01 / 4294967296) 0] W fun e w' => e = .returned (ar z30 z31 z32 z33) ∧ Below W.heap.size W w')
    (hp4 : ∀ W, Calls Try.prog 27 #[ar z30 z31 z32 z33, ar 0 (H01 % 65536 * 65536) (H01 / 65536 % 4294967296) 0] W fun e w' => e = .returned (ar z40 z41 z42 z43) ∧ Below W.heap.size W w')
    (hp5 : ∀ W, Calls Try.prog 27 #[ar z40 z41 z42 z43, ar 0 (L10 % 4294967296) (L10 / 4294967296) 0] W fun e w' => e = .returned (ar z50 z51 z52 z53) ∧ Below W.heap.size W w')
    (hp6 : ∀ W, Calls Try.prog 27 #[ar z50 z51 z52 z53, ar 0 (H10 % 65536 * 65536) (H10 / 65536 % 4294967296) 0] W fun e w' => e = .returned (ar z60 z61 z62 z63) ∧ Below W.heap.size W w')
    (hp7 : ∀ W, Calls Try.prog 27 #[ar z60 z61 z62 z63, ar 0 0 (L11 % 4294967296) (L11 / 4294967296)] W fun e w' => e = .returned (ar z70 z71 z72 z73) ∧ Below W.heap.size W w')
    (hp8 : ∀ W, Calls Try.prog 27 #[ar z70 z71 z72 z73, ar 0 0 (H11 % 65536 * 65536) (H11 / 65536 % 4294967296)] W fun e w' => e = .returned (ar z80 z81 z82 z83) ∧ Below W.heap.size W w') :
    Calls Try.prog 26 #[wd p a0 a1 0 0, wd q b0 b1 0 0] w fun e w' => e = .returned (wd (p != q) z80 z81 z82 z83) ∧ Below w.heap.size w w' := by
  unfold wd
  unfold ar at *
  unfold Dg at *
  have HP1 := Lib.hid hp1
  have HP2 := Lib.hid hp2
  have HP3 := Lib.hid hp3
  have HP4 := Lib.hid hp4
  have HP5 := Lib.hid hp5
  have HP6 := Lib.hid hp6
  have HP7 := Lib.hid hp7
  have HP8 := Lib.hid hp8
  clear hp1 hp2 hp3 hp4 hp5 hp6 hp7 hp8
  go_enter Try.func26, Try.ntmps26
  go_wp2_with fail
  refine wp_loop_rounds 3 ?_
  rw [rounds_succ]
  go_wp2_with fail
  refine wp_loop_rounds 3 ?_
  rw [rounds_succ]
  go_upto_region 8 with (fail)
  refine wp_forget (fun v => Inv w.heap.size v p q a0 a1 b0 b1 0 0 0 0 ∧ Below w.heap.size w v) ⟨⟨(by go_simp), (by go_simp), (by go_simp), (by go_simp), (by go_simp), (by go_simp), (by go_simp), (by go_simp), (by go_simp), (by go_simp), (by go_simp), (by go_simp), (by go_simp), (by go_simp), (by go_simp), (by go_simp), (by go_simp), (by go_simp), (by go_simp), (by go_simp), (by go_simp), (by go_simp), (by go_simp), (by go_simp), (by simp; try omega)⟩, ?_⟩ ?_
  · repeat (first | (with_reducible exact Below.refl _ _) | (with_reducible refine Below.setCell ?_ (by first | omega | (simp; done) | (simp; omega)) _) | (with_reducible refine Below.alloc ?_ (by first | omega | (simp; done) | (simp; omega)) _) | (with_reducible refine pw_below_drewN ?_ _) | (with_reducible refine Below.drew ?_))
  rintro v0 ⟨⟨c01, c02, c11, c12, c30, c31, c32, c33, c34, c20, c21, c22, c23, c24, f20, f21, f22, f23, f24, f30, f31, f32, f33, f34, hz⟩, hb⟩
  have HV0 := Lib.hid hb
  clear hb
  have hn0 : (w.heap.size = v0.heap.size) ↔ False := iff_false_intro (by omega)
  have hm0 : (v0.heap.size = w.heap.size) ↔ False := iff_false_intro (by omega)
  have hn1 : (w.heap.size + 1 = v0.heap.size) ↔ False := iff_false_intro (by omega)
  have hm1 : (v0.heap.size = w.heap.size + 1) ↔ False := iff_false_intro (by omega)
  have hn2 : (w.heap.size + 1 + 1 = v0.heap.size) ↔ False := iff_false_intro (by omega)
  have hm2 : (v0.heap.size = w.heap.size + 1 + 1) ↔ False := iff_false_intro (by omega)
  have hn3 : (w.heap.size + 1 + 1 + 1 = v0.heap.size) ↔ False := iff_false_intro (by omega)
  have hm3 : (v0.heap.size = w.heap.size + 1 + 1 + 1) ↔ False := iff_false_intro (by omega)
  go_wp2_with fail
  go_quiet (fail)
  go_wp2_with fail
  go_quiet (fail)
  go_wp2_with fail
  refine (HP1.out _).mono ?_
  rintro e w1 ⟨rfl, hb⟩
  have hbv : Below v0.heap.size v0 w1 := by
    refine Below.trans ?_ (hb.mono (by simp; try omega))
    repeat (first | (with_reducible exact Below.refl _ _) | (with_reducible refine Below.setCell ?_ (by first | omega | (simp; done) | (simp; omega)) _) | (with_reducible refine Below.alloc ?_ (by first | omega | (simp; done) | (simp; omega)) _) | (with_reducible refine pw_below_drewN ?_ _) | (with_reducible refine Below.drew ?_))
  obtain ⟨hc, hf⟩ := bcell hbv
  have hz1 : w.heap.size + 1 + 1 + 1 < w1.heap.size := Nat.lt_of_lt_of_le hz hbv.size
  have HC1 : Hid (Below w.heap.size w w1) := Lib.hid (Below.trans HV0.out (hbv.mono (by omega)))
  replace c01 := (hc (w.heap.size) 1 (by omega)).trans c01
  replace c02 := (hc (w.heap.size) 2 (by omega)).trans c02
  replace c11 := (hc (w.heap.size + 1) 1 (by omega)).trans c11
  replace c12 := (hc (w.heap.size + 1) 2 (by omega)).trans c12
  replace c30 := (hc (w.heap.size + 1 + 1 + 1) 0 (by omega)).trans c30
  replace c31 := (hc (w.heap.size + 1 + 1 + 1) 1 (by omega)).trans c31
  replace c32 := (hc (w.heap.size + 1 + 1 + 1) 2 (by omega)).trans c32
  replace c33 := (hc (w.heap.size + 1 + 1 + 1) 3 (by omega)).trans c33
  replace c34 := (hc (w.heap.size + 1 + 1 + 1) 4 (by omega)).trans c34
  replace c20 := (hc (w.heap.size + 1 + 1) 0 (by omega)).trans c20
  replace c21 := (hc (w.heap.size + 1 + 1) 1 (by omega)).trans c21
  replace c22 := (hc (w.heap.size + 1 + 1) 2 (by omega)).trans c22
  replace c23 := (hc (w.heap.size + 1 + 1) 3 (by omega)).trans c23
  replace c24 := (hc (w.heap.size + 1 + 1) 4 (by omega)).trans c24
  replace f20 := (hf (w.heap.size + 1 + 1) 0 (by omega)).trans f20
  replace f21 := (hf (w.heap.size + 1 + 1) 1 (by omega)).trans f21
  replace f22 := (hf (w.heap.size + 1 + 1) 2 (by omega)).trans f22
  replace f23 := (hf (w.heap.size + 1 + 1) 3 (by omega)).trans f23
  replace f24 := (hf (w.heap.size + 1 + 1) 4 (by omega)).trans f24
  replace f30 := (hf (w.heap.size + 1 + 1 + 1) 0 (by omega)).trans f30
  replace f31 := (hf (w.heap.size + 1 + 1 + 1) 1 (by omega)).trans f31
  replace f32 := (hf (w.heap.size + 1 + 1 + 1) 2 (by omega)).trans f32
  replace f33 := (hf (w.heap.size + 1 + 1 + 1) 3 (by omega)).trans f33
  replace f34 := (hf (w.heap.size + 1 + 1 + 1) 4 (by omega)).trans f34
  clear hc hf hb hbv hz hn0 hn1 hn2 hn3 hm0 hm1 hm2 hm3
  have hn0 : (w.heap.size = w1.heap.size) ↔ False := iff_false_intro (by omega)
  have hm0 : (w1.heap.size = w.heap.size) ↔ False := iff_false_intro (by omega)
  have hn1 : (w.heap.size + 1 = w1.heap.size) ↔ False := iff_false_intro (by omega)
  have hm1 : (w1.heap.size = w.heap.size + 1) ↔ False := iff_false_intro (by omega)
  have hn2 : (w.heap.size + 1 + 1 = w1.heap.size) ↔ False := iff_false_intro (by omega)
  have hm2 : (w1.heap.size = w.heap.size + 1 + 1) ↔ False := iff_false_intro (by omega)
  have hn3 : (w.heap.size + 1 + 1 + 1 = w1.heap.size) ↔ False := iff_false_intro (by omega)
  have hm3 : (w1.heap.size = w.heap.size + 1 + 1 + 1) ↔ False := iff_false_intro (by omega)
  go_upto_region 14 with (fail)
  refine wp_forget (fun v => Inv w.heap.size v p q a0 a1 b0 b1 z10 z11 z12 z13 ∧ Below w.heap.size w v) ⟨⟨(by go_simp), (by go_simp), (by go_simp), (by go_simp), (by go_simp), (by go_simp), (by go_simp), (by go_simp), (by go_simp), (by go_simp), (by go_simp), (by go_simp), (by go_simp), (by go_simp), (by go_simp), (by go_simp), (by go_simp), (by go_simp), (by go_simp), (by go_simp), (by go_simp), (by go_simp), (by go_simp), (by go_simp), (by simp; try omega)⟩, ?_⟩ ?_
  · repeat (first | (with_reducible exact HC1.out) | (with_reducible exact Below.refl _ _) | (with_reducible refine Below.setCell ?_ (by first | omega | (simp; done) | (simp; omega)) _) | (with_reducible refine Below.alloc ?_ (by first | omega | (simp; done) | (simp; omega)) _) | (with_reducible refine pw_below_drewN ?_ _) | (with_reducible refine Below.drew ?_))
  rintro v1 ⟨⟨c01, c02, c11, c12, c30, c31, c32, c33, c34, c20, c21, c22, c23, c24, f20, f21, f22, f23, f24, f30, f31, f32, f33, f34, hz⟩, hb⟩
  have HV1 := Lib.hid hb
  clear hb
  have hn0 : (w.heap.size = v1.heap.size) ↔ False := iff_false_intro (by omega)
  have hm0 : (v1.heap.size = w.heap.size) ↔ False := iff_false_intro (by omega)
  have hn1 : (w.heap.size + 1 = v1.heap.size) ↔ False := iff_false_intro (by omega)
  have hm1 : (v1.heap.size = w.heap.size + 1) ↔ False := iff_false_intro (by omega)
  have hn2 : (w.heap.size + 1 + 1 = v1.heap.size) ↔ False := iff_false_intro (by omega)
  have hm2 : (v1.heap.size = w.heap.size + 1 + 1) ↔ False := iff_false_intro (by omega)
  have hn3 : (w.heap.size + 1 + 1 + 1 = v1.heap.size) ↔ False := iff_false_intro (by omega)
  have hm3 : (v1.heap.size = w.heap.size + 1 + 1 + 1) ↔ False := iff_false_intro (by omega)
  go_wp2_with fail
  refine (HP2.out _).mono ?_
  rintro e w2 ⟨rfl, hb⟩
  have hbv : Below v1.heap.size v1 w2 := by
    refine Below.trans ?_ (hb.mono (by simp; try omega))
    repeat (first | (with_reducible exact Below.refl _ _) | (with_reducible refine Below.setCell ?_ (by first | omega | (simp; done) | (simp; omega)) _) | (with_reducible refine Below.alloc ?_ (by first | omega | (simp; done) | (simp; omega)) _) | (with_reducible refine pw_below_drewN ?_ _) | (with_reducible refine Below.drew ?_))
  obtain ⟨hc, hf⟩ := bcell hbv
  have hz2 : w.heap.size + 1 + 1 + 1 < w2.heap.size := Nat.lt_of_lt_of_le hz hbv.size
  have HC2 : Hid (Below w.heap.size w w2) := Lib.hid (Below.trans HV1.out (hbv.mono (by omega)))
  replace c01 := (hc (w.heap.size) 1 (by omega)).trans c01
  replace c02 := (hc (w.heap.size) 2 (by omega)).trans c02
  replace c11 := (hc (w.heap.size + 1) 1 (by omega)).trans c11
  replace c12 := (hc (w.heap.size + 1) 2 (by omega)).trans c12
  replace c30 := (hc (w.heap.size + 1 + 1 + 1) 0 (by omega)).trans c30
  replace c31 := (hc (w.heap.size + 1 + 1 + 1) 1 (by omega)).trans c31
  replace c32 := (hc (w.heap.size + 1 + 1 + 1) 2 (by omega)).trans c32
  replace c33 := (hc (w.heap.size + 1 + 1 + 1) 3 (by omega)).trans c33
  replace c34 := (hc (w.heap.size + 1 + 1 + 1) 4 (by omega)).trans c34
  replace c20 := (hc (w.heap.size + 1 + 1) 0 (by omega)).trans c20
  replace c21 := (hc (w.heap.size + 1 + 1) 1 (by omega)).trans c21
  replace c22 := (hc (w.heap.size + 1 + 1) 2 (by omega)).trans c22
  replace c23 := (hc (w.heap.size + 1 + 1) 3 (by omega)).trans c23
  replace c24 := (hc (w.heap.size + 1 + 1) 4 (by omega)).trans c24
  replace f20 := (hf (w.heap.size + 1 + 1) 0 (by omega)).trans f20
  replace f21 := (hf (w.heap.size + 1 + 1) 1 (by omega)).trans f21
  replace f22 := (hf (w.heap.size + 1 + 1) 2 (by omega)).trans f22
  replace f23 := (hf (w.heap.size + 1 + 1) 3 (by omega)).trans f23
  replace f24 := (hf (w.heap.size + 1 + 1) 4 (by omega)).trans f24
  replace f30 := (hf (w.heap.size + 1 + 1 + 1) 0 (by omega)).trans f30
  replace f31 := (hf (w.heap.size + 1 + 1 + 1) 1 (by omega)).trans f31
  replace f32 := (hf (w.heap.size + 1 + 1 + 1) 2 (by omega)).trans f32
  replace f33 := (hf (w.heap.size + 1 + 1 + 1) 3 (by omega)).trans f33
  replace f34 := (hf (w.heap.size + 1 + 1 + 1) 4 (by omega)).trans f34
  clear hc hf hb hbv hz hn0 hn1 hn2 hn3 hm0 hm1 hm2 hm3
  have hn0 : (w.heap.size = w2.heap.size) ↔ False := iff_false_intro (by omega)
  have hm0 : (w2.heap.size = w.heap.size) ↔ False := iff_false_intro (by omega)
  have hn1 : (w.heap.size + 1 = w2.heap.size) ↔ False := iff_false_intro (by omega)
  have hm1 : (w2.heap.size = w.heap.size + 1) ↔ False := iff_false_intro (by omega)
  have hn2 : (w.heap.size + 1 + 1 = w2.heap.size) ↔ False := iff_false_intro (by omega)
  have hm2 : (w2.heap.size = w.heap.size + 1 + 1) ↔ False := iff_false_intro (by omega)
  have hn3 : (w.heap.size + 1 + 1 + 1 = w2.heap.size) ↔ False := iff_false_intro (by omega)
  have hm3 : (w2.heap.size = w.heap.size + 1 + 1 + 1) ↔ False := iff_false_intro (by omega)
  go_upto_region 7 with (fail)
  refine wp_forget (fun v => Inv w.heap.size v p q a0 a1 b0 b1 z20 z21 z22 z23 ∧ Below w.heap.size w v) ⟨⟨(by go_simp), (by go_simp), (by go_simp), (by go_simp), (by go_simp), (by go_simp), (by go_simp), (by go_simp), (by go_simp), (by go_simp), (by go_simp), (by go_simp), (by go_simp), (by go_simp), (by go_simp), (by go_simp), (by go_simp), (by go_simp), (by go_simp), (by go_simp), (by go_simp), (by go_simp), (by go_simp), (by go_simp), (by simp; try omega)⟩, ?_⟩ ?_
  · repeat (first | (with_reducible exact HC2.out) | (with_reducible exact Below.refl _ _) | (with_reducible refine Below.setCell ?_ (by first | omega | (simp; done) | (simp; omega)) _) | (with_reducible refine Below.alloc ?_ (by first | omega | (simp; done) | (simp; omega)) _) | (with_reducible refine pw_below_drewN ?_ _) | (with_reducible refine Below.drew ?_))
  rintro v2 ⟨⟨c01, c02, c11, c12, c30, c31, c32, c33, c34, c20, c21, c22, c23, c24, f20, f21, f22, f23, f24, f30, f31, f32, f33, f34, hz⟩, hb⟩
  have HV2 := Lib.hid hb
  clear hb
  have hn0 : (w.heap.size = v2.heap.size) ↔ False := iff_false_intro (by omega)
  have hm0 : (v2.heap.size = w.heap.size) ↔ False := iff_false_intro (by omega)
  have hn1 : (w.heap.size + 1 = v2.heap.size) ↔ False := iff_false_intro (by omega)
  have hm1 : (v2.heap.size = w.heap.size + 1) ↔ False := iff_false_intro (by omega)
  have hn2 : (w.heap.size + 1 + 1 = v2.heap.size) ↔ False := iff_false_intro (by omega)
  have hm2 : (v2.heap.size = w.heap.size + 1 + 1) ↔ False := iff_false_intro (by omega)
  have hn3 : (w.heap.size + 1 + 1 + 1 = v2.heap.size) ↔ False := iff_false_intro (by omega)
  have hm3 : (v2.heap.size = w.heap.size + 1 + 1 + 1) ↔ False := iff_false_intro (by omega)
  go_wp2_with fail
  rw [rounds_succ]
  go_wp2_with fail
  go_quiet (fail)
  go_wp2_with fail
  go_quiet (fail)
  go_wp2_with fail
  refine (HP3.out _).mono ?_
  rintro e w3 ⟨rfl, hb⟩
  have hbv : Below v2.heap.size v2 w3 := by
    refine Below.trans ?_ (hb.mono (by simp; try omega))
    repeat (first | (with_reducible exact Below.refl _ _) | (with_reducible refine Below.setCell ?_ (by first | omega | (simp; done) | (simp; omega)) _) | (with_reducible refine Below.alloc ?_ (by first | omega | (simp; done) | (simp; omega)) _) | (with_reducible refine pw_below_drewN ?_ _) | (with_reducible refine Below.drew ?_))
  obtain ⟨hc, hf⟩ := bcell hbv
  have hz3 : w.heap.size + 1 + 1 + 1 < w3.heap.size := Nat.lt_of_lt_of_le hz hbv.size
  have HC3 : Hid (Below w.heap.size w w3) := Lib.hid (Below.trans HV2.out (hbv.mono (by omega)))
  replace c01 := (hc (w.heap.size) 1 (by omega)).trans c01
  replace c02 := (hc (w.heap.size) 2 (by omega)).trans c02
  replace c11 := (hc (w.heap.size + 1) 1 (by omega)).trans c11
  replace c12 := (hc (w.heap.size + 1) 2 (by omega)).trans c12
  replace c30 := (hc (w.heap.size + 1 + 1 + 1) 0 (by omega)).trans c30
  replace c31 := (hc (w.heap.size + 1 + 1 + 1) 1 (by omega)).trans c31
  replace c32 := (hc (w.heap.size + 1 + 1 + 1) 2 (by omega)).trans c32
  replace c33 := (hc (w.heap.size + 1 + 1 + 1) 3 (by omega)).trans c33
  replace c34 := (hc (w.heap.size + 1 + 1 + 1) 4 (by omega)).trans c34
  replace c20 := (hc (w.heap.size + 1 + 1) 0 (by omega)).trans c20
  replace c21 := (hc (w.heap.size + 1 + 1) 1 (by omega)).trans c21
  replace c22 := (hc (w.heap.size + 1 + 1) 2 (by omega)).trans c22
  replace c23 := (hc (w.heap.size + 1 + 1) 3 (by omega)).trans c23
  replace c24 := (hc (w.heap.size + 1 + 1) 4 (by omega)).trans c24
  replace f20 := (hf (w.heap.size + 1 + 1) 0 (by omega)).trans f20
  replace f21 := (hf (w.heap.size + 1 + 1) 1 (by omega)).trans f21
  replace f22 := (hf (w.heap.size + 1 + 1) 2 (by omega)).trans f22
  replace f23 := (hf (w.heap.size + 1 + 1) 3 (by omega)).trans f23
  replace f24 := (hf (w.heap.size + 1 + 1) 4 (by omega)).trans f24
  replace f30 := (hf (w.heap.size + 1 + 1 + 1) 0 (by omega)).trans f30
  replace f31 := (hf (w.heap.size + 1 + 1 + 1) 1 (by omega)).trans f31
  replace f32 := (hf (w.heap.size + 1 + 1 + 1) 2 (by omega)).trans f32
  replace f33 := (hf (w.heap.size + 1 + 1 + 1) 3 (by omega)).trans f33
  replace f34 := (hf (w.heap.size + 1 + 1 + 1) 4 (by omega)).trans f34
  clear hc hf hb hbv hz hn0 hn1 hn2 hn3 hm0 hm1 hm2 hm3
  have hn0 : (w.heap.size = w3.heap.size) ↔ False := iff_false_intro (by omega)
  have hm0 : (w3.heap.size = w.heap.size) ↔ False := iff_false_intro (by omega)
  have hn1 : (w.heap.size + 1 = w3.heap.size) ↔ False := iff_false_intro (by omega)
  have hm1 : (w3.heap.size = w.heap.size + 1) ↔ False := iff_false_intro (by omega)
  have hn2 : (w.heap.size + 1 + 1 = w3.heap.size) ↔ False := iff_false_intro (by omega)
  have hm2 : (w3.heap.size = w.heap.size + 1 + 1) ↔ False := iff_false_intro (by omega)
  have hn3 : (w.heap.size + 1 + 1 + 1 = w3.heap.size) ↔ False := iff_false_intro (by omega)
  have hm3 : (w3.heap.size = w.heap.size + 1 + 1 + 1) ↔ False := iff_false_intro (by omega)
  go_upto_region 14 with (fail)
  refine wp_forget (fun v => Inv w.heap.size v p q a0 a1 b0 b1 z30 z31 z32 z33 ∧ Below w.heap.size w v) ⟨⟨(by go_simp), (by go_simp), (by go_simp), (by go_simp), (by go_simp), (by go_simp), (by go_simp), (by go_simp), (by go_simp), (by go_simp), (by go_simp), (by go_simp), (by go_simp), (by go_simp), (by go_simp), (by go_simp), (by go_simp), (by go_simp), (by go_simp), (by go_simp), (by go_simp), (by go_simp), (by go_simp), (by go_simp), (by simp; try omega)⟩, ?_⟩ ?_
  · repeat (first | (with_reducible exact HC3.out) | (with_reducible exact Below.refl _ _) | (with_reducible refine Below.setCell ?_ (by first | omega | (simp; done) | (simp; omega)) _) | (with_reducible refine Below.alloc ?_ (by first | omega | (simp; done) | (simp; omega)) _) | (with_reducible refine pw_below_drewN ?_ _) | (with_reducible refine Below.drew ?_))
  rintro v3 ⟨⟨c01, c02, c11, c12, c30, c31, c32, c33, c34, c20, c21, c22, c23, c24, f20, f21, f22, f23, f24, f30, f31, f32, f33, f34, hz⟩, hb⟩
  have HV3 := Lib.hid hb
  clear hb
  have hn0 : (w.heap.size = v3.heap.size) ↔ False := iff_false_intro (by omega)
  have hm0 : (v3.heap.size = w.heap.size) ↔ False := iff_false_intro (by omega)
  have hn1 : (w.heap.size + 1 = v3.heap.size) ↔ False := iff_false_intro (by omega)
  have hm1 : (v3.heap.size = w.heap.size + 1) ↔ False := iff_false_intro (by omega)
  have hn2 : (w.heap.size + 1 + 1 = v3.heap.size) ↔ False := iff_false_intro (by omega)
  have hm2 : (v3.heap.size = w.heap.size + 1 + 1) ↔ False := iff_false_intro (by omega)
  have hn3 : (w.heap.size + 1 + 1 + 1 = v3.heap.size) ↔ False := iff_false_intro (by omega)
  have hm3 : (v3.heap.size = w.heap.size + 1 + 1 + 1) ↔ False := iff_false_intro (by omega)
  go_wp2_with fail
  refine (HP4.out _).mono ?_
  rintro e w4 ⟨rfl, hb⟩
  have hbv : Below v3.heap.size v3 w4 := by
    refine Below.trans ?_ (hb.mono (by simp; try omega))
    repeat (first | (with_reducible exact Below.refl _ _) | (with_reducible refine Below.setCell ?_ (by first | omega | (simp; done) | (simp; omega)) _) | (with_reducible refine Below.alloc ?_ (by first | omega | (simp; done) | (simp; omega)) _) | (with_reducible refine pw_below_drewN ?_ _) | (with_reducible refine Below.drew ?_))
  obtain ⟨hc, hf⟩ := bcell hbv
  have hz4 : w.heap.size + 1 + 1 + 1 < w4.heap.size := Nat.lt_of_lt_of_le hz hbv.size
  have HC4 : Hid (Below w.heap.size w w4) := Lib.hid (Below.trans HV3.out (hbv.mono (by omega)))
  replace c01 := (hc (w.heap.size) 1 (by omega)).trans c01
  replace c02 := (hc (w.heap.size) 2 (by omega)).trans c02
  replace c11 := (hc (w.heap.size + 1) 1 (by omega)).trans c11
  replace c12 := (hc (w.heap.size + 1) 2 (by omega)).trans c12
  replace c30 := (hc (w.heap.size + 1 + 1 + 1) 0 (by omega)).trans c30
  replace c31 := (hc (w.heap.size + 1 + 1 + 1) 1 (by omega)).trans c31
  replace c32 := (hc (w.heap.size + 1 + 1 + 1) 2 (by omega)).trans c32
  replace c33 := (hc (w.heap.size + 1 + 1 + 1) 3 (by omega)).trans c33
  replace c34 := (hc (w.heap.size + 1 + 1 + 1) 4 (by omega)).trans c34
  replace c20 := (hc (w.heap.size + 1 + 1) 0 (by omega)).trans c20
  replace c21 := (hc (w.heap.size + 1 + 1) 1 (by omega)).trans c21
  replace c22 := (hc (w.heap.size + 1 + 1) 2 (by omega)).trans c22
  replace c23 := (hc (w.heap.size + 1 + 1) 3 (by omega)).trans c23
  replace c24 := (hc (w.heap.size + 1 + 1) 4 (by omega)).trans c24
  replace f20 := (hf (w.heap.size + 1 + 1) 0 (by omega)).trans f20
  replace f21 := (hf (w.heap.size + 1 + 1) 1 (by omega)).trans f21
  replace f22 := (hf (w.heap.size + 1 + 1) 2 (by omega)).trans f22
  replace f23 := (hf (w.heap.size + 1 + 1) 3 (by omega)).trans f23
  replace f24 := (hf (w.heap.size + 1 + 1) 4 (by omega)).trans f24
  replace f30 := (hf (w.heap.size + 1 + 1 + 1) 0 (by omega)).trans f30
  replace f31 := (hf (w.heap.size + 1 + 1 + 1) 1 (by omega)).trans f31
  replace f32 := (hf (w.heap.size + 1 + 1 + 1) 2 (by omega)).trans f32
  replace f33 := (hf (w.heap.size + 1 + 1 + 1) 3 (by omega)).trans f33
  replace f34 := (hf (w.heap.size + 1 + 1 + 1) 4 (by omega)).trans f34
  clear hc hf hb hbv hz hn0 hn1 hn2 hn3 hm0 hm1 hm2 hm3
  have hn0 : (w.heap.size = w4.heap.size) ↔ False := iff_false_intro (by omega)
  have hm0 : (w4.heap.size = w.heap.size) ↔ False := iff_false_intro (by omega)
  have hn1 : (w.heap.size + 1 = w4.heap.size) ↔ False := iff_false_intro (by omega)
  have hm1 : (w4.heap.size = w.heap.size + 1) ↔ False := iff_false_intro (by omega)
  have hn2 : (w.heap.size + 1 + 1 = w4.heap.size) ↔ False := iff_false_intro (by omega)
  have hm2 : (w4.heap.size = w.heap.size + 1 + 1) ↔ False := iff_false_intro (by omega)
  have hn3 : (w.heap.size + 1 + 1 + 1 = w4.heap.size) ↔ False := iff_false_intro (by omega)
  have hm3 : (w4.heap.size = w.heap.size + 1 + 1 + 1) ↔ False := iff_false_intro (by omega)
  go_upto_region 7 with (fail)
  refine wp_forget (fun v => Inv w.heap.size v p q a0 a1 b0 b1 z40 z41 z42 z43 ∧ Below w.heap.size w v) ⟨⟨(by go_simp), (by go_simp), (by go_simp), (by go_simp), (by go_simp), (by go_simp), (by go_simp), (by go_simp), (by go_simp), (by go_simp), (by go_simp), (by go_simp), (by go_simp), (by go_simp), (by go_simp), (by go_simp), (by go_simp), (by go_simp), (by go_simp), (by go_simp), (by go_simp), (by go_simp), (by go_simp), (by go_simp), (by simp; try omega)⟩, ?_⟩ ?_
  · repeat (first | (with_reducible exact HC4.out) | (with_reducible exact Below.refl _ _) | (with_reducible refine Below.setCell ?_ (by first | omega | (simp; done) | (simp; omega)) _) | (with_reducible refine Below.alloc ?_ (by first | omega | (simp; done) | (simp; omega)) _) | (with_reducible refine pw_below_drewN ?_ _) | (with_reducible refine Below.drew ?_))
  rintro v4 ⟨⟨c01, c02, c11, c12, c30, c31, c32, c33, c34, c20, c21, c22, c23, c24, f20, f21, f22, f23, f24, f30, f31, f32, f33, f34, hz⟩, hb⟩
  have HV4 := Lib.hid hb
  clear hb
  have hn0 : (w.heap.size = v4.heap.size) ↔ False := iff_false_intro (by omega)
  have hm0 : (v4.heap.size = w.heap.size) ↔ False := iff_false_intro (by omega)
  have hn1 : (w.heap.size + 1 = v4.heap.size) ↔ False := iff_false_intro (by omega)
  have hm1 : (v4.heap.size = w.heap.size + 1) ↔ False := iff_false_intro (by omega)
  have hn2 : (w.heap.size + 1 + 1 = v4.heap.size) ↔ False := iff_false_intro (by omega)
  have hm2 : (v4.heap.size = w.heap.size + 1 + 1) ↔ False := iff_false_intro (by omega)
  have hn3 : (w.heap.size + 1 + 1 + 1 = v4.heap.size) ↔ False := iff_false_intro (by omega)
  have hm3 : (v4.heap.size = w.heap.size + 1 + 1 + 1) ↔ False := iff_false_intro (by omega)
  go_wp2_with fail
  rw [rounds_succ]
  go_wp2_with fail
  rw [rounds_succ]
  go_wp2_with fail
  refine wp_loop_rounds 3 ?_
  rw [rounds_succ]
  go_wp2_with fail
  go_quiet (fail)
  go_wp2_with fail
  go_quiet (fail)
  go_wp2_with fail
  refine (HP5.out _).mono ?_
  rintro e w5 ⟨rfl, hb⟩
  have hbv : Below v4.heap.size v4 w5 := by
    refine Below.trans ?_ (hb.mono (by simp; try omega))
    repeat (first | (with_reducible exact Below.refl _ _) | (with_reducible refine Below.setCell ?_ (by first | omega | (simp; done) | (simp; omega)) _) | (with_reducible refine Below.alloc ?_ (by first | omega | (simp; done) | (simp; omega)) _) | (with_reducible refine pw_below_drewN ?_ _) | (with_reducible refine Below.drew ?_))
  obtain ⟨hc, hf⟩ := bcell hbv
  have hz5 : w.heap.size + 1 + 1 + 1 < w5.heap.size := Nat.lt_of_lt_of_le hz hbv.size
  have HC5 : Hid (Below w.heap.size w w5) := Lib.hid (Below.trans HV4.out (hbv.mono (by omega)))
  replace c01 := (hc (w.heap.size) 1 (by omega)).trans c01
  replace c02 := (hc (w.heap.size) 2 (by omega)).trans c02
  replace c11 := (hc (w.heap.size + 1) 1 (by omega)).trans c11
  replace c12 := (hc (w.heap.size + 1) 2 (by omega)).trans c12
  replace c30 := (hc (w.heap.size + 1 + 1 + 1) 0 (by omega)).trans c30
  replace c31 := (hc (w.heap.size + 1 + 1 + 1) 1 (by omega)).trans c31
  replace c32 := (hc (w.heap.size + 1 + 1 + 1) 2 (by omega)).trans c32
  replace c33 := (hc (w.heap.size + 1 + 1 + 1) 3 (by omega)).trans c33
  replace c34 := (hc (w.heap.size + 1 + 1 + 1) 4 (by omega)).trans c34
  replace c20 := (hc (w.heap.size + 1 + 1) 0 (by omega)).trans c20
  replace c21 := (hc (w.heap.size + 1 + 1) 1 (by omega)).trans c21
  replace c22 := (hc (w.heap.size + 1 + 1) 2 (by omega)).trans c22
  replace c23 := (hc (w.heap.size + 1 + 1) 3 (by omega)).trans c23
  replace c24 := (hc (w.heap.size + 1 + 1) 4 (by omega)).trans c24
  replace f20 := (hf (w.heap.size + 1 + 1) 0 (by omega)).trans f20
  replace f21 := (hf (w.heap.size + 1 + 1) 1 (by omega)).trans f21
  replace f22 := (hf (w.heap.size + 1 + 1) 2 (by omega)).trans f22
  replace f23 := (hf (w.heap.size + 1 + 1) 3 (by omega)).trans f23
  replace f24 := (hf (w.heap.size + 1 + 1) 4 (by omega)).trans f24
  replace f30 := (hf (w.heap.size + 1 + 1 + 1) 0 (by omega)).trans f30
  replace f31 := (hf (w.heap.size + 1 + 1 + 1) 1 (by omega)).trans f31
  replace f32 := (hf (w.heap.size + 1 + 1 + 1) 2 (by omega)).trans f32
  replace f33 := (hf (w.heap.size + 1 + 1 + 1) 3 (by omega)).trans f33
  replace f34 := (hf (w.heap.size + 1 + 1 + 1) 4 (by omega)).trans f34
  clear hc hf hb hbv hz hn0 hn1 hn2 hn3 hm0 hm1 hm2 hm3
  have hn0 : (w.heap.size = w5.heap.size) ↔ False := iff_false_intro (by omega)
  have hm0 : (w5.heap.size = w.heap.size) ↔ False := iff_false_intro (by omega)
  have hn1 : (w.heap.size + 1 = w5.heap.size) ↔ False := iff_false_intro (by omega)
  have hm1 : (w5.heap.size = w.heap.size + 1) ↔ False := iff_false_intro (by omega)
  have hn2 : (w.heap.size + 1 + 1 = w5.heap.size) ↔ False := iff_false_intro (by omega)
  have hm2 : (w5.heap.size = w.heap.size + 1 + 1) ↔ False := iff_false_intro (by omega)
  have hn3 : (w.heap.size + 1 + 1 + 1 = w5.heap.size) ↔ False := iff_false_intro (by omega)
  have hm3 : (w5.heap.size = w.heap.size + 1 + 1 + 1) ↔ False := iff_false_intro (by omega)
  go_upto_region 14 with (fail)
  refine wp_forget (fun v => Inv w.heap.size v p q a0 a1 b0 b1 z50 z51 z52 z53 ∧ Below w.heap.size w v) ⟨⟨(by go_simp), (by go_simp), (by go_simp), (by go_simp), (by go_simp), (by go_simp), (by go_simp), (by go_simp), (by go_simp), (by go_simp), (by go_simp), (by go_simp), (by go_simp), (by go_simp), (by go_simp), (by go_simp), (by go_simp), (by go_simp), (by go_simp), (by go_simp), (by go_simp), (by go_simp), (by go_simp), (by go_simp), (by simp; try omega)⟩, ?_⟩ ?_
  · repeat (first | (with_reducible exact HC5.out) | (with_reducible exact Below.refl _ _) | (with_reducible refine Below.setCell ?_ (by first | omega | (simp; done) | (simp; omega)) _) | (with_reducible refine Below.alloc ?_ (by first | omega | (simp; done) | (simp; omega)) _) | (with_reducible refine pw_below_drewN ?_ _) | (with_reducible refine Below.drew ?_))
  rintro v5 ⟨⟨c01, c02, c11, c12, c30, c31, c32, c33, c34, c20, c21, c22, c23, c24, f20, f21, f22, f23, f24, f30, f31, f32, f33, f34, hz⟩, hb⟩
  have HV5 := Lib.hid hb
  clear hb
  have hn0 : (w.heap.size = v5.heap.size) ↔ False := iff_false_intro (by omega)
  have hm0 : (v5.heap.size = w.heap.size) ↔ False := iff_false_intro (by omega)
  have hn1 : (w.heap.size + 1 = v5.heap.size) ↔ False := iff_false_intro (by omega)
  have hm1 : (v5.heap.size = w.heap.size + 1) ↔ False := iff_false_intro (by omega)
  have hn2 : (w.heap.size + 1 + 1 = v5.heap.size) ↔ False := iff_false_intro (by omega)
  have hm2 : (v5.heap.size = w.heap.size + 1 + 1) ↔ False := iff_false_intro (by omega)
  have hn3 : (w.heap.size + 1 + 1 + 1 = v5.heap.size) ↔ False := iff_false_intro (by omega)
  have hm3 : (v5.heap.size = w.heap.size + 1 + 1 + 1) ↔ False := iff_false_intro (by omega)
  go_wp2_with fail
  refine (HP6.out _).mono ?_
  rintro e w6 ⟨rfl, hb⟩
  have hbv : Below v5.heap.size v5 w6 := by
    refine Below.trans ?_ (hb.mono (by simp; try omega))
    repeat (first | (with_reducible exact Below.refl _ _) | (with_reducible refine Below.setCell ?_ (by first | omega | (simp; done) | (simp; omega)) _) | (with_reducible refine Below.alloc ?_ (by first | omega | (simp; done) | (simp; omega)) _) | (with_reducible refine pw_below_drewN ?_ _) | (with_reducible refine Below.drew ?_))
  obtain ⟨hc, hf⟩ := bcell hbv
  have hz6 : w.heap.size + 1 + 1 + 1 < w6.heap.size := Nat.lt_of_lt_of_le hz hbv.size
  have HC6 : Hid (Below w.heap.size w w6) := Lib.hid (Below.trans HV5.out (hbv.mono (by omega)))
  replace c01 := (hc (w.heap.size) 1 (by omega)).trans c01
  replace c02 := (hc (w.heap.size) 2 (by omega)).trans c02
  replace c11 := (hc (w.heap.size + 1) 1 (by omega)).trans c11
  replace c12 := (hc (w.heap.size + 1) 2 (by omega)).trans c12
  replace c30 := (hc (w.heap.size + 1 + 1 + 1) 0 (by omega)).trans c30
  replace c31 := (hc (w.heap.size + 1 + 1 + 1) 1 (by omega)).trans c31
  replace c32 := (hc (w.heap.size + 1 + 1 + 1) 2 (by omega)).trans c32
  replace c33 := (hc (w.heap.size + 1 + 1 + 1) 3 (by omega)).trans c33
  replace c34 := (hc (w.heap.size + 1 + 1 + 1) 4 (by omega)).trans c34
  replace c20 := (hc (w.heap.size + 1 + 1) 0 (by omega)).trans c20
  replace c21 := (hc (w.heap.size + 1 + 1) 1 (by omega)).trans c21
  replace c22 := (hc (w.heap.size + 1 + 1) 2 (by omega)).trans c22
  replace c23 := (hc (w.heap.size + 1 + 1) 3 (by omega)).trans c23
  replace c24 := (hc (w.heap.size + 1 + 1) 4 (by omega)).trans c24
  replace f20 := (hf (w.heap.size + 1 + 1) 0 (by omega)).trans f20
  replace f21 := (hf (w.heap.size + 1 + 1) 1 (by omega)).trans f21
  replace f22 := (hf (w.heap.size + 1 + 1) 2 (by omega)).trans f22
  replace f23 := (hf (w.heap.size + 1 + 1) 3 (by omega)).trans f23
  replace f24 := (hf (w.heap.size + 1 + 1) 4 (by omega)).trans f24
  replace f30 := (hf (w.heap.size + 1 + 1 + 1) 0 (by omega)).trans f30
  replace f31 := (hf (w.heap.size + 1 + 1 + 1) 1 (by omega)).trans f31
  replace f32 := (hf (w.heap.size + 1 + 1 + 1) 2 (by omega)).trans f32
  replace f33 := (hf (w.heap.size + 1 + 1 + 1) 3 (by omega)).trans f33
  replace f34 := (hf (w.heap.size + 1 + 1 + 1) 4 (by omega)).trans f34
  clear hc hf hb hbv hz hn0 hn1 hn2 hn3 hm0 hm1 hm2 hm3
  have hn0 : (w.heap.size = w6.heap.size) ↔ False := iff_false_intro (by omega)
  have hm0 : (w6.heap.size = w.heap.size) ↔ False := iff_false_intro (by omega)
  have hn1 : (w.heap.size + 1 = w6.heap.size) ↔ False := iff_false_intro (by omega)
  have hm1 : (w6.heap.size = w.heap.size + 1) ↔ False := iff_false_intro (by omega)
  have hn2 : (w.heap.size + 1 + 1 = w6.heap.size) ↔ False := iff_false_intro (by omega)
  have hm2 : (w6.heap.size = w.heap.size + 1 + 1) ↔ False := iff_false_intro (by omega)
  have hn3 : (w.heap.size + 1 + 1 + 1 = w6.heap.size) ↔ False := iff_false_intro (by omega)
  have hm3 : (w6.heap.size = w.heap.size + 1 + 1 + 1) ↔ False := iff_false_intro (by omega)
  go_upto_region 7 with (fail)
  refine wp_forget (fun v => Inv w.heap.size v p q a0 a1 b0 b1 z60 z61 z62 z63 ∧ Below w.heap.size w v) ⟨⟨(by go_simp), (by go_simp), (by go_simp), (by go_simp), (by go_simp), (by go_simp), (by go_simp), (by go_simp), (by go_simp), (by go_simp), (by go_simp), (by go_simp), (by go_simp), (by go_simp), (by go_simp), (by go_simp), (by go_simp), (by go_simp), (by go_simp), (by go_simp), (by go_simp), (by go_simp), (by go_simp), (by go_simp), (by simp; try omega)⟩, ?_⟩ ?_
  · repeat (first | (with_reducible exact HC6.out) | (with_reducible exact Below.refl _ _) | (with_reducible refine Below.setCell ?_ (by first | omega | (simp; done) | (simp; omega)) _) | (with_reducible refine Below.alloc ?_ (by first | omega | (simp; done) | (simp; omega)) _) | (with_reducible refine pw_below_drewN ?_ _) | (with_reducible refine Below.drew ?_))
  rintro v6 ⟨⟨c01, c02, c11, c12, c30, c31, c32, c33, c34, c20, c21, c22, c23, c24, f20, f21, f22, f23, f24, f30, f31, f32, f33, f34, hz⟩, hb⟩
  have HV6 := Lib.hid hb
  clear hb
  have hn0 : (w.heap.size = v6.heap.size) ↔ False := iff_false_intro (by omega)
  have hm0 : (v6.heap.size = w.heap.size) ↔ False := iff_false_intro (by omega)
  have hn1 : (w.heap.size + 1 = v6.heap.size) ↔ False := iff_false_intro (by omega)
  have hm1 : (v6.heap.size = w.heap.size + 1) ↔ False := iff_false_intro (by omega)
  have hn2 : (w.heap.size + 1 + 1 = v6.heap.size) ↔ False := iff_false_intro (by omega)
  have hm2 : (v6.heap.size = w.heap.size + 1 + 1) ↔ False := iff_false_intro (by omega)
  have hn3 : (w.heap.size + 1 + 1 + 1 = v6.heap.size) ↔ False := iff_false_intro (by omega)
  have hm3 : (v6.heap.size = w.heap.size + 1 + 1 + 1) ↔ False := iff_false_intro (by omega)
  go_wp2_with fail
  rw [rounds_succ]
  go_wp2_with fail
  go_quiet (fail)
  go_wp2_with fail
  go_quiet (fail)
  go_wp2_with fail
  refine (HP7.out _).mono ?_
  rintro e w7 ⟨rfl, hb⟩
  have hbv : Below v6.heap.size v6 w7 := by
    refine Below.trans ?_ (hb.mono (by simp; try omega))
    repeat (first | (with_reducible exact Below.refl _ _) | (with_reducible refine Below.setCell ?_ (by first | omega | (simp; done) | (simp; omega)) _) | (with_reducible refine Below.alloc ?_ (by first | omega | (simp; done) | (simp; omega)) _) | (with_reducible refine pw_below_drewN ?_ _) | (with_reducible refine Below.drew ?_))
  obtain ⟨hc, hf⟩ := bcell hbv
  have hz7 : w.heap.size + 1 + 1 + 1 < w7.heap.size := Nat.lt_of_lt_of_le hz hbv.size
  have HC7 : Hid (Below w.heap.size w w7) := Lib.hid (Below.trans HV6.out (hbv.mono (by omega)))
  replace c01 := (hc (w.heap.size) 1 (by omega)).trans c01
  replace c02 := (hc (w.heap.size) 2 (by omega)).trans c02
  replace c11 := (hc (w.heap.size + 1) 1 (by omega)).trans c11
  replace c12 := (hc (w.heap.size + 1) 2 (by omega)).trans c12
  replace c30 := (hc (w.heap.size + 1 + 1 + 1) 0 (by omega)).trans c30
  replace c31 := (hc (w.heap.size + 1 + 1 + 1) 1 (by omega)).trans c31
  replace c32 := (hc (w.heap.size + 1 + 1 + 1) 2 (by omega)).trans c32
  replace c33 := (hc (w.heap.size + 1 + 1 + 1) 3 (by omega)).trans c33
  replace c34 := (hc (w.heap.size + 1 + 1 + 1) 4 (by omega)).trans c34
  replace c20 := (hc (w.heap.size + 1 + 1) 0 (by omega)).trans c20
  replace c21 := (hc (w.heap.size + 1 + 1) 1 (by omega)).trans c21
  replace c22 := (hc (w.heap.size + 1 + 1) 2 (by omega)).trans c22
  replace c23 := (hc (w.heap.size + 1 + 1) 3 (by omega)).trans c23
  replace c24 := (hc (w.heap.size + 1 + 1) 4 (by omega)).trans c24
  replace f20 := (hf (w.heap.size + 1 + 1) 0 (by omega)).trans f20
  replace f21 := (hf (w.heap.size + 1 + 1) 1 (by omega)).trans f21
  replace f22 := (hf (w.heap.size + 1 + 1) 2 (by omega)).trans f22
  replace f23 := (hf (w.heap.size + 1 + 1) 3 (by omega)).trans f23
  replace f24 := (hf (w.heap.size + 1 + 1) 4 (by omega)).trans f24
  replace f30 := (hf (w.heap.size + 1 + 1 + 1) 0 (by omega)).trans f30
  replace f31 := (hf (w.heap.size + 1 + 1 + 1) 1 (by omega)).trans f31
  replace f32 := (hf (w.heap.size + 1 + 1 + 1) 2 (by omega)).trans f32
  replace f33 := (hf (w.heap.size + 1 + 1 + 1) 3 (by omega)).trans f33
  replace f34 := (hf (w.heap.size + 1 + 1 + 1) 4 (by omega)).trans f34
  clear hc hf hb hbv hz hn0 hn1 hn2 hn3 hm0 hm1 hm2 hm3
  have hn0 : (w.heap.size = w7.heap.size) ↔ False := iff_false_intro (by omega)
  have hm0 : (w7.heap.size = w.heap.size) ↔ False := iff_false_intro (by omega)
  have hn1 : (w.heap.size + 1 = w7.heap.size) ↔ False := iff_false_intro (by omega)
  have hm1 : (w7.heap.size = w.heap.size + 1) ↔ False := iff_false_intro (by omega)
  have hn2 : (w.heap.size + 1 + 1 = w7.heap.size) ↔ False := iff_false_intro (by omega)
  have hm2 : (w7.heap.size = w.heap.size + 1 + 1) ↔ False := iff_false_intro (by omega)
  have hn3 : (w.heap.size + 1 + 1 + 1 = w7.heap.size) ↔ False := iff_false_intro (by omega)
  have hm3 : (w7.heap.size = w.heap.size + 1 + 1 + 1) ↔ False := iff_false_intro (by omega)
  go_upto_region 14 with (fail)
  refine wp_forget (fun v => Inv w.heap.size v p q a0 a1 b0 b1 z70 z71 z72 z73 ∧ Below w.heap.size w v) ⟨⟨(by go_simp), (by go_simp), (by go_simp), (by go_simp), (by go_simp), (by go_simp), (by go_simp), (by go_simp), (by go_simp), (by go_simp), (by go_simp), (by go_simp), (by go_simp), (by go_simp), (by go_simp), (by go_simp), (by go_simp), (by go_simp), (by go_simp), (by go_simp), (by go_simp), (by go_simp), (by go_simp), (by go_simp), (by simp; try omega)⟩, ?_⟩ ?_
  · repeat (first | (with_reducible exact HC7.out) | (with_reducible exact Below.refl _ _) | (with_reducible refine Below.setCell ?_ (by first | omega | (simp; done) | (simp; omega)) _) | (with_reducible refine Below.alloc ?_ (by first | omega | (simp; done) | (simp; omega)) _) | (with_reducible refine pw_below_drewN ?_ _) | (with_reducible refine Below.drew ?_))
  rintro v7 ⟨⟨c01, c02, c11, c12, c30, c31, c32, c33, c34, c20, c21, c22, c23, c24, f20, f21, f22, f23, f24, f30, f31, f32, f33, f34, hz⟩, hb⟩
  have HV7 := Lib.hid hb
  clear hb
  have hn0 : (w.heap.size = v7.heap.size) ↔ False := iff_false_intro (by omega)
  have hm0 : (v7.heap.size = w.heap.size) ↔ False := iff_false_intro (by omega)
  have hn1 : (w.heap.size + 1 = v7.heap.size) ↔ False := iff_false_intro (by omega)
  have hm1 : (v7.heap.size = w.heap.size + 1) ↔ False := iff_false_intro (by omega)
  have hn2 : (w.heap.size + 1 + 1 = v7.heap.size) ↔ False := iff_false_intro (by omega)
  have hm2 : (v7.heap.size = w.heap.size + 1 + 1) ↔ False := iff_false_intro (by omega)
  have hn3 : (w.heap.size + 1 + 1 + 1 = v7.heap.size) ↔ False := iff_false_intro (by omega)
  have hm3 : (v7.heap.size = w.heap.size + 1 + 1 + 1) ↔ False := iff_false_intro (by omega)
  go_wp2_with fail
  refine (HP8.out _).mono ?_
  rintro e w8 ⟨rfl, hb⟩
  have hbv : Below v7.heap.size v7 w8 := by
    refine Below.trans ?_ (hb.mono (by simp; try omega))
    repeat (first | (with_reducible exact Below.refl _ _) | (with_reducible refine Below.setCell ?_ (by first | omega | (simp; done) | (simp; omega)) _) | (with_reducible refine Below.alloc ?_ (by first | omega | (simp; done) | (simp; omega)) _) | (with_reducible refine pw_below_drewN ?_ _) | (with_reducible refine Below.drew ?_))
  obtain ⟨hc, hf⟩ := bcell hbv
  have hz8 : w.heap.size + 1 + 1 + 1 < w8.heap.size := Nat.lt_of_lt_of_le hz hbv.size
  have HC8 : Hid (Below w.heap.size w w8) := Lib.hid (Below.trans HV7.out (hbv.mono (by omega)))
  replace c01 := (hc (w.heap.size) 1 (by omega)).trans c01
  replace c02 := (hc (w.heap.size) 2 (by omega)).trans c02
  replace c11 := (hc (w.heap.size + 1) 1 (by omega)).trans c11
  replace c12 := (hc (w.heap.size + 1) 2 (by omega)).trans c12
  replace c30 := (hc (w.heap.size + 1 + 1 + 1) 0 (by omega)).trans c30
  replace c31 := (hc (w.heap.size + 1 + 1 + 1) 1 (by omega)).trans c31
  replace c32 := (hc (w.heap.size + 1 + 1 + 1) 2 (by omega)).trans c32
  replace c33 := (hc (w.heap.size + 1 + 1 + 1) 3 (by omega)).trans c33
  replace c34 := (hc (w.heap.size + 1 + 1 + 1) 4 (by omega)).trans c34
  replace c20 := (hc (w.heap.size + 1 + 1) 0 (by omega)).trans c20
  replace c21 := (hc (w.heap.size + 1 + 1) 1 (by omega)).trans c21
  replace c22 := (hc (w.heap.size + 1 + 1) 2 (by omega)).trans c22
  replace c23 := (hc (w.heap.size + 1 + 1) 3 (by omega)).trans c23
  replace c24 := (hc (w.heap.size + 1 + 1) 4 (by omega)).trans c24
  replace f20 := (hf (w.heap.size + 1 + 1) 0 (by omega)).trans f20
  replace f21 := (hf (w.heap.size + 1 + 1) 1 (by omega)).trans f21
  replace f22 := (hf (w.heap.size + 1 + 1) 2 (by omega)).trans f22
  replace f23 := (hf (w.heap.size + 1 + 1) 3 (by omega)).trans f23
  replace f24 := (hf (w.heap.size + 1 + 1) 4 (by omega)).trans f24
  replace f30 := (hf (w.heap.size + 1 + 1 + 1) 0 (by omega)).trans f30
  replace f31 := (hf (w.heap.size + 1 + 1 + 1) 1 (by omega)).trans f31
  replace f32 := (hf (w.heap.size + 1 + 1 + 1) 2 (by omega)).trans f32
  replace f33 := (hf (w.heap.size + 1 + 1 + 1) 3 (by omega)).trans f33
  replace f34 := (hf (w.heap.size + 1 + 1 + 1) 4 (by omega)).trans f34
  clear hc hf hb hbv hz hn0 hn1 hn2 hn3 hm0 hm1 hm2 hm3
  have hn0 : (w.heap.size = w8.heap.size) ↔ False := iff_false_intro (by omega)
  have hm0 : (w8.heap.size = w.heap.size) ↔ False := iff_false_intro (by omega)
  have hn1 : (w.heap.size + 1 = w8.heap.size) ↔ False := iff_false_intro (by omega)
  have hm1 : (w8.heap.size = w.heap.size + 1) ↔ False := iff_false_intro (by omega)
  have hn2 : (w.heap.size + 1 + 1 = w8.heap.size) ↔ False := iff_false_intro (by omega)
  have hm2 : (w8.heap.size = w.heap.size + 1 + 1) ↔ False := iff_false_intro (by omega)
  have hn3 : (w.heap.size + 1 + 1 + 1 = w8.heap.size) ↔ False := iff_false_intro (by omega)
  have hm3 : (w8.heap.size = w.heap.size + 1 + 1 + 1) ↔ False := iff_false_intro (by omega)
  go_upto_region 7 with (fail)
  refine wp_forget (fun v => Inv w.heap.size v p q a0 a1 b0 b1 z80 z81 z82 z83 ∧ Below w.heap.size w v) ⟨⟨(by go_simp), (by go_simp), (by go_simp), (by go_simp), (by go_simp), (by go_simp), (by go_simp), (by go_simp), (by go_simp), (by go_simp), (by go_simp), (by go_simp), (by go_simp), (by go_simp), (by go_simp), (by go_simp), (by go_simp), (by go_simp), (by go_simp), (by go_simp), (by go_simp), (by go_simp), (by go_simp), (by go_simp), (by simp; try omega)⟩, ?_⟩ ?_
  · repeat (first | (with_reducible exact HC8.out) | (with_reducible exact Below.refl _ _) | (with_reducible refine Below.setCell ?_ (by first | omega | (simp; done) | (simp; omega)) _) | (with_reducible refine Below.alloc ?_ (by first | omega | (simp; done) | (simp; omega)) _) | (with_reducible refine pw_below_drewN ?_ _) | (with_reducible refine Below.drew ?_))
  rintro v8 ⟨⟨c01, c02, c11, c12, c30, c31, c32, c33, c34, c20, c21, c22, c23, c24, f20, f21, f22, f23, f24, f30, f31, f32, f33, f34, hz⟩, hb⟩
  have HV8 := Lib.hid hb
  clear hb
  have hn0 : (w.heap.size = v8.heap.size) ↔ False := iff_false_intro (by omega)
  have hm0 : (v8.heap.size = w.heap.size) ↔ False := iff_false_intro (by omega)
  have hn1 : (w.heap.size + 1 = v8.heap.size) ↔ False := iff_false_intro (by omega)
  have hm1 : (v8.heap.size = w.heap.size + 1) ↔ False := iff_false_intro (by omega)
  have hn2 : (w.heap.size + 1 + 1 = v8.heap.size) ↔ False := iff_false_intro (by omega)
  have hm2 : (v8.heap.size = w.heap.size + 1 + 1) ↔ False := iff_false_intro (by omega)
  have hn3 : (w.heap.size + 1 + 1 + 1 = v8.heap.size) ↔ False := iff_false_intro (by omega)
  have hm3 : (v8.heap.size = w.heap.size + 1 + 1 + 1) ↔ False := iff_false_intro (by omega)
  go_wp2_with fail
  rw [rounds_succ]
  go_wp2_with fail
  rw [rounds_succ]
  go_wp2
  have hpq : (p != q) = (!p == q) := by cases p <;> cases q <;> rfl
  refine bodyPost_ret (v := wd (!p == q) z80 z81 z82 z83) ?_ rfl ⟨by rw [hpq]; rfl, ?_⟩
  · simp [results, Try.results26, go_sem, wd, c20, c21, c22, c23, c24]
    try rfl
  · repeat (first | (with_reducible exact HV8.out) | (with_reducible exact Below.refl _ _) | (with_reducible refine Below.setCell ?_ (by first | omega | (simp; done) | (simp; omega)) _) | (with_reducible refine Below.alloc ?_ (by first | omega | (simp; done) | (simp; omega)) _) | (with_reducible refine pw_below_drewN ?_ _) | (with_reducible refine Below.drew ?_))
end Go.Proofs.Ytbmiobkjkhechaa.Hand
