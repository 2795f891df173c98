/-
  The law of the order of values, walked: by what the calls tell. No condition of its own.
-/
import Derived.Test.YtelpppmnakblmaaF4
namespace Go.Proofs.Ytelpppmnakblmaa.Hand
open Go.RowKit Go.Proofs.YtelpppmnakblmaaW.PrintWords Go.Proofs.YtelpppmnakblmaaW.PrintLast
set_option linter.unusedVariables false
set_option linter.unusedSimpArgs false
attribute [local go_sem] setCell_drewN
def LessIs (xs ys : Array Value) (l k : Bool) : Prop := ∀ W, Calls Try.prog 9 #[.agg xs, .agg ys] W fun e w' => e = .returned (.tuple #[.bool l, .bool k]) ∧ Below W.heap.size W w'
def SameIs (xs ys : Array Value) (l : Bool) : Prop := ∀ W, Calls Try.prog 10 #[.agg xs, .agg ys] W fun e w' => e = .returned (.bool l) ∧ Below W.heap.size W w'
set_option maxRecDepth 100000
set_option maxHeartbeats 2000000
theorem law_n (a0 b0 : Int) (s0 : ByteArray) (c0 : Bool) (x0 : Nat) (a1 b1 : Int) (s1 : ByteArray) (c1 : Bool) (x1 : Nat) (a2 b2 : Int) (s2 : ByteArray) (c2 : Bool) (x2 : Nat) (vz vr vt vs val : Bool)
    (h1 : LessIs #[.int .i64 a0, .int .i64 b0, .string s0, .bool c0, .float .f64 x0] #[.int .i64 a1, .int .i64 b1, .string s1, .bool c1, .float .f64 x1] false false) (h2 : LessIs #[.int .i64 a1, .int .i64 b1, .string s1, .bool c1, .float .f64 x1] #[.int .i64 a0, .int .i64 b0, .string s0, .bool c0, .float .f64 x0] false false)
    (h3 : LessIs #[.int .i64 a1, .int .i64 b1, .string s1, .bool c1, .float .f64 x1] #[.int .i64 a2, .int .i64 b2, .string s2, .bool c2, .float .f64 x2] vz vr) (h4 : LessIs #[.int .i64 a0, .int .i64 b0, .string s0, .bool c0, .float .f64 x0] #[.int .i64 a2, .int .i64 b2, .string s2, .bool c2, .float .f64 x2] vt vs)
    (h5 : LessIs #[.int .i64 1, .int .i64 (-1), .string (⟨#[]⟩ : ByteArray), .bool false, .float .f64 0] #[.int .i64 1, .int .i64 0, .string (⟨#[]⟩ : ByteArray), .bool false, .float .f64 0] true true) (h6 : SameIs #[.int .i64 a0, .int .i64 b0, .string s0, .bool c0, .float .f64 x0] #[.int .i64 a1, .int .i64 b1, .string s1, .bool c1, .float .f64 x1] val) (w : World) :
    Calls Try.prog 5 #[.agg #[.int .i64 a0, .int .i64 b0, .string s0, .bool c0, .float .f64 x0], .agg #[.int .i64 a1, .int .i64 b1, .string s1, .bool c1, .float .f64 x1], .agg #[.int .i64 a2, .int .i64 b2, .string s2, .bool c2, .float .f64 x2]] w fun e w' => e = .returned (.bool true) ∧ Below w.heap.size w w' := by
  have H1 := Lib.hid h1
  have H2 := Lib.hid h2
  have H3 := Lib.hid h3
  have H4 := Lib.hid h4
  have H5 := Lib.hid h5
  have H6 := Lib.hid h6
  clear h1 h2 h3 h4 h5 h6
  go_enter Try.func5, Try.ntmps5
  go_wp2_with fail
  refine (H1.out _).mono ?_
  rintro e w1 ⟨rfl, hb⟩
  obtain ⟨hc, hf⟩ := bcell hb
  have hz1 : w.heap.size + 1 + 1 < w1.heap.size := by
    have h9 := hb.size
    simp at h9
    omega
  have hd0 := fun o => hc (w.heap.size) o (by simp; try omega)
  have hd1 := fun o => hc (w.heap.size + 1) o (by simp; try omega)
  have hd2 := fun o => hc (w.heap.size + 1 + 1) o (by simp; try omega)
  have HB1 := Lib.hid hb
  have hc01 := hd0
  have hc11 := hd1
  have hc21 := hd2
  clear hc hf hb hd0 hd1 hd2
  go_wp2_with fail
  refine (H2.out _).mono ?_
  rintro e w2 ⟨rfl, hb⟩
  obtain ⟨hc, hf⟩ := bcell hb
  have hz2 : w.heap.size + 1 + 1 < w2.heap.size := Nat.lt_of_lt_of_le hz1 hb.size
  have hd0 := fun o => hc (w.heap.size) o (by omega)
  have hd1 := fun o => hc (w.heap.size + 1) o (by omega)
  have hd2 := fun o => hc (w.heap.size + 1 + 1) o (by omega)
  have HB2 := Lib.hid (Below.trans HB1.out (hb.mono HB1.out.size))
  have hc02 := fun o => (hd0 o).trans (hc01 o)
  have hc12 := fun o => (hd1 o).trans (hc11 o)
  have hc22 := fun o => (hd2 o).trans (hc21 o)
  clear hc hf hb hd0 hd1 hd2 hc01 hc11 hc21 HB1 hz1
  go_wp2_with fail
  refine (H3.out _).mono ?_
  rintro e w3 ⟨rfl, hb⟩
  obtain ⟨hc, hf⟩ := bcell hb
  have hz3 : w.heap.size + 1 + 1 < w3.heap.size := Nat.lt_of_lt_of_le hz2 hb.size
  have hd0 := fun o => hc (w.heap.size) o (by omega)
  have hd1 := fun o => hc (w.heap.size + 1) o (by omega)
  have hd2 := fun o => hc (w.heap.size + 1 + 1) o (by omega)
  have HB3 := Lib.hid (Below.trans HB2.out (hb.mono HB2.out.size))
  have hc03 := fun o => (hd0 o).trans (hc02 o)
  have hc13 := fun o => (hd1 o).trans (hc12 o)
  have hc23 := fun o => (hd2 o).trans (hc22 o)
  clear hc hf hb hd0 hd1 hd2 hc02 hc12 hc22 HB2 hz2
  go_wp2_with fail
  refine (H4.out _).mono ?_
  rintro e w4 ⟨rfl, hb⟩
  obtain ⟨hc, hf⟩ := bcell hb
  have hz4 : w.heap.size + 1 + 1 < w4.heap.size := Nat.lt_of_lt_of_le hz3 hb.size
  have hd0 := fun o => hc (w.heap.size) o (by omega)
  have hd1 := fun o => hc (w.heap.size + 1) o (by omega)
  have hd2 := fun o => hc (w.heap.size + 1 + 1) o (by omega)
  have HB4 := Lib.hid (Below.trans HB3.out (hb.mono HB3.out.size))
  have hc04 := fun o => (hd0 o).trans (hc03 o)
  have hc14 := fun o => (hd1 o).trans (hc13 o)
  have hc24 := fun o => (hd2 o).trans (hc23 o)
  clear hc hf hb hd0 hd1 hd2 hc03 hc13 hc23 HB3 hz3
  go_wp2_with fail
  refine (H5.out _).mono ?_
  rintro e w5 ⟨rfl, hb⟩
  obtain ⟨hc, hf⟩ := bcell hb
  have hz5 : w.heap.size + 1 + 1 < w5.heap.size := Nat.lt_of_lt_of_le hz4 hb.size
  have hd0 := fun o => hc (w.heap.size) o (by omega)
  have hd1 := fun o => hc (w.heap.size + 1) o (by omega)
  have hd2 := fun o => hc (w.heap.size + 1 + 1) o (by omega)
  have HB5 := Lib.hid (Below.trans HB4.out (hb.mono HB4.out.size))
  have hc05 := fun o => (hd0 o).trans (hc04 o)
  have hc15 := fun o => (hd1 o).trans (hc14 o)
  have hc25 := fun o => (hd2 o).trans (hc24 o)
  clear hc hf hb hd0 hd1 hd2 hc04 hc14 hc24 HB4 hz4
  go_wp2_with fail
  refine (H6.out _).mono ?_
  rintro e w6 ⟨rfl, hb⟩
  obtain ⟨hc, hf⟩ := bcell hb
  have hz6 : w.heap.size + 1 + 1 < w6.heap.size := Nat.lt_of_lt_of_le hz5 hb.size
  have hd0 := fun o => hc (w.heap.size) o (by omega)
  have hd1 := fun o => hc (w.heap.size + 1) o (by omega)
  have hd2 := fun o => hc (w.heap.size + 1 + 1) o (by omega)
  have HB6 := Lib.hid (Below.trans HB5.out (hb.mono HB5.out.size))
  have hc06 := fun o => (hd0 o).trans (hc05 o)
  have hc16 := fun o => (hd1 o).trans (hc15 o)
  have hc26 := fun o => (hd2 o).trans (hc25 o)
  clear hc hf hb hd0 hd1 hd2 hc05 hc15 hc25 HB5 hz5
  go_wp2
  go_ret
  refine ⟨rfl, ?_⟩
  · refine Below.trans ?_ (HB6.out.mono (by simp; try omega))
    repeat (first | (with_reducible exact Below.refl _ _) | (with_reducible refine Below.setCell ?_ (by first | (simp; done) | (simp; omega)) _) | (with_reducible refine Below.alloc ?_ (by first | (simp; done) | (simp; omega)) _) | (with_reducible refine pw_below_drewN ?_ _) | (with_reducible refine Below.drew ?_))
theorem law_a0 (a0 b0 : Int) (s0 : ByteArray) (c0 : Bool) (x0 : Nat) (a1 b1 : Int) (s1 : ByteArray) (c1 : Bool) (x1 : Nat) (a2 b2 : Int) (s2 : ByteArray) (c2 : Bool) (x2 : Nat) (vz vt vs : Bool)
    (h1 : LessIs #[.int .i64 a0, .int .i64 b0, .string s0, .bool c0, .float .f64 x0] #[.int .i64 a1, .int .i64 b1, .string s1, .bool c1, .float .f64 x1] true true) (h2 : LessIs #[.int .i64 a1, .int .i64 b1, .string s1, .bool c1, .float .f64 x1] #[.int .i64 a0, .int .i64 b0, .string s0, .bool c0, .float .f64 x0] false true)
    (h3 : LessIs #[.int .i64 a1, .int .i64 b1, .string s1, .bool c1, .float .f64 x1] #[.int .i64 a2, .int .i64 b2, .string s2, .bool c2, .float .f64 x2] vz false) (h4 : LessIs #[.int .i64 a0, .int .i64 b0, .string s0, .bool c0, .float .f64 x0] #[.int .i64 a2, .int .i64 b2, .string s2, .bool c2, .float .f64 x2] vt vs)
    (h5 : LessIs #[.int .i64 1, .int .i64 (-1), .string (⟨#[]⟩ : ByteArray), .bool false, .float .f64 0] #[.int .i64 1, .int .i64 0, .string (⟨#[]⟩ : ByteArray), .bool false, .float .f64 0] true true) (h6 : SameIs #[.int .i64 a0, .int .i64 b0, .string s0, .bool c0, .float .f64 x0] #[.int .i64 a1, .int .i64 b1, .string s1, .bool c1, .float .f64 x1] false) (w : World) :
    Calls Try.prog 5 #[.agg #[.int .i64 a0, .int .i64 b0, .string s0, .bool c0, .float .f64 x0], .agg #[.int .i64 a1, .int .i64 b1, .string s1, .bool c1, .float .f64 x1], .agg #[.int .i64 a2, .int .i64 b2, .string s2, .bool c2, .float .f64 x2]] w fun e w' => e = .returned (.bool true) ∧ Below w.heap.size w w' := by
  have H1 := Lib.hid h1
  have H2 := Lib.hid h2
  have H3 := Lib.hid h3
  have H4 := Lib.hid h4
  have H5 := Lib.hid h5
  have H6 := Lib.hid h6
  clear h1 h2 h3 h4 h5 h6
  go_enter Try.func5, Try.ntmps5
  go_wp2_with fail
  refine (H1.out _).mono ?_
  rintro e w1 ⟨rfl, hb⟩
  obtain ⟨hc, hf⟩ := bcell hb
  have hz1 : w.heap.size + 1 + 1 < w1.heap.size := by
    have h9 := hb.size
    simp at h9
    omega
  have hd0 := fun o => hc (w.heap.size) o (by simp; try omega)
  have hd1 := fun o => hc (w.heap.size + 1) o (by simp; try omega)
  have hd2 := fun o => hc (w.heap.size + 1 + 1) o (by simp; try omega)
  have HB1 := Lib.hid hb
  have hc01 := hd0
  have hc11 := hd1
  have hc21 := hd2
  clear hc hf hb hd0 hd1 hd2
  go_wp2_with fail
  refine (H2.out _).mono ?_
  rintro e w2 ⟨rfl, hb⟩
  obtain ⟨hc, hf⟩ := bcell hb
  have hz2 : w.heap.size + 1 + 1 < w2.heap.size := Nat.lt_of_lt_of_le hz1 hb.size
  have hd0 := fun o => hc (w.heap.size) o (by omega)
  have hd1 := fun o => hc (w.heap.size + 1) o (by omega)
  have hd2 := fun o => hc (w.heap.size + 1 + 1) o (by omega)
  have HB2 := Lib.hid (Below.trans HB1.out (hb.mono HB1.out.size))
  have hc02 := fun o => (hd0 o).trans (hc01 o)
  have hc12 := fun o => (hd1 o).trans (hc11 o)
  have hc22 := fun o => (hd2 o).trans (hc21 o)
  clear hc hf hb hd0 hd1 hd2 hc01 hc11 hc21 HB1 hz1
  go_wp2_with fail
  refine (H3.out _).mono ?_
  rintro e w3 ⟨rfl, hb⟩
  obtain ⟨hc, hf⟩ := bcell hb
  have hz3 : w.heap.size + 1 + 1 < w3.heap.size := Nat.lt_of_lt_of_le hz2 hb.size
  have hd0 := fun o => hc (w.heap.size) o (by omega)
  have hd1 := fun o => hc (w.heap.size + 1) o (by omega)
  have hd2 := fun o => hc (w.heap.size + 1 + 1) o (by omega)
  have HB3 := Lib.hid (Below.trans HB2.out (hb.mono HB2.out.size))
  have hc03 := fun o => (hd0 o).trans (hc02 o)
  have hc13 := fun o => (hd1 o).trans (hc12 o)
  have hc23 := fun o => (hd2 o).trans (hc22 o)
  clear hc hf hb hd0 hd1 hd2 hc02 hc12 hc22 HB2 hz2
  go_wp2_with fail
  refine (H4.out _).mono ?_
  rintro e w4 ⟨rfl, hb⟩
  obtain ⟨hc, hf⟩ := bcell hb
  have hz4 : w.heap.size + 1 + 1 < w4.heap.size := Nat.lt_of_lt_of_le hz3 hb.size
  have hd0 := fun o => hc (w.heap.size) o (by omega)
  have hd1 := fun o => hc (w.heap.size + 1) o (by omega)
  have hd2 := fun o => hc (w.heap.size + 1 + 1) o (by omega)
  have HB4 := Lib.hid (Below.trans HB3.out (hb.mono HB3.out.size))
  have hc04 := fun o => (hd0 o).trans (hc03 o)
  have hc14 := fun o => (hd1 o).trans (hc13 o)
  have hc24 := fun o => (hd2 o).trans (hc23 o)
  clear hc hf hb hd0 hd1 hd2 hc03 hc13 hc23 HB3 hz3
  go_wp2_with fail
  refine (H5.out _).mono ?_
  rintro e w5 ⟨rfl, hb⟩
  obtain ⟨hc, hf⟩ := bcell hb
  have hz5 : w.heap.size + 1 + 1 < w5.heap.size := Nat.lt_of_lt_of_le hz4 hb.size
  have hd0 := fun o => hc (w.heap.size) o (by omega)
  have hd1 := fun o => hc (w.heap.size + 1) o (by omega)
  have hd2 := fun o => hc (w.heap.size + 1 + 1) o (by omega)
  have HB5 := Lib.hid (Below.trans HB4.out (hb.mono HB4.out.size))
  have hc05 := fun o => (hd0 o).trans (hc04 o)
  have hc15 := fun o => (hd1 o).trans (hc14 o)
  have hc25 := fun o => (hd2 o).trans (hc24 o)
  clear hc hf hb hd0 hd1 hd2 hc04 hc14 hc24 HB4 hz4
  go_wp2_with fail
  refine (H6.out _).mono ?_
  rintro e w6 ⟨rfl, hb⟩
  obtain ⟨hc, hf⟩ := bcell hb
  have hz6 : w.heap.size + 1 + 1 < w6.heap.size := Nat.lt_of_lt_of_le hz5 hb.size
  have hd0 := fun o => hc (w.heap.size) o (by omega)
  have hd1 := fun o => hc (w.heap.size + 1) o (by omega)
  have hd2 := fun o => hc (w.heap.size + 1 + 1) o (by omega)
  have HB6 := Lib.hid (Below.trans HB5.out (hb.mono HB5.out.size))
  have hc06 := fun o => (hd0 o).trans (hc05 o)
  have hc16 := fun o => (hd1 o).trans (hc15 o)
  have hc26 := fun o => (hd2 o).trans (hc25 o)
  clear hc hf hb hd0 hd1 hd2 hc05 hc15 hc25 HB5 hz5
  go_wp2
  go_ret
  refine ⟨rfl, ?_⟩
  · refine Below.trans ?_ (HB6.out.mono (by simp; try omega))
    repeat (first | (with_reducible exact Below.refl _ _) | (with_reducible refine Below.setCell ?_ (by first | (simp; done) | (simp; omega)) _) | (with_reducible refine Below.alloc ?_ (by first | (simp; done) | (simp; omega)) _) | (with_reducible refine pw_below_drewN ?_ _) | (with_reducible refine Below.drew ?_))
theorem law_b0 (a0 b0 : Int) (s0 : ByteArray) (c0 : Bool) (x0 : Nat) (a1 b1 : Int) (s1 : ByteArray) (c1 : Bool) (x1 : Nat) (a2 b2 : Int) (s2 : ByteArray) (c2 : Bool) (x2 : Nat) (vz vt vs : Bool)
    (h1 : LessIs #[.int .i64 a0, .int .i64 b0, .string s0, .bool c0, .float .f64 x0] #[.int .i64 a1, .int .i64 b1, .string s1, .bool c1, .float .f64 x1] false true) (h2 : LessIs #[.int .i64 a1, .int .i64 b1, .string s1, .bool c1, .float .f64 x1] #[.int .i64 a0, .int .i64 b0, .string s0, .bool c0, .float .f64 x0] true true)
    (h3 : LessIs #[.int .i64 a1, .int .i64 b1, .string s1, .bool c1, .float .f64 x1] #[.int .i64 a2, .int .i64 b2, .string s2, .bool c2, .float .f64 x2] vz false) (h4 : LessIs #[.int .i64 a0, .int .i64 b0, .string s0, .bool c0, .float .f64 x0] #[.int .i64 a2, .int .i64 b2, .string s2, .bool c2, .float .f64 x2] vt vs)
    (h5 : LessIs #[.int .i64 1, .int .i64 (-1), .string (⟨#[]⟩ : ByteArray), .bool false, .float .f64 0] #[.int .i64 1, .int .i64 0, .string (⟨#[]⟩ : ByteArray), .bool false, .float .f64 0] true true) (h6 : SameIs #[.int .i64 a0, .int .i64 b0, .string s0, .bool c0, .float .f64 x0] #[.int .i64 a1, .int .i64 b1, .string s1, .bool c1, .float .f64 x1] false) (w : World) :
    Calls Try.prog 5 #[.agg #[.int .i64 a0, .int .i64 b0, .string s0, .bool c0, .float .f64 x0], .agg #[.int .i64 a1, .int .i64 b1, .string s1, .bool c1, .float .f64 x1], .agg #[.int .i64 a2, .int .i64 b2, .string s2, .bool c2, .float .f64 x2]] w fun e w' => e = .returned (.bool true) ∧ Below w.heap.size w w' := by
  have H1 := Lib.hid h1
  have H2 := Lib.hid h2
  have H3 := Lib.hid h3
  have H4 := Lib.hid h4
  have H5 := Lib.hid h5
  have H6 := Lib.hid h6
  clear h1 h2 h3 h4 h5 h6
  go_enter Try.func5, Try.ntmps5
  go_wp2_with fail
  refine (H1.out _).mono ?_
  rintro e w1 ⟨rfl, hb⟩
  obtain ⟨hc, hf⟩ := bcell hb
  have hz1 : w.heap.size + 1 + 1 < w1.heap.size := by
    have h9 := hb.size
    simp at h9
    omega
  have hd0 := fun o => hc (w.heap.size) o (by simp; try omega)
  have hd1 := fun o => hc (w.heap.size + 1) o (by simp; try omega)
  have hd2 := fun o => hc (w.heap.size + 1 + 1) o (by simp; try omega)
  have HB1 := Lib.hid hb
  have hc01 := hd0
  have hc11 := hd1
  have hc21 := hd2
  clear hc hf hb hd0 hd1 hd2
  go_wp2_with fail
  refine (H2.out _).mono ?_
  rintro e w2 ⟨rfl, hb⟩
  obtain ⟨hc, hf⟩ := bcell hb
  have hz2 : w.heap.size + 1 + 1 < w2.heap.size := Nat.lt_of_lt_of_le hz1 hb.size
  have hd0 := fun o => hc (w.heap.size) o (by omega)
  have hd1 := fun o => hc (w.heap.size + 1) o (by omega)
  have hd2 := fun o => hc (w.heap.size + 1 + 1) o (by omega)
  have HB2 := Lib.hid (Below.trans HB1.out (hb.mono HB1.out.size))
  have hc02 := fun o => (hd0 o).trans (hc01 o)
  have hc12 := fun o => (hd1 o).trans (hc11 o)
  have hc22 := fun o => (hd2 o).trans (hc21 o)
  clear hc hf hb hd0 hd1 hd2 hc01 hc11 hc21 HB1 hz1
  go_wp2_with fail
  refine (H3.out _).mono ?_
  rintro e w3 ⟨rfl, hb⟩
  obtain ⟨hc, hf⟩ := bcell hb
  have hz3 : w.heap.size + 1 + 1 < w3.heap.size := Nat.lt_of_lt_of_le hz2 hb.size
  have hd0 := fun o => hc (w.heap.size) o (by omega)
  have hd1 := fun o => hc (w.heap.size + 1) o (by omega)
  have hd2 := fun o => hc (w.heap.size + 1 + 1) o (by omega)
  have HB3 := Lib.hid (Below.trans HB2.out (hb.mono HB2.out.size))
  have hc03 := fun o => (hd0 o).trans (hc02 o)
  have hc13 := fun o => (hd1 o).trans (hc12 o)
  have hc23 := fun o => (hd2 o).trans (hc22 o)
  clear hc hf hb hd0 hd1 hd2 hc02 hc12 hc22 HB2 hz2
  go_wp2_with fail
  refine (H4.out _).mono ?_
  rintro e w4 ⟨rfl, hb⟩
  obtain ⟨hc, hf⟩ := bcell hb
  have hz4 : w.heap.size + 1 + 1 < w4.heap.size := Nat.lt_of_lt_of_le hz3 hb.size
  have hd0 := fun o => hc (w.heap.size) o (by omega)
  have hd1 := fun o => hc (w.heap.size + 1) o (by omega)
  have hd2 := fun o => hc (w.heap.size + 1 + 1) o (by omega)
  have HB4 := Lib.hid (Below.trans HB3.out (hb.mono HB3.out.size))
  have hc04 := fun o => (hd0 o).trans (hc03 o)
  have hc14 := fun o => (hd1 o).trans (hc13 o)
  have hc24 := fun o => (hd2 o).trans (hc23 o)
  clear hc hf hb hd0 hd1 hd2 hc03 hc13 hc23 HB3 hz3
  go_wp2_with fail
  refine (H5.out _).mono ?_
  rintro e w5 ⟨rfl, hb⟩
  obtain ⟨hc, hf⟩ := bcell hb
  have hz5 : w.heap.size + 1 + 1 < w5.heap.size := Nat.lt_of_lt_of_le hz4 hb.size
  have hd0 := fun o => hc (w.heap.size) o (by omega)
  have hd1 := fun o => hc (w.heap.size + 1) o (by omega)
  have hd2 := fun o => hc (w.heap.size + 1 + 1) o (by omega)
  have HB5 := Lib.hid (Below.trans HB4.out (hb.mono HB4.out.size))
  have hc05 := fun o => (hd0 o).trans (hc04 o)
  have hc15 := fun o => (hd1 o).trans (hc14 o)
  have hc25 := fun o => (hd2 o).trans (hc24 o)
  clear hc hf hb hd0 hd1 hd2 hc04 hc14 hc24 HB4 hz4
  go_wp2_with fail
  refine (H6.out _).mono ?_
  rintro e w6 ⟨rfl, hb⟩
  obtain ⟨hc, hf⟩ := bcell hb
  have hz6 : w.heap.size + 1 + 1 < w6.heap.size := Nat.lt_of_lt_of_le hz5 hb.size
  have hd0 := fun o => hc (w.heap.size) o (by omega)
  have hd1 := fun o => hc (w.heap.size + 1) o (by omega)
  have hd2 := fun o => hc (w.heap.size + 1 + 1) o (by omega)
  have HB6 := Lib.hid (Below.trans HB5.out (hb.mono HB5.out.size))
  have hc06 := fun o => (hd0 o).trans (hc05 o)
  have hc16 := fun o => (hd1 o).trans (hc15 o)
  have hc26 := fun o => (hd2 o).trans (hc25 o)
  clear hc hf hb hd0 hd1 hd2 hc05 hc15 hc25 HB5 hz5
  go_wp2
  go_ret
  refine ⟨rfl, ?_⟩
  · refine Below.trans ?_ (HB6.out.mono (by simp; try omega))
    repeat (first | (with_reducible exact Below.refl _ _) | (with_reducible refine Below.setCell ?_ (by first | (simp; done) | (simp; omega)) _) | (with_reducible refine Below.alloc ?_ (by first | (simp; done) | (simp; omega)) _) | (with_reducible refine pw_below_drewN ?_ _) | (with_reducible refine Below.drew ?_))
theorem law_c0 (a0 b0 : Int) (s0 : ByteArray) (c0 : Bool) (x0 : Nat) (a1 b1 : Int) (s1 : ByteArray) (c1 : Bool) (x1 : Nat) (a2 b2 : Int) (s2 : ByteArray) (c2 : Bool) (x2 : Nat) (vz vt vs : Bool)
    (h1 : LessIs #[.int .i64 a0, .int .i64 b0, .string s0, .bool c0, .float .f64 x0] #[.int .i64 a1, .int .i64 b1, .string s1, .bool c1, .float .f64 x1] false true) (h2 : LessIs #[.int .i64 a1, .int .i64 b1, .string s1, .bool c1, .float .f64 x1] #[.int .i64 a0, .int .i64 b0, .string s0, .bool c0, .float .f64 x0] false true)
    (h3 : LessIs #[.int .i64 a1, .int .i64 b1, .string s1, .bool c1, .float .f64 x1] #[.int .i64 a2, .int .i64 b2, .string s2, .bool c2, .float .f64 x2] vz false) (h4 : LessIs #[.int .i64 a0, .int .i64 b0, .string s0, .bool c0, .float .f64 x0] #[.int .i64 a2, .int .i64 b2, .string s2, .bool c2, .float .f64 x2] vt vs)
    (h5 : LessIs #[.int .i64 1, .int .i64 (-1), .string (⟨#[]⟩ : ByteArray), .bool false, .float .f64 0] #[.int .i64 1, .int .i64 0, .string (⟨#[]⟩ : ByteArray), .bool false, .float .f64 0] true true) (h6 : SameIs #[.int .i64 a0, .int .i64 b0, .string s0, .bool c0, .float .f64 x0] #[.int .i64 a1, .int .i64 b1, .string s1, .bool c1, .float .f64 x1] true) (w : World) :
    Calls Try.prog 5 #[.agg #[.int .i64 a0, .int .i64 b0, .string s0, .bool c0, .float .f64 x0], .agg #[.int .i64 a1, .int .i64 b1, .string s1, .bool c1, .float .f64 x1], .agg #[.int .i64 a2, .int .i64 b2, .string s2, .bool c2, .float .f64 x2]] w fun e w' => e = .returned (.bool true) ∧ Below w.heap.size w w' := by
  have H1 := Lib.hid h1
  have H2 := Lib.hid h2
  have H3 := Lib.hid h3
  have H4 := Lib.hid h4
  have H5 := Lib.hid h5
  have H6 := Lib.hid h6
  clear h1 h2 h3 h4 h5 h6
  go_enter Try.func5, Try.ntmps5
  go_wp2_with fail
  refine (H1.out _).mono ?_
  rintro e w1 ⟨rfl, hb⟩
  obtain ⟨hc, hf⟩ := bcell hb
  have hz1 : w.heap.size + 1 + 1 < w1.heap.size := by
    have h9 := hb.size
    simp at h9
    omega
  have hd0 := fun o => hc (w.heap.size) o (by simp; try omega)
  have hd1 := fun o => hc (w.heap.size + 1) o (by simp; try omega)
  have hd2 := fun o => hc (w.heap.size + 1 + 1) o (by simp; try omega)
  have HB1 := Lib.hid hb
  have hc01 := hd0
  have hc11 := hd1
  have hc21 := hd2
  clear hc hf hb hd0 hd1 hd2
  go_wp2_with fail
  refine (H2.out _).mono ?_
  rintro e w2 ⟨rfl, hb⟩
  obtain ⟨hc, hf⟩ := bcell hb
  have hz2 : w.heap.size + 1 + 1 < w2.heap.size := Nat.lt_of_lt_of_le hz1 hb.size
  have hd0 := fun o => hc (w.heap.size) o (by omega)
  have hd1 := fun o => hc (w.heap.size + 1) o (by omega)
  have hd2 := fun o => hc (w.heap.size + 1 + 1) o (by omega)
  have HB2 := Lib.hid (Below.trans HB1.out (hb.mono HB1.out.size))
  have hc02 := fun o => (hd0 o).trans (hc01 o)
  have hc12 := fun o => (hd1 o).trans (hc11 o)
  have hc22 := fun o => (hd2 o).trans (hc21 o)
  clear hc hf hb hd0 hd1 hd2 hc01 hc11 hc21 HB1 hz1
  go_wp2_with fail
  refine (H3.out _).mono ?_
  rintro e w3 ⟨rfl, hb⟩
  obtain ⟨hc, hf⟩ := bcell hb
  have hz3 : w.heap.size + 1 + 1 < w3.heap.size := Nat.lt_of_lt_of_le hz2 hb.size
  have hd0 := fun o => hc (w.heap.size) o (by omega)
  have hd1 := fun o => hc (w.heap.size + 1) o (by omega)
  have hd2 := fun o => hc (w.heap.size + 1 + 1) o (by omega)
  have HB3 := Lib.hid (Below.trans HB2.out (hb.mono HB2.out.size))
  have hc03 := fun o => (hd0 o).trans (hc02 o)
  have hc13 := fun o => (hd1 o).trans (hc12 o)
  have hc23 := fun o => (hd2 o).trans (hc22 o)
  clear hc hf hb hd0 hd1 hd2 hc02 hc12 hc22 HB2 hz2
  go_wp2_with fail
  refine (H4.out _).mono ?_
  rintro e w4 ⟨rfl, hb⟩
  obtain ⟨hc, hf⟩ := bcell hb
  have hz4 : w.heap.size + 1 + 1 < w4.heap.size := Nat.lt_of_lt_of_le hz3 hb.size
  have hd0 := fun o => hc (w.heap.size) o (by omega)
  have hd1 := fun o => hc (w.heap.size + 1) o (by omega)
  have hd2 := fun o => hc (w.heap.size + 1 + 1) o (by omega)
  have HB4 := Lib.hid (Below.trans HB3.out (hb.mono HB3.out.size))
  have hc04 := fun o => (hd0 o).trans (hc03 o)
  have hc14 := fun o => (hd1 o).trans (hc13 o)
  have hc24 := fun o => (hd2 o).trans (hc23 o)
  clear hc hf hb hd0 hd1 hd2 hc03 hc13 hc23 HB3 hz3
  go_wp2_with fail
  refine (H5.out _).mono ?_
  rintro e w5 ⟨rfl, hb⟩
  obtain ⟨hc, hf⟩ := bcell hb
  have hz5 : w.heap.size + 1 + 1 < w5.heap.size := Nat.lt_of_lt_of_le hz4 hb.size
  have hd0 := fun o => hc (w.heap.size) o (by omega)
  have hd1 := fun o => hc (w.heap.size + 1) o (by omega)
  have hd2 := fun o => hc (w.heap.size + 1 + 1) o (by omega)
  have HB5 := Lib.hid (Below.trans HB4.out (hb.mono HB4.out.size))
  have hc05 := fun o => (hd0 o).trans (hc04 o)
  have hc15 := fun o => (hd1 o).trans (hc14 o)
  have hc25 := fun o => (hd2 o).trans (hc24 o)
  clear hc hf hb hd0 hd1 hd2 hc04 hc14 hc24 HB4 hz4
  go_wp2_with fail
  refine (H6.out _).mono ?_
  rintro e w6 ⟨rfl, hb⟩
  obtain ⟨hc, hf⟩ := bcell hb
  have hz6 : w.heap.size + 1 + 1 < w6.heap.size := Nat.lt_of_lt_of_le hz5 hb.size
  have hd0 := fun o => hc (w.heap.size) o (by omega)
  have hd1 := fun o => hc (w.heap.size + 1) o (by omega)
  have hd2 := fun o => hc (w.heap.size + 1 + 1) o (by omega)
  have HB6 := Lib.hid (Below.trans HB5.out (hb.mono HB5.out.size))
  have hc06 := fun o => (hd0 o).trans (hc05 o)
  have hc16 := fun o => (hd1 o).trans (hc15 o)
  have hc26 := fun o => (hd2 o).trans (hc25 o)
  clear hc hf hb hd0 hd1 hd2 hc05 hc15 hc25 HB5 hz5
  go_wp2
  go_ret
  refine ⟨rfl, ?_⟩
  · refine Below.trans ?_ (HB6.out.mono (by simp; try omega))
    repeat (first | (with_reducible exact Below.refl _ _) | (with_reducible refine Below.setCell ?_ (by first | (simp; done) | (simp; omega)) _) | (with_reducible refine Below.alloc ?_ (by first | (simp; done) | (simp; omega)) _) | (with_reducible refine pw_below_drewN ?_ _) | (with_reducible refine Below.drew ?_))
theorem law_a1 (a0 b0 : Int) (s0 : ByteArray) (c0 : Bool) (x0 : Nat) (a1 b1 : Int) (s1 : ByteArray) (c1 : Bool) (x1 : Nat) (a2 b2 : Int) (s2 : ByteArray) (c2 : Bool) (x2 : Nat) (vt : Bool)
    (h1 : LessIs #[.int .i64 a0, .int .i64 b0, .string s0, .bool c0, .float .f64 x0] #[.int .i64 a1, .int .i64 b1, .string s1, .bool c1, .float .f64 x1] true true) (h2 : LessIs #[.int .i64 a1, .int .i64 b1, .string s1, .bool c1, .float .f64 x1] #[.int .i64 a0, .int .i64 b0, .string s0, .bool c0, .float .f64 x0] false true)
    (h3 : LessIs #[.int .i64 a1, .int .i64 b1, .string s1, .bool c1, .float .f64 x1] #[.int .i64 a2, .int .i64 b2, .string s2, .bool c2, .float .f64 x2] false true) (h4 : LessIs #[.int .i64 a0, .int .i64 b0, .string s0, .bool c0, .float .f64 x0] #[.int .i64 a2, .int .i64 b2, .string s2, .bool c2, .float .f64 x2] vt true)
    (h5 : LessIs #[.int .i64 1, .int .i64 (-1), .string (⟨#[]⟩ : ByteArray), .bool false, .float .f64 0] #[.int .i64 1, .int .i64 0, .string (⟨#[]⟩ : ByteArray), .bool false, .float .f64 0] true true) (h6 : SameIs #[.int .i64 a0, .int .i64 b0, .string s0, .bool c0, .float .f64 x0] #[.int .i64 a1, .int .i64 b1, .string s1, .bool c1, .float .f64 x1] false) (w : World) :
    Calls Try.prog 5 #[.agg #[.int .i64 a0, .int .i64 b0, .string s0, .bool c0, .float .f64 x0], .agg #[.int .i64 a1, .int .i64 b1, .string s1, .bool c1, .float .f64 x1], .agg #[.int .i64 a2, .int .i64 b2, .string s2, .bool c2, .float .f64 x2]] w fun e w' => e = .returned (.bool true) ∧ Below w.heap.size w w' := by
  have H1 := Lib.hid h1
  have H2 := Lib.hid h2
  have H3 := Lib.hid h3
  have H4 := Lib.hid h4
  have H5 := Lib.hid h5
  have H6 := Lib.hid h6
  clear h1 h2 h3 h4 h5 h6
  go_enter Try.func5, Try.ntmps5
  go_wp2_with fail
  refine (H1.out _).mono ?_
  rintro e w1 ⟨rfl, hb⟩
  obtain ⟨hc, hf⟩ := bcell hb
  have hz1 : w.heap.size + 1 + 1 < w1.heap.size := by
    have h9 := hb.size
    simp at h9
    omega
  have hd0 := fun o => hc (w.heap.size) o (by simp; try omega)
  have hd1 := fun o => hc (w.heap.size + 1) o (by simp; try omega)
  have hd2 := fun o => hc (w.heap.size + 1 + 1) o (by simp; try omega)
  have HB1 := Lib.hid hb
  have hc01 := hd0
  have hc11 := hd1
  have hc21 := hd2
  clear hc hf hb hd0 hd1 hd2
  go_wp2_with fail
  refine (H2.out _).mono ?_
  rintro e w2 ⟨rfl, hb⟩
  obtain ⟨hc, hf⟩ := bcell hb
  have hz2 : w.heap.size + 1 + 1 < w2.heap.size := Nat.lt_of_lt_of_le hz1 hb.size
  have hd0 := fun o => hc (w.heap.size) o (by omega)
  have hd1 := fun o => hc (w.heap.size + 1) o (by omega)
  have hd2 := fun o => hc (w.heap.size + 1 + 1) o (by omega)
  have HB2 := Lib.hid (Below.trans HB1.out (hb.mono HB1.out.size))
  have hc02 := fun o => (hd0 o).trans (hc01 o)
  have hc12 := fun o => (hd1 o).trans (hc11 o)
  have hc22 := fun o => (hd2 o).trans (hc21 o)
  clear hc hf hb hd0 hd1 hd2 hc01 hc11 hc21 HB1 hz1
  go_wp2_with fail
  refine (H3.out _).mono ?_
  rintro e w3 ⟨rfl, hb⟩
  obtain ⟨hc, hf⟩ := bcell hb
  have hz3 : w.heap.size + 1 + 1 < w3.heap.size := Nat.lt_of_lt_of_le hz2 hb.size
  have hd0 := fun o => hc (w.heap.size) o (by omega)
  have hd1 := fun o => hc (w.heap.size + 1) o (by omega)
  have hd2 := fun o => hc (w.heap.size + 1 + 1) o (by omega)
  have HB3 := Lib.hid (Below.trans HB2.out (hb.mono HB2.out.size))
  have hc03 := fun o => (hd0 o).trans (hc02 o)
  have hc13 := fun o => (hd1 o).trans (hc12 o)
  have hc23 := fun o => (hd2 o).trans (hc22 o)
  clear hc hf hb hd0 hd1 hd2 hc02 hc12 hc22 HB2 hz2
  go_wp2_with fail
  refine (H4.out _).mono ?_
  rintro e w4 ⟨rfl, hb⟩
  obtain ⟨hc, hf⟩ := bcell hb
  have hz4 : w.heap.size + 1 + 1 < w4.heap.size := Nat.lt_of_lt_of_le hz3 hb.size
  have hd0 := fun o => hc (w.heap.size) o (by omega)
  have hd1 := fun o => hc (w.heap.size + 1) o (by omega)
  have hd2 := fun o => hc (w.heap.size + 1 + 1) o (by omega)
  have HB4 := Lib.hid (Below.trans HB3.out (hb.mono HB3.out.size))
  have hc04 := fun o => (hd0 o).trans (hc03 o)
  have hc14 := fun o => (hd1 o).trans (hc13 o)
  have hc24 := fun o => (hd2 o).trans (hc23 o)
  clear hc hf hb hd0 hd1 hd2 hc03 hc13 hc23 HB3 hz3
  go_wp2_with fail
  refine (H5.out _).mono ?_
  rintro e w5 ⟨rfl, hb⟩
  obtain ⟨hc, hf⟩ := bcell hb
  have hz5 : w.heap.size + 1 + 1 < w5.heap.size := Nat.lt_of_lt_of_le hz4 hb.size
  have hd0 := fun o => hc (w.heap.size) o (by omega)
  have hd1 := fun o => hc (w.heap.size + 1) o (by omega)
  have hd2 := fun o => hc (w.heap.size + 1 + 1) o (by omega)
  have HB5 := Lib.hid (Below.trans HB4.out (hb.mono HB4.out.size))
  have hc05 := fun o => (hd0 o).trans (hc04 o)
  have hc15 := fun o => (hd1 o).trans (hc14 o)
  have hc25 := fun o => (hd2 o).trans (hc24 o)
  clear hc hf hb hd0 hd1 hd2 hc04 hc14 hc24 HB4 hz4
  go_wp2_with fail
  refine (H6.out _).mono ?_
  rintro e w6 ⟨rfl, hb⟩
  obtain ⟨hc, hf⟩ := bcell hb
  have hz6 : w.heap.size + 1 + 1 < w6.heap.size := Nat.lt_of_lt_of_le hz5 hb.size
  have hd0 := fun o => hc (w.heap.size) o (by omega)
  have hd1 := fun o => hc (w.heap.size + 1) o (by omega)
  have hd2 := fun o => hc (w.heap.size + 1 + 1) o (by omega)
  have HB6 := Lib.hid (Below.trans HB5.out (hb.mono HB5.out.size))
  have hc06 := fun o => (hd0 o).trans (hc05 o)
  have hc16 := fun o => (hd1 o).trans (hc15 o)
  have hc26 := fun o => (hd2 o).trans (hc25 o)
  clear hc hf hb hd0 hd1 hd2 hc05 hc15 hc25 HB5 hz5
  go_wp2
  go_ret
  refine ⟨rfl, ?_⟩
  · refine Below.trans ?_ (HB6.out.mono (by simp; try omega))
    repeat (first | (with_reducible exact Below.refl _ _) | (with_reducible refine Below.setCell ?_ (by first | (simp; done) | (simp; omega)) _) | (with_reducible refine Below.alloc ?_ (by first | (simp; done) | (simp; omega)) _) | (with_reducible refine pw_below_drewN ?_ _) | (with_reducible refine Below.drew ?_))
theorem law_a2 (a0 b0 : Int) (s0 : ByteArray) (c0 : Bool) (x0 : Nat) (a1 b1 : Int) (s1 : ByteArray) (c1 : Bool) (x1 : Nat) (a2 b2 : Int) (s2 : ByteArray) (c2 : Bool) (x2 : Nat)
    (h1 : LessIs #[.int .i64 a0, .int .i64 b0, .string s0, .bool c0, .float .f64 x0] #[.int .i64 a1, .int .i64 b1, .string s1, .bool c1, .float .f64 x1] true true) (h2 : LessIs #[.int .i64 a1, .int .i64 b1, .string s1, .bool c1, .float .f64 x1] #[.int .i64 a0, .int .i64 b0, .string s0, .bool c0, .float .f64 x0] false true)
    (h3 : LessIs #[.int .i64 a1, .int .i64 b1, .string s1, .bool c1, .float .f64 x1] #[.int .i64 a2, .int .i64 b2, .string s2, .bool c2, .float .f64 x2] true true) (h4 : LessIs #[.int .i64 a0, .int .i64 b0, .string s0, .bool c0, .float .f64 x0] #[.int .i64 a2, .int .i64 b2, .string s2, .bool c2, .float .f64 x2] true true)
    (h5 : LessIs #[.int .i64 1, .int .i64 (-1), .string (⟨#[]⟩ : ByteArray), .bool false, .float .f64 0] #[.int .i64 1, .int .i64 0, .string (⟨#[]⟩ : ByteArray), .bool false, .float .f64 0] true true) (h6 : SameIs #[.int .i64 a0, .int .i64 b0, .string s0, .bool c0, .float .f64 x0] #[.int .i64 a1, .int .i64 b1, .string s1, .bool c1, .float .f64 x1] false) (w : World) :
    Calls Try.prog 5 #[.agg #[.int .i64 a0, .int .i64 b0, .string s0, .bool c0, .float .f64 x0], .agg #[.int .i64 a1, .int .i64 b1, .string s1, .bool c1, .float .f64 x1], .agg #[.int .i64 a2, .int .i64 b2, .string s2, .bool c2, .float .f64 x2]] w fun e w' => e = .returned (.bool true) ∧ Below w.heap.size w w' := by
  have H1 := Lib.hid h1
  have H2 := Lib.hid h2
  have H3 := Lib.hid h3
  have H4 := Lib.hid h4
  have H5 := Lib.hid h5
  have H6 := Lib.hid h6
  clear h1 h2 h3 h4 h5 h6
  go_enter Try.func5, Try.ntmps5
  go_wp2_with fail
  refine (H1.out _).mono ?_
  rintro e w1 ⟨rfl, hb⟩
  obtain ⟨hc, hf⟩ := bcell hb
  have hz1 : w.heap.size + 1 + 1 < w1.heap.size := by
    have h9 := hb.size
    simp at h9
    omega
  have hd0 := fun o => hc (w.heap.size) o (by simp; try omega)
  have hd1 := fun o => hc (w.heap.size + 1) o (by simp; try omega)
  have hd2 := fun o => hc (w.heap.size + 1 + 1) o (by simp; try omega)
  have HB1 := Lib.hid hb
  have hc01 := hd0
  have hc11 := hd1
  have hc21 := hd2
  clear hc hf hb hd0 hd1 hd2
  go_wp2_with fail
  refine (H2.out _).mono ?_
  rintro e w2 ⟨rfl, hb⟩
  obtain ⟨hc, hf⟩ := bcell hb
  have hz2 : w.heap.size + 1 + 1 < w2.heap.size := Nat.lt_of_lt_of_le hz1 hb.size
  have hd0 := fun o => hc (w.heap.size) o (by omega)
  have hd1 := fun o => hc (w.heap.size + 1) o (by omega)
  have hd2 := fun o => hc (w.heap.size + 1 + 1) o (by omega)
  have HB2 := Lib.hid (Below.trans HB1.out (hb.mono HB1.out.size))
  have hc02 := fun o => (hd0 o).trans (hc01 o)
  have hc12 := fun o => (hd1 o).trans (hc11 o)
  have hc22 := fun o => (hd2 o).trans (hc21 o)
  clear hc hf hb hd0 hd1 hd2 hc01 hc11 hc21 HB1 hz1
  go_wp2_with fail
  refine (H3.out _).mono ?_
  rintro e w3 ⟨rfl, hb⟩
  obtain ⟨hc, hf⟩ := bcell hb
  have hz3 : w.heap.size + 1 + 1 < w3.heap.size := Nat.lt_of_lt_of_le hz2 hb.size
  have hd0 := fun o => hc (w.heap.size) o (by omega)
  have hd1 := fun o => hc (w.heap.size + 1) o (by omega)
  have hd2 := fun o => hc (w.heap.size + 1 + 1) o (by omega)
  have HB3 := Lib.hid (Below.trans HB2.out (hb.mono HB2.out.size))
  have hc03 := fun o => (hd0 o).trans (hc02 o)
  have hc13 := fun o => (hd1 o).trans (hc12 o)
  have hc23 := fun o => (hd2 o).trans (hc22 o)
  clear hc hf hb hd0 hd1 hd2 hc02 hc12 hc22 HB2 hz2
  go_wp2_with fail
  refine (H4.out _).mono ?_
  rintro e w4 ⟨rfl, hb⟩
  obtain ⟨hc, hf⟩ := bcell hb
  have hz4 : w.heap.size + 1 + 1 < w4.heap.size := Nat.lt_of_lt_of_le hz3 hb.size
  have hd0 := fun o => hc (w.heap.size) o (by omega)
  have hd1 := fun o => hc (w.heap.size + 1) o (by omega)
  have hd2 := fun o => hc (w.heap.size + 1 + 1) o (by omega)
  have HB4 := Lib.hid (Below.trans HB3.out (hb.mono HB3.out.size))
  have hc04 := fun o => (hd0 o).trans (hc03 o)
  have hc14 := fun o => (hd1 o).trans (hc13 o)
  have hc24 := fun o => (hd2 o).trans (hc23 o)
  clear hc hf hb hd0 hd1 hd2 hc03 hc13 hc23 HB3 hz3
  go_wp2_with fail
  refine (H5.out _).mono ?_
  rintro e w5 ⟨rfl, hb⟩
  obtain ⟨hc, hf⟩ := bcell hb
  have hz5 : w.heap.size + 1 + 1 < w5.heap.size := Nat.lt_of_lt_of_le hz4 hb.size
  have hd0 := fun o => hc (w.heap.size) o (by omega)
  have hd1 := fun o => hc (w.heap.size + 1) o (by omega)
  have hd2 := fun o => hc (w.heap.size + 1 + 1) o (by omega)
  have HB5 := Lib.hid (Below.trans HB4.out (hb.mono HB4.out.size))
  have hc05 := fun o => (hd0 o).trans (hc04 o)
  have hc15 := fun o => (hd1 o).trans (hc14 o)
  have hc25 := fun o => (hd2 o).trans (hc24 o)
  clear hc hf hb hd0 hd1 hd2 hc04 hc14 hc24 HB4 hz4
  go_wp2_with fail
  refine (H6.out _).mono ?_
  rintro e w6 ⟨rfl, hb⟩
  obtain ⟨hc, hf⟩ := bcell hb
  have hz6 : w.heap.size + 1 + 1 < w6.heap.size := Nat.lt_of_lt_of_le hz5 hb.size
  have hd0 := fun o => hc (w.heap.size) o (by omega)
  have hd1 := fun o => hc (w.heap.size + 1) o (by omega)
  have hd2 := fun o => hc (w.heap.size + 1 + 1) o (by omega)
  have HB6 := Lib.hid (Below.trans HB5.out (hb.mono HB5.out.size))
  have hc06 := fun o => (hd0 o).trans (hc05 o)
  have hc16 := fun o => (hd1 o).trans (hc15 o)
  have hc26 := fun o => (hd2 o).trans (hc25 o)
  clear hc hf hb hd0 hd1 hd2 hc05 hc15 hc25 HB5 hz5
  go_wp2
  go_ret
  refine ⟨rfl, ?_⟩
  · refine Below.trans ?_ (HB6.out.mono (by simp; try omega))
    repeat (first | (with_reducible exact Below.refl _ _) | (with_reducible refine Below.setCell ?_ (by first | (simp; done) | (simp; omega)) _) | (with_reducible refine Below.alloc ?_ (by first | (simp; done) | (simp; omega)) _) | (with_reducible refine pw_below_drewN ?_ _) | (with_reducible refine Below.drew ?_))
theorem law_b1 (a0 b0 : Int) (s0 : ByteArray) (c0 : Bool) (x0 : Nat) (a1 b1 : Int) (s1 : ByteArray) (c1 : Bool) (x1 : Nat) (a2 b2 : Int) (s2 : ByteArray) (c2 : Bool) (x2 : Nat) (vz vt : Bool)
    (h1 : LessIs #[.int .i64 a0, .int .i64 b0, .string s0, .bool c0, .float .f64 x0] #[.int .i64 a1, .int .i64 b1, .string s1, .bool c1, .float .f64 x1] false true) (h2 : LessIs #[.int .i64 a1, .int .i64 b1, .string s1, .bool c1, .float .f64 x1] #[.int .i64 a0, .int .i64 b0, .string s0, .bool c0, .float .f64 x0] true true)
    (h3 : LessIs #[.int .i64 a1, .int .i64 b1, .string s1, .bool c1, .float .f64 x1] #[.int .i64 a2, .int .i64 b2, .string s2, .bool c2, .float .f64 x2] vz true) (h4 : LessIs #[.int .i64 a0, .int .i64 b0, .string s0, .bool c0, .float .f64 x0] #[.int .i64 a2, .int .i64 b2, .string s2, .bool c2, .float .f64 x2] vt true)
    (h5 : LessIs #[.int .i64 1, .int .i64 (-1), .string (⟨#[]⟩ : ByteArray), .bool false, .float .f64 0] #[.int .i64 1, .int .i64 0, .string (⟨#[]⟩ : ByteArray), .bool false, .float .f64 0] true true) (h6 : SameIs #[.int .i64 a0, .int .i64 b0, .string s0, .bool c0, .float .f64 x0] #[.int .i64 a1, .int .i64 b1, .string s1, .bool c1, .float .f64 x1] false) (w : World) :
    Calls Try.prog 5 #[.agg #[.int .i64 a0, .int .i64 b0, .string s0, .bool c0, .float .f64 x0], .agg #[.int .i64 a1, .int .i64 b1, .string s1, .bool c1, .float .f64 x1], .agg #[.int .i64 a2, .int .i64 b2, .string s2, .bool c2, .float .f64 x2]] w fun e w' => e = .returned (.bool true) ∧ Below w.heap.size w w' := by
  have H1 := Lib.hid h1
  have H2 := Lib.hid h2
  have H3 := Lib.hid h3
  have H4 := Lib.hid h4
  have H5 := Lib.hid h5
  have H6 := Lib.hid h6
  clear h1 h2 h3 h4 h5 h6
  go_enter Try.func5, Try.ntmps5
  go_wp2_with fail
  refine (H1.out _).mono ?_
  rintro e w1 ⟨rfl, hb⟩
  obtain ⟨hc, hf⟩ := bcell hb
  have hz1 : w.heap.size + 1 + 1 < w1.heap.size := by
    have h9 := hb.size
    simp at h9
    omega
  have hd0 := fun o => hc (w.heap.size) o (by simp; try omega)
  have hd1 := fun o => hc (w.heap.size + 1) o (by simp; try omega)
  have hd2 := fun o => hc (w.heap.size + 1 + 1) o (by simp; try omega)
  have HB1 := Lib.hid hb
  have hc01 := hd0
  have hc11 := hd1
  have hc21 := hd2
  clear hc hf hb hd0 hd1 hd2
  go_wp2_with fail
  refine (H2.out _).mono ?_
  rintro e w2 ⟨rfl, hb⟩
  obtain ⟨hc, hf⟩ := bcell hb
  have hz2 : w.heap.size + 1 + 1 < w2.heap.size := Nat.lt_of_lt_of_le hz1 hb.size
  have hd0 := fun o => hc (w.heap.size) o (by omega)
  have hd1 := fun o => hc (w.heap.size + 1) o (by omega)
  have hd2 := fun o => hc (w.heap.size + 1 + 1) o (by omega)
  have HB2 := Lib.hid (Below.trans HB1.out (hb.mono HB1.out.size))
  have hc02 := fun o => (hd0 o).trans (hc01 o)
  have hc12 := fun o => (hd1 o).trans (hc11 o)
  have hc22 := fun o => (hd2 o).trans (hc21 o)
  clear hc hf hb hd0 hd1 hd2 hc01 hc11 hc21 HB1 hz1
  go_wp2_with fail
  refine (H3.out _).mono ?_
  rintro e w3 ⟨rfl, hb⟩
  obtain ⟨hc, hf⟩ := bcell hb
  have hz3 : w.heap.size + 1 + 1 < w3.heap.size := Nat.lt_of_lt_of_le hz2 hb.size
  have hd0 := fun o => hc (w.heap.size) o (by omega)
  have hd1 := fun o => hc (w.heap.size + 1) o (by omega)
  have hd2 := fun o => hc (w.heap.size + 1 + 1) o (by omega)
  have HB3 := Lib.hid (Below.trans HB2.out (hb.mono HB2.out.size))
  have hc03 := fun o => (hd0 o).trans (hc02 o)
  have hc13 := fun o => (hd1 o).trans (hc12 o)
  have hc23 := fun o => (hd2 o).trans (hc22 o)
  clear hc hf hb hd0 hd1 hd2 hc02 hc12 hc22 HB2 hz2
  go_wp2_with fail
  refine (H4.out _).mono ?_
  rintro e w4 ⟨rfl, hb⟩
  obtain ⟨hc, hf⟩ := bcell hb
  have hz4 : w.heap.size + 1 + 1 < w4.heap.size := Nat.lt_of_lt_of_le hz3 hb.size
  have hd0 := fun o => hc (w.heap.size) o (by omega)
  have hd1 := fun o => hc (w.heap.size + 1) o (by omega)
  have hd2 := fun o => hc (w.heap.size + 1 + 1) o (by omega)
  have HB4 := Lib.hid (Below.trans HB3.out (hb.mono HB3.out.size))
  have hc04 := fun o => (hd0 o).trans (hc03 o)
  have hc14 := fun o => (hd1 o).trans (hc13 o)
  have hc24 := fun o => (hd2 o).trans (hc23 o)
  clear hc hf hb hd0 hd1 hd2 hc03 hc13 hc23 HB3 hz3
  go_wp2_with fail
  refine (H5.out _).mono ?_
  rintro e w5 ⟨rfl, hb⟩
  obtain ⟨hc, hf⟩ := bcell hb
  have hz5 : w.heap.size + 1 + 1 < w5.heap.size := Nat.lt_of_lt_of_le hz4 hb.size
  have hd0 := fun o => hc (w.heap.size) o (by omega)
  have hd1 := fun o => hc (w.heap.size + 1) o (by omega)
  have hd2 := fun o => hc (w.heap.size + 1 + 1) o (by omega)
  have HB5 := Lib.hid (Below.trans HB4.out (hb.mono HB4.out.size))
  have hc05 := fun o => (hd0 o).trans (hc04 o)
  have hc15 := fun o => (hd1 o).trans (hc14 o)
  have hc25 := fun o => (hd2 o).trans (hc24 o)
  clear hc hf hb hd0 hd1 hd2 hc04 hc14 hc24 HB4 hz4
  go_wp2_with fail
  refine (H6.out _).mono ?_
  rintro e w6 ⟨rfl, hb⟩
  obtain ⟨hc, hf⟩ := bcell hb
  have hz6 : w.heap.size + 1 + 1 < w6.heap.size := Nat.lt_of_lt_of_le hz5 hb.size
  have hd0 := fun o => hc (w.heap.size) o (by omega)
  have hd1 := fun o => hc (w.heap.size + 1) o (by omega)
  have hd2 := fun o => hc (w.heap.size + 1 + 1) o (by omega)
  have HB6 := Lib.hid (Below.trans HB5.out (hb.mono HB5.out.size))
  have hc06 := fun o => (hd0 o).trans (hc05 o)
  have hc16 := fun o => (hd1 o).trans (hc15 o)
  have hc26 := fun o => (hd2 o).trans (hc25 o)
  clear hc hf hb hd0 hd1 hd2 hc05 hc15 hc25 HB5 hz5
  go_wp2
  go_ret
  refine ⟨rfl, ?_⟩
  · refine Below.trans ?_ (HB6.out.mono (by simp; try omega))
    repeat (first | (with_reducible exact Below.refl _ _) | (with_reducible refine Below.setCell ?_ (by first | (simp; done) | (simp; omega)) _) | (with_reducible refine Below.alloc ?_ (by first | (simp; done) | (simp; omega)) _) | (with_reducible refine pw_below_drewN ?_ _) | (with_reducible refine Below.drew ?_))
theorem law_c1 (a0 b0 : Int) (s0 : ByteArray) (c0 : Bool) (x0 : Nat) (a1 b1 : Int) (s1 : ByteArray) (c1 : Bool) (x1 : Nat) (a2 b2 : Int) (s2 : ByteArray) (c2 : Bool) (x2 : Nat) (vz vt : Bool)
    (h1 : LessIs #[.int .i64 a0, .int .i64 b0, .string s0, .bool c0, .float .f64 x0] #[.int .i64 a1, .int .i64 b1, .string s1, .bool c1, .float .f64 x1] false true) (h2 : LessIs #[.int .i64 a1, .int .i64 b1, .string s1, .bool c1, .float .f64 x1] #[.int .i64 a0, .int .i64 b0, .string s0, .bool c0, .float .f64 x0] false true)
    (h3 : LessIs #[.int .i64 a1, .int .i64 b1, .string s1, .bool c1, .float .f64 x1] #[.int .i64 a2, .int .i64 b2, .string s2, .bool c2, .float .f64 x2] vz true) (h4 : LessIs #[.int .i64 a0, .int .i64 b0, .string s0, .bool c0, .float .f64 x0] #[.int .i64 a2, .int .i64 b2, .string s2, .bool c2, .float .f64 x2] vt true)
    (h5 : LessIs #[.int .i64 1, .int .i64 (-1), .string (⟨#[]⟩ : ByteArray), .bool false, .float .f64 0] #[.int .i64 1, .int .i64 0, .string (⟨#[]⟩ : ByteArray), .bool false, .float .f64 0] true true) (h6 : SameIs #[.int .i64 a0, .int .i64 b0, .string s0, .bool c0, .float .f64 x0] #[.int .i64 a1, .int .i64 b1, .string s1, .bool c1, .float .f64 x1] true) (w : World) :
    Calls Try.prog 5 #[.agg #[.int .i64 a0, .int .i64 b0, .string s0, .bool c0, .float .f64 x0], .agg #[.int .i64 a1, .int .i64 b1, .string s1, .bool c1, .float .f64 x1], .agg #[.int .i64 a2, .int .i64 b2, .string s2, .bool c2, .float .f64 x2]] w fun e w' => e = .returned (.bool true) ∧ Below w.heap.size w w' := by
  have H1 := Lib.hid h1
  have H2 := Lib.hid h2
  have H3 := Lib.hid h3
  have H4 := Lib.hid h4
  have H5 := Lib.hid h5
  have H6 := Lib.hid h6
  clear h1 h2 h3 h4 h5 h6
  go_enter Try.func5, Try.ntmps5
  go_wp2_with fail
  refine (H1.out _).mono ?_
  rintro e w1 ⟨rfl, hb⟩
  obtain ⟨hc, hf⟩ := bcell hb
  have hz1 : w.heap.size + 1 + 1 < w1.heap.size := by
    have h9 := hb.size
    simp at h9
    omega
  have hd0 := fun o => hc (w.heap.size) o (by simp; try omega)
  have hd1 := fun o => hc (w.heap.size + 1) o (by simp; try omega)
  have hd2 := fun o => hc (w.heap.size + 1 + 1) o (by simp; try omega)
  have HB1 := Lib.hid hb
  have hc01 := hd0
  have hc11 := hd1
  have hc21 := hd2
  clear hc hf hb hd0 hd1 hd2
  go_wp2_with fail
  refine (H2.out _).mono ?_
  rintro e w2 ⟨rfl, hb⟩
  obtain ⟨hc, hf⟩ := bcell hb
  have hz2 : w.heap.size + 1 + 1 < w2.heap.size := Nat.lt_of_lt_of_le hz1 hb.size
  have hd0 := fun o => hc (w.heap.size) o (by omega)
  have hd1 := fun o => hc (w.heap.size + 1) o (by omega)
  have hd2 := fun o => hc (w.heap.size + 1 + 1) o (by omega)
  have HB2 := Lib.hid (Below.trans HB1.out (hb.mono HB1.out.size))
  have hc02 := fun o => (hd0 o).trans (hc01 o)
  have hc12 := fun o => (hd1 o).trans (hc11 o)
  have hc22 := fun o => (hd2 o).trans (hc21 o)
  clear hc hf hb hd0 hd1 hd2 hc01 hc11 hc21 HB1 hz1
  go_wp2_with fail
  refine (H3.out _).mono ?_
  rintro e w3 ⟨rfl, hb⟩
  obtain ⟨hc, hf⟩ := bcell hb
  have hz3 : w.heap.size + 1 + 1 < w3.heap.size := Nat.lt_of_lt_of_le hz2 hb.size
  have hd0 := fun o => hc (w.heap.size) o (by omega)
  have hd1 := fun o => hc (w.heap.size + 1) o (by omega)
  have hd2 := fun o => hc (w.heap.size + 1 + 1) o (by omega)
  have HB3 := Lib.hid (Below.trans HB2.out (hb.mono HB2.out.size))
  have hc03 := fun o => (hd0 o).trans (hc02 o)
  have hc13 := fun o => (hd1 o).trans (hc12 o)
  have hc23 := fun o => (hd2 o).trans (hc22 o)
  clear hc hf hb hd0 hd1 hd2 hc02 hc12 hc22 HB2 hz2
  go_wp2_with fail
  refine (H4.out _).mono ?_
  rintro e w4 ⟨rfl, hb⟩
  obtain ⟨hc, hf⟩ := bcell hb
  have hz4 : w.heap.size + 1 + 1 < w4.heap.size := Nat.lt_of_lt_of_le hz3 hb.size
  have hd0 := fun o => hc (w.heap.size) o (by omega)
  have hd1 := fun o => hc (w.heap.size + 1) o (by omega)
  have hd2 := fun o => hc (w.heap.size + 1 + 1) o (by omega)
  have HB4 := Lib.hid (Below.trans HB3.out (hb.mono HB3.out.size))
  have hc04 := fun o => (hd0 o).trans (hc03 o)
  have hc14 := fun o => (hd1 o).trans (hc13 o)
  have hc24 := fun o => (hd2 o).trans (hc23 o)
  clear hc hf hb hd0 hd1 hd2 hc03 hc13 hc23 HB3 hz3
  go_wp2_with fail
  refine (H5.out _).mono ?_
  rintro e w5 ⟨rfl, hb⟩
  obtain ⟨hc, hf⟩ := bcell hb
  have hz5 : w.heap.size + 1 + 1 < w5.heap.size := Nat.lt_of_lt_of_le hz4 hb.size
  have hd0 := fun o => hc (w.heap.size) o (by omega)
  have hd1 := fun o => hc (w.heap.size + 1) o (by omega)
  have hd2 := fun o => hc (w.heap.size + 1 + 1) o (by omega)
  have HB5 := Lib.hid (Below.trans HB4.out (hb.mono HB4.out.size))
  have hc05 := fun o => (hd0 o).trans (hc04 o)
  have hc15 := fun o => (hd1 o).trans (hc14 o)
  have hc25 := fun o => (hd2 o).trans (hc24 o)
  clear hc hf hb hd0 hd1 hd2 hc04 hc14 hc24 HB4 hz4
  go_wp2_with fail
  refine (H6.out _).mono ?_
  rintro e w6 ⟨rfl, hb⟩
  obtain ⟨hc, hf⟩ := bcell hb
  have hz6 : w.heap.size + 1 + 1 < w6.heap.size := Nat.lt_of_lt_of_le hz5 hb.size
  have hd0 := fun o => hc (w.heap.size) o (by omega)
  have hd1 := fun o => hc (w.heap.size + 1) o (by omega)
  have hd2 := fun o => hc (w.heap.size + 1 + 1) o (by omega)
  have HB6 := Lib.hid (Below.trans HB5.out (hb.mono HB5.out.size))
  have hc06 := fun o => (hd0 o).trans (hc05 o)
  have hc16 := fun o => (hd1 o).trans (hc15 o)
  have hc26 := fun o => (hd2 o).trans (hc25 o)
  clear hc hf hb hd0 hd1 hd2 hc05 hc15 hc25 HB5 hz5
  go_wp2
  go_ret
  refine ⟨rfl, ?_⟩
  · refine Below.trans ?_ (HB6.out.mono (by simp; try omega))
    repeat (first | (with_reducible exact Below.refl _ _) | (with_reducible refine Below.setCell ?_ (by first | (simp; done) | (simp; omega)) _) | (with_reducible refine Below.alloc ?_ (by first | (simp; done) | (simp; omega)) _) | (with_reducible refine pw_below_drewN ?_ _) | (with_reducible refine Below.drew ?_))
end Go.Proofs.Ytelpppmnakblmaa.Hand
