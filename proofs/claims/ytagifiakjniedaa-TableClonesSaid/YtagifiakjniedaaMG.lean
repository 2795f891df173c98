/-
  Contracts of functions that a statement of this seat reaches (joined texts: H28).
-/
import Derived.Test.YtagifiakjniedaaME
section
namespace Go.Proofs.Ytagifiakjniedaa.PTab
open Go.RowKit Go.Proofs.YtagifiakjniedaaW.PrintWords Go.Proofs.YtagifiakjniedaaW.PrintLast
set_option linter.unusedVariables false
set_option linter.unusedSimpArgs false
/-- Two tables and two lists of the reference, apart. -/
structure Two (w0 wr : World) (g1 : Nat) (v1 : Value) (L1 : List S28) (g2 : Nat) (v2 : Value) (L2 : List S28) : Prop where
  out : ∃ T1 R1 T2 R2 : Nat → Prop, (Tb wr g1 T1 L1 ∧ Kd.V k28 28 wr 0 R1 v1 L1 ∧ (∀ k, T1 k → w0.heap.size ≤ k) ∧ Good L1) ∧ (Tb wr g2 T2 L2 ∧ Kd.V k28 28 wr 0 R2 v2 L2 ∧ (∀ k, T2 k → w0.heap.size ≤ k) ∧ Good L2) ∧
    ((∀ k, T1 k → ¬ R1 k) ∧ (∀ k, T2 k → ¬ R2 k) ∧ (∀ k, T1 k → ¬ R2 k) ∧ (∀ k, T2 k → ¬ R1 k) ∧ (∀ k, T1 k → ¬ T2 k)) ∧ Below w0.heap.size w0 wr
theorem Two.swap {w0 wr : World} {g1 g2 : Nat} {v1 v2 : Value} {L1 L2 : List S28} (h : Two w0 wr g1 v1 L1 g2 v2 L2) : Two w0 wr g2 v2 L2 g1 v1 L1 := by
  obtain ⟨T1, R1, T2, R2, h1, h2, ⟨d1, d2, d3, d4, d5⟩, hb⟩ := h
  exact ⟨T2, R2, T1, R1, h2, h1, ⟨d2, d1, d4, d3, fun k hk h => d5 k h hk⟩, hb⟩
theorem Two.step {w0 wr w' : World} {g1 g2 : Nat} {v1' v2 : Value} {L1' L2 : List S28} {T1 R1 T2 R2 : Nat → Prop} (h2 : Tb wr g2 T2 L2 ∧ Kd.V k28 28 wr 0 R2 v2 L2 ∧ (∀ k, T2 k → w0.heap.size ≤ k) ∧ Good L2) (h10 : ∀ k, T1 k → w0.heap.size ≤ k) (hG : Good L1')
    (hd : (∀ k, T1 k → ¬ R1 k) ∧ (∀ k, T2 k → ¬ R2 k) ∧ (∀ k, T1 k → ¬ R2 k) ∧ (∀ k, T2 k → ¬ R1 k) ∧ (∀ k, T1 k → ¬ T2 k)) (hb : Below w0.heap.size w0 wr) (hS : Stepped wr g1 T1 R1 L1' v1' w') : Two w0 w' g1 v1' L1' g2 v2 L2 := by
  obtain ⟨T, R, s1, s2, s3, s4, s5, s6⟩ := hS
  obtain ⟨d1, d2, d3, d4, d5⟩ := hd
  refine ⟨T, R, fun k => T2 k ∧ k < wr.heap.size, fun k => R2 k ∧ k < wr.heap.size, ⟨s1, s2, fun k hk => (s4 k hk).elim (h10 k) (fun h => Nat.le_trans hb.size h), hG⟩, ⟨?_, ?_, fun k hk => h2.2.2.1 k hk.1, h2.2.2.2⟩, ⟨s3, fun k hk h => d2 k hk.1 h.1, fun k hk h => (s4 k hk).elim (fun h9 => d3 k h9 h.1) (fun h9 => by have := h.2; omega), fun k hk h => (s5 k h).elim (fun h9 => d4 k hk.1 h9) (fun h9 => by have := hk.2; omega), fun k hk h => (s4 k hk).elim (fun h9 => d5 k h9 h.1) (fun h9 => by have := h.2; omega)⟩, Below.trans hb (s6.below hb.size h10)⟩
  · exact Tb_kp (Tb_bound h2.1) s6 (fun k hk _ h => d5 k h hk.1)
  · exact Kd.V_kept (Kd.V_bound h2.2.1) s6.kept (fun k hk h => d3 k h hk.1)
theorem Two.below {w0 wr w' : World} {g1 g2 : Nat} {v1 v2 : Value} {L1 L2 : List S28} (h : Two w0 wr g1 v1 L1 g2 v2 L2) (hb : Below wr.heap.size wr w') : Two w0 w' g1 v1 L1 g2 v2 L2 := by
  obtain ⟨T1, R1, T2, R2, h1, h2, hd, hb0⟩ := h
  exact ⟨T1, R1, T2, R2, ⟨Tb_below h1.1 hb, Kd.V_below h1.2.1 hb, h1.2.2⟩, ⟨Tb_below h2.1 hb, Kd.V_below h2.2.1 hb, h2.2.2⟩, hd, Below.trans hb0 (hb.mono hb0.size)⟩
/-- One step at the first, given as a contract. -/
theorem Two.one_calls {w0 wr : World} {g1 g2 : Nat} {A1 : Option Addr} {c1 : Nat} {v2 : Value} {L1 L2 : List S28} (h : Two w0 wr g1 (.slice A1 L1.length c1) L1 g2 v2 L2) (o : S44) (A : Option Addr) (c : Nat) (hB : B44 o) (hr : Kd.C k71 wr A o.f6.length o.f6) (hc : o.f6.length ≤ c) :
    Calls Try.prog 25 #[.pointer (some ⟨g1, 0, none⟩), .slice A1 L1.length c1, .agg #[.int .i64 o.f0, .int .i64 o.f1, .int .i64 o.f2, .string o.f3, .string o.f4, .string o.f5, .slice A o.f6.length c]] wr fun e w' => ∃ A2 c2, e = .returned (.tuple #[.slice A2 (stepL L1 o).length c2, .bool true]) ∧ Two w0 w' g1 (.slice A2 (stepL L1 o).length c2) (stepL L1 o) g2 v2 L2 := by
  obtain ⟨T1, R1, T2, R2, h1, h2, hd, hb⟩ := h
  refine (step_calls g1 T1 R1 L1 o A1 c1 A c wr h1.1 h1.2.1 hd.1 h1.2.2.2 hB hr hc).mono ?_
  rintro e w' ⟨v, rfl, hS⟩
  have hV : ∃ R, Kd.V k28 28 w' 0 R v (stepL L1 o) := by
    obtain ⟨_, R, _, hV, _⟩ := hS
    exact ⟨R, hV⟩
  obtain ⟨_, hV⟩ := hV
  obtain ⟨A2, c2, rfl⟩ := Kd.V_slice hV
  exact ⟨A2, c2, rfl, Two.step (w0 := w0) h2 h1.2.2.1 (h1.2.2.2.step o) hd hb hS⟩
theorem k53_open {w : World} {x : S53} {cs : List Value} (h : k53.K w x cs) : ∃ A0 c0 A1 c1 A2 c2, cs = [.slice A0 x.f0.length c0, .slice A1 x.f1.length c1, .slice A2 x.f2.length c2] ∧ (x.f0.length ≤ c0 ∧ k44.C w A0 x.f0.length x.f0) ∧ (x.f1.length ≤ c1 ∧ k44.C w A1 x.f1.length x.f1) ∧ (x.f2.length ≤ c2 ∧ k44.C w A2 x.f2.length x.f2) := by
  obtain ⟨_, _, rfl, ⟨A0, c0, rfl, l0, g0⟩, ⟨_, _, rfl, ⟨A1, c1, rfl, l1, g1⟩, ⟨A2, c2, rfl, l2, g2⟩⟩⟩ := h
  exact ⟨A0, c0, A1, c1, A2, c2, rfl, ⟨l0, g0⟩, ⟨l1, g1⟩, ⟨l2, g2⟩⟩
set_option maxRecDepth 100000 in
set_option maxHeartbeats 4000000 in
theorem tableClones_walk (cs0 : Array Value) (x0 : S53) (W : World) (hr0 : k53.K W x0 cs0.toList) (b0 : B53 x0) : Calls Try.prog 7 #[.agg cs0] W fun e W' => e = .returned (.bool true) ∧ Below W.heap.size W W' := by
  obtain ⟨A0, c0, A1, c1, A2, c2, he, ⟨hc0, ha0⟩, ⟨hc1, ha1⟩, ⟨hc2, ha2⟩⟩ := k53_open hr0
  obtain rfl : cs0 = #[.slice A0 x0.f0.length c0, .slice A1 x0.f1.length c1, .slice A2 x0.f2.length c2] := by
    cases cs0
    simp_all
  obtain ⟨s0, s1, s2⟩ := x0
  have hb0 := b0.1.2
  have hb1 := b0.2.1.2
  have hb2 := b0.2.2.2
  have hn1 : s1.length ≤ 140737488351232 := by have := b0.2.1.1; have : s1.length * 96 ≤ 140737488351232 := this; omega
  have hn2 : s2.length ≤ 140737488351232 := by have := b0.2.2.1; have : s2.length * 96 ≤ 140737488351232 := this; omega
  have hm0 := Kd.C_max ha0
  simp only at *
  have hbx : Below W.heap.size W (W.alloc (.cells #[.slice A0 s0.length c0, .slice A1 s1.length c1, .slice A2 s2.length c2] 53)) := below_alloc (Below.refl _ _) _
  obtain ⟨w0, hw0⟩ : ∃ w0, w0 = W.alloc (.cells #[.slice A0 s0.length c0, .slice A1 s1.length c1, .slice A2 s2.length c2] 53) := ⟨_, rfl⟩
  have HC0 := Lib.hid (show Kd.C k44 w0 A0 s0.length s0 from hw0 ▸ Kd.C_below ha0 hbx)
  have HC1 := Lib.hid (show Kd.C k44 w0 A1 s1.length s1 from hw0 ▸ Kd.C_below ha1 hbx)
  have HC2 := Lib.hid (show Kd.C k44 w0 A2 s2.length s2 from hw0 ▸ Kd.C_below ha2 hbx)
  have HB := Lib.hid (And.intro hb0 (And.intro hb1 hb2))
  have hq1 : w0.cell? ⟨W.heap.size, 1, none⟩ = some (.slice A1 s1.length c1) := by rw [hw0, cell_of_heap (heap_alloc_at _ _)]; rfl
  have hq2 : w0.cell? ⟨W.heap.size, 2, none⟩ = some (.slice A2 s2.length c2) := by rw [hw0, cell_of_heap (heap_alloc_at _ _)]; rfl
  have HQ := Lib.hid (And.intro hq1 hq2)
  have HBX := Lib.hid (hw0 ▸ hbx : Below W.heap.size W w0)
  have HQS := Lib.hid (show W.heap.size < w0.heap.size from hw0 ▸ (by simp))
  have HW0 := Lib.hid hw0
  clear hr0 ha0 ha1 ha2 b0 hb0 hb1 hb2 hbx hq1 hq2 he
  go_enter Try.func7, Try.ntmps7
  go_wp2_with fail
  rw [← HW0.out]
  clear hw0
  refine (begun_calls w0).mono ?_
  rintro e w1 ⟨g, rfl, hT, hb⟩
  have HBB : Hid (Both w0 w1 (fun k => w0.heap.size ≤ k) w1 g (.slice none ([] : List S28).length 0) []) := Lib.hid ⟨_, fun _ => False, hT, Kd.V_nil _ _ _ _ _, fun k _ h => h, fun k hk => .inl hk, fun k hk => hk, ⟨by decide, fun x hx => by cases hx⟩, hb, Kp.refl _ _⟩
  have hq0 : w1.cell? ⟨W.heap.size, 0, none⟩ = some (.slice A0 s0.length c0) := (hb.cell (p := ⟨W.heap.size, 0, none⟩) HQS.out).trans (by rw [HW0.out, cell_of_heap (heap_alloc_at _ _)]; rfl)
  clear hT hb
  go_wp2_with fail
  go_loopw [5, 22] (fun l x wr => ∃ k : Nat, k ≤ s0.length ∧ x = .int .i64 k ∧ ∃ (A1 : Option Addr) (c1 : Nat) (L1 : List S28), l = .slice A1 L1.length c1 ∧ Hid (Both w0 w1 (fun k => w0.heap.size ≤ k) wr g (.slice A1 L1.length c1) L1)) (fun _ x _ => s0.length - (intOf x).toNat)
  case atStart => exact ⟨0, Nat.zero_le _, rfl, none, 0, [], rfl, HBB⟩
  case round =>
    clear HBB
    obtain ⟨k, hk, rfl, A3, c3, L1, rfl, HREL⟩ := hrel
    obtain ⟨T, R, h1, h2, h3, h4, h5, h6, h7, h8⟩ := HREL.out
    by_cases hlt : k < s0.length
    · have hCr := Kd.C_below HC0.out h7
      obtain ⟨ad, A6, c6, rfl, ⟨k0, k1, k2, k3, k4, k5, k6⟩, l6, g6⟩ := C_elem44 hCr k hlt
      have hBo := HB.out.1 s0[k] (List.getElem_mem hlt)
      generalize s0[k] = o at *
      have hbx : Below wr.heap.size wr (wr.alloc (.cells #[.int .i64 o.f0, .int .i64 o.f1, .int .i64 o.f2, .string o.f3, .string o.f4, .string o.f5, .slice A6 o.f6.length c6] 44)) := below_alloc (Below.refl _ _) _
      have H := Lib.hid (step_calls g T R L1 o A3 c3 A6 c6 _ (Tb_below h1 hbx) (Kd.V_below h2 hbx) h3 h6 hBo (Kd.C_below g6 hbx) l6)
      have HX := Lib.hid (show Below w0.heap.size w0 _ ∧ Kp (fun k => w0.heap.size ≤ k) w1 _ from ⟨Below.trans h7 (hbx.mono h7.size), h8.then_below hbx⟩)
      have HT := Lib.hid (show (∀ k, T k → w0.heap.size ≤ k ∨ w1.heap.size ≤ k) ∧ (∀ k, T k → w0.heap.size ≤ k) ∧ Good L1 from ⟨h4, h5, h6⟩)
      have HV := Lib.hid (Kd.V_below h2 hbx)
      clear h1 h2 h3 h4 h5 h6 h7 h8 hCr l6 g6 hBo hbx
      go_wp2_with fail
      refine (H.out).mono ?_
      rintro e w2 ⟨v, rfl, hS⟩
      have hN := Both.step ⟨R, HV.out⟩ (HT.out.2.2.step o) HX.out.1 HX.out.2 HT.out.1 HT.out.2.1 hS
      obtain ⟨T2, R2, _, hV2, _⟩ := hN.out
      obtain ⟨A4, c4, rfl⟩ := Kd.V_slice hV2
      have HN := Lib.hid hN
      clear hS hN hV2
      go_wp2
      go_roundw
      case rel => exact ⟨k + 1, by omega, by go_num, A4, c4, stepL L1 o, rfl, HN⟩
      case measure => simp [intOf]; omega
    · obtain rfl : k = s0.length := by omega
      have H := Lib.hid (clone_calls g T L1 wr h1 h6.fits)
      have HY := Lib.hid (fun (g2 : Nat) (w2 : World) (hT : Tb w2 g2 (fun k => wr.heap.size ≤ k) L1) (hb : Below wr.heap.size wr w2) => (show Two w0 w2 g (.slice A3 L1.length c3) L1 g2 (.slice A3 L1.length c3) L1 from
        ⟨fun k => T k ∧ k < wr.heap.size, fun k => R k ∧ k < wr.heap.size, _, fun k => R k ∧ k < wr.heap.size, ⟨Tb_below (Tb_bound h1) hb, Kd.V_below (Kd.V_bound h2) hb, fun k hk => h5 k hk.1, h6⟩, ⟨hT, Kd.V_below (Kd.V_bound h2) hb, fun k hk => Nat.le_trans h7.size hk, h6⟩,
          ⟨fun k hk h => h3 k hk.1 h.1, fun k hk h => by have := h.2; omega, fun k hk h => h3 k hk.1 h.1, fun k hk h => by have := h.2; omega, fun k hk h => by have := hk.2; omega⟩, Below.trans h7 (hb.mono h7.size)⟩))
      clear h1 h2 h3 h4 h5 h6 h7 h8 HREL
      go_wp2_with fail
      refine (H.out).mono ?_
      rintro e w2 ⟨g2, rfl, hT, hb⟩
      have HTW := Lib.hid (HY.out g2 w2 hT hb)
      clear hT hb HY
      go_wp2_with fail
      have hN : s1.length + s2.length ≤ 281474976702464 := by omega
      go_loopw [5, 11, 12] (fun l m x wr => ∃ k : Nat, k ≤ s1.length + s2.length ∧ x = .int .i64 k ∧ ∃ (A1 : Option Addr) (c1 : Nat) (L1 : List S28) (A2 : Option Addr) (c2 : Nat) (L2 : List S28), l = .slice A1 L1.length c1 ∧ m = .slice A2 L2.length c2 ∧ Hid (Two w0 wr g (.slice A1 L1.length c1) L1 g2 (.slice A2 L2.length c2) L2)) (fun _ _ x _ => s1.length + s2.length - (intOf x).toNat)
      case atStart => exact ⟨0, Nat.zero_le _, rfl, _, _, _, _, _, _, rfl, rfl, HTW⟩
      case round =>
        clear HTW
        obtain ⟨k, hk, rfl, A4, c4, L4, A5, c5, L5, rfl, rfl, HREL⟩ := hrel
        have hb7 : Below w0.heap.size w0 wr := by obtain ⟨_, _, _, _, _, _, _, h⟩ := HREL.out; exact h
        have q1 := (hb7.cell (p := ⟨W.heap.size, 1, none⟩) HQS.out).trans HQ.out.1
        have q2 := (hb7.cell (p := ⟨W.heap.size, 2, none⟩) HQS.out).trans HQ.out.2
        by_cases ha : k < s1.length
        · have d1 : decide ((k : Int) < (s1.length : Int)) = true := decide_eq_true (by omega)
          have hCr := Kd.C_below HC1.out hb7
          obtain ⟨ada, Aa, ca, rfl, ⟨a0, a1, a2, a3, a4, a5, a6⟩, la, ga⟩ := C_elem44 hCr k ha
          have hBa := HB.out.2.1 s1[k] (List.getElem_mem ha)
          generalize s1[k] = oa at *
          have H := Lib.hid (HREL.out.one_calls oa Aa ca hBa ga la)
          clear hCr hBa ga la hb7
          go_wp2_with fail
          refine (H.out).mono ?_
          rintro e w2 ⟨A6, c6, rfl, hTW⟩
          have hb8 : Below w0.heap.size w0 w2 := (by obtain ⟨_, _, _, _, _, _, _, h⟩ := hTW; exact h)
          have q3 := (hb8.cell (p := ⟨W.heap.size, 1, none⟩) HQS.out).trans HQ.out.1
          have q4 := (hb8.cell (p := ⟨W.heap.size, 2, none⟩) HQS.out).trans HQ.out.2
          have HN := Lib.hid hTW
          clear hTW
          by_cases hb : k < s2.length
          · have d2 : decide ((k : Int) < (s2.length : Int)) = true := decide_eq_true (by omega)
            have hCr := Kd.C_below HC2.out hb8
            obtain ⟨adb, Ab, cb, rfl, ⟨b0, b1, b2, b3, b4, b5, b6⟩, lb, gb⟩ := C_elem44 hCr k hb
            have hBb := HB.out.2.2 s2[k] (List.getElem_mem hb)
            generalize s2[k] = ob at *
            have H2 := Lib.hid (HN.out.swap.one_calls ob Ab cb hBb gb lb)
            clear hCr hBb gb lb hb8
            go_wp2_with fail
            refine (H2.out).mono ?_
            rintro e w3 ⟨A7, c7, rfl, hTW⟩
            have HN3 := Lib.hid hTW.swap
            clear hTW
            go_wp2
            go_roundw
            case rel => exact ⟨k + 1, by omega, by go_num, _, _, _, _, _, _, rfl, rfl, HN3⟩
            case measure => simp [intOf]; omega
          · have d2 : decide ((k : Int) < (s2.length : Int)) = false := decide_eq_false (by omega)
            clear hb8
            go_wp2
            go_roundw
            case rel => exact ⟨k + 1, by omega, by go_num, _, _, _, _, _, _, rfl, rfl, HN⟩
            case measure => simp [intOf]; omega
        · have d1 : decide ((k : Int) < (s1.length : Int)) = false := decide_eq_false (by omega)
          by_cases hb : k < s2.length
          · have d2 : decide ((k : Int) < (s2.length : Int)) = true := decide_eq_true (by omega)
            have hCr := Kd.C_below HC2.out hb7
            obtain ⟨adb, Ab, cb, rfl, ⟨b0, b1, b2, b3, b4, b5, b6⟩, lb, gb⟩ := C_elem44 hCr k hb
            have hBb := HB.out.2.2 s2[k] (List.getElem_mem hb)
            generalize s2[k] = ob at *
            have H2 := Lib.hid (HREL.out.swap.one_calls ob Ab cb hBb gb lb)
            clear hCr hBb gb lb hb7
            go_wp2_with fail
            refine (H2.out).mono ?_
            rintro e w3 ⟨A7, c7, rfl, hTW⟩
            have HN3 := Lib.hid hTW.swap
            clear hTW
            go_wp2
            go_roundw
            case rel => exact ⟨k + 1, by omega, by go_num, _, _, _, _, _, _, rfl, rfl, HN3⟩
            case measure => simp [intOf]; omega
          · have d2 : decide ((k : Int) < (s2.length : Int)) = false := decide_eq_false (by omega)
            obtain ⟨T1, R1, T2, R2, ⟨t1, v1, _, gd1⟩, ⟨t2, v2, _, gd2⟩, _, _⟩ := HREL.out
            have H1 := Lib.hid (list_calls g T1 L4 wr t1 gd1.fits)
            have H2 := Lib.hid (fun W (hb : Below wr.heap.size wr W) => list_calls g2 T2 L5 W (Tb_below t2 hb) gd2.fits)
            have HC4 := Lib.hid (fun W (hb : Below wr.heap.size wr W) => (Kd.V_reads' (Kd.V_below v1 hb)).2.2)
            have HC5 := Lib.hid (fun W (hb : Below wr.heap.size wr W) => (Kd.V_reads' (Kd.V_below v2 hb)).2.2)
            have cl4 := (Kd.V_reads' v1).2.1
            have cl5 := (Kd.V_reads' v2).2.1
            have HF4 := Lib.hid gd1.fits
            have HF5 := Lib.hid gd2.fits
            have HE := Lib.hid hb7
            clear t1 v1 gd1 t2 v2 gd2 hb7
            go_wp2_with fail
            refine (H1.out).mono ?_
            rintro e w2 ⟨A', rfl, hN2, hb2⟩
            have HN2 := Lib.hid hN2
            have HB2 := Lib.hid hb2
            clear hN2 hb2
            go_wp2_with fail
            refine (Same_calls L4 HF4.out A' L4.length A4 c4 _ (Kd.NJ_C HN2.out) (Nat.le_refl _) (HC4.out _ HB2.out) cl4).mono ?_
            rintro e w3 ⟨rfl, hb3⟩
            have HB3 := Lib.hid (below_step HB2.out hb3)
            clear hb3
            go_wp2_with fail
            refine (H2.out _ HB3.out).mono ?_
            rintro e w4 ⟨A8, rfl, hN4, hb4⟩
            have HN4 := Lib.hid hN4
            have HB4 := Lib.hid (below_step HB3.out hb4)
            clear hN4 hb4
            go_wp2_with fail
            refine (Same_calls L5 HF5.out A8 L5.length A5 c5 _ (Kd.NJ_C HN4.out) (Nat.le_refl _) (HC5.out _ HB4.out) cl5).mono ?_
            rintro e w5 ⟨rfl, hb5⟩
            have HB5 := Lib.hid (below_step HB4.out hb5)
            clear hb5
            go_wp2
            go_ret
            exact ⟨rfl, Below.trans HBX.out ((Below.trans HE.out (HB5.out.mono HE.out.size)).mono HBX.out.size)⟩
end Go.Proofs.Ytagifiakjniedaa.PTab
end
