-- PRINTED by print.py (a twelfth state) out of the translation. Not trusted: Lean checks it.
import Derived.Test.YtagifiakjniedaaPTabx0
import Derived.Test.YtagifiakjniedaaPTabx5
namespace Go.Proofs.Ytagifiakjniedaa.PTab
open Go.RowKit Go.Proofs.YtagifiakjniedaaW.PrintWords Go.Proofs.YtagifiakjniedaaW.PrintLast Go.Proofs.YtagifiakjniedaaW.PrintMore
attribute [local go_sem] max2_int min2_int max_two min_two max_three min_three max_four min_four   -- for this text's walks alone
set_option linter.unusedVariables false
set_option linter.unusedSimpArgs false

/-! ### sojournref16_Right: function 46 -/
mutual
def sojournref16_Right.j0 : Nat → Bool → ByteArray → ByteArray → ByteArray → Int → Int → Int → List (S71) → Option (Int)
  | 0, _, _, _, _, _, _, _, _ => none
  | k + 1, x19, x127000, x127001, x127002, x127003, x127004, x127005, x127006 => if x19 = true then (some 160) else (if x127003 = 1 then (if x127004 = 0 then (if x127005 = 0 then (if ((x127006.length : Int) = 0) then (some 0) else (some 1)) else (some 1)) else (some 1)) else (if x127003 = 2 then (if x127004 = 0 then ((sojournref16_why.f x127005).bind fun t130 => (if t130 = true then (if ((x127006.length : Int) = 0) then (some 0) else (some 1)) else (some 1))) else (some 1)) else (if x127003 = 3 then (sojournref16_Right.j1 k x127003 (x127003 == 3) x127000 x127001 x127002 x127003 x127004 x127005 x127006) else (sojournref16_Right.j1 k x127003 (x127003 == 5) x127000 x127001 x127002 x127003 x127004 x127005 x127006))))
def sojournref16_Right.j1 : Nat → Int → Bool → ByteArray → ByteArray → ByteArray → Int → Int → Int → List (S71) → Option (Int)
  | 0, _, _, _, _, _, _, _, _, _ => none
  | k + 1, x21, x54, x127000, x127001, x127002, x127003, x127004, x127005, x127006 => if x54 = true then (if x127004 ≥ 0 then (if x127005 = 0 then (if ((x127006.length : Int) ≤ 4) then (some 0) else (some 1)) else (some 1)) else (some 1)) else (if x21 = 4 then (if x127004 ≥ 0 then ((sojournref16_why.f x127005).bind fun t131 => (if t131 = true then (if ((x127006.length : Int) ≤ 4) then (some 0) else (some 1)) else (some 1))) else (some 1)) else (some 163))
end
def sojournref16_Right.f (k : Nat) (a0_0 : ByteArray) (a0_1 : ByteArray) (a0_2 : ByteArray) (a0_3 : Int) (a0_4 : Int) (a0_5 : Int) (l0_6 : List (S71)) : Option (Int) := (sojournref03_Name.f k a0_0).bind fun t127 => (if t127 = true then ((sojournref03_Name.f k a0_1).bind fun t128 => (if t128 = true then ((sojournref03_Name.f k a0_2).bind fun t129 => (sojournref16_Right.j0 k (!t129) a0_0 a0_1 a0_2 a0_3 a0_4 a0_5 l0_6)) else (sojournref16_Right.j0 k true a0_0 a0_1 a0_2 a0_3 a0_4 a0_5 l0_6))) else (sojournref16_Right.j0 k true a0_0 a0_1 a0_2 a0_3 a0_4 a0_5 l0_6))
theorem sojournref16_Right.mono_l : ∀ k, (∀ y0 y1 y2 y3 y4 y5 y6 y7, LeO (sojournref16_Right.j0 k y0 y1 y2 y3 y4 y5 y6 y7) (sojournref16_Right.j0 (k + 1) y0 y1 y2 y3 y4 y5 y6 y7)) ∧ (∀ y0 y1 y2 y3 y4 y5 y6 y7 y8, LeO (sojournref16_Right.j1 k y0 y1 y2 y3 y4 y5 y6 y7 y8) (sojournref16_Right.j1 (k + 1) y0 y1 y2 y3 y4 y5 y6 y7 y8))
  | 0 => ⟨fun _ _ _ _ _ _ _ _ r h => by simp [sojournref16_Right.j0] at h, fun _ _ _ _ _ _ _ _ _ r h => by simp [sojournref16_Right.j1] at h⟩
  | k + 1 => by
    obtain ⟨ih0, ih1⟩ := sojournref16_Right.mono_l k
    refine ⟨?_, ?_⟩
    · intro y0 y1 y2 y3 y4 y5 y6 y7
      unfold sojournref16_Right.j0
      repeat' first
      | (with_reducible exact ih0 _ _ _ _ _ _ _ _)
      | (with_reducible exact ih1 _ _ _ _ _ _ _ _ _)
      | (with_reducible exact sojournref03_Name.mono _ _)
      | (with_reducible exact LeO.refl _)
      | (with_reducible exact LeO.none _)
      | (with_reducible refine LeO.ite ?_ ?_)
      | (with_reducible refine LeO.bind ?_ (fun _ => ?_))
      | exact ih0 _ _ _ _ _ _ _ _
      | exact ih1 _ _ _ _ _ _ _ _ _
      | exact sojournref03_Name.mono _ _
      | exact LeO.none _
      | refine LeO.ite ?_ ?_
      | refine LeO.bind ?_ (fun _ => ?_)
    · intro y0 y1 y2 y3 y4 y5 y6 y7 y8
      unfold sojournref16_Right.j1
      repeat' first
      | (with_reducible exact ih0 _ _ _ _ _ _ _ _)
      | (with_reducible exact ih1 _ _ _ _ _ _ _ _ _)
      | (with_reducible exact sojournref03_Name.mono _ _)
      | (with_reducible exact LeO.refl _)
      | (with_reducible exact LeO.none _)
      | (with_reducible refine LeO.ite ?_ ?_)
      | (with_reducible refine LeO.bind ?_ (fun _ => ?_))
      | exact ih0 _ _ _ _ _ _ _ _
      | exact ih1 _ _ _ _ _ _ _ _ _
      | exact sojournref03_Name.mono _ _
      | exact LeO.none _
      | refine LeO.ite ?_ ?_
      | refine LeO.bind ?_ (fun _ => ?_)
theorem sojournref16_Right.mono : ∀ a0 a1 a2 a3 a4 a5 a6 k, LeO (sojournref16_Right.f k a0 a1 a2 a3 a4 a5 a6) (sojournref16_Right.f (k + 1) a0 a1 a2 a3 a4 a5 a6) := by
  intro a0 a1 a2 a3 a4 a5 a6 k
  obtain ⟨ih0, ih1⟩ := sojournref16_Right.mono_l k
  unfold sojournref16_Right.f
  repeat' first
      | (with_reducible exact ih0 _ _ _ _ _ _ _ _)
      | (with_reducible exact ih1 _ _ _ _ _ _ _ _ _)
      | (with_reducible exact sojournref03_Name.mono _ _)
      | (with_reducible exact LeO.refl _)
      | (with_reducible exact LeO.none _)
      | (with_reducible refine LeO.ite ?_ ?_)
      | (with_reducible refine LeO.bind ?_ (fun _ => ?_))
      | exact ih0 _ _ _ _ _ _ _ _
      | exact ih1 _ _ _ _ _ _ _ _ _
      | exact sojournref03_Name.mono _ _
      | exact LeO.none _
      | refine LeO.ite ?_ ?_
      | refine LeO.bind ?_ (fun _ => ?_)
set_option maxHeartbeats 8000000 in
set_option maxRecDepth 100000 in
theorem sojournref16_Right.calls (k : Nat) (a0_0 : ByteArray) (a0_1 : ByteArray) (a0_2 : ByteArray) (a0_3 : Int) (a0_4 : Int) (a0_5 : Int) (A0_6 : Option Addr) (c0_6 : Nat) (l0_6 : List (S71)) (r : Int) (w : World) (hr0_6 : Kd.C k71 w A0_6 l0_6.length l0_6) (hc0_6 : l0_6.length ≤ c0_6) (h : sojournref16_Right.f k a0_0 a0_1 a0_2 a0_3 a0_4 a0_5 l0_6 = some r) :
    Calls Try.prog 46 #[.agg #[.string a0_0, .string a0_1, .string a0_2, .int .i64 a0_3, .int .i64 a0_4, .int .i64 a0_5, .slice A0_6 l0_6.length c0_6]] w fun e w' => e = .returned (.int .i64 r) ∧ Below w.heap.size w w' := by
  have hu28 := Try.underlying28
  have HR0_6 := Aside0.mk hr0_6
  have HC0_6 := Aside0.mk hc0_6
  clear hr0_6 hc0_6
  have HB := Aside0.mk (Below.refl w.heap.size w)
  have H : ((sojournref03_Name.f k a0_0).bind fun t127 => (if t127 = true then ((sojournref03_Name.f k a0_1).bind fun t128 => (if t128 = true then ((sojournref03_Name.f k a0_2).bind fun t129 => (sojournref16_Right.j0 k (!t129) a0_0 a0_1 a0_2 a0_3 a0_4 a0_5 l0_6)) else (sojournref16_Right.j0 k true a0_0 a0_1 a0_2 a0_3 a0_4 a0_5 l0_6))) else (sojournref16_Right.j0 k true a0_0 a0_1 a0_2 a0_3 a0_4 a0_5 l0_6))) = some r := h
  clear h
  have HC2 := Aside0.mk H
  clear H
  go_enter Try.func46, Try.ntmps46
  go_upto_region 1 with (first | ((with_reducible refine gate_dst (N := 1) rfl ?_); (try (refine gate_guard (by rfl) ?_; dsimp only)); refine box_event ?hg (N := 1) ?hd (cs := #[.string a0_0, .string a0_1, .string a0_2, .int .i64 a0_3, .int .i64 a0_4, .int .i64 a0_5, .slice A0_6 l0_6.length c0_6]) (t := 28) ?hr ?_; (case hd => rfl); (case hg => rfl); (case hr => first | (go_simp; done) | (go_simp; rfl)); intro gb126 hg w3 hbox hb; have n0_ := Aside0.mk (below_step (by repeat (first | (with_reducible first | exact HB.out | apply below_alloc | apply pw_below_drewN | apply below_drew1) | exact HB.out)) hb); have n1_ := Aside0.mk (hbox); have n2_ := Aside0.mk ((by rw [hg]; exact (below_size (by repeat (first | (with_reducible first | exact HB.out | apply below_alloc | apply pw_below_drewN | apply below_drew1) | exact HB.out))) : w.heap.size ≤ gb126)); have n3_ := Aside0.mk ((by rw [hg]; exact (below_size (by repeat (first | (with_reducible first | exact HB.out | apply below_alloc | apply pw_below_drewN | apply below_drew1) | exact HB.out))) : w.heap.size ≤ gb126)); clear HB; have HB := n0_; have BK126 := n1_; have GW126 := n2_; have GE126 := n3_; clear n0_ n1_ n2_ n3_; clear hb hbox hg))
  (try simp only [Act.put, List.setIfInBounds_toArray, List.set_cons_zero, List.set_cons_succ])
  go_cut [19] (fun v19 wc => ∃ (kq : Nat) (x19_1 : Bool), v19 = .bool x19_1 ∧ Aside0 (sojournref16_Right.j0 kq x19_1 a0_0 a0_1 a0_2 a0_3 a0_4 a0_5 l0_6 = some r) ∧ Aside0 (kq ≤ k) ∧ Aside0 (wc.heap[gb126]? = some (.cells #[.string a0_0, .string a0_1, .string a0_2, .int .i64 a0_3, .int .i64 a0_4, .int .i64 a0_5, (.slice A0_6 l0_6.length c0_6)] 28 (0, 0))) ∧ Aside0 (Below w.heap.size w wc))
  case first =>
    have H := HC2.out
    clear HC2
    replace H := Option.bind_eq_some_iff.mp H
    obtain ⟨t127, A40, H⟩ := H
    replace H : (if t127 = true then ((sojournref03_Name.f k a0_1).bind fun t128 => (if t128 = true then ((sojournref03_Name.f k a0_2).bind fun t129 => (sojournref16_Right.j0 k (!t129) a0_0 a0_1 a0_2 a0_3 a0_4 a0_5 l0_6)) else (sojournref16_Right.j0 k true a0_0 a0_1 a0_2 a0_3 a0_4 a0_5 l0_6))) else (sojournref16_Right.j0 k true a0_0 a0_1 a0_2 a0_3 a0_4 a0_5 l0_6)) = some r := H
    have A4 := Aside0.mk A40
    clear A40
    by_cases c5 : t127 = true
    · subst c5
      have H1 : ((sojournref03_Name.f k a0_1).bind fun t128 => (if t128 = true then ((sojournref03_Name.f k a0_2).bind fun t129 => (sojournref16_Right.j0 k (!t129) a0_0 a0_1 a0_2 a0_3 a0_4 a0_5 l0_6)) else (sojournref16_Right.j0 k true a0_0 a0_1 a0_2 a0_3 a0_4 a0_5 l0_6))) = some r := by rw [if_pos rfl] at H; exact H
      clear H
      have H := H1
      clear H1
      replace H := Option.bind_eq_some_iff.mp H
      obtain ⟨t128, A60, H⟩ := H
      replace H : (if t128 = true then ((sojournref03_Name.f k a0_2).bind fun t129 => (sojournref16_Right.j0 k (!t129) a0_0 a0_1 a0_2 a0_3 a0_4 a0_5 l0_6)) else (sojournref16_Right.j0 k true a0_0 a0_1 a0_2 a0_3 a0_4 a0_5 l0_6)) = some r := H
      have A6 := Aside0.mk A60
      clear A60
      by_cases c7 : t128 = true
      · subst c7
        have H1 : ((sojournref03_Name.f k a0_2).bind fun t129 => (sojournref16_Right.j0 k (!t129) a0_0 a0_1 a0_2 a0_3 a0_4 a0_5 l0_6)) = some r := by rw [if_pos rfl] at H; exact H
        clear H
        have H := H1
        clear H1
        replace H := Option.bind_eq_some_iff.mp H
        obtain ⟨t129, A80, H⟩ := H
        replace H : (sojournref16_Right.j0 k (!t129) a0_0 a0_1 a0_2 a0_3 a0_4 a0_5 l0_6) = some r := H
        have A8 := Aside0.mk A80
        clear A80
        have H' := Aside0.mk H
        clear H
        have hcz9_0 : w3.cell? ⟨gb126, 0, none⟩ = some (.string a0_0) := (blk_cell BK126.out 0).trans rfl
        have hcz9_1 : w3.cell? ⟨gb126, 1, none⟩ = some (.string a0_1) := (blk_cell BK126.out 1).trans rfl
        have hcz9_2 : w3.cell? ⟨gb126, 2, none⟩ = some (.string a0_2) := (blk_cell BK126.out 2).trans rfl
        have hcz9_3 : w3.cell? ⟨gb126, 3, none⟩ = some (.int .i64 a0_3) := (blk_cell BK126.out 3).trans rfl
        have hcz9_4 : w3.cell? ⟨gb126, 4, none⟩ = some (.int .i64 a0_4) := (blk_cell BK126.out 4).trans rfl
        have hcz9_5 : w3.cell? ⟨gb126, 5, none⟩ = some (.int .i64 a0_5) := (blk_cell BK126.out 5).trans rfl
        have hcz9_6 : w3.cell? ⟨gb126, 6, none⟩ = some (.slice A0_6 l0_6.length c0_6) := (blk_cell BK126.out 6).trans rfl
        have hfz9_0 := blk_frozen BK126.out 0
        have hfz9_1 := blk_frozen BK126.out 1
        have hfz9_2 := blk_frozen BK126.out 2
        have hfz9_3 := blk_frozen BK126.out 3
        have hfz9_4 := blk_frozen BK126.out 4
        have hfz9_5 := blk_frozen BK126.out 5
        have hfz9_6 := blk_frozen BK126.out 6
        go_wp2_with (first | ((with_reducible refine gate_callee (f := 61) rfl ?_); refine goesL_ (some 6) rfl rfl Try.func61 (by kernel_rfl) rfl #[.string a0_0] rfl (by (try simp only [List.map_toArray, List.map_cons, List.map_nil]); first | done | rfl | (simp only [List.length_drop, List.length_take]; rfl)) ?_; (with_reducible refine (sojournref03_Name.calls k a0_0 true _ A4.out).mono ?_); rintro e w10 ⟨rfl, hb⟩; refine ⟨_, rfl, ?_⟩; have n0_ := Aside0.mk (blk_below (g := gb126) (o := .cells #[.string a0_0, .string a0_1, .string a0_2, .int .i64 a0_3, .int .i64 a0_4, .int .i64 a0_5, .slice A0_6 l0_6.length c0_6] 28 (0, 0)) (by (with_reducible repeat (first | refine blk_drewN ?_ _ | refine blk_drew ?_ | refine blk_alloc ?_ _)); exact BK126.out) hb); have n1_ := Aside0.mk (below_step (by repeat (first | (with_reducible first | exact HB.out | apply below_alloc | apply pw_below_drewN | apply below_drew1 | refine below_set ?_ GE126.out) | exact HB.out)) hb); clear BK126; clear HB; have BK126 := n0_; have HB := n1_; clear n0_ n1_; (try clear hb); (try clear hb2); (try clear hk); (try clear hi); have hcz11_0 : w10.cell? ⟨gb126, 0, none⟩ = some (.string a0_0) := (blk_cell BK126.out 0).trans rfl; have hcz11_1 : w10.cell? ⟨gb126, 1, none⟩ = some (.string a0_1) := (blk_cell BK126.out 1).trans rfl; have hcz11_2 : w10.cell? ⟨gb126, 2, none⟩ = some (.string a0_2) := (blk_cell BK126.out 2).trans rfl; have hcz11_3 : w10.cell? ⟨gb126, 3, none⟩ = some (.int .i64 a0_3) := (blk_cell BK126.out 3).trans rfl; have hcz11_4 : w10.cell? ⟨gb126, 4, none⟩ = some (.int .i64 a0_4) := (blk_cell BK126.out 4).trans rfl; have hcz11_5 : w10.cell? ⟨gb126, 5, none⟩ = some (.int .i64 a0_5) := (blk_cell BK126.out 5).trans rfl; have hcz11_6 : w10.cell? ⟨gb126, 6, none⟩ = some (.slice A0_6 l0_6.length c0_6) := (blk_cell BK126.out 6).trans rfl; have hfz11_0 := blk_frozen BK126.out 0; have hfz11_1 := blk_frozen BK126.out 1; have hfz11_2 := blk_frozen BK126.out 2; have hfz11_3 := blk_frozen BK126.out 3; have hfz11_4 := blk_frozen BK126.out 4; have hfz11_5 := blk_frozen BK126.out 5; have hfz11_6 := blk_frozen BK126.out 6) | (go_at_call 61; (with_reducible refine (sojournref03_Name.calls k a0_1 true _ A6.out).mono ?_); rintro e w12 ⟨rfl, hb⟩; have n0_ := Aside0.mk (blk_below (g := gb126) (o := .cells #[.string a0_0, .string a0_1, .string a0_2, .int .i64 a0_3, .int .i64 a0_4, .int .i64 a0_5, .slice A0_6 l0_6.length c0_6] 28 (0, 0)) (by (with_reducible repeat (first | refine blk_drewN ?_ _ | refine blk_drew ?_ | refine blk_alloc ?_ _)); exact BK126.out) hb); have n1_ := Aside0.mk (below_step (by repeat (first | (with_reducible first | exact HB.out | apply below_alloc | apply pw_below_drewN | apply below_drew1 | refine below_set ?_ GE126.out) | exact HB.out)) hb); clear BK126; clear HB; have BK126 := n0_; have HB := n1_; clear n0_ n1_; (try clear hb); (try clear hb2); (try clear hk); (try clear hi); have hcz13_0 : w12.cell? ⟨gb126, 0, none⟩ = some (.string a0_0) := (blk_cell BK126.out 0).trans rfl; have hcz13_1 : w12.cell? ⟨gb126, 1, none⟩ = some (.string a0_1) := (blk_cell BK126.out 1).trans rfl; have hcz13_2 : w12.cell? ⟨gb126, 2, none⟩ = some (.string a0_2) := (blk_cell BK126.out 2).trans rfl; have hcz13_3 : w12.cell? ⟨gb126, 3, none⟩ = some (.int .i64 a0_3) := (blk_cell BK126.out 3).trans rfl; have hcz13_4 : w12.cell? ⟨gb126, 4, none⟩ = some (.int .i64 a0_4) := (blk_cell BK126.out 4).trans rfl; have hcz13_5 : w12.cell? ⟨gb126, 5, none⟩ = some (.int .i64 a0_5) := (blk_cell BK126.out 5).trans rfl; have hcz13_6 : w12.cell? ⟨gb126, 6, none⟩ = some (.slice A0_6 l0_6.length c0_6) := (blk_cell BK126.out 6).trans rfl; have hfz13_0 := blk_frozen BK126.out 0; have hfz13_1 := blk_frozen BK126.out 1; have hfz13_2 := blk_frozen BK126.out 2; have hfz13_3 := blk_frozen BK126.out 3; have hfz13_4 := blk_frozen BK126.out 4; have hfz13_5 := blk_frozen BK126.out 5; have hfz13_6 := blk_frozen BK126.out 6) | (go_at_call 61; (with_reducible refine (sojournref03_Name.calls k a0_2 t129 _ A8.out).mono ?_); rintro e w14 ⟨rfl, hb⟩; have n0_ := Aside0.mk (blk_below (g := gb126) (o := .cells #[.string a0_0, .string a0_1, .string a0_2, .int .i64 a0_3, .int .i64 a0_4, .int .i64 a0_5, .slice A0_6 l0_6.length c0_6] 28 (0, 0)) (by (with_reducible repeat (first | refine blk_drewN ?_ _ | refine blk_drew ?_ | refine blk_alloc ?_ _)); exact BK126.out) hb); have n1_ := Aside0.mk (below_step (by repeat (first | (with_reducible first | exact HB.out | apply below_alloc | apply pw_below_drewN | apply below_drew1 | refine below_set ?_ GE126.out) | exact HB.out)) hb); clear BK126; clear HB; have BK126 := n0_; have HB := n1_; clear n0_ n1_; (try clear hb); (try clear hb2); (try clear hk); (try clear hi)))
        go_meet
        case rel => exact ⟨_, (!t129), (by first | rfl | (simp; done) | (simp [*]; done)), H', ⟨by first | omega | exact Nat.le_refl _⟩, ⟨by (with_reducible repeat (first | refine blk_drewN ?_ _ | refine blk_drew ?_ | refine blk_alloc ?_ _)); exact BK126.out⟩, ⟨by repeat (first | (with_reducible first | exact HB.out | apply below_alloc | apply pw_below_drewN | apply below_drew1 | refine below_set ?_ GE126.out) | exact HB.out)⟩⟩
      · replace c7 := Bool.eq_false_iff.mpr c7
        subst c7
        have H1 : (sojournref16_Right.j0 k true a0_0 a0_1 a0_2 a0_3 a0_4 a0_5 l0_6) = some r := by rw [if_neg (show ¬ (false = true) by decide)] at H; exact H
        clear H
        have H := H1
        clear H1
        have H' := Aside0.mk H
        clear H
        have hcz15_0 : w3.cell? ⟨gb126, 0, none⟩ = some (.string a0_0) := (blk_cell BK126.out 0).trans rfl
        have hcz15_1 : w3.cell? ⟨gb126, 1, none⟩ = some (.string a0_1) := (blk_cell BK126.out 1).trans rfl
        have hcz15_2 : w3.cell? ⟨gb126, 2, none⟩ = some (.string a0_2) := (blk_cell BK126.out 2).trans rfl
        have hcz15_3 : w3.cell? ⟨gb126, 3, none⟩ = some (.int .i64 a0_3) := (blk_cell BK126.out 3).trans rfl
        have hcz15_4 : w3.cell? ⟨gb126, 4, none⟩ = some (.int .i64 a0_4) := (blk_cell BK126.out 4).trans rfl
        have hcz15_5 : w3.cell? ⟨gb126, 5, none⟩ = some (.int .i64 a0_5) := (blk_cell BK126.out 5).trans rfl
        have hcz15_6 : w3.cell? ⟨gb126, 6, none⟩ = some (.slice A0_6 l0_6.length c0_6) := (blk_cell BK126.out 6).trans rfl
        have hfz15_0 := blk_frozen BK126.out 0
        have hfz15_1 := blk_frozen BK126.out 1
        have hfz15_2 := blk_frozen BK126.out 2
        have hfz15_3 := blk_frozen BK126.out 3
        have hfz15_4 := blk_frozen BK126.out 4
        have hfz15_5 := blk_frozen BK126.out 5
        have hfz15_6 := blk_frozen BK126.out 6
        go_wp2_with (first | ((with_reducible refine gate_callee (f := 61) rfl ?_); refine goesL_ (some 6) rfl rfl Try.func61 (by kernel_rfl) rfl #[.string a0_0] rfl (by (try simp only [List.map_toArray, List.map_cons, List.map_nil]); first | done | rfl | (simp only [List.length_drop, List.length_take]; rfl)) ?_; (with_reducible refine (sojournref03_Name.calls k a0_0 true _ A4.out).mono ?_); rintro e w16 ⟨rfl, hb⟩; refine ⟨_, rfl, ?_⟩; have n0_ := Aside0.mk (blk_below (g := gb126) (o := .cells #[.string a0_0, .string a0_1, .string a0_2, .int .i64 a0_3, .int .i64 a0_4, .int .i64 a0_5, .slice A0_6 l0_6.length c0_6] 28 (0, 0)) (by (with_reducible repeat (first | refine blk_drewN ?_ _ | refine blk_drew ?_ | refine blk_alloc ?_ _)); exact BK126.out) hb); have n1_ := Aside0.mk (below_step (by repeat (first | (with_reducible first | exact HB.out | apply below_alloc | apply pw_below_drewN | apply below_drew1 | refine below_set ?_ GE126.out) | exact HB.out)) hb); clear BK126; clear HB; have BK126 := n0_; have HB := n1_; clear n0_ n1_; (try clear hb); (try clear hb2); (try clear hk); (try clear hi); have hcz17_0 : w16.cell? ⟨gb126, 0, none⟩ = some (.string a0_0) := (blk_cell BK126.out 0).trans rfl; have hcz17_1 : w16.cell? ⟨gb126, 1, none⟩ = some (.string a0_1) := (blk_cell BK126.out 1).trans rfl; have hcz17_2 : w16.cell? ⟨gb126, 2, none⟩ = some (.string a0_2) := (blk_cell BK126.out 2).trans rfl; have hcz17_3 : w16.cell? ⟨gb126, 3, none⟩ = some (.int .i64 a0_3) := (blk_cell BK126.out 3).trans rfl; have hcz17_4 : w16.cell? ⟨gb126, 4, none⟩ = some (.int .i64 a0_4) := (blk_cell BK126.out 4).trans rfl; have hcz17_5 : w16.cell? ⟨gb126, 5, none⟩ = some (.int .i64 a0_5) := (blk_cell BK126.out 5).trans rfl; have hcz17_6 : w16.cell? ⟨gb126, 6, none⟩ = some (.slice A0_6 l0_6.length c0_6) := (blk_cell BK126.out 6).trans rfl; have hfz17_0 := blk_frozen BK126.out 0; have hfz17_1 := blk_frozen BK126.out 1; have hfz17_2 := blk_frozen BK126.out 2; have hfz17_3 := blk_frozen BK126.out 3; have hfz17_4 := blk_frozen BK126.out 4; have hfz17_5 := blk_frozen BK126.out 5; have hfz17_6 := blk_frozen BK126.out 6) | (go_at_call 61; (with_reducible refine (sojournref03_Name.calls k a0_1 false _ A6.out).mono ?_); rintro e w18 ⟨rfl, hb⟩; have n0_ := Aside0.mk (blk_below (g := gb126) (o := .cells #[.string a0_0, .string a0_1, .string a0_2, .int .i64 a0_3, .int .i64 a0_4, .int .i64 a0_5, .slice A0_6 l0_6.length c0_6] 28 (0, 0)) (by (with_reducible repeat (first | refine blk_drewN ?_ _ | refine blk_drew ?_ | refine blk_alloc ?_ _)); exact BK126.out) hb); have n1_ := Aside0.mk (below_step (by repeat (first | (with_reducible first | exact HB.out | apply below_alloc | apply pw_below_drewN | apply below_drew1 | refine below_set ?_ GE126.out) | exact HB.out)) hb); clear BK126; clear HB; have BK126 := n0_; have HB := n1_; clear n0_ n1_; (try clear hb); (try clear hb2); (try clear hk); (try clear hi)))
        go_meet
        case rel => exact ⟨_, (true), (by first | rfl | (simp; done) | (simp [*]; done)), H', ⟨by first | omega | exact Nat.le_refl _⟩, ⟨by (with_reducible repeat (first | refine blk_drewN ?_ _ | refine blk_drew ?_ | refine blk_alloc ?_ _)); exact BK126.out⟩, ⟨by repeat (first | (with_reducible first | exact HB.out | apply below_alloc | apply pw_below_drewN | apply below_drew1 | refine below_set ?_ GE126.out) | exact HB.out)⟩⟩
    · replace c5 := Bool.eq_false_iff.mpr c5
      subst c5
      have H1 : (sojournref16_Right.j0 k true a0_0 a0_1 a0_2 a0_3 a0_4 a0_5 l0_6) = some r := by rw [if_neg (show ¬ (false = true) by decide)] at H; exact H
      clear H
      have H := H1
      clear H1
      have H' := Aside0.mk H
      clear H
      have hcz19_0 : w3.cell? ⟨gb126, 0, none⟩ = some (.string a0_0) := (blk_cell BK126.out 0).trans rfl
      have hcz19_1 : w3.cell? ⟨gb126, 1, none⟩ = some (.string a0_1) := (blk_cell BK126.out 1).trans rfl
      have hcz19_2 : w3.cell? ⟨gb126, 2, none⟩ = some (.string a0_2) := (blk_cell BK126.out 2).trans rfl
      have hcz19_3 : w3.cell? ⟨gb126, 3, none⟩ = some (.int .i64 a0_3) := (blk_cell BK126.out 3).trans rfl
      have hcz19_4 : w3.cell? ⟨gb126, 4, none⟩ = some (.int .i64 a0_4) := (blk_cell BK126.out 4).trans rfl
      have hcz19_5 : w3.cell? ⟨gb126, 5, none⟩ = some (.int .i64 a0_5) := (blk_cell BK126.out 5).trans rfl
      have hcz19_6 : w3.cell? ⟨gb126, 6, none⟩ = some (.slice A0_6 l0_6.length c0_6) := (blk_cell BK126.out 6).trans rfl
      have hfz19_0 := blk_frozen BK126.out 0
      have hfz19_1 := blk_frozen BK126.out 1
      have hfz19_2 := blk_frozen BK126.out 2
      have hfz19_3 := blk_frozen BK126.out 3
      have hfz19_4 := blk_frozen BK126.out 4
      have hfz19_5 := blk_frozen BK126.out 5
      have hfz19_6 := blk_frozen BK126.out 6
      go_wp2_with (first | ((with_reducible refine gate_callee (f := 61) rfl ?_); refine goesL_ (some 6) rfl rfl Try.func61 (by kernel_rfl) rfl #[.string a0_0] rfl (by (try simp only [List.map_toArray, List.map_cons, List.map_nil]); first | done | rfl | (simp only [List.length_drop, List.length_take]; rfl)) ?_; (with_reducible refine (sojournref03_Name.calls k a0_0 false _ A4.out).mono ?_); rintro e w20 ⟨rfl, hb⟩; refine ⟨_, rfl, ?_⟩; have n0_ := Aside0.mk (blk_below (g := gb126) (o := .cells #[.string a0_0, .string a0_1, .string a0_2, .int .i64 a0_3, .int .i64 a0_4, .int .i64 a0_5, .slice A0_6 l0_6.length c0_6] 28 (0, 0)) (by (with_reducible repeat (first | refine blk_drewN ?_ _ | refine blk_drew ?_ | refine blk_alloc ?_ _)); exact BK126.out) hb); have n1_ := Aside0.mk (below_step (by repeat (first | (with_reducible first | exact HB.out | apply below_alloc | apply pw_below_drewN | apply below_drew1 | refine below_set ?_ GE126.out) | exact HB.out)) hb); clear BK126; clear HB; have BK126 := n0_; have HB := n1_; clear n0_ n1_; (try clear hb); (try clear hb2); (try clear hk); (try clear hi)))
      go_meet
      case rel => exact ⟨_, (true), (by first | rfl | (simp; done) | (simp [*]; done)), H', ⟨by first | omega | exact Nat.le_refl _⟩, ⟨by (with_reducible repeat (first | refine blk_drewN ?_ _ | refine blk_drew ?_ | refine blk_alloc ?_ _)); exact BK126.out⟩, ⟨by repeat (first | (with_reducible first | exact HB.out | apply below_alloc | apply pw_below_drewN | apply below_drew1 | refine below_set ?_ GE126.out) | exact HB.out)⟩⟩
  case rest =>
    clear HC2
    try clear p2
    try clear c4
    try clear c5
    try clear c6
    try clear c7
    try clear hcz11_0
    try clear hcz11_1
    try clear hcz11_2
    try clear hcz11_3
    try clear hcz11_4
    try clear hcz11_5
    try clear hcz11_6
    try clear hcz13_0
    try clear hcz13_1
    try clear hcz13_2
    try clear hcz13_3
    try clear hcz13_4
    try clear hcz13_5
    try clear hcz13_6
    try clear hcz15_0
    try clear hcz15_1
    try clear hcz15_2
    try clear hcz15_3
    try clear hcz15_4
    try clear hcz15_5
    try clear hcz15_6
    try clear hcz17_0
    try clear hcz17_1
    try clear hcz17_2
    try clear hcz17_3
    try clear hcz17_4
    try clear hcz17_5
    try clear hcz17_6
    try clear hcz19_0
    try clear hcz19_1
    try clear hcz19_2
    try clear hcz19_3
    try clear hcz19_4
    try clear hcz19_5
    try clear hcz19_6
    try clear hcz9_0
    try clear hcz9_1
    try clear hcz9_2
    try clear hcz9_3
    try clear hcz9_4
    try clear hcz9_5
    try clear hcz9_6
    try clear hfz11_0
    try clear hfz11_1
    try clear hfz11_2
    try clear hfz11_3
    try clear hfz11_4
    try clear hfz11_5
    try clear hfz11_6
    try clear hfz13_0
    try clear hfz13_1
    try clear hfz13_2
    try clear hfz13_3
    try clear hfz13_4
    try clear hfz13_5
    try clear hfz13_6
    try clear hfz15_0
    try clear hfz15_1
    try clear hfz15_2
    try clear hfz15_3
    try clear hfz15_4
    try clear hfz15_5
    try clear hfz15_6
    try clear hfz17_0
    try clear hfz17_1
    try clear hfz17_2
    try clear hfz17_3
    try clear hfz17_4
    try clear hfz17_5
    try clear hfz17_6
    try clear hfz19_0
    try clear hfz19_1
    try clear hfz19_2
    try clear hfz19_3
    try clear hfz19_4
    try clear hfz19_5
    try clear hfz19_6
    try clear hfz9_0
    try clear hfz9_1
    try clear hfz9_2
    try clear hfz9_3
    try clear hfz9_4
    try clear hfz9_5
    try clear hfz9_6
    obtain ⟨kq, x19_1, rfl, HA, HJ1, BK126, HB⟩ := hcut
    cases kq with
    | zero => exact absurd HA.out (by simp [sojournref16_Right.j0])
    | succ kj1 =>
      have H := HA.out
      clear HA
      simp only [sojournref16_Right.j0] at H
      by_cases c21 : x19_1 = true
      · subst c21
        have H1 : (some 160) = some r := by rw [if_pos rfl] at H; exact H
        clear H
        have H := H1
        clear H1
        obtain rfl := Option.some.inj H
        go_wp2
        go_ret
        exact ⟨by first | rfl | (simp [errW_none, errW_some] <;> rfl) | (simp [*, errW_none, errW_some] <;> rfl), by repeat (first | (with_reducible first | exact HB.out | apply below_alloc | apply pw_below_drewN | apply below_drew1 | refine below_set ?_ GE126.out) | exact HB.out)⟩
      · replace c21 := Bool.eq_false_iff.mpr c21
        subst c21
        have H1 : (if a0_3 = 1 then (if a0_4 = 0 then (if a0_5 = 0 then (if ((l0_6.length : Int) = 0) then (some 0) else (some 1)) else (some 1)) else (some 1)) else (if a0_3 = 2 then (if a0_4 = 0 then ((sojournref16_why.f a0_5).bind fun t130 => (if t130 = true then (if ((l0_6.length : Int) = 0) then (some 0) else (some 1)) else (some 1))) else (some 1)) else (if a0_3 = 3 then (sojournref16_Right.j1 kj1 a0_3 (a0_3 == 3) a0_0 a0_1 a0_2 a0_3 a0_4 a0_5 l0_6) else (sojournref16_Right.j1 kj1 a0_3 (a0_3 == 5) a0_0 a0_1 a0_2 a0_3 a0_4 a0_5 l0_6)))) = some r := by rw [if_neg (show ¬ (false = true) by decide)] at H; exact H
        clear H
        have H := H1
        clear H1
        by_cases c22 : a0_3 = 1
        · rw [if_pos c22] at H
          have c22b0 : (a0_3 == 1) = true := beq_iff_eq.mpr c22
          have c22b1 : (a0_3 != 1) = false := bne_eq_false_iff_eq.mpr c22
          clear c22
          by_cases c23 : a0_4 = 0
          · rw [if_pos c23] at H
            have c23b0 : (a0_4 == 0) = true := beq_iff_eq.mpr c23
            have c23b1 : (a0_4 != 0) = false := bne_eq_false_iff_eq.mpr c23
            clear c23
            by_cases c24 : a0_5 = 0
            · rw [if_pos c24] at H
              have c24b0 : (a0_5 == 0) = true := beq_iff_eq.mpr c24
              have c24b1 : (a0_5 != 0) = false := bne_eq_false_iff_eq.mpr c24
              clear c24
              by_cases c25 : ((l0_6.length : Int) = 0)
              · rw [if_pos c25] at H
                have c25b0 : ((l0_6.length : Int) == 0) = true := beq_iff_eq.mpr c25
                have c25b1 : ((l0_6.length : Int) != 0) = false := bne_eq_false_iff_eq.mpr c25
                clear c25
                obtain rfl := Option.some.inj H
                have hcz26_0 : wc.cell? ⟨gb126, 0, none⟩ = some (.string a0_0) := (blk_cell BK126.out 0).trans rfl
                have hcz26_1 : wc.cell? ⟨gb126, 1, none⟩ = some (.string a0_1) := (blk_cell BK126.out 1).trans rfl
                have hcz26_2 : wc.cell? ⟨gb126, 2, none⟩ = some (.string a0_2) := (blk_cell BK126.out 2).trans rfl
                have hcz26_3 : wc.cell? ⟨gb126, 3, none⟩ = some (.int .i64 a0_3) := (blk_cell BK126.out 3).trans rfl
                have hcz26_4 : wc.cell? ⟨gb126, 4, none⟩ = some (.int .i64 a0_4) := (blk_cell BK126.out 4).trans rfl
                have hcz26_5 : wc.cell? ⟨gb126, 5, none⟩ = some (.int .i64 a0_5) := (blk_cell BK126.out 5).trans rfl
                have hcz26_6 : wc.cell? ⟨gb126, 6, none⟩ = some (.slice A0_6 l0_6.length c0_6) := (blk_cell BK126.out 6).trans rfl
                have hfz26_0 := blk_frozen BK126.out 0
                have hfz26_1 := blk_frozen BK126.out 1
                have hfz26_2 := blk_frozen BK126.out 2
                have hfz26_3 := blk_frozen BK126.out 3
                have hfz26_4 := blk_frozen BK126.out 4
                have hfz26_5 := blk_frozen BK126.out 5
                have hfz26_6 := blk_frozen BK126.out 6
                go_wp2
                go_ret
                exact ⟨by first | rfl | (simp [errW_none, errW_some] <;> rfl) | (simp [*, errW_none, errW_some] <;> rfl), by repeat (first | (with_reducible first | exact HB.out | apply below_alloc | apply pw_below_drewN | apply below_drew1 | refine below_set ?_ GE126.out) | exact HB.out)⟩
              · rw [if_neg c25] at H
                have c25b0 : ((l0_6.length : Int) == 0) = false := beq_eq_false_iff_ne.mpr c25
                have c25b1 : ((l0_6.length : Int) != 0) = true := bne_iff_ne.mpr c25
                have c25b2 : ¬ (l0_6 = []) := fun h_ => c25 (by rw [h_]; rfl)
                obtain rfl := Option.some.inj H
                have hcz27_0 : wc.cell? ⟨gb126, 0, none⟩ = some (.string a0_0) := (blk_cell BK126.out 0).trans rfl
                have hcz27_1 : wc.cell? ⟨gb126, 1, none⟩ = some (.string a0_1) := (blk_cell BK126.out 1).trans rfl
                have hcz27_2 : wc.cell? ⟨gb126, 2, none⟩ = some (.string a0_2) := (blk_cell BK126.out 2).trans rfl
                have hcz27_3 : wc.cell? ⟨gb126, 3, none⟩ = some (.int .i64 a0_3) := (blk_cell BK126.out 3).trans rfl
                have hcz27_4 : wc.cell? ⟨gb126, 4, none⟩ = some (.int .i64 a0_4) := (blk_cell BK126.out 4).trans rfl
                have hcz27_5 : wc.cell? ⟨gb126, 5, none⟩ = some (.int .i64 a0_5) := (blk_cell BK126.out 5).trans rfl
                have hcz27_6 : wc.cell? ⟨gb126, 6, none⟩ = some (.slice A0_6 l0_6.length c0_6) := (blk_cell BK126.out 6).trans rfl
                have hfz27_0 := blk_frozen BK126.out 0
                have hfz27_1 := blk_frozen BK126.out 1
                have hfz27_2 := blk_frozen BK126.out 2
                have hfz27_3 := blk_frozen BK126.out 3
                have hfz27_4 := blk_frozen BK126.out 4
                have hfz27_5 := blk_frozen BK126.out 5
                have hfz27_6 := blk_frozen BK126.out 6
                go_wp2
                go_ret
                exact ⟨by first | rfl | (simp [errW_none, errW_some] <;> rfl) | (simp [*, errW_none, errW_some] <;> rfl), by repeat (first | (with_reducible first | exact HB.out | apply below_alloc | apply pw_below_drewN | apply below_drew1 | refine below_set ?_ GE126.out) | exact HB.out)⟩
            · rw [if_neg c24] at H
              have c24b0 : (a0_5 == 0) = false := beq_eq_false_iff_ne.mpr c24
              have c24b1 : (a0_5 != 0) = true := bne_iff_ne.mpr c24
              obtain rfl := Option.some.inj H
              have hcz28_0 : wc.cell? ⟨gb126, 0, none⟩ = some (.string a0_0) := (blk_cell BK126.out 0).trans rfl
              have hcz28_1 : wc.cell? ⟨gb126, 1, none⟩ = some (.string a0_1) := (blk_cell BK126.out 1).trans rfl
              have hcz28_2 : wc.cell? ⟨gb126, 2, none⟩ = some (.string a0_2) := (blk_cell BK126.out 2).trans rfl
              have hcz28_3 : wc.cell? ⟨gb126, 3, none⟩ = some (.int .i64 a0_3) := (blk_cell BK126.out 3).trans rfl
              have hcz28_4 : wc.cell? ⟨gb126, 4, none⟩ = some (.int .i64 a0_4) := (blk_cell BK126.out 4).trans rfl
              have hcz28_5 : wc.cell? ⟨gb126, 5, none⟩ = some (.int .i64 a0_5) := (blk_cell BK126.out 5).trans rfl
              have hcz28_6 : wc.cell? ⟨gb126, 6, none⟩ = some (.slice A0_6 l0_6.length c0_6) := (blk_cell BK126.out 6).trans rfl
              have hfz28_0 := blk_frozen BK126.out 0
              have hfz28_1 := blk_frozen BK126.out 1
              have hfz28_2 := blk_frozen BK126.out 2
              have hfz28_3 := blk_frozen BK126.out 3
              have hfz28_4 := blk_frozen BK126.out 4
              have hfz28_5 := blk_frozen BK126.out 5
              have hfz28_6 := blk_frozen BK126.out 6
              go_wp2
              go_ret
              exact ⟨by first | rfl | (simp [errW_none, errW_some] <;> rfl) | (simp [*, errW_none, errW_some] <;> rfl), by repeat (first | (with_reducible first | exact HB.out | apply below_alloc | apply pw_below_drewN | apply below_drew1 | refine below_set ?_ GE126.out) | exact HB.out)⟩
          · rw [if_neg c23] at H
            have c23b0 : (a0_4 == 0) = false := beq_eq_false_iff_ne.mpr c23
            have c23b1 : (a0_4 != 0) = true := bne_iff_ne.mpr c23
            obtain rfl := Option.some.inj H
            have hcz29_0 : wc.cell? ⟨gb126, 0, none⟩ = some (.string a0_0) := (blk_cell BK126.out 0).trans rfl
            have hcz29_1 : wc.cell? ⟨gb126, 1, none⟩ = some (.string a0_1) := (blk_cell BK126.out 1).trans rfl
            have hcz29_2 : wc.cell? ⟨gb126, 2, none⟩ = some (.string a0_2) := (blk_cell BK126.out 2).trans rfl
            have hcz29_3 : wc.cell? ⟨gb126, 3, none⟩ = some (.int .i64 a0_3) := (blk_cell BK126.out 3).trans rfl
            have hcz29_4 : wc.cell? ⟨gb126, 4, none⟩ = some (.int .i64 a0_4) := (blk_cell BK126.out 4).trans rfl
            have hcz29_5 : wc.cell? ⟨gb126, 5, none⟩ = some (.int .i64 a0_5) := (blk_cell BK126.out 5).trans rfl
            have hcz29_6 : wc.cell? ⟨gb126, 6, none⟩ = some (.slice A0_6 l0_6.length c0_6) := (blk_cell BK126.out 6).trans rfl
            have hfz29_0 := blk_frozen BK126.out 0
            have hfz29_1 := blk_frozen BK126.out 1
            have hfz29_2 := blk_frozen BK126.out 2
            have hfz29_3 := blk_frozen BK126.out 3
            have hfz29_4 := blk_frozen BK126.out 4
            have hfz29_5 := blk_frozen BK126.out 5
            have hfz29_6 := blk_frozen BK126.out 6
            go_wp2
            go_ret
            exact ⟨by first | rfl | (simp [errW_none, errW_some] <;> rfl) | (simp [*, errW_none, errW_some] <;> rfl), by repeat (first | (with_reducible first | exact HB.out | apply below_alloc | apply pw_below_drewN | apply below_drew1 | refine below_set ?_ GE126.out) | exact HB.out)⟩
        · rw [if_neg c22] at H
          have c22b0 : (a0_3 == 1) = false := beq_eq_false_iff_ne.mpr c22
          have c22b1 : (a0_3 != 1) = true := bne_iff_ne.mpr c22
          by_cases c30 : a0_3 = 2
          · rw [if_pos c30] at H
            have c30b0 : (a0_3 == 2) = true := beq_iff_eq.mpr c30
            have c30b1 : (a0_3 != 2) = false := bne_eq_false_iff_eq.mpr c30
            clear c30
            by_cases c31 : a0_4 = 0
            · rw [if_pos c31] at H
              have c31b0 : (a0_4 == 0) = true := beq_iff_eq.mpr c31
              have c31b1 : (a0_4 != 0) = false := bne_eq_false_iff_eq.mpr c31
              clear c31
              replace H := Option.bind_eq_some_iff.mp H
              obtain ⟨t130, A320, H⟩ := H
              replace H : (if t130 = true then (if ((l0_6.length : Int) = 0) then (some 0) else (some 1)) else (some 1)) = some r := H
              have A32 := Aside0.mk A320
              clear A320
              by_cases c33 : t130 = true
              · subst c33
                have H1 : (if ((l0_6.length : Int) = 0) then (some 0) else (some 1)) = some r := by rw [if_pos rfl] at H; exact H
                clear H
                have H := H1
                clear H1
                by_cases c34 : ((l0_6.length : Int) = 0)
                · rw [if_pos c34] at H
                  have c34b0 : ((l0_6.length : Int) == 0) = true := beq_iff_eq.mpr c34
                  have c34b1 : ((l0_6.length : Int) != 0) = false := bne_eq_false_iff_eq.mpr c34
                  clear c34
                  obtain rfl := Option.some.inj H
                  have hcz35_0 : wc.cell? ⟨gb126, 0, none⟩ = some (.string a0_0) := (blk_cell BK126.out 0).trans rfl
                  have hcz35_1 : wc.cell? ⟨gb126, 1, none⟩ = some (.string a0_1) := (blk_cell BK126.out 1).trans rfl
                  have hcz35_2 : wc.cell? ⟨gb126, 2, none⟩ = some (.string a0_2) := (blk_cell BK126.out 2).trans rfl
                  have hcz35_3 : wc.cell? ⟨gb126, 3, none⟩ = some (.int .i64 a0_3) := (blk_cell BK126.out 3).trans rfl
                  have hcz35_4 : wc.cell? ⟨gb126, 4, none⟩ = some (.int .i64 a0_4) := (blk_cell BK126.out 4).trans rfl
                  have hcz35_5 : wc.cell? ⟨gb126, 5, none⟩ = some (.int .i64 a0_5) := (blk_cell BK126.out 5).trans rfl
                  have hcz35_6 : wc.cell? ⟨gb126, 6, none⟩ = some (.slice A0_6 l0_6.length c0_6) := (blk_cell BK126.out 6).trans rfl
                  have hfz35_0 := blk_frozen BK126.out 0
                  have hfz35_1 := blk_frozen BK126.out 1
                  have hfz35_2 := blk_frozen BK126.out 2
                  have hfz35_3 := blk_frozen BK126.out 3
                  have hfz35_4 := blk_frozen BK126.out 4
                  have hfz35_5 := blk_frozen BK126.out 5
                  have hfz35_6 := blk_frozen BK126.out 6
                  go_wp2_with (first | (go_at_call 62; (with_reducible refine (sojournref16_why.calls a0_5 true _ A32.out).mono ?_); rintro e w' ⟨rfl, ⟨nd, rfl⟩⟩))
                  go_ret
                  exact ⟨by first | rfl | (simp [errW_none, errW_some] <;> rfl) | (simp [*, errW_none, errW_some] <;> rfl), by repeat (first | (with_reducible first | exact HB.out | apply below_alloc | apply pw_below_drewN | apply below_drew1 | refine below_set ?_ GE126.out) | exact HB.out)⟩
                · rw [if_neg c34] at H
                  have c34b0 : ((l0_6.length : Int) == 0) = false := beq_eq_false_iff_ne.mpr c34
                  have c34b1 : ((l0_6.length : Int) != 0) = true := bne_iff_ne.mpr c34
                  have c34b2 : ¬ (l0_6 = []) := fun h_ => c34 (by rw [h_]; rfl)
                  obtain rfl := Option.some.inj H
                  have hcz36_0 : wc.cell? ⟨gb126, 0, none⟩ = some (.string a0_0) := (blk_cell BK126.out 0).trans rfl
                  have hcz36_1 : wc.cell? ⟨gb126, 1, none⟩ = some (.string a0_1) := (blk_cell BK126.out 1).trans rfl
                  have hcz36_2 : wc.cell? ⟨gb126, 2, none⟩ = some (.string a0_2) := (blk_cell BK126.out 2).trans rfl
                  have hcz36_3 : wc.cell? ⟨gb126, 3, none⟩ = some (.int .i64 a0_3) := (blk_cell BK126.out 3).trans rfl
                  have hcz36_4 : wc.cell? ⟨gb126, 4, none⟩ = some (.int .i64 a0_4) := (blk_cell BK126.out 4).trans rfl
                  have hcz36_5 : wc.cell? ⟨gb126, 5, none⟩ = some (.int .i64 a0_5) := (blk_cell BK126.out 5).trans rfl
                  have hcz36_6 : wc.cell? ⟨gb126, 6, none⟩ = some (.slice A0_6 l0_6.length c0_6) := (blk_cell BK126.out 6).trans rfl
                  have hfz36_0 := blk_frozen BK126.out 0
                  have hfz36_1 := blk_frozen BK126.out 1
                  have hfz36_2 := blk_frozen BK126.out 2
                  have hfz36_3 := blk_frozen BK126.out 3
                  have hfz36_4 := blk_frozen BK126.out 4
                  have hfz36_5 := blk_frozen BK126.out 5
                  have hfz36_6 := blk_frozen BK126.out 6
                  go_wp2_with (first | (go_at_call 62; (with_reducible refine (sojournref16_why.calls a0_5 true _ A32.out).mono ?_); rintro e w' ⟨rfl, ⟨nd, rfl⟩⟩))
                  go_ret
                  exact ⟨by first | rfl | (simp [errW_none, errW_some] <;> rfl) | (simp [*, errW_none, errW_some] <;> rfl), by repeat (first | (with_reducible first | exact HB.out | apply below_alloc | apply pw_below_drewN | apply below_drew1 | refine below_set ?_ GE126.out) | exact HB.out)⟩
              · replace c33 := Bool.eq_false_iff.mpr c33
                subst c33
                have H1 : (some 1) = some r := by rw [if_neg (show ¬ (false = true) by decide)] at H; exact H
                clear H
                have H := H1
                clear H1
                obtain rfl := Option.some.inj H
                have hcz37_0 : wc.cell? ⟨gb126, 0, none⟩ = some (.string a0_0) := (blk_cell BK126.out 0).trans rfl
                have hcz37_1 : wc.cell? ⟨gb126, 1, none⟩ = some (.string a0_1) := (blk_cell BK126.out 1).trans rfl
                have hcz37_2 : wc.cell? ⟨gb126, 2, none⟩ = some (.string a0_2) := (blk_cell BK126.out 2).trans rfl
                have hcz37_3 : wc.cell? ⟨gb126, 3, none⟩ = some (.int .i64 a0_3) := (blk_cell BK126.out 3).trans rfl
                have hcz37_4 : wc.cell? ⟨gb126, 4, none⟩ = some (.int .i64 a0_4) := (blk_cell BK126.out 4).trans rfl
                have hcz37_5 : wc.cell? ⟨gb126, 5, none⟩ = some (.int .i64 a0_5) := (blk_cell BK126.out 5).trans rfl
                have hcz37_6 : wc.cell? ⟨gb126, 6, none⟩ = some (.slice A0_6 l0_6.length c0_6) := (blk_cell BK126.out 6).trans rfl
                have hfz37_0 := blk_frozen BK126.out 0
                have hfz37_1 := blk_frozen BK126.out 1
                have hfz37_2 := blk_frozen BK126.out 2
                have hfz37_3 := blk_frozen BK126.out 3
                have hfz37_4 := blk_frozen BK126.out 4
                have hfz37_5 := blk_frozen BK126.out 5
                have hfz37_6 := blk_frozen BK126.out 6
                go_wp2_with (first | (go_at_call 62; (with_reducible refine (sojournref16_why.calls a0_5 false _ A32.out).mono ?_); rintro e w' ⟨rfl, ⟨nd, rfl⟩⟩))
                go_ret
                exact ⟨by first | rfl | (simp [errW_none, errW_some] <;> rfl) | (simp [*, errW_none, errW_some] <;> rfl), by repeat (first | (with_reducible first | exact HB.out | apply below_alloc | apply pw_below_drewN | apply below_drew1 | refine below_set ?_ GE126.out) | exact HB.out)⟩
            · rw [if_neg c31] at H
              have c31b0 : (a0_4 == 0) = false := beq_eq_false_iff_ne.mpr c31
              have c31b1 : (a0_4 != 0) = true := bne_iff_ne.mpr c31
              obtain rfl := Option.some.inj H
              have hcz38_0 : wc.cell? ⟨gb126, 0, none⟩ = some (.string a0_0) := (blk_cell BK126.out 0).trans rfl
              have hcz38_1 : wc.cell? ⟨gb126, 1, none⟩ = some (.string a0_1) := (blk_cell BK126.out 1).trans rfl
              have hcz38_2 : wc.cell? ⟨gb126, 2, none⟩ = some (.string a0_2) := (blk_cell BK126.out 2).trans rfl
              have hcz38_3 : wc.cell? ⟨gb126, 3, none⟩ = some (.int .i64 a0_3) := (blk_cell BK126.out 3).trans rfl
              have hcz38_4 : wc.cell? ⟨gb126, 4, none⟩ = some (.int .i64 a0_4) := (blk_cell BK126.out 4).trans rfl
              have hcz38_5 : wc.cell? ⟨gb126, 5, none⟩ = some (.int .i64 a0_5) := (blk_cell BK126.out 5).trans rfl
              have hcz38_6 : wc.cell? ⟨gb126, 6, none⟩ = some (.slice A0_6 l0_6.length c0_6) := (blk_cell BK126.out 6).trans rfl
              have hfz38_0 := blk_frozen BK126.out 0
              have hfz38_1 := blk_frozen BK126.out 1
              have hfz38_2 := blk_frozen BK126.out 2
              have hfz38_3 := blk_frozen BK126.out 3
              have hfz38_4 := blk_frozen BK126.out 4
              have hfz38_5 := blk_frozen BK126.out 5
              have hfz38_6 := blk_frozen BK126.out 6
              go_wp2
              go_ret
              exact ⟨by first | rfl | (simp [errW_none, errW_some] <;> rfl) | (simp [*, errW_none, errW_some] <;> rfl), by repeat (first | (with_reducible first | exact HB.out | apply below_alloc | apply pw_below_drewN | apply below_drew1 | refine below_set ?_ GE126.out) | exact HB.out)⟩
          · rw [if_neg c30] at H
            have c30b0 : (a0_3 == 2) = false := beq_eq_false_iff_ne.mpr c30
            have c30b1 : (a0_3 != 2) = true := bne_iff_ne.mpr c30
            have HC39 := Aside0.mk H
            clear H
            have hcz40_0 : wc.cell? ⟨gb126, 0, none⟩ = some (.string a0_0) := (blk_cell BK126.out 0).trans rfl
            have hcz40_1 : wc.cell? ⟨gb126, 1, none⟩ = some (.string a0_1) := (blk_cell BK126.out 1).trans rfl
            have hcz40_2 : wc.cell? ⟨gb126, 2, none⟩ = some (.string a0_2) := (blk_cell BK126.out 2).trans rfl
            have hcz40_3 : wc.cell? ⟨gb126, 3, none⟩ = some (.int .i64 a0_3) := (blk_cell BK126.out 3).trans rfl
            have hcz40_4 : wc.cell? ⟨gb126, 4, none⟩ = some (.int .i64 a0_4) := (blk_cell BK126.out 4).trans rfl
            have hcz40_5 : wc.cell? ⟨gb126, 5, none⟩ = some (.int .i64 a0_5) := (blk_cell BK126.out 5).trans rfl
            have hcz40_6 : wc.cell? ⟨gb126, 6, none⟩ = some (.slice A0_6 l0_6.length c0_6) := (blk_cell BK126.out 6).trans rfl
            have hfz40_0 := blk_frozen BK126.out 0
            have hfz40_1 := blk_frozen BK126.out 1
            have hfz40_2 := blk_frozen BK126.out 2
            have hfz40_3 := blk_frozen BK126.out 3
            have hfz40_4 := blk_frozen BK126.out 4
            have hfz40_5 := blk_frozen BK126.out 5
            have hfz40_6 := blk_frozen BK126.out 6
            go_upto_if 54 with (fail)
            go_cut [54] (fun v54 wc => ∃ (kq : Nat) (x54_38 : Bool), v54 = .bool x54_38 ∧ Aside0 (sojournref16_Right.j1 kq a0_3 x54_38 a0_0 a0_1 a0_2 a0_3 a0_4 a0_5 l0_6 = some r) ∧ Aside0 (kq ≤ kj1) ∧ Aside0 (wc.heap[gb126]? = some (.cells #[.string a0_0, .string a0_1, .string a0_2, .int .i64 a0_3, .int .i64 a0_4, .int .i64 a0_5, (.slice A0_6 l0_6.length c0_6)] 28 (0, 0))) ∧ Aside0 (Below w.heap.size w wc))
            case first =>
              have H := HC39.out
              clear HC39
              by_cases c41 : a0_3 = 3
              · rw [if_pos c41] at H
                have c41b0 : (a0_3 == 3) = true := beq_iff_eq.mpr c41
                have c41b1 : (a0_3 != 3) = false := bne_eq_false_iff_eq.mpr c41
                clear c41
                (first | rw [c41b0] | (simp only [i64_w, i32_w]; rw [c41b0]) | skip)
                have H' := Aside0.mk H
                clear H
                go_wp2
                go_meet
                case rel => exact ⟨_, ((a0_3 == 3)), (by first | rfl | (simp; done) | (simp [*]; done)), H', ⟨by have := HJ1.out; first | omega | exact Nat.le_refl _⟩, ⟨by (with_reducible repeat (first | refine blk_drewN ?_ _ | refine blk_drew ?_ | refine blk_alloc ?_ _)); exact BK126.out⟩, ⟨by repeat (first | (with_reducible first | exact HB.out | apply below_alloc | apply pw_below_drewN | apply below_drew1 | refine below_set ?_ GE126.out) | exact HB.out)⟩⟩
              · rw [if_neg c41] at H
                have c41b0 : (a0_3 == 3) = false := beq_eq_false_iff_ne.mpr c41
                have c41b1 : (a0_3 != 3) = true := bne_iff_ne.mpr c41
                (first | rw [c41b0] | (simp only [i64_w, i32_w]; rw [c41b0]) | skip)
                have H' := Aside0.mk H
                clear H
                go_wp2
                go_meet
                case rel => exact ⟨_, ((a0_3 == 5)), (by first | rfl | (simp; done) | (simp [*]; done)), H', ⟨by have := HJ1.out; first | omega | exact Nat.le_refl _⟩, ⟨by (with_reducible repeat (first | refine blk_drewN ?_ _ | refine blk_drew ?_ | refine blk_alloc ?_ _)); exact BK126.out⟩, ⟨by repeat (first | (with_reducible first | exact HB.out | apply below_alloc | apply pw_below_drewN | apply below_drew1 | refine below_set ?_ GE126.out) | exact HB.out)⟩⟩
            case rest =>
              clear HC39
              try clear c2
              try clear p2
              try clear c3
              try clear c4
              try clear c5
              try clear c6
              try clear c7
              try clear c21
              try clear c22
              try clear c22b0
              try clear c22b1
              try clear c23
              try clear c23b0
              try clear c23b1
              try clear c24
              try clear c24b0
              try clear c24b1
              try clear c25
              try clear c25b0
              try clear c25b1
              try clear c25b2
              try clear c30
              try clear c30b0
              try clear c30b1
              try clear c31
              try clear c31b0
              try clear c31b1
              try clear c33
              try clear c34
              try clear c34b0
              try clear c34b1
              try clear c34b2
              try clear c41
              try clear c41b0
              try clear c41b1
              try clear hcz11_0
              try clear hcz11_1
              try clear hcz11_2
              try clear hcz11_3
              try clear hcz11_4
              try clear hcz11_5
              try clear hcz11_6
              try clear hcz13_0
              try clear hcz13_1
              try clear hcz13_2
              try clear hcz13_3
              try clear hcz13_4
              try clear hcz13_5
              try clear hcz13_6
              try clear hcz15_0
              try clear hcz15_1
              try clear hcz15_2
              try clear hcz15_3
              try clear hcz15_4
              try clear hcz15_5
              try clear hcz15_6
              try clear hcz17_0
              try clear hcz17_1
              try clear hcz17_2
              try clear hcz17_3
              try clear hcz17_4
              try clear hcz17_5
              try clear hcz17_6
              try clear hcz19_0
              try clear hcz19_1
              try clear hcz19_2
              try clear hcz19_3
              try clear hcz19_4
              try clear hcz19_5
              try clear hcz19_6
              try clear hcz26_0
              try clear hcz26_1
              try clear hcz26_2
              try clear hcz26_3
              try clear hcz26_4
              try clear hcz26_5
              try clear hcz26_6
              try clear hcz27_0
              try clear hcz27_1
              try clear hcz27_2
              try clear hcz27_3
              try clear hcz27_4
              try clear hcz27_5
              try clear hcz27_6
              try clear hcz28_0
              try clear hcz28_1
              try clear hcz28_2
              try clear hcz28_3
              try clear hcz28_4
              try clear hcz28_5
              try clear hcz28_6
              try clear hcz29_0
              try clear hcz29_1
              try clear hcz29_2
              try clear hcz29_3
              try clear hcz29_4
              try clear hcz29_5
              try clear hcz29_6
              try clear hcz35_0
              try clear hcz35_1
              try clear hcz35_2
              try clear hcz35_3
              try clear hcz35_4
              try clear hcz35_5
              try clear hcz35_6
              try clear hcz36_0
              try clear hcz36_1
              try clear hcz36_2
              try clear hcz36_3
              try clear hcz36_4
              try clear hcz36_5
              try clear hcz36_6
              try clear hcz37_0
              try clear hcz37_1
              try clear hcz37_2
              try clear hcz37_3
              try clear hcz37_4
              try clear hcz37_5
              try clear hcz37_6
              try clear hcz38_0
              try clear hcz38_1
              try clear hcz38_2
              try clear hcz38_3
              try clear hcz38_4
              try clear hcz38_5
              try clear hcz38_6
              try clear hcz40_0
              try clear hcz40_1
              try clear hcz40_2
              try clear hcz40_3
              try clear hcz40_4
              try clear hcz40_5
              try clear hcz40_6
              try clear hcz9_0
              try clear hcz9_1
              try clear hcz9_2
              try clear hcz9_3
              try clear hcz9_4
              try clear hcz9_5
              try clear hcz9_6
              try clear hfz11_0
              try clear hfz11_1
              try clear hfz11_2
              try clear hfz11_3
              try clear hfz11_4
              try clear hfz11_5
              try clear hfz11_6
              try clear hfz13_0
              try clear hfz13_1
              try clear hfz13_2
              try clear hfz13_3
              try clear hfz13_4
              try clear hfz13_5
              try clear hfz13_6
              try clear hfz15_0
              try clear hfz15_1
              try clear hfz15_2
              try clear hfz15_3
              try clear hfz15_4
              try clear hfz15_5
              try clear hfz15_6
              try clear hfz17_0
              try clear hfz17_1
              try clear hfz17_2
              try clear hfz17_3
              try clear hfz17_4
              try clear hfz17_5
              try clear hfz17_6
              try clear hfz19_0
              try clear hfz19_1
              try clear hfz19_2
              try clear hfz19_3
              try clear hfz19_4
              try clear hfz19_5
              try clear hfz19_6
              try clear hfz26_0
              try clear hfz26_1
              try clear hfz26_2
              try clear hfz26_3
              try clear hfz26_4
              try clear hfz26_5
              try clear hfz26_6
              try clear hfz27_0
              try clear hfz27_1
              try clear hfz27_2
              try clear hfz27_3
              try clear hfz27_4
              try clear hfz27_5
              try clear hfz27_6
              try clear hfz28_0
              try clear hfz28_1
              try clear hfz28_2
              try clear hfz28_3
              try clear hfz28_4
              try clear hfz28_5
              try clear hfz28_6
              try clear hfz29_0
              try clear hfz29_1
              try clear hfz29_2
              try clear hfz29_3
              try clear hfz29_4
              try clear hfz29_5
              try clear hfz29_6
              try clear hfz35_0
              try clear hfz35_1
              try clear hfz35_2
              try clear hfz35_3
              try clear hfz35_4
              try clear hfz35_5
              try clear hfz35_6
              try clear hfz36_0
              try clear hfz36_1
              try clear hfz36_2
              try clear hfz36_3
              try clear hfz36_4
              try clear hfz36_5
              try clear hfz36_6
              try clear hfz37_0
              try clear hfz37_1
              try clear hfz37_2
              try clear hfz37_3
              try clear hfz37_4
              try clear hfz37_5
              try clear hfz37_6
              try clear hfz38_0
              try clear hfz38_1
              try clear hfz38_2
              try clear hfz38_3
              try clear hfz38_4
              try clear hfz38_5
              try clear hfz38_6
              try clear hfz40_0
              try clear hfz40_1
              try clear hfz40_2
              try clear hfz40_3
              try clear hfz40_4
              try clear hfz40_5
              try clear hfz40_6
              try clear hfz9_0
              try clear hfz9_1
              try clear hfz9_2
              try clear hfz9_3
              try clear hfz9_4
              try clear hfz9_5
              try clear hfz9_6
              try clear p2
              obtain ⟨kq, x54_38, rfl, HA, HJ38, BK126, HB⟩ := hcut
              cases kq with
              | zero => exact absurd HA.out (by simp [sojournref16_Right.j1])
              | succ kj38 =>
                have H := HA.out
                clear HA
                simp only [sojournref16_Right.j1] at H
                by_cases c42 : x54_38 = true
                · subst c42
                  have H1 : (if a0_4 ≥ 0 then (if a0_5 = 0 then (if ((l0_6.length : Int) ≤ 4) then (some 0) else (some 1)) else (some 1)) else (some 1)) = some r := by rw [if_pos rfl] at H; exact H
                  clear H
                  have H := H1
                  clear H1
                  by_cases c43 : a0_4 ≥ 0
                  · rw [if_pos c43] at H
                    have c43b0 : decide (0 ≤ a0_4) = true := decide_eq_true c43
                    clear c43
                    by_cases c44 : a0_5 = 0
                    · rw [if_pos c44] at H
                      have c44b0 : (a0_5 == 0) = true := beq_iff_eq.mpr c44
                      have c44b1 : (a0_5 != 0) = false := bne_eq_false_iff_eq.mpr c44
                      clear c44
                      by_cases c45 : ((l0_6.length : Int) ≤ 4)
                      · rw [if_pos c45] at H
                        have c45b0 : decide ((l0_6.length : Int) ≤ 4) = true := decide_eq_true c45
                        have c45b1 : decide (l0_6.length ≤ 4) = true := decide_eq_true (by omega)
                        clear c45
                        obtain rfl := Option.some.inj H
                        have hcz46_0 : wc.cell? ⟨gb126, 0, none⟩ = some (.string a0_0) := (blk_cell BK126.out 0).trans rfl
                        have hcz46_1 : wc.cell? ⟨gb126, 1, none⟩ = some (.string a0_1) := (blk_cell BK126.out 1).trans rfl
                        have hcz46_2 : wc.cell? ⟨gb126, 2, none⟩ = some (.string a0_2) := (blk_cell BK126.out 2).trans rfl
                        have hcz46_3 : wc.cell? ⟨gb126, 3, none⟩ = some (.int .i64 a0_3) := (blk_cell BK126.out 3).trans rfl
                        have hcz46_4 : wc.cell? ⟨gb126, 4, none⟩ = some (.int .i64 a0_4) := (blk_cell BK126.out 4).trans rfl
                        have hcz46_5 : wc.cell? ⟨gb126, 5, none⟩ = some (.int .i64 a0_5) := (blk_cell BK126.out 5).trans rfl
                        have hcz46_6 : wc.cell? ⟨gb126, 6, none⟩ = some (.slice A0_6 l0_6.length c0_6) := (blk_cell BK126.out 6).trans rfl
                        have hfz46_0 := blk_frozen BK126.out 0
                        have hfz46_1 := blk_frozen BK126.out 1
                        have hfz46_2 := blk_frozen BK126.out 2
                        have hfz46_3 := blk_frozen BK126.out 3
                        have hfz46_4 := blk_frozen BK126.out 4
                        have hfz46_5 := blk_frozen BK126.out 5
                        have hfz46_6 := blk_frozen BK126.out 6
                        go_wp2
                        go_ret
                        exact ⟨by first | rfl | (simp [errW_none, errW_some] <;> rfl) | (simp [*, errW_none, errW_some] <;> rfl), by repeat (first | (with_reducible first | exact HB.out | apply below_alloc | apply pw_below_drewN | apply below_drew1 | refine below_set ?_ GE126.out) | exact HB.out)⟩
                      · rw [if_neg c45] at H
                        have c45b0 : decide ((l0_6.length : Int) ≤ 4) = false := decide_eq_false c45
                        have c45b1 : decide (l0_6.length ≤ 4) = false := decide_eq_false (by omega)
                        clear c45
                        obtain rfl := Option.some.inj H
                        have hcz47_0 : wc.cell? ⟨gb126, 0, none⟩ = some (.string a0_0) := (blk_cell BK126.out 0).trans rfl
                        have hcz47_1 : wc.cell? ⟨gb126, 1, none⟩ = some (.string a0_1) := (blk_cell BK126.out 1).trans rfl
                        have hcz47_2 : wc.cell? ⟨gb126, 2, none⟩ = some (.string a0_2) := (blk_cell BK126.out 2).trans rfl
                        have hcz47_3 : wc.cell? ⟨gb126, 3, none⟩ = some (.int .i64 a0_3) := (blk_cell BK126.out 3).trans rfl
                        have hcz47_4 : wc.cell? ⟨gb126, 4, none⟩ = some (.int .i64 a0_4) := (blk_cell BK126.out 4).trans rfl
                        have hcz47_5 : wc.cell? ⟨gb126, 5, none⟩ = some (.int .i64 a0_5) := (blk_cell BK126.out 5).trans rfl
                        have hcz47_6 : wc.cell? ⟨gb126, 6, none⟩ = some (.slice A0_6 l0_6.length c0_6) := (blk_cell BK126.out 6).trans rfl
                        have hfz47_0 := blk_frozen BK126.out 0
                        have hfz47_1 := blk_frozen BK126.out 1
                        have hfz47_2 := blk_frozen BK126.out 2
                        have hfz47_3 := blk_frozen BK126.out 3
                        have hfz47_4 := blk_frozen BK126.out 4
                        have hfz47_5 := blk_frozen BK126.out 5
                        have hfz47_6 := blk_frozen BK126.out 6
                        go_wp2
                        go_ret
                        exact ⟨by first | rfl | (simp [errW_none, errW_some] <;> rfl) | (simp [*, errW_none, errW_some] <;> rfl), by repeat (first | (with_reducible first | exact HB.out | apply below_alloc | apply pw_below_drewN | apply below_drew1 | refine below_set ?_ GE126.out) | exact HB.out)⟩
                    · rw [if_neg c44] at H
                      have c44b0 : (a0_5 == 0) = false := beq_eq_false_iff_ne.mpr c44
                      have c44b1 : (a0_5 != 0) = true := bne_iff_ne.mpr c44
                      obtain rfl := Option.some.inj H
                      have hcz48_0 : wc.cell? ⟨gb126, 0, none⟩ = some (.string a0_0) := (blk_cell BK126.out 0).trans rfl
                      have hcz48_1 : wc.cell? ⟨gb126, 1, none⟩ = some (.string a0_1) := (blk_cell BK126.out 1).trans rfl
                      have hcz48_2 : wc.cell? ⟨gb126, 2, none⟩ = some (.string a0_2) := (blk_cell BK126.out 2).trans rfl
                      have hcz48_3 : wc.cell? ⟨gb126, 3, none⟩ = some (.int .i64 a0_3) := (blk_cell BK126.out 3).trans rfl
                      have hcz48_4 : wc.cell? ⟨gb126, 4, none⟩ = some (.int .i64 a0_4) := (blk_cell BK126.out 4).trans rfl
                      have hcz48_5 : wc.cell? ⟨gb126, 5, none⟩ = some (.int .i64 a0_5) := (blk_cell BK126.out 5).trans rfl
                      have hcz48_6 : wc.cell? ⟨gb126, 6, none⟩ = some (.slice A0_6 l0_6.length c0_6) := (blk_cell BK126.out 6).trans rfl
                      have hfz48_0 := blk_frozen BK126.out 0
                      have hfz48_1 := blk_frozen BK126.out 1
                      have hfz48_2 := blk_frozen BK126.out 2
                      have hfz48_3 := blk_frozen BK126.out 3
                      have hfz48_4 := blk_frozen BK126.out 4
                      have hfz48_5 := blk_frozen BK126.out 5
                      have hfz48_6 := blk_frozen BK126.out 6
                      go_wp2
                      go_ret
                      exact ⟨by first | rfl | (simp [errW_none, errW_some] <;> rfl) | (simp [*, errW_none, errW_some] <;> rfl), by repeat (first | (with_reducible first | exact HB.out | apply below_alloc | apply pw_below_drewN | apply below_drew1 | refine below_set ?_ GE126.out) | exact HB.out)⟩
                  · rw [if_neg c43] at H
                    have c43b0 : decide (0 ≤ a0_4) = false := decide_eq_false c43
                    clear c43
                    obtain rfl := Option.some.inj H
                    have hcz49_0 : wc.cell? ⟨gb126, 0, none⟩ = some (.string a0_0) := (blk_cell BK126.out 0).trans rfl
                    have hcz49_1 : wc.cell? ⟨gb126, 1, none⟩ = some (.string a0_1) := (blk_cell BK126.out 1).trans rfl
                    have hcz49_2 : wc.cell? ⟨gb126, 2, none⟩ = some (.string a0_2) := (blk_cell BK126.out 2).trans rfl
                    have hcz49_3 : wc.cell? ⟨gb126, 3, none⟩ = some (.int .i64 a0_3) := (blk_cell BK126.out 3).trans rfl
                    have hcz49_4 : wc.cell? ⟨gb126, 4, none⟩ = some (.int .i64 a0_4) := (blk_cell BK126.out 4).trans rfl
                    have hcz49_5 : wc.cell? ⟨gb126, 5, none⟩ = some (.int .i64 a0_5) := (blk_cell BK126.out 5).trans rfl
                    have hcz49_6 : wc.cell? ⟨gb126, 6, none⟩ = some (.slice A0_6 l0_6.length c0_6) := (blk_cell BK126.out 6).trans rfl
                    have hfz49_0 := blk_frozen BK126.out 0
                    have hfz49_1 := blk_frozen BK126.out 1
                    have hfz49_2 := blk_frozen BK126.out 2
                    have hfz49_3 := blk_frozen BK126.out 3
                    have hfz49_4 := blk_frozen BK126.out 4
                    have hfz49_5 := blk_frozen BK126.out 5
                    have hfz49_6 := blk_frozen BK126.out 6
                    go_wp2
                    go_ret
                    exact ⟨by first | rfl | (simp [errW_none, errW_some] <;> rfl) | (simp [*, errW_none, errW_some] <;> rfl), by repeat (first | (with_reducible first | exact HB.out | apply below_alloc | apply pw_below_drewN | apply below_drew1 | refine below_set ?_ GE126.out) | exact HB.out)⟩
                · replace c42 := Bool.eq_false_iff.mpr c42
                  subst c42
                  have H1 : (if a0_3 = 4 then (if a0_4 ≥ 0 then ((sojournref16_why.f a0_5).bind fun t131 => (if t131 = true then (if ((l0_6.length : Int) ≤ 4) then (some 0) else (some 1)) else (some 1))) else (some 1)) else (some 163)) = some r := by rw [if_neg (show ¬ (false = true) by decide)] at H; exact H
                  clear H
                  have H := H1
                  clear H1
                  by_cases c50 : a0_3 = 4
                  · rw [if_pos c50] at H
                    have c50b0 : (a0_3 == 4) = true := beq_iff_eq.mpr c50
                    have c50b1 : (a0_3 != 4) = false := bne_eq_false_iff_eq.mpr c50
                    clear c50
                    by_cases c51 : a0_4 ≥ 0
                    · rw [if_pos c51] at H
                      have c51b0 : decide (0 ≤ a0_4) = true := decide_eq_true c51
                      clear c51
                      replace H := Option.bind_eq_some_iff.mp H
                      obtain ⟨t131, A520, H⟩ := H
                      replace H : (if t131 = true then (if ((l0_6.length : Int) ≤ 4) then (some 0) else (some 1)) else (some 1)) = some r := H
                      have A52 := Aside0.mk A520
                      clear A520
                      by_cases c53 : t131 = true
                      · subst c53
                        have H1 : (if ((l0_6.length : Int) ≤ 4) then (some 0) else (some 1)) = some r := by rw [if_pos rfl] at H; exact H
                        clear H
                        have H := H1
                        clear H1
                        by_cases c54 : ((l0_6.length : Int) ≤ 4)
                        · rw [if_pos c54] at H
                          have c54b0 : decide ((l0_6.length : Int) ≤ 4) = true := decide_eq_true c54
                          have c54b1 : decide (l0_6.length ≤ 4) = true := decide_eq_true (by omega)
                          clear c54
                          obtain rfl := Option.some.inj H
                          have hcz55_0 : wc.cell? ⟨gb126, 0, none⟩ = some (.string a0_0) := (blk_cell BK126.out 0).trans rfl
                          have hcz55_1 : wc.cell? ⟨gb126, 1, none⟩ = some (.string a0_1) := (blk_cell BK126.out 1).trans rfl
                          have hcz55_2 : wc.cell? ⟨gb126, 2, none⟩ = some (.string a0_2) := (blk_cell BK126.out 2).trans rfl
                          have hcz55_3 : wc.cell? ⟨gb126, 3, none⟩ = some (.int .i64 a0_3) := (blk_cell BK126.out 3).trans rfl
                          have hcz55_4 : wc.cell? ⟨gb126, 4, none⟩ = some (.int .i64 a0_4) := (blk_cell BK126.out 4).trans rfl
                          have hcz55_5 : wc.cell? ⟨gb126, 5, none⟩ = some (.int .i64 a0_5) := (blk_cell BK126.out 5).trans rfl
                          have hcz55_6 : wc.cell? ⟨gb126, 6, none⟩ = some (.slice A0_6 l0_6.length c0_6) := (blk_cell BK126.out 6).trans rfl
                          have hfz55_0 := blk_frozen BK126.out 0
                          have hfz55_1 := blk_frozen BK126.out 1
                          have hfz55_2 := blk_frozen BK126.out 2
                          have hfz55_3 := blk_frozen BK126.out 3
                          have hfz55_4 := blk_frozen BK126.out 4
                          have hfz55_5 := blk_frozen BK126.out 5
                          have hfz55_6 := blk_frozen BK126.out 6
                          go_wp2_with (first | (go_at_call 62; (with_reducible refine (sojournref16_why.calls a0_5 true _ A52.out).mono ?_); rintro e w' ⟨rfl, ⟨nd, rfl⟩⟩))
                          go_ret
                          exact ⟨by first | rfl | (simp [errW_none, errW_some] <;> rfl) | (simp [*, errW_none, errW_some] <;> rfl), by repeat (first | (with_reducible first | exact HB.out | apply below_alloc | apply pw_below_drewN | apply below_drew1 | refine below_set ?_ GE126.out) | exact HB.out)⟩
                        · rw [if_neg c54] at H
                          have c54b0 : decide ((l0_6.length : Int) ≤ 4) = false := decide_eq_false c54
                          have c54b1 : decide (l0_6.length ≤ 4) = false := decide_eq_false (by omega)
                          clear c54
                          obtain rfl := Option.some.inj H
                          have hcz56_0 : wc.cell? ⟨gb126, 0, none⟩ = some (.string a0_0) := (blk_cell BK126.out 0).trans rfl
                          have hcz56_1 : wc.cell? ⟨gb126, 1, none⟩ = some (.string a0_1) := (blk_cell BK126.out 1).trans rfl
                          have hcz56_2 : wc.cell? ⟨gb126, 2, none⟩ = some (.string a0_2) := (blk_cell BK126.out 2).trans rfl
                          have hcz56_3 : wc.cell? ⟨gb126, 3, none⟩ = some (.int .i64 a0_3) := (blk_cell BK126.out 3).trans rfl
                          have hcz56_4 : wc.cell? ⟨gb126, 4, none⟩ = some (.int .i64 a0_4) := (blk_cell BK126.out 4).trans rfl
                          have hcz56_5 : wc.cell? ⟨gb126, 5, none⟩ = some (.int .i64 a0_5) := (blk_cell BK126.out 5).trans rfl
                          have hcz56_6 : wc.cell? ⟨gb126, 6, none⟩ = some (.slice A0_6 l0_6.length c0_6) := (blk_cell BK126.out 6).trans rfl
                          have hfz56_0 := blk_frozen BK126.out 0
                          have hfz56_1 := blk_frozen BK126.out 1
                          have hfz56_2 := blk_frozen BK126.out 2
                          have hfz56_3 := blk_frozen BK126.out 3
                          have hfz56_4 := blk_frozen BK126.out 4
                          have hfz56_5 := blk_frozen BK126.out 5
                          have hfz56_6 := blk_frozen BK126.out 6
                          go_wp2_with (first | (go_at_call 62; (with_reducible refine (sojournref16_why.calls a0_5 true _ A52.out).mono ?_); rintro e w' ⟨rfl, ⟨nd, rfl⟩⟩))
                          go_ret
                          exact ⟨by first | rfl | (simp [errW_none, errW_some] <;> rfl) | (simp [*, errW_none, errW_some] <;> rfl), by repeat (first | (with_reducible first | exact HB.out | apply below_alloc | apply pw_below_drewN | apply below_drew1 | refine below_set ?_ GE126.out) | exact HB.out)⟩
                      · replace c53 := Bool.eq_false_iff.mpr c53
                        subst c53
                        have H1 : (some 1) = some r := by rw [if_neg (show ¬ (false = true) by decide)] at H; exact H
                        clear H
                        have H := H1
                        clear H1
                        obtain rfl := Option.some.inj H
                        have hcz57_0 : wc.cell? ⟨gb126, 0, none⟩ = some (.string a0_0) := (blk_cell BK126.out 0).trans rfl
                        have hcz57_1 : wc.cell? ⟨gb126, 1, none⟩ = some (.string a0_1) := (blk_cell BK126.out 1).trans rfl
                        have hcz57_2 : wc.cell? ⟨gb126, 2, none⟩ = some (.string a0_2) := (blk_cell BK126.out 2).trans rfl
                        have hcz57_3 : wc.cell? ⟨gb126, 3, none⟩ = some (.int .i64 a0_3) := (blk_cell BK126.out 3).trans rfl
                        have hcz57_4 : wc.cell? ⟨gb126, 4, none⟩ = some (.int .i64 a0_4) := (blk_cell BK126.out 4).trans rfl
                        have hcz57_5 : wc.cell? ⟨gb126, 5, none⟩ = some (.int .i64 a0_5) := (blk_cell BK126.out 5).trans rfl
                        have hcz57_6 : wc.cell? ⟨gb126, 6, none⟩ = some (.slice A0_6 l0_6.length c0_6) := (blk_cell BK126.out 6).trans rfl
                        have hfz57_0 := blk_frozen BK126.out 0
                        have hfz57_1 := blk_frozen BK126.out 1
                        have hfz57_2 := blk_frozen BK126.out 2
                        have hfz57_3 := blk_frozen BK126.out 3
                        have hfz57_4 := blk_frozen BK126.out 4
                        have hfz57_5 := blk_frozen BK126.out 5
                        have hfz57_6 := blk_frozen BK126.out 6
                        go_wp2_with (first | (go_at_call 62; (with_reducible refine (sojournref16_why.calls a0_5 false _ A52.out).mono ?_); rintro e w' ⟨rfl, ⟨nd, rfl⟩⟩))
                        go_ret
                        exact ⟨by first | rfl | (simp [errW_none, errW_some] <;> rfl) | (simp [*, errW_none, errW_some] <;> rfl), by repeat (first | (with_reducible first | exact HB.out | apply below_alloc | apply pw_below_drewN | apply below_drew1 | refine below_set ?_ GE126.out) | exact HB.out)⟩
                    · rw [if_neg c51] at H
                      have c51b0 : decide (0 ≤ a0_4) = false := decide_eq_false c51
                      clear c51
                      obtain rfl := Option.some.inj H
                      have hcz58_0 : wc.cell? ⟨gb126, 0, none⟩ = some (.string a0_0) := (blk_cell BK126.out 0).trans rfl
                      have hcz58_1 : wc.cell? ⟨gb126, 1, none⟩ = some (.string a0_1) := (blk_cell BK126.out 1).trans rfl
                      have hcz58_2 : wc.cell? ⟨gb126, 2, none⟩ = some (.string a0_2) := (blk_cell BK126.out 2).trans rfl
                      have hcz58_3 : wc.cell? ⟨gb126, 3, none⟩ = some (.int .i64 a0_3) := (blk_cell BK126.out 3).trans rfl
                      have hcz58_4 : wc.cell? ⟨gb126, 4, none⟩ = some (.int .i64 a0_4) := (blk_cell BK126.out 4).trans rfl
                      have hcz58_5 : wc.cell? ⟨gb126, 5, none⟩ = some (.int .i64 a0_5) := (blk_cell BK126.out 5).trans rfl
                      have hcz58_6 : wc.cell? ⟨gb126, 6, none⟩ = some (.slice A0_6 l0_6.length c0_6) := (blk_cell BK126.out 6).trans rfl
                      have hfz58_0 := blk_frozen BK126.out 0
                      have hfz58_1 := blk_frozen BK126.out 1
                      have hfz58_2 := blk_frozen BK126.out 2
                      have hfz58_3 := blk_frozen BK126.out 3
                      have hfz58_4 := blk_frozen BK126.out 4
                      have hfz58_5 := blk_frozen BK126.out 5
                      have hfz58_6 := blk_frozen BK126.out 6
                      go_wp2
                      go_ret
                      exact ⟨by first | rfl | (simp [errW_none, errW_some] <;> rfl) | (simp [*, errW_none, errW_some] <;> rfl), by repeat (first | (with_reducible first | exact HB.out | apply below_alloc | apply pw_below_drewN | apply below_drew1 | refine below_set ?_ GE126.out) | exact HB.out)⟩
                  · rw [if_neg c50] at H
                    have c50b0 : (a0_3 == 4) = false := beq_eq_false_iff_ne.mpr c50
                    have c50b1 : (a0_3 != 4) = true := bne_iff_ne.mpr c50
                    obtain rfl := Option.some.inj H
                    go_wp2
                    go_ret
                    exact ⟨by first | rfl | (simp [errW_none, errW_some] <;> rfl) | (simp [*, errW_none, errW_some] <;> rfl), by repeat (first | (with_reducible first | exact HB.out | apply below_alloc | apply pw_below_drewN | apply below_drew1 | refine below_set ?_ GE126.out) | exact HB.out)⟩

end Go.Proofs.Ytagifiakjniedaa.PTab
