-- PRINTED by print.py (a twelfth state) out of the translation. Not trusted: Lean checks it.
import Derived.Test.YtagifiakjniedaaPTabx0
import Derived.Test.YtagifiakjniedaaPTabx6
namespace Go.Proofs.Ytagifiakjniedaa.PTab
open Go.RowKit Go.Proofs.YtagifiakjniedaaW.PrintWords Go.Proofs.YtagifiakjniedaaW.PrintLast Go.Proofs.YtagifiakjniedaaW.PrintMore
attribute [local go_sem] max2_int min2_int max_two min_two max_three min_three max_four min_four   -- for this text's walks alone
set_option linter.unusedVariables false
set_option linter.unusedSimpArgs false

/-! ### sojournref16_Request: function 41 -/
def sojournref16_Request.f (k : Nat) (l0 : List (S28)) (a1 : ByteArray) (a2 : ByteArray) (a3 : ByteArray) : Option ((List (S28)) × Int × Int) := (sojournref16_Right.f k a1 a2 a3 1 0 0 ([] : List (S71))).bind fun t133 => (if t133 = 0 then (if (l0.length : Int) ≥ 64 then (some (l0, 0, 161)) else (if ([] : List (S28)).length + l0.length < 1466015503701 then ((some (([] : List (S28)) ++ l0 : List (S28))).bind fun y134 => (if y134.length < 1466015503701 then ((some (y134 ++ [(⟨a1, a2, a3, 1, 0, 0, ([] : List (S71))⟩ : S28)] : List (S28))).bind fun y137 => (some (y137, (y137.length : Int), 0))) else (none))) else (none))) else (some (l0, 0, 160)))
theorem sojournref16_Request.mono : ∀ a0 a1 a2 a3 k, LeO (sojournref16_Request.f k a0 a1 a2 a3) (sojournref16_Request.f (k + 1) a0 a1 a2 a3) := by
  intro a0 a1 a2 a3 k
  unfold sojournref16_Request.f
  repeat' first
      | (with_reducible exact sojournref16_Right.mono _ _ _ _ _ _ _ _)
      | (with_reducible exact LeO.refl _)
      | (with_reducible exact LeO.none _)
      | (with_reducible refine LeO.ite ?_ ?_)
      | (with_reducible refine LeO.bind ?_ (fun _ => ?_))
      | exact sojournref16_Right.mono _ _ _ _ _ _ _ _
      | exact LeO.none _
      | refine LeO.ite ?_ ?_
      | refine LeO.bind ?_ (fun _ => ?_)
set_option maxHeartbeats 8000000 in
set_option maxRecDepth 100000 in
theorem sojournref16_Request.calls (k : Nat) (P0_ : Nat → Prop) (A0 : Option Addr) (c0 : Nat) (l0 : List (S28)) (a1 : ByteArray) (a2 : ByteArray) (a3 : ByteArray) (r1 : List (S28)) (r2 : Int) (r3 : Int) (w : World) (hs0 : Kd.V k28 28 w w.heap.size (fun k_ => P0_ k_) (.slice A0 l0.length c0) l0) (h : sojournref16_Request.f k l0 a1 a2 a3 = some (r1, r2, r3)) :
    Calls Try.prog 41 #[.slice A0 l0.length c0, .string a1, .string a2, .string a3] w fun e w' => ∃ v0_ : Value, e = .returned (.tuple #[v0_, .int .i64 r2, .int .i64 r3]) ∧ Kd.V k28 28 w' w.heap.size (fun k_ => (P0_ k_ ∨ w.heap.size ≤ k_)) v0_ r1 ∧ Below w.heap.size w w' := by
  have hu28 := Try.underlying28
  have HO0 := Aside0.mk (show Kd.V k28 28 w w.heap.size (fun k_ => (P0_ k_ ∨ w.heap.size ≤ k_)) (.slice A0 l0.length c0) l0 from Kd.V_mono hs0 (fun k_ hk => .inl hk))
  have HB := Aside0.mk (Below.refl w.heap.size w)
  have H : ((sojournref16_Right.f k a1 a2 a3 1 0 0 ([] : List (S71))).bind fun t133 => (if t133 = 0 then (if (l0.length : Int) ≥ 64 then (some (l0, 0, 161)) else (if ([] : List (S28)).length + l0.length < 1466015503701 then ((some (([] : List (S28)) ++ l0 : List (S28))).bind fun y134 => (if y134.length < 1466015503701 then ((some (y134 ++ [(⟨a1, a2, a3, 1, 0, 0, ([] : List (S71))⟩ : S28)] : List (S28))).bind fun y137 => (some (y137, (y137.length : Int), 0))) else (none))) else (none))) else (some (l0, 0, 160)))) = some (r1, r2, r3) := h
  clear h
  replace H := Option.bind_eq_some_iff.mp H
  obtain ⟨t133, A50, H⟩ := H
  replace H : (if t133 = 0 then (if (l0.length : Int) ≥ 64 then (some (l0, 0, 161)) else (if ([] : List (S28)).length + l0.length < 1466015503701 then ((some (([] : List (S28)) ++ l0 : List (S28))).bind fun y134 => (if y134.length < 1466015503701 then ((some (y134 ++ [(⟨a1, a2, a3, 1, 0, 0, ([] : List (S71))⟩ : S28)] : List (S28))).bind fun y137 => (some (y137, (y137.length : Int), 0))) else (none))) else (none))) else (some (l0, 0, 160))) = some (r1, r2, r3) := H
  have A5 := Aside0.mk A50
  clear A50
  by_cases c6 : t133 = 0
  · rw [if_pos c6] at H
    have c6b0 : (t133 == 0) = true := beq_iff_eq.mpr c6
    have c6b1 : (t133 != 0) = false := bne_eq_false_iff_eq.mpr c6
    clear c6
    by_cases c7 : (l0.length : Int) ≥ 64
    · rw [if_pos c7] at H
      have c7b0 : decide (64 ≤ (l0.length : Int)) = true := decide_eq_true c7
      have c7b1 : decide (64 ≤ l0.length) = true := decide_eq_true (by omega)
      clear c7
      simp only [Option.some.injEq, Prod.mk.injEq] at H
      obtain ⟨rfl, rfl, rfl⟩ := H
      go_enter Try.func41, Try.ntmps41
      go_wp2_with (first | ((with_reducible refine gate_dst (N := 11) rfl ?_); refine box_event ?hg (N := 11) ?hd (cs := #[.string (⟨#[]⟩ : ByteArray), .string (⟨#[]⟩ : ByteArray), .string (⟨#[]⟩ : ByteArray), .int .i64 0, .int .i64 0, .int .i64 0, .slice none 0 0]) (t := 28) ?hr ?_; (case hd => rfl); (case hg => rfl); (case hr => first | (go_simp; done) | (go_simp; rfl)); intro gb132 hg w8 hbox hb; have n0_ := Aside0.mk (Kd.V_below (Kd.V_elderB (by (with_reducible repeat (first | apply Kd.V_alloc | apply Kd.V_drewN | apply Kd.V_drew)); exact HO0.out) gb132 (Nat.le_of_eq hg.symm)) hb); have n1_ := Aside0.mk (below_step (by repeat (first | (with_reducible first | exact HB.out | apply below_alloc | apply pw_below_drewN | apply below_drew1) | exact HB.out)) hb); have n2_ := Aside0.mk (hbox); have n3_ := Aside0.mk ((by rw [hg]; exact (below_size (by repeat (first | (with_reducible first | exact HB.out | apply below_alloc | apply pw_below_drewN | apply below_drew1) | exact HB.out))) : w.heap.size ≤ gb132)); have n4_ := Aside0.mk ((by rw [hg]; exact (below_size (by repeat (first | (with_reducible first | exact HB.out | apply below_alloc | apply pw_below_drewN | apply below_drew1) | exact HB.out))) : w.heap.size ≤ gb132)); clear HO0; clear HB; have HO0 := n0_; have HB := n1_; have BK132 := n2_; have GW132 := n3_; have GE132 := n4_; clear n0_ n1_ n2_ n3_ n4_; clear hb hbox hg; have hcz9_0 : w8.cell? ⟨gb132, 0, none⟩ = some (.string (⟨#[]⟩ : ByteArray)) := (blk_cell BK132.out 0).trans rfl; have hcz9_1 : w8.cell? ⟨gb132, 1, none⟩ = some (.string (⟨#[]⟩ : ByteArray)) := (blk_cell BK132.out 1).trans rfl; have hcz9_2 : w8.cell? ⟨gb132, 2, none⟩ = some (.string (⟨#[]⟩ : ByteArray)) := (blk_cell BK132.out 2).trans rfl; have hcz9_3 : w8.cell? ⟨gb132, 3, none⟩ = some (.int .i64 0) := (blk_cell BK132.out 3).trans rfl; have hcz9_4 : w8.cell? ⟨gb132, 4, none⟩ = some (.int .i64 0) := (blk_cell BK132.out 4).trans rfl; have hcz9_5 : w8.cell? ⟨gb132, 5, none⟩ = some (.int .i64 0) := (blk_cell BK132.out 5).trans rfl; have hcz9_6 : w8.cell? ⟨gb132, 6, none⟩ = some (.slice none 0 0) := (blk_cell BK132.out 6).trans rfl; have hfz9_0 := blk_frozen BK132.out 0; have hfz9_1 := blk_frozen BK132.out 1; have hfz9_2 := blk_frozen BK132.out 2; have hfz9_3 := blk_frozen BK132.out 3; have hfz9_4 := blk_frozen BK132.out 4; have hfz9_5 := blk_frozen BK132.out 5; have hfz9_6 := blk_frozen BK132.out 6) | ((with_reducible refine gate_callee (f := 46) rfl ?_); refine goesL_ (some 18) rfl rfl Try.func46 (by kernel_rfl) rfl #[.agg #[.string a1, .string a2, .string a3, .int .i64 1, .int .i64 0, .int .i64 0, .slice none 0 0]] rfl (by (try simp only [List.map_toArray, List.map_cons, List.map_nil]); first | done | rfl | (simp only [List.length_drop, List.length_take]; rfl)) ?_; (refine (sojournref16_Right.calls k a1 a2 a3 1 0 0 _ _ ([] : List (S71)) t133 _ ?side1 ?side2 A5.out).mono ?_); (case side1 => exact Kd.C_nil _ _); (case side2 => exact Nat.le_refl _); rintro e w10 ⟨rfl, hb⟩; refine ⟨_, rfl, ?_⟩; have n0_ := Aside0.mk (Kd.V_below (by (with_reducible repeat (first | apply Kd.V_alloc | apply Kd.V_drewN | apply Kd.V_drew)); exact (Kd.V_mono (Kd.V_far (p := ⟨gb132, 6, none⟩) (Kd.V_far (p := ⟨gb132, 5, none⟩) (Kd.V_far (p := ⟨gb132, 4, none⟩) (Kd.V_far (p := ⟨gb132, 3, none⟩) (Kd.V_far (p := ⟨gb132, 2, none⟩) (Kd.V_far (p := ⟨gb132, 1, none⟩) (Kd.V_far (p := ⟨gb132, 0, none⟩) (Kd.V_mono HO0.out (fun k_ hk => (⟨hk, hk.2⟩ : _ ∧ k_ ≠ gb132))) (fun _ hk => hk.2) (.string a1)) (fun _ hk => hk.2) (.string a2)) (fun _ hk => hk.2) (.string a3)) (fun _ hk => hk.2) (.int .i64 1)) (fun _ hk => hk.2) (.int .i64 0)) (fun _ hk => hk.2) (.int .i64 0)) (fun _ hk => hk.2) (.slice none 0 0)) (fun _ h_ => h_.1))) hb); have n1_ := Aside0.mk (blk_below (g := gb132) (o := .cells #[.string a1, .string a2, .string a3, .int .i64 1, .int .i64 0, .int .i64 0, .slice none 0 0] 28 (0, 0)) (by (with_reducible repeat (first | refine blk_drewN ?_ _ | refine blk_drew ?_ | refine blk_alloc ?_ _)); refine blk_put (cs := #[.string a1, .string a2, .string a3, .int .i64 1, .int .i64 0, .int .i64 0, .slice none 0 0]) ?_ 6 _ rfl; (with_reducible repeat (first | refine blk_drewN ?_ _ | refine blk_drew ?_ | refine blk_alloc ?_ _)); refine blk_put (cs := #[.string a1, .string a2, .string a3, .int .i64 1, .int .i64 0, .int .i64 0, .slice none 0 0]) ?_ 5 _ rfl; (with_reducible repeat (first | refine blk_drewN ?_ _ | refine blk_drew ?_ | refine blk_alloc ?_ _)); refine blk_put (cs := #[.string a1, .string a2, .string a3, .int .i64 1, .int .i64 0, .int .i64 0, .slice none 0 0]) ?_ 4 _ rfl; (with_reducible repeat (first | refine blk_drewN ?_ _ | refine blk_drew ?_ | refine blk_alloc ?_ _)); refine blk_put (cs := #[.string a1, .string a2, .string a3, .int .i64 0, .int .i64 0, .int .i64 0, .slice none 0 0]) ?_ 3 _ rfl; (with_reducible repeat (first | refine blk_drewN ?_ _ | refine blk_drew ?_ | refine blk_alloc ?_ _)); refine blk_put (cs := #[.string a1, .string a2, .string (⟨#[]⟩ : ByteArray), .int .i64 0, .int .i64 0, .int .i64 0, .slice none 0 0]) ?_ 2 _ rfl; (with_reducible repeat (first | refine blk_drewN ?_ _ | refine blk_drew ?_ | refine blk_alloc ?_ _)); refine blk_put (cs := #[.string a1, .string (⟨#[]⟩ : ByteArray), .string (⟨#[]⟩ : ByteArray), .int .i64 0, .int .i64 0, .int .i64 0, .slice none 0 0]) ?_ 1 _ rfl; (with_reducible repeat (first | refine blk_drewN ?_ _ | refine blk_drew ?_ | refine blk_alloc ?_ _)); refine blk_put (cs := #[.string (⟨#[]⟩ : ByteArray), .string (⟨#[]⟩ : ByteArray), .string (⟨#[]⟩ : ByteArray), .int .i64 0, .int .i64 0, .int .i64 0, .slice none 0 0]) ?_ 0 _ rfl; (with_reducible repeat (first | refine blk_drewN ?_ _ | refine blk_drew ?_ | refine blk_alloc ?_ _)); exact BK132.out) hb); have n2_ := Aside0.mk (below_step (by repeat (first | (with_reducible first | exact HB.out | apply below_alloc | apply pw_below_drewN | apply below_drew1 | refine below_set ?_ GE132.out) | exact HB.out)) hb); clear HO0; clear BK132; clear HB; have HO0 := n0_; have BK132 := n1_; have HB := n2_; clear n0_ n1_ n2_; (try clear hb); (try clear hb2); (try clear hk); (try clear hi)))
      go_ret3
      exact ⟨_, by first | rfl | (simp [errW_none, errW_some] <;> rfl) | (simp [*, errW_none, errW_some] <;> rfl), by (with_reducible repeat (first | apply Kd.V_alloc | apply Kd.V_drewN | apply Kd.V_drew)); exact Kd.V_mono HO0.out (fun _ hk => hk.1), by repeat (first | (with_reducible first | exact HB.out | apply below_alloc | apply pw_below_drewN | apply below_drew1 | refine below_set ?_ GE132.out) | exact HB.out)⟩
    · rw [if_neg c7] at H
      have c7b0 : decide (64 ≤ (l0.length : Int)) = false := decide_eq_false c7
      have c7b1 : decide (64 ≤ l0.length) = false := decide_eq_false (by omega)
      clear c7
      by_cases c11 : ([] : List (S28)).length + l0.length < 1466015503701
      · rw [if_pos c11] at H
        have LMc11 := Aside0.mk c11
        clear c11
        obtain ⟨y134, hy134⟩ : ∃ y_ : List (S28), y_ = (([] : List (S28)) ++ l0) := ⟨_, rfl⟩
        replace H : (if y134.length < 1466015503701 then ((some (y134 ++ [(⟨a1, a2, a3, 1, 0, 0, ([] : List (S71))⟩ : S28)] : List (S28))).bind fun y137 => (some (y137, (y137.length : Int), 0))) else (none)) = some (r1, r2, r3) := by first | (rw [hy134]; with_reducible exact H) | (have H2_ := (Option.bind_some _ _).symm.trans H; rw [hy134]; with_reducible exact H2_) | (have H2_ := (Option.bind_some _ _).symm.trans H; with_reducible exact H2_) | with_reducible exact H | (rw [hy134]; exact H) | exact H
        have Ny134 := Aside0.mk hy134
        clear hy134
        by_cases c12 : y134.length < 1466015503701
        · rw [if_pos c12] at H
          have LMc12 := Aside0.mk c12
          clear c12
          obtain ⟨y137, hy137⟩ : ∃ y_ : List (S28), y_ = (y134 ++ [(⟨a1, a2, a3, 1, 0, 0, ([] : List (S71))⟩ : S28)]) := ⟨_, rfl⟩
          replace H : (some (y137, (y137.length : Int), 0)) = some (r1, r2, r3) := by first | (rw [hy137]; with_reducible exact H) | (have H2_ := (Option.bind_some _ _).symm.trans H; rw [hy137]; with_reducible exact H2_) | (have H2_ := (Option.bind_some _ _).symm.trans H; with_reducible exact H2_) | with_reducible exact H | (rw [hy137]; exact H) | exact H
          have Ny137 := Aside0.mk hy137
          clear hy137
          simp only [Option.some.injEq, Prod.mk.injEq] at H
          obtain ⟨rfl, rfl, rfl⟩ := H
          go_enter Try.func41, Try.ntmps41
          go_wp2_with (first | ((with_reducible refine gate_dst (N := 11) rfl ?_); refine box_event ?hg (N := 11) ?hd (cs := #[.string (⟨#[]⟩ : ByteArray), .string (⟨#[]⟩ : ByteArray), .string (⟨#[]⟩ : ByteArray), .int .i64 0, .int .i64 0, .int .i64 0, .slice none 0 0]) (t := 28) ?hr ?_; (case hd => rfl); (case hg => rfl); (case hr => first | (go_simp; done) | (go_simp; rfl)); intro gb132 hg w13 hbox hb; have n0_ := Aside0.mk (Kd.V_below (Kd.V_elderB (by (with_reducible repeat (first | apply Kd.V_alloc | apply Kd.V_drewN | apply Kd.V_drew)); exact HO0.out) gb132 (Nat.le_of_eq hg.symm)) hb); have n1_ := Aside0.mk (below_step (by repeat (first | (with_reducible first | exact HB.out | apply below_alloc | apply pw_below_drewN | apply below_drew1) | exact HB.out)) hb); have n2_ := Aside0.mk (hbox); have n3_ := Aside0.mk ((by rw [hg]; exact (below_size (by repeat (first | (with_reducible first | exact HB.out | apply below_alloc | apply pw_below_drewN | apply below_drew1) | exact HB.out))) : w.heap.size ≤ gb132)); have n4_ := Aside0.mk ((by rw [hg]; exact (below_size (by repeat (first | (with_reducible first | exact HB.out | apply below_alloc | apply pw_below_drewN | apply below_drew1) | exact HB.out))) : w.heap.size ≤ gb132)); clear HO0; clear HB; have HO0 := n0_; have HB := n1_; have BK132 := n2_; have GW132 := n3_; have GE132 := n4_; clear n0_ n1_ n2_ n3_ n4_; clear hb hbox hg; have hcz14_0 : w13.cell? ⟨gb132, 0, none⟩ = some (.string (⟨#[]⟩ : ByteArray)) := (blk_cell BK132.out 0).trans rfl; have hcz14_1 : w13.cell? ⟨gb132, 1, none⟩ = some (.string (⟨#[]⟩ : ByteArray)) := (blk_cell BK132.out 1).trans rfl; have hcz14_2 : w13.cell? ⟨gb132, 2, none⟩ = some (.string (⟨#[]⟩ : ByteArray)) := (blk_cell BK132.out 2).trans rfl; have hcz14_3 : w13.cell? ⟨gb132, 3, none⟩ = some (.int .i64 0) := (blk_cell BK132.out 3).trans rfl; have hcz14_4 : w13.cell? ⟨gb132, 4, none⟩ = some (.int .i64 0) := (blk_cell BK132.out 4).trans rfl; have hcz14_5 : w13.cell? ⟨gb132, 5, none⟩ = some (.int .i64 0) := (blk_cell BK132.out 5).trans rfl; have hcz14_6 : w13.cell? ⟨gb132, 6, none⟩ = some (.slice none 0 0) := (blk_cell BK132.out 6).trans rfl; have hfz14_0 := blk_frozen BK132.out 0; have hfz14_1 := blk_frozen BK132.out 1; have hfz14_2 := blk_frozen BK132.out 2; have hfz14_3 := blk_frozen BK132.out 3; have hfz14_4 := blk_frozen BK132.out 4; have hfz14_5 := blk_frozen BK132.out 5; have hfz14_6 := blk_frozen BK132.out 6) | ((with_reducible refine gate_callee (f := 46) rfl ?_); refine goesL_ (some 18) rfl rfl Try.func46 (by kernel_rfl) rfl #[.agg #[.string a1, .string a2, .string a3, .int .i64 1, .int .i64 0, .int .i64 0, .slice none 0 0]] rfl (by (try simp only [List.map_toArray, List.map_cons, List.map_nil]); first | done | rfl | (simp only [List.length_drop, List.length_take]; rfl)) ?_; (refine (sojournref16_Right.calls k a1 a2 a3 1 0 0 _ _ ([] : List (S71)) t133 _ ?side1 ?side2 A5.out).mono ?_); (case side1 => exact Kd.C_nil _ _); (case side2 => exact Nat.le_refl _); rintro e w15 ⟨rfl, hb⟩; refine ⟨_, rfl, ?_⟩; have n0_ := Aside0.mk (Kd.V_below (by (with_reducible repeat (first | apply Kd.V_alloc | apply Kd.V_drewN | apply Kd.V_drew)); exact (Kd.V_mono (Kd.V_far (p := ⟨gb132, 6, none⟩) (Kd.V_far (p := ⟨gb132, 5, none⟩) (Kd.V_far (p := ⟨gb132, 4, none⟩) (Kd.V_far (p := ⟨gb132, 3, none⟩) (Kd.V_far (p := ⟨gb132, 2, none⟩) (Kd.V_far (p := ⟨gb132, 1, none⟩) (Kd.V_far (p := ⟨gb132, 0, none⟩) (Kd.V_mono HO0.out (fun k_ hk => (⟨hk, hk.2⟩ : _ ∧ k_ ≠ gb132))) (fun _ hk => hk.2) (.string a1)) (fun _ hk => hk.2) (.string a2)) (fun _ hk => hk.2) (.string a3)) (fun _ hk => hk.2) (.int .i64 1)) (fun _ hk => hk.2) (.int .i64 0)) (fun _ hk => hk.2) (.int .i64 0)) (fun _ hk => hk.2) (.slice none 0 0)) (fun _ h_ => h_.1))) hb); have n1_ := Aside0.mk (blk_below (g := gb132) (o := .cells #[.string a1, .string a2, .string a3, .int .i64 1, .int .i64 0, .int .i64 0, .slice none 0 0] 28 (0, 0)) (by (with_reducible repeat (first | refine blk_drewN ?_ _ | refine blk_drew ?_ | refine blk_alloc ?_ _)); refine blk_put (cs := #[.string a1, .string a2, .string a3, .int .i64 1, .int .i64 0, .int .i64 0, .slice none 0 0]) ?_ 6 _ rfl; (with_reducible repeat (first | refine blk_drewN ?_ _ | refine blk_drew ?_ | refine blk_alloc ?_ _)); refine blk_put (cs := #[.string a1, .string a2, .string a3, .int .i64 1, .int .i64 0, .int .i64 0, .slice none 0 0]) ?_ 5 _ rfl; (with_reducible repeat (first | refine blk_drewN ?_ _ | refine blk_drew ?_ | refine blk_alloc ?_ _)); refine blk_put (cs := #[.string a1, .string a2, .string a3, .int .i64 1, .int .i64 0, .int .i64 0, .slice none 0 0]) ?_ 4 _ rfl; (with_reducible repeat (first | refine blk_drewN ?_ _ | refine blk_drew ?_ | refine blk_alloc ?_ _)); refine blk_put (cs := #[.string a1, .string a2, .string a3, .int .i64 0, .int .i64 0, .int .i64 0, .slice none 0 0]) ?_ 3 _ rfl; (with_reducible repeat (first | refine blk_drewN ?_ _ | refine blk_drew ?_ | refine blk_alloc ?_ _)); refine blk_put (cs := #[.string a1, .string a2, .string (⟨#[]⟩ : ByteArray), .int .i64 0, .int .i64 0, .int .i64 0, .slice none 0 0]) ?_ 2 _ rfl; (with_reducible repeat (first | refine blk_drewN ?_ _ | refine blk_drew ?_ | refine blk_alloc ?_ _)); refine blk_put (cs := #[.string a1, .string (⟨#[]⟩ : ByteArray), .string (⟨#[]⟩ : ByteArray), .int .i64 0, .int .i64 0, .int .i64 0, .slice none 0 0]) ?_ 1 _ rfl; (with_reducible repeat (first | refine blk_drewN ?_ _ | refine blk_drew ?_ | refine blk_alloc ?_ _)); refine blk_put (cs := #[.string (⟨#[]⟩ : ByteArray), .string (⟨#[]⟩ : ByteArray), .string (⟨#[]⟩ : ByteArray), .int .i64 0, .int .i64 0, .int .i64 0, .slice none 0 0]) ?_ 0 _ rfl; (with_reducible repeat (first | refine blk_drewN ?_ _ | refine blk_drew ?_ | refine blk_alloc ?_ _)); exact BK132.out) hb); have n2_ := Aside0.mk (below_step (by repeat (first | (with_reducible first | exact HB.out | apply below_alloc | apply pw_below_drewN | apply below_drew1 | refine below_set ?_ GE132.out) | exact HB.out)) hb); clear HO0; clear BK132; clear HB; have HO0 := n0_; have BK132 := n1_; have HB := n2_; clear n0_ n1_ n2_; (try clear hb); (try clear hb2); (try clear hk); (try clear hi)) | ((with_reducible refine gate_builtin (b := .append) (xs := #[.tmp 25, .tmp 26]) rfl ?_); at_builtin; refine Kd.N_append_rows k28 (w0 := w) w.heap.size rfl (.tmp 25) (.tmp 26) 37 28 (.agg #[(.string ⟨#[]⟩), (.string ⟨#[]⟩), (.string ⟨#[]⟩), (.int .i64 0), (.int .i64 0), (.int .i64 0), (.slice none 0 0)]) 96 rfl Try.underlying37 info28 rfl (by decide) (by omega) (.slice none 0 0) ([] : List (S28)) l0 _ _ _ (fun k_ => (P0_ k_ ∨ w.heap.size ≤ k_) ∧ k_ ≠ gb132) (fun k_ => ((fun k_ => (P0_ k_ ∨ w.heap.size ≤ k_) ∧ k_ ≠ gb132)) k_ ∧ some k_ ≠ (.slice none 0 0 : Value).ownBlock) rfl rfl ?aO ?aR (fun _ hk => hk) ?aF ?aB ?aS ?aL ?_; (case aR => exact (by skip; exact Kd.V_F (Kd.V_mono (ok' := (fun k_ => ((fun k_ => (P0_ k_ ∨ w.heap.size ≤ k_) ∧ k_ ≠ gb132)) k_ ∧ some k_ ≠ (.slice none 0 0 : Value).ownBlock)) (HO0.out) (fun k_ hk => ⟨⟨hk.1, hk.2⟩, (by simp [Value.ownBlock])⟩)))); (case aB => exact (by repeat (first | (with_reducible first | exact HB.out | apply below_alloc | apply pw_below_drewN | apply below_drew1 | refine below_set ?_ GE132.out) | exact HB.out))); (case aF => exact (fun k_ hk => ⟨(.inr (Nat.le_trans (below_size (by repeat (first | (with_reducible first | exact HB.out | apply below_alloc | apply pw_below_drewN | apply below_drew1 | refine below_set ?_ GE132.out) | exact HB.out))) hk)), Kd.freshB (g := gb132) (o := .cells #[.string a1, .string a2, .string a3, .int .i64 1, .int .i64 0, .int .i64 0, .slice none 0 0] 28 (0, 0)) (by (with_reducible repeat (first | refine blk_drewN ?_ _ | refine blk_drew ?_ | refine blk_alloc ?_ _)); exact BK132.out) k_ hk⟩)); (case aO => exact ((Kd.N_nil _ _ _ _ (fun k_ => (P0_ k_ ∨ w.heap.size ≤ k_) ∧ k_ ≠ gb132)))); (case aS => exact (below_size (by repeat (first | (with_reducible first | exact HB.out | apply below_alloc | apply pw_below_drewN | apply below_drew1 | refine below_set ?_ GE132.out) | exact HB.out)))); (case aL => have := LMc11.out; omega); intro v135 w16 ho hb hg hat; rw [← Ny134.out] at ho; have n0_ := Aside0.mk (Kd.V_afterv (Kd.V_apart_nil (by (with_reducible repeat (first | apply Kd.V_alloc | apply Kd.V_drewN | apply Kd.V_drew)); exact HO0.out)) hg hat); have n1_ := Aside0.mk (blk_grown (g := gb132) (o := .cells #[.string a1, .string a2, .string a3, .int .i64 1, .int .i64 0, .int .i64 0, .slice none 0 0] 28 (0, 0)) (by (with_reducible repeat (first | refine blk_drewN ?_ _ | refine blk_drew ?_ | refine blk_alloc ?_ _)); exact BK132.out) hg (by simp [Value.ownBlock])); have n2_ := Aside0.mk (hb); have n3_ := Aside0.mk (ho); clear HO0; clear BK132; clear HB; have HO0 := n0_; have BK132 := n1_; have HB := n2_; have HO136 := n3_; clear n0_ n1_ n2_ n3_; clear ho hb hg hat; have hcz17_0 : w16.cell? ⟨gb132, 0, none⟩ = some (.string a1) := (blk_cell BK132.out 0).trans rfl; have hcz17_1 : w16.cell? ⟨gb132, 1, none⟩ = some (.string a2) := (blk_cell BK132.out 1).trans rfl; have hcz17_2 : w16.cell? ⟨gb132, 2, none⟩ = some (.string a3) := (blk_cell BK132.out 2).trans rfl; have hcz17_3 : w16.cell? ⟨gb132, 3, none⟩ = some (.int .i64 1) := (blk_cell BK132.out 3).trans rfl; have hcz17_4 : w16.cell? ⟨gb132, 4, none⟩ = some (.int .i64 0) := (blk_cell BK132.out 4).trans rfl; have hcz17_5 : w16.cell? ⟨gb132, 5, none⟩ = some (.int .i64 0) := (blk_cell BK132.out 5).trans rfl; have hcz17_6 : w16.cell? ⟨gb132, 6, none⟩ = some (.slice none 0 0) := (blk_cell BK132.out 6).trans rfl; have hfz17_0 := blk_frozen BK132.out 0; have hfz17_1 := blk_frozen BK132.out 1; have hfz17_2 := blk_frozen BK132.out 2; have hfz17_3 := blk_frozen BK132.out 3; have hfz17_4 := blk_frozen BK132.out 4; have hfz17_5 := blk_frozen BK132.out 5; have hfz17_6 := blk_frozen BK132.out 6) | ((with_reducible refine gate_builtin (b := .append) (xs := #[.tmp 28, .tmp 30]) rfl ?_); at_builtin; refine Kd.N_append k28 (w0 := w) w.heap.size rfl (.tmp 28) (.tmp 30) 37 28 (.agg #[(.string ⟨#[]⟩), (.string ⟨#[]⟩), (.string ⟨#[]⟩), (.int .i64 0), (.int .i64 0), (.int .i64 0), (.slice none 0 0)]) 96 rfl Try.underlying37 info28 rfl (by decide) (by omega) v135 y134 (⟨a1, a2, a3, 1, 0, 0, ([] : List (S71))⟩ : S28) [.string a1, .string a2, .string a3, .int .i64 1, .int .i64 0, .int .i64 0, .slice none 0 0] (fun k_ => (P0_ k_ ∨ w.heap.size ≤ k_) ∧ k_ ≠ gb132) (fun k_ => ((fun k_ => (P0_ k_ ∨ w.heap.size ≤ k_) ∧ k_ ≠ gb132)) k_ ∧ some k_ ≠ (v135 : Value).ownBlock) rfl rfl ?aP (fun _ hk => hk) ?aF ?aO ?aB ?aS ?aL ?_; (case aP => exact (k28_mkF _ _ (⟨a1, a2, a3, 1, 0, 0, ([] : List (S71))⟩ : S28) (Nat.le_refl _) (Kd.F_nil _ _ _))); (case aB => exact (by repeat (first | (with_reducible first | exact HB.out | apply below_alloc | apply pw_below_drewN | apply below_drew1 | refine below_set ?_ GE132.out) | exact HB.out))); (case aF => exact (fun k_ hk => ⟨(.inr (Nat.le_trans (below_size (by repeat (first | (with_reducible first | exact HB.out | apply below_alloc | apply pw_below_drewN | apply below_drew1 | refine below_set ?_ GE132.out) | exact HB.out))) hk)), Kd.freshB (g := gb132) (o := .cells #[.string a1, .string a2, .string a3, .int .i64 1, .int .i64 0, .int .i64 0, .slice none 0 0] 28 (0, 0)) (by (with_reducible repeat (first | refine blk_drewN ?_ _ | refine blk_drew ?_ | refine blk_alloc ?_ _)); exact BK132.out) k_ hk⟩)); (case aO => exact (by (with_reducible repeat (first | apply Kd.N_alloc | apply Kd.N_drewN | apply Kd.N_drew)); exact HO136.out)); (case aS => exact (below_size (by repeat (first | (with_reducible first | exact HB.out | apply below_alloc | apply pw_below_drewN | apply below_drew1 | refine below_set ?_ GE132.out) | exact HB.out)))); (case aL => have := LMc12.out; omega); intro v138 w18 ho hb hg hat; rw [← Ny137.out] at ho; have n0_ := Aside0.mk (Kd.V_afterv (ok := (fun k_ => (P0_ k_ ∨ w.heap.size ≤ k_) ∧ k_ ≠ gb132)) (by (with_reducible repeat (first | apply Kd.V_alloc | apply Kd.V_drewN | apply Kd.V_drew)); exact HO0.out) hg hat); have n1_ := Aside0.mk (blk_grown (g := gb132) (o := .cells #[.string a1, .string a2, .string a3, .int .i64 1, .int .i64 0, .int .i64 0, .slice none 0 0] 28 (0, 0)) (by (with_reducible repeat (first | refine blk_drewN ?_ _ | refine blk_drew ?_ | refine blk_alloc ?_ _)); exact BK132.out) hg (Kd.N_away HO136.out (fun _ hk => hk.2))); have n2_ := Aside0.mk (hb); have n3_ := Aside0.mk (ho); clear HO0; clear BK132; clear HB; clear HO136; have HO0 := n0_; have BK132 := n1_; have HB := n2_; have HO139 := n3_; clear n0_ n1_ n2_ n3_; clear ho hb hg hat; obtain ⟨Ao19, co19, eo19⟩ := Kd.N_slice HO139.out; subst eo19))
          go_ret3
          exact ⟨_, by first | rfl | (simp [errW_none, errW_some] <;> rfl) | (simp [*, errW_none, errW_some] <;> rfl), Kd.N_V (by (with_reducible repeat (first | apply Kd.N_alloc | apply Kd.N_drewN | apply Kd.N_drew)); exact Kd.N_mono HO139.out (fun _ hk => hk.1)), by repeat (first | (with_reducible first | exact HB.out | apply below_alloc | apply pw_below_drewN | apply below_drew1 | refine below_set ?_ GE132.out) | exact HB.out)⟩
        · rw [if_neg c12] at H
          exact absurd H (by simp)
      · rw [if_neg c11] at H
        exact absurd H (by simp)
  · rw [if_neg c6] at H
    have c6b0 : (t133 == 0) = false := beq_eq_false_iff_ne.mpr c6
    have c6b1 : (t133 != 0) = true := bne_iff_ne.mpr c6
    simp only [Option.some.injEq, Prod.mk.injEq] at H
    obtain ⟨rfl, rfl, rfl⟩ := H
    go_enter Try.func41, Try.ntmps41
    go_wp2_with (first | ((with_reducible refine gate_dst (N := 11) rfl ?_); refine box_event ?hg (N := 11) ?hd (cs := #[.string (⟨#[]⟩ : ByteArray), .string (⟨#[]⟩ : ByteArray), .string (⟨#[]⟩ : ByteArray), .int .i64 0, .int .i64 0, .int .i64 0, .slice none 0 0]) (t := 28) ?hr ?_; (case hd => rfl); (case hg => rfl); (case hr => first | (go_simp; done) | (go_simp; rfl)); intro gb132 hg w20 hbox hb; have n0_ := Aside0.mk (Kd.V_below (Kd.V_elderB (by (with_reducible repeat (first | apply Kd.V_alloc | apply Kd.V_drewN | apply Kd.V_drew)); exact HO0.out) gb132 (Nat.le_of_eq hg.symm)) hb); have n1_ := Aside0.mk (below_step (by repeat (first | (with_reducible first | exact HB.out | apply below_alloc | apply pw_below_drewN | apply below_drew1) | exact HB.out)) hb); have n2_ := Aside0.mk (hbox); have n3_ := Aside0.mk ((by rw [hg]; exact (below_size (by repeat (first | (with_reducible first | exact HB.out | apply below_alloc | apply pw_below_drewN | apply below_drew1) | exact HB.out))) : w.heap.size ≤ gb132)); have n4_ := Aside0.mk ((by rw [hg]; exact (below_size (by repeat (first | (with_reducible first | exact HB.out | apply below_alloc | apply pw_below_drewN | apply below_drew1) | exact HB.out))) : w.heap.size ≤ gb132)); clear HO0; clear HB; have HO0 := n0_; have HB := n1_; have BK132 := n2_; have GW132 := n3_; have GE132 := n4_; clear n0_ n1_ n2_ n3_ n4_; clear hb hbox hg; have hcz21_0 : w20.cell? ⟨gb132, 0, none⟩ = some (.string (⟨#[]⟩ : ByteArray)) := (blk_cell BK132.out 0).trans rfl; have hcz21_1 : w20.cell? ⟨gb132, 1, none⟩ = some (.string (⟨#[]⟩ : ByteArray)) := (blk_cell BK132.out 1).trans rfl; have hcz21_2 : w20.cell? ⟨gb132, 2, none⟩ = some (.string (⟨#[]⟩ : ByteArray)) := (blk_cell BK132.out 2).trans rfl; have hcz21_3 : w20.cell? ⟨gb132, 3, none⟩ = some (.int .i64 0) := (blk_cell BK132.out 3).trans rfl; have hcz21_4 : w20.cell? ⟨gb132, 4, none⟩ = some (.int .i64 0) := (blk_cell BK132.out 4).trans rfl; have hcz21_5 : w20.cell? ⟨gb132, 5, none⟩ = some (.int .i64 0) := (blk_cell BK132.out 5).trans rfl; have hcz21_6 : w20.cell? ⟨gb132, 6, none⟩ = some (.slice none 0 0) := (blk_cell BK132.out 6).trans rfl; have hfz21_0 := blk_frozen BK132.out 0; have hfz21_1 := blk_frozen BK132.out 1; have hfz21_2 := blk_frozen BK132.out 2; have hfz21_3 := blk_frozen BK132.out 3; have hfz21_4 := blk_frozen BK132.out 4; have hfz21_5 := blk_frozen BK132.out 5; have hfz21_6 := blk_frozen BK132.out 6) | ((with_reducible refine gate_callee (f := 46) rfl ?_); refine goesL_ (some 18) rfl rfl Try.func46 (by kernel_rfl) rfl #[.agg #[.string a1, .string a2, .string a3, .int .i64 1, .int .i64 0, .int .i64 0, .slice none 0 0]] rfl (by (try simp only [List.map_toArray, List.map_cons, List.map_nil]); first | done | rfl | (simp only [List.length_drop, List.length_take]; rfl)) ?_; (refine (sojournref16_Right.calls k a1 a2 a3 1 0 0 _ _ ([] : List (S71)) t133 _ ?side1 ?side2 A5.out).mono ?_); (case side1 => exact Kd.C_nil _ _); (case side2 => exact Nat.le_refl _); rintro e w22 ⟨rfl, hb⟩; refine ⟨_, rfl, ?_⟩; have n0_ := Aside0.mk (Kd.V_below (by (with_reducible repeat (first | apply Kd.V_alloc | apply Kd.V_drewN | apply Kd.V_drew)); exact (Kd.V_mono (Kd.V_far (p := ⟨gb132, 6, none⟩) (Kd.V_far (p := ⟨gb132, 5, none⟩) (Kd.V_far (p := ⟨gb132, 4, none⟩) (Kd.V_far (p := ⟨gb132, 3, none⟩) (Kd.V_far (p := ⟨gb132, 2, none⟩) (Kd.V_far (p := ⟨gb132, 1, none⟩) (Kd.V_far (p := ⟨gb132, 0, none⟩) (Kd.V_mono HO0.out (fun k_ hk => (⟨hk, hk.2⟩ : _ ∧ k_ ≠ gb132))) (fun _ hk => hk.2) (.string a1)) (fun _ hk => hk.2) (.string a2)) (fun _ hk => hk.2) (.string a3)) (fun _ hk => hk.2) (.int .i64 1)) (fun _ hk => hk.2) (.int .i64 0)) (fun _ hk => hk.2) (.int .i64 0)) (fun _ hk => hk.2) (.slice none 0 0)) (fun _ h_ => h_.1))) hb); have n1_ := Aside0.mk (blk_below (g := gb132) (o := .cells #[.string a1, .string a2, .string a3, .int .i64 1, .int .i64 0, .int .i64 0, .slice none 0 0] 28 (0, 0)) (by (with_reducible repeat (first | refine blk_drewN ?_ _ | refine blk_drew ?_ | refine blk_alloc ?_ _)); refine blk_put (cs := #[.string a1, .string a2, .string a3, .int .i64 1, .int .i64 0, .int .i64 0, .slice none 0 0]) ?_ 6 _ rfl; (with_reducible repeat (first | refine blk_drewN ?_ _ | refine blk_drew ?_ | refine blk_alloc ?_ _)); refine blk_put (cs := #[.string a1, .string a2, .string a3, .int .i64 1, .int .i64 0, .int .i64 0, .slice none 0 0]) ?_ 5 _ rfl; (with_reducible repeat (first | refine blk_drewN ?_ _ | refine blk_drew ?_ | refine blk_alloc ?_ _)); refine blk_put (cs := #[.string a1, .string a2, .string a3, .int .i64 1, .int .i64 0, .int .i64 0, .slice none 0 0]) ?_ 4 _ rfl; (with_reducible repeat (first | refine blk_drewN ?_ _ | refine blk_drew ?_ | refine blk_alloc ?_ _)); refine blk_put (cs := #[.string a1, .string a2, .string a3, .int .i64 0, .int .i64 0, .int .i64 0, .slice none 0 0]) ?_ 3 _ rfl; (with_reducible repeat (first | refine blk_drewN ?_ _ | refine blk_drew ?_ | refine blk_alloc ?_ _)); refine blk_put (cs := #[.string a1, .string a2, .string (⟨#[]⟩ : ByteArray), .int .i64 0, .int .i64 0, .int .i64 0, .slice none 0 0]) ?_ 2 _ rfl; (with_reducible repeat (first | refine blk_drewN ?_ _ | refine blk_drew ?_ | refine blk_alloc ?_ _)); refine blk_put (cs := #[.string a1, .string (⟨#[]⟩ : ByteArray), .string (⟨#[]⟩ : ByteArray), .int .i64 0, .int .i64 0, .int .i64 0, .slice none 0 0]) ?_ 1 _ rfl; (with_reducible repeat (first | refine blk_drewN ?_ _ | refine blk_drew ?_ | refine blk_alloc ?_ _)); refine blk_put (cs := #[.string (⟨#[]⟩ : ByteArray), .string (⟨#[]⟩ : ByteArray), .string (⟨#[]⟩ : ByteArray), .int .i64 0, .int .i64 0, .int .i64 0, .slice none 0 0]) ?_ 0 _ rfl; (with_reducible repeat (first | refine blk_drewN ?_ _ | refine blk_drew ?_ | refine blk_alloc ?_ _)); exact BK132.out) hb); have n2_ := Aside0.mk (below_step (by repeat (first | (with_reducible first | exact HB.out | apply below_alloc | apply pw_below_drewN | apply below_drew1 | refine below_set ?_ GE132.out) | exact HB.out)) hb); clear HO0; clear BK132; clear HB; have HO0 := n0_; have BK132 := n1_; have HB := n2_; clear n0_ n1_ n2_; (try clear hb); (try clear hb2); (try clear hk); (try clear hi)))
    go_ret3
    exact ⟨_, by first | rfl | (simp [errW_none, errW_some] <;> rfl) | (simp [*, errW_none, errW_some] <;> rfl), by (with_reducible repeat (first | apply Kd.V_alloc | apply Kd.V_drewN | apply Kd.V_drew)); exact Kd.V_mono HO0.out (fun _ hk => hk.1), by repeat (first | (with_reducible first | exact HB.out | apply below_alloc | apply pw_below_drewN | apply below_drew1 | refine below_set ?_ GE132.out) | exact HB.out)⟩

/-! ### sojournref16_Duties: function 11 -/
def sojournref16_Duties.f (l0 : List (S71)) : Option ((List (S71))) := if ([] : List (S71)).length + l0.length < 8796093022208 then (some (([] : List (S71)) ++ l0)) else (none)
set_option maxHeartbeats 8000000 in
set_option maxRecDepth 100000 in
theorem sojournref16_Duties.calls (A0 : Option Addr) (c0 : Nat) (l0 : List (S71)) (r : List (S71)) (w : World) (hr0 : Kd.C k71 w A0 l0.length l0) (hc0 : l0.length ≤ c0) (h : sojournref16_Duties.f l0 = some r) :
    Calls Try.prog 11 #[.slice A0 l0.length c0] w fun e w' => ∃ v0_ : Value, e = .returned (v0_) ∧ Kd.R k71 71 w' w.heap.size (fun _ => True) v0_ r ∧ Below w.heap.size w w' := by
  have HR0 := Aside0.mk hr0
  have HC0 := Aside0.mk hc0
  clear hr0 hc0
  have HB := Aside0.mk (Below.refl w.heap.size w)
  have H : (if ([] : List (S71)).length + l0.length < 8796093022208 then (some (([] : List (S71)) ++ l0)) else (none)) = some r := h
  clear h
  by_cases c2 : ([] : List (S71)).length + l0.length < 8796093022208
  · rw [if_pos c2] at H
    have LMc2 := Aside0.mk c2
    clear c2
    obtain ⟨y140, hy140⟩ : ∃ y_ : List (S71), y_ = (([] : List (S71)) ++ l0) := ⟨_, rfl⟩
    replace H : (some y140) = some r := by first | (rw [hy140]; with_reducible exact H) | (have H2_ := (Option.bind_some _ _).symm.trans H; rw [hy140]; with_reducible exact H2_) | (have H2_ := (Option.bind_some _ _).symm.trans H; with_reducible exact H2_) | with_reducible exact H | (rw [hy140]; exact H) | exact H
    have Ny140 := Aside0.mk hy140
    clear hy140
    obtain rfl := Option.some.inj H
    go_enter Try.func11, Try.ntmps11
    go_wp2_with (first | ((with_reducible refine gate_builtin (b := .append) (xs := #[.tmp 4, .tmp 5]) rfl ?_); at_builtin; refine Kd.R_append_rows k71 (w0 := w) w.heap.size rfl (.tmp 4) (.tmp 5) 22 71 (.agg #[(.int .i64 0), (.bool false)]) 16 rfl Try.underlying22 info71 rfl (by decide) (by omega) (.slice none 0 0) ([] : List (S71)) l0 _ _ _ (fun _ => True) (fun _ => False) rfl rfl ?aO ?aR (fun _ _ h => h) (fun _ h => h.elim) ?aF ?aB ?aS ?aL ?_; (case aR => repeat (first | exact HR0.out | (with_reducible refine Kd.C_alloc ?_ _) | (with_reducible refine Kd.C_drewN ?_ _) | (with_reducible refine Kd.C_drew ?_))); (case aB => exact (by repeat (first | (with_reducible first | exact HB.out | apply below_alloc | apply pw_below_drewN | apply below_drew1) | exact HB.out))); (case aF => exact (fun _ _ => trivial)); (case aO => exact ((Kd.R_nil _ _ _ _ (fun _ => True)))); (case aS => exact (below_size (by repeat (first | (with_reducible first | exact HB.out | apply below_alloc | apply pw_below_drewN | apply below_drew1) | exact HB.out)))); (case aL => have := LMc2.out; omega); intro v141 w3 ho hb hg hat; rw [← Ny140.out] at ho; have n0_ := Aside0.mk (hb); have n1_ := Aside0.mk (ho); clear HB; have HB := n0_; have HO142 := n1_; clear n0_ n1_; clear ho hb hg hat))
    go_ret
    exact ⟨_, by first | rfl | (simp [errW_none, errW_some] <;> rfl) | (simp [*, errW_none, errW_some] <;> rfl), by (with_reducible repeat (first | apply Kd.R_alloc | apply Kd.R_drewN | apply Kd.R_drew)); exact HO142.out, by repeat (first | (with_reducible first | exact HB.out | apply below_alloc | apply pw_below_drewN | apply below_drew1) | exact HB.out)⟩
  · rw [if_neg c2] at H
    exact absurd H (by simp)

/-! ### sojournref16_From: function 59 -/
def sojournref16_From.f (a0 : Int) : Option (Int) := if a0 = 1 then (some 1) else (if a0 = 2 then (some 1) else (some 3))
set_option maxHeartbeats 8000000 in
set_option maxRecDepth 100000 in
theorem sojournref16_From.calls (a0 : Int) (r : Int) (w : World) (h : sojournref16_From.f a0 = some r) :
    Calls Try.prog 59 #[.int .i64 a0] w fun e w' => e = .returned (.int .i64 r) ∧ Drawn0 w w' := by
  have H : (if a0 = 1 then (some 1) else (if a0 = 2 then (some 1) else (some 3))) = some r := h
  clear h
  by_cases c2 : a0 = 1
  · rw [if_pos c2] at H
    have c2b0 : (a0 == 1) = true := beq_iff_eq.mpr c2
    have c2b1 : (a0 != 1) = false := bne_eq_false_iff_eq.mpr c2
    clear c2
    obtain rfl := Option.some.inj H
    go_enter Try.func59, Try.ntmps59
    go_wp2
    go_ret
    exact ⟨by first | rfl | (simp; done) | (simp [*]; done), by repeat (first | exact Drawn0.refl _ | apply Drawn0.step)⟩
  · rw [if_neg c2] at H
    have c2b0 : (a0 == 1) = false := beq_eq_false_iff_ne.mpr c2
    have c2b1 : (a0 != 1) = true := bne_iff_ne.mpr c2
    by_cases c3 : a0 = 2
    · rw [if_pos c3] at H
      have c3b0 : (a0 == 2) = true := beq_iff_eq.mpr c3
      have c3b1 : (a0 != 2) = false := bne_eq_false_iff_eq.mpr c3
      clear c3
      obtain rfl := Option.some.inj H
      go_enter Try.func59, Try.ntmps59
      go_wp2
      go_ret
      exact ⟨by first | rfl | (simp; done) | (simp [*]; done), by repeat (first | exact Drawn0.refl _ | apply Drawn0.step)⟩
    · rw [if_neg c3] at H
      have c3b0 : (a0 == 2) = false := beq_eq_false_iff_ne.mpr c3
      have c3b1 : (a0 != 2) = true := bne_iff_ne.mpr c3
      obtain rfl := Option.some.inj H
      go_enter Try.func59, Try.ntmps59
      go_wp2
      go_ret
      exact ⟨by first | rfl | (simp; done) | (simp [*]; done), by repeat (first | exact Drawn0.refl _ | apply Drawn0.step)⟩

/-! ### sojournref16_With: function 60 -/
def sojournref16_With.l0 : Nat → List (S28) → Int → List (S28) → Int → ByteArray → ByteArray → ByteArray → Int → Int → Int → List (S71) → Option ((List (S28)))
  | 0, _, _, _, _, _, _, _, _, _, _, _ => none
  | k + 1, x0, x1, x7, x8, x144000, x144001, x144002, x144003, x144004, x144005, x144006 => if x8 < (x0.length : Int) then (if x8 = (wrap64 (x1 - 1)) then (if x7.length < 1466015503701 then (sojournref16_With.l0 k x0 x1 (x7 ++ [(⟨x144000, x144001, x144002, x144003, x144004, x144005, x144006⟩ : S28)]) (wrap64 (x8 + 1)) x144000 x144001 x144002 x144003 x144004 x144005 x144006) else (none)) else (if 0 ≤ x8 then (if x7.length < 1466015503701 then (sojournref16_With.l0 k x0 x1 (x7 ++ [(⟨(rd_T28 x0 x8).f0, (rd_T28 x0 x8).f1, (rd_T28 x0 x8).f2, (rd_T28 x0 x8).f3, (rd_T28 x0 x8).f4, (rd_T28 x0 x8).f5, (rd_T28 x0 x8).f6⟩ : S28)]) (wrap64 (x8 + 1)) x144000 x144001 x144002 x144003 x144004 x144005 x144006) else (none)) else (none))) else (some x7)
def sojournref16_With.f (k : Nat) (l0 : List (S28)) (a1 : Int) (a2_0 : ByteArray) (a2_1 : ByteArray) (a2_2 : ByteArray) (a2_3 : Int) (a2_4 : Int) (a2_5 : Int) (l2_6 : List (S71)) : Option ((List (S28))) := sojournref16_With.l0 k l0 a1 ([] : List (S28)) 0 a2_0 a2_1 a2_2 a2_3 a2_4 a2_5 l2_6
theorem sojournref16_With.mono_l : ∀ k, (∀ y0 y1 y2 y3 y4 y5 y6 y7 y8 y9 y10, LeO (sojournref16_With.l0 k y0 y1 y2 y3 y4 y5 y6 y7 y8 y9 y10) (sojournref16_With.l0 (k + 1) y0 y1 y2 y3 y4 y5 y6 y7 y8 y9 y10))
  | 0 => fun _ _ _ _ _ _ _ _ _ _ _ r h => by simp [sojournref16_With.l0] at h
  | k + 1 => by
    have ih0 := sojournref16_With.mono_l k
    · intro y0 y1 y2 y3 y4 y5 y6 y7 y8 y9 y10
      unfold sojournref16_With.l0
      repeat' first
      | (with_reducible exact ih0 _ _ _ _ _ _ _ _ _ _ _)
      | (with_reducible exact LeO.refl _)
      | (with_reducible exact LeO.none _)
      | (with_reducible refine LeO.ite ?_ ?_)
      | (with_reducible refine LeO.bind ?_ (fun _ => ?_))
      | exact ih0 _ _ _ _ _ _ _ _ _ _ _
      | exact LeO.none _
      | refine LeO.ite ?_ ?_
      | refine LeO.bind ?_ (fun _ => ?_)
theorem sojournref16_With.mono : ∀ a0 a1 a2 a3 a4 a5 a6 a7 a8 k, LeO (sojournref16_With.f k a0 a1 a2 a3 a4 a5 a6 a7 a8) (sojournref16_With.f (k + 1) a0 a1 a2 a3 a4 a5 a6 a7 a8) := by
  intro a0 a1 a2 a3 a4 a5 a6 a7 a8 k
  have ih0 := sojournref16_With.mono_l k
  unfold sojournref16_With.f
  repeat' first
      | (with_reducible exact ih0 _ _ _ _ _ _ _ _ _ _ _)
      | (with_reducible exact LeO.refl _)
      | (with_reducible exact LeO.none _)
      | (with_reducible refine LeO.ite ?_ ?_)
      | (with_reducible refine LeO.bind ?_ (fun _ => ?_))
      | exact ih0 _ _ _ _ _ _ _ _ _ _ _
      | exact LeO.none _
      | refine LeO.ite ?_ ?_
      | refine LeO.bind ?_ (fun _ => ?_)
set_option maxHeartbeats 8000000 in
set_option maxRecDepth 100000 in
theorem sojournref16_With.calls (k : Nat) (P0_ : Nat → Prop) (A0 : Option Addr) (c0 : Nat) (l0 : List (S28)) (a1 : Int) (a2_0 : ByteArray) (a2_1 : ByteArray) (a2_2 : ByteArray) (a2_3 : Int) (a2_4 : Int) (a2_5 : Int) (P2_6_ : Nat → Prop) (A2_6 : Option Addr) (c2_6 : Nat) (l2_6 : List (S71)) (r : List (S28)) (w : World) (hs0 : Kd.V k28 28 w w.heap.size (fun k_ => P0_ k_) (.slice A0 l0.length c0) l0) (hs2_6 : Kd.V k71 71 w w.heap.size (fun k_ => P2_6_ k_) (.slice A2_6 l2_6.length c2_6) l2_6) (h : sojournref16_With.f k l0 a1 a2_0 a2_1 a2_2 a2_3 a2_4 a2_5 l2_6 = some r) :
    Calls Try.prog 60 #[.slice A0 l0.length c0, .int .i64 a1, .agg #[.string a2_0, .string a2_1, .string a2_2, .int .i64 a2_3, .int .i64 a2_4, .int .i64 a2_5, .slice A2_6 l2_6.length c2_6]] w fun e w' => ∃ v0_ : Value, e = .returned (v0_) ∧ Kd.N k28 28 w' w.heap.size (fun k_ => ((P0_ k_ ∨ P2_6_ k_) ∨ w.heap.size ≤ k_)) v0_ r ∧ Below w.heap.size w w' := by
  have hu28 := Try.underlying28
  have HO0 := Aside0.mk (show Kd.V k28 28 w w.heap.size (fun k_ => ((P0_ k_ ∨ P2_6_ k_) ∨ w.heap.size ≤ k_)) (.slice A0 l0.length c0) l0 from Kd.V_mono hs0 (fun k_ hk => .inl (.inl hk)))
  have HO2_6 := Aside0.mk (show Kd.V k71 71 w w.heap.size (fun k_ => ((P0_ k_ ∨ P2_6_ k_) ∨ w.heap.size ≤ k_)) (.slice A2_6 l2_6.length c2_6) l2_6 from Kd.V_mono hs2_6 (fun k_ hk => .inl (.inr hk)))
  have HB := Aside0.mk (Below.refl w.heap.size w)
  have H : (sojournref16_With.l0 k l0 a1 ([] : List (S28)) 0 a2_0 a2_1 a2_2 a2_3 a2_4 a2_5 l2_6) = some r := h
  clear h
  have H' := Aside0.mk H
  clear H
  go_enter Try.func60, Try.ntmps60
  go_wp2_with (first | ((with_reducible refine gate_dst (N := 5) rfl ?_); refine box_event ?hg (N := 5) ?hd (cs := #[.string a2_0, .string a2_1, .string a2_2, .int .i64 a2_3, .int .i64 a2_4, .int .i64 a2_5, .slice A2_6 l2_6.length c2_6]) (t := 28) ?hr ?_; (case hd => rfl); (case hg => rfl); (case hr => first | (go_simp; done) | (go_simp; rfl)); intro gb143 hg w4 hbox hb; have n0_ := Aside0.mk (Kd.V_below (Kd.V_elderB (by (with_reducible repeat (first | apply Kd.V_alloc | apply Kd.V_drewN | apply Kd.V_drew)); exact HO0.out) gb143 (Nat.le_of_eq hg.symm)) hb); have n1_ := Aside0.mk (Kd.V_below (Kd.V_elderB (by (with_reducible repeat (first | apply Kd.V_alloc | apply Kd.V_drewN | apply Kd.V_drew)); exact HO2_6.out) gb143 (Nat.le_of_eq hg.symm)) hb); have n2_ := Aside0.mk (below_step (by repeat (first | (with_reducible first | exact HB.out | apply below_alloc | apply pw_below_drewN | apply below_drew1) | exact HB.out)) hb); have n3_ := Aside0.mk (hbox); have n4_ := Aside0.mk ((by rw [hg]; exact (below_size (by repeat (first | (with_reducible first | exact HB.out | apply below_alloc | apply pw_below_drewN | apply below_drew1) | exact HB.out))) : w.heap.size ≤ gb143)); have n5_ := Aside0.mk ((by rw [hg]; exact (below_size (by repeat (first | (with_reducible first | exact HB.out | apply below_alloc | apply pw_below_drewN | apply below_drew1) | exact HB.out))) : w.heap.size ≤ gb143)); clear HO0; clear HO2_6; clear HB; have HO0 := n0_; have HO2_6 := n1_; have HB := n2_; have BK143 := n3_; have GW143 := n4_; have GE143 := n5_; clear n0_ n1_ n2_ n3_ n4_ n5_; clear hb hbox hg))
  go_loopg [7, 8] k (fun kq v7 v8 w' => ∃ (x7_1 : List (S28)) (x8_1 : Int), v8 = .int .i64 x8_1 ∧ Aside0 (sojournref16_With.l0 kq l0 a1 x7_1 x8_1 a2_0 a2_1 a2_2 a2_3 a2_4 a2_5 l2_6 = some r) ∧ Aside0 (kq ≤ k) ∧ Aside0 (Kd.V k28 28 w' w.heap.size (fun k_ => ((P0_ k_ ∨ P2_6_ k_) ∨ w.heap.size ≤ k_) ∧ some k_ ≠ (v7 : Value).ownBlock ∧ k_ ≠ gb143) (.slice A0 l0.length c0) l0) ∧ Aside0 (Kd.N k28 28 w' w.heap.size (fun k_ => ((P0_ k_ ∨ P2_6_ k_) ∨ w.heap.size ≤ k_) ∧ k_ ≠ gb143) v7 x7_1) ∧ Aside0 (Kd.V k71 71 w' w.heap.size (fun k_ => ((P0_ k_ ∨ P2_6_ k_) ∨ w.heap.size ≤ k_) ∧ some k_ ≠ (v7 : Value).ownBlock ∧ k_ ≠ gb143) (.slice A2_6 l2_6.length c2_6) l2_6) ∧ Aside0 (w'.heap[gb143]? = some (.cells #[.string a2_0, .string a2_1, .string a2_2, .int .i64 a2_3, .int .i64 a2_4, .int .i64 a2_5, (.slice A2_6 l2_6.length c2_6)] 28 (0, 0))) ∧ Aside0 (Below w.heap.size w w'))
  case atStart => exact ⟨(([] : List (S28))), (0), (by first | rfl | (simp; done) | (simp [*]; done)), H', ⟨Nat.le_refl _⟩, ⟨by (with_reducible repeat (first | apply Kd.V_alloc | apply Kd.V_drewN | apply Kd.V_drew)); exact Kd.V_mono HO0.out (fun _ hk => ⟨hk.1, ⟨(by simp [Value.ownBlock]), hk.2⟩⟩)⟩, ⟨by first | exact Kd.S_nil _ _ _ _ _ | exact Kd.N_nil _ _ _ _ _ | exact Kd.V_nil _ _ _ _ _ | exact Kd.Q_nil _ _ _ _ _ | exact Kd.R_nil _ _ _ _ _⟩, ⟨by (with_reducible repeat (first | apply Kd.V_alloc | apply Kd.V_drewN | apply Kd.V_drew)); exact Kd.V_mono HO2_6.out (fun _ hk => ⟨hk.1, ⟨(by simp [Value.ownBlock]), hk.2⟩⟩)⟩, ⟨by (with_reducible repeat (first | refine blk_drewN ?_ _ | refine blk_drew ?_ | refine blk_alloc ?_ _)); exact BK143.out⟩, ⟨by repeat (first | (with_reducible first | exact HB.out | apply below_alloc | apply pw_below_drewN | apply below_drew1 | refine below_set ?_ GE143.out) | exact HB.out)⟩⟩
  case round =>
    clear H'
    try clear c2
    try clear p2
    obtain ⟨x7_1, x8_1, rfl, HA, HK1, HO_0, HO_7, HO_144006, BK143, HB⟩ := hrel
    cases gk with
    | zero => exact absurd HA.out (by simp [sojournref16_With.l0])
    | succ k1 =>
      have H := HA.out
      clear HA
      simp only [sojournref16_With.l0] at H
      by_cases c5 : x8_1 < (l0.length : Int)
      · rw [if_pos c5] at H
        have c5b0 : decide (x8_1 < (l0.length : Int)) = true := decide_eq_true c5
        clear c5
        by_cases c6 : x8_1 = (wrap64 (a1 - 1))
        · rw [if_pos c6] at H
          have c6b0 : (x8_1 == (wrap64 (a1 - 1))) = true := beq_iff_eq.mpr c6
          have c6b1 : (x8_1 != (wrap64 (a1 - 1))) = false := bne_eq_false_iff_eq.mpr c6
          clear c6
          by_cases c7 : x7_1.length < 1466015503701
          · rw [if_pos c7] at H
            have LMc7 := Aside0.mk c7
            clear c7
            obtain ⟨y144, hy144⟩ : ∃ y_ : List (S28), y_ = (x7_1 ++ [(⟨a2_0, a2_1, a2_2, a2_3, a2_4, a2_5, l2_6⟩ : S28)]) := ⟨_, rfl⟩
            replace H : (sojournref16_With.l0 k1 l0 a1 y144 (wrap64 (x8_1 + 1)) a2_0 a2_1 a2_2 a2_3 a2_4 a2_5 l2_6) = some r := by first | (rw [hy144]; with_reducible exact H) | (have H2_ := (Option.bind_some _ _).symm.trans H; rw [hy144]; with_reducible exact H2_) | (have H2_ := (Option.bind_some _ _).symm.trans H; with_reducible exact H2_) | with_reducible exact H | (rw [hy144]; exact H) | exact H
            have Ny144 := Aside0.mk hy144
            clear hy144
            have H' := Aside0.mk H
            clear H
            have hcz8_0 : wr.cell? ⟨gb143, 0, none⟩ = some (.string a2_0) := (blk_cell BK143.out 0).trans rfl
            have hcz8_1 : wr.cell? ⟨gb143, 1, none⟩ = some (.string a2_1) := (blk_cell BK143.out 1).trans rfl
            have hcz8_2 : wr.cell? ⟨gb143, 2, none⟩ = some (.string a2_2) := (blk_cell BK143.out 2).trans rfl
            have hcz8_3 : wr.cell? ⟨gb143, 3, none⟩ = some (.int .i64 a2_3) := (blk_cell BK143.out 3).trans rfl
            have hcz8_4 : wr.cell? ⟨gb143, 4, none⟩ = some (.int .i64 a2_4) := (blk_cell BK143.out 4).trans rfl
            have hcz8_5 : wr.cell? ⟨gb143, 5, none⟩ = some (.int .i64 a2_5) := (blk_cell BK143.out 5).trans rfl
            have hcz8_6 : wr.cell? ⟨gb143, 6, none⟩ = some (.slice A2_6 l2_6.length c2_6) := (blk_cell BK143.out 6).trans rfl
            have hfz8_0 := blk_frozen BK143.out 0
            have hfz8_1 := blk_frozen BK143.out 1
            have hfz8_2 := blk_frozen BK143.out 2
            have hfz8_3 := blk_frozen BK143.out 3
            have hfz8_4 := blk_frozen BK143.out 4
            have hfz8_5 := blk_frozen BK143.out 5
            have hfz8_6 := blk_frozen BK143.out 6
            go_wp2_with (first | ((with_reducible refine gate_builtin (b := .append) (xs := #[.tmp 19, .tmp 21]) rfl ?_); at_builtin; refine Kd.N_append k28 (w0 := w) w.heap.size rfl (.tmp 19) (.tmp 21) 37 28 (.agg #[(.string ⟨#[]⟩), (.string ⟨#[]⟩), (.string ⟨#[]⟩), (.int .i64 0), (.int .i64 0), (.int .i64 0), (.slice none 0 0)]) 96 rfl Try.underlying37 info28 rfl (by decide) (by omega) u7 x7_1 (⟨a2_0, a2_1, a2_2, a2_3, a2_4, a2_5, l2_6⟩ : S28) [.string a2_0, .string a2_1, .string a2_2, .int .i64 a2_3, .int .i64 a2_4, .int .i64 a2_5, .slice A2_6 l2_6.length c2_6] (fun k_ => ((P0_ k_ ∨ P2_6_ k_) ∨ w.heap.size ≤ k_) ∧ k_ ≠ gb143) (fun k_ => ((fun k_ => ((P0_ k_ ∨ P2_6_ k_) ∨ w.heap.size ≤ k_) ∧ k_ ≠ gb143)) k_ ∧ some k_ ≠ (u7 : Value).ownBlock) rfl rfl ?aP (fun _ hk => hk) ?aF ?aO ?aB ?aS ?aL ?_; (case aP => exact (k28_mkF _ _ (⟨a2_0, a2_1, a2_2, a2_3, a2_4, a2_5, l2_6⟩ : S28) (Kd.V_reads' (Kd.V_mono (ok' := (fun k_ => ((fun k_ => ((P0_ k_ ∨ P2_6_ k_) ∨ w.heap.size ≤ k_) ∧ k_ ≠ gb143)) k_ ∧ some k_ ≠ (u7 : Value).ownBlock)) (HO_144006.out) (fun k_ hk => ⟨⟨hk.1, hk.2.2⟩, hk.2.1⟩))).2.1 (Kd.V_F (Kd.V_mono (ok' := (fun k_ => ((fun k_ => ((P0_ k_ ∨ P2_6_ k_) ∨ w.heap.size ≤ k_) ∧ k_ ≠ gb143)) k_ ∧ some k_ ≠ (u7 : Value).ownBlock)) (HO_144006.out) (fun k_ hk => ⟨⟨hk.1, hk.2.2⟩, hk.2.1⟩))))); (case aB => exact (by repeat (first | (with_reducible first | exact HB.out | apply below_alloc | apply pw_below_drewN | apply below_drew1 | refine below_set ?_ GE143.out) | exact HB.out))); (case aF => exact (fun k_ hk => ⟨(.inr (Nat.le_trans (below_size (by repeat (first | (with_reducible first | exact HB.out | apply below_alloc | apply pw_below_drewN | apply below_drew1 | refine below_set ?_ GE143.out) | exact HB.out))) hk)), Kd.freshB (g := gb143) (o := .cells #[.string a2_0, .string a2_1, .string a2_2, .int .i64 a2_3, .int .i64 a2_4, .int .i64 a2_5, .slice A2_6 l2_6.length c2_6] 28 (0, 0)) (by (with_reducible repeat (first | refine blk_drewN ?_ _ | refine blk_drew ?_ | refine blk_alloc ?_ _)); exact BK143.out) k_ hk⟩)); (case aO => exact (by (with_reducible repeat (first | apply Kd.N_alloc | apply Kd.N_drewN | apply Kd.N_drew)); exact HO_7.out)); (case aS => exact (below_size (by repeat (first | (with_reducible first | exact HB.out | apply below_alloc | apply pw_below_drewN | apply below_drew1 | refine below_set ?_ GE143.out) | exact HB.out)))); (case aL => have := LMc7.out; omega); intro v145 w9 ho hb hg hat; rw [← Ny144.out] at ho; have n0_ := Aside0.mk (Kd.V_afterv (ok := (fun k_ => ((P0_ k_ ∨ P2_6_ k_) ∨ w.heap.size ≤ k_) ∧ k_ ≠ gb143)) (by (with_reducible repeat (first | apply Kd.V_alloc | apply Kd.V_drewN | apply Kd.V_drew)); exact Kd.V_mono HO_0.out (fun _ hk => ⟨⟨hk.1, hk.2.2⟩, hk.2.1⟩)) hg hat); have n1_ := Aside0.mk (Kd.V_afterv (ok := (fun k_ => ((P0_ k_ ∨ P2_6_ k_) ∨ w.heap.size ≤ k_) ∧ k_ ≠ gb143)) (by (with_reducible repeat (first | apply Kd.V_alloc | apply Kd.V_drewN | apply Kd.V_drew)); exact Kd.V_mono HO_144006.out (fun _ hk => ⟨⟨hk.1, hk.2.2⟩, hk.2.1⟩)) hg hat); have n2_ := Aside0.mk (blk_grown (g := gb143) (o := .cells #[.string a2_0, .string a2_1, .string a2_2, .int .i64 a2_3, .int .i64 a2_4, .int .i64 a2_5, .slice A2_6 l2_6.length c2_6] 28 (0, 0)) (by (with_reducible repeat (first | refine blk_drewN ?_ _ | refine blk_drew ?_ | refine blk_alloc ?_ _)); exact BK143.out) hg (Kd.N_away HO_7.out (fun _ hk => hk.2))); have n3_ := Aside0.mk (hb); have n4_ := Aside0.mk (ho); clear HO_0; clear HO_144006; clear BK143; clear HB; clear HO_7; have HO_0 := n0_; have HO_144006 := n1_; have BK143 := n2_; have HB := n3_; have HO146 := n4_; clear n0_ n1_ n2_ n3_ n4_; clear ho hb hg hat))
            go_roundg k1
            case measure => have := HK1.out; omega
            case rel => exact ⟨(y144), (wrap64 (x8_1 + 1)), (by first | rfl | (simp; done) | (simp [*]; done)), H', ⟨by have := HK1.out; omega⟩, ⟨by (with_reducible repeat (first | apply Kd.V_alloc | apply Kd.V_drewN | apply Kd.V_drew)); exact Kd.V_mono HO_0.out (fun _ hk => ⟨hk.1.1, ⟨hk.2, hk.1.2⟩⟩)⟩, ⟨by (with_reducible repeat (first | apply Kd.N_alloc | apply Kd.N_drewN | apply Kd.N_drew)); exact HO146.out⟩, ⟨by (with_reducible repeat (first | apply Kd.V_alloc | apply Kd.V_drewN | apply Kd.V_drew)); exact Kd.V_mono HO_144006.out (fun _ hk => ⟨hk.1.1, ⟨hk.2, hk.1.2⟩⟩)⟩, ⟨by (with_reducible repeat (first | refine blk_drewN ?_ _ | refine blk_drew ?_ | refine blk_alloc ?_ _)); exact BK143.out⟩, ⟨by repeat (first | (with_reducible first | exact HB.out | apply below_alloc | apply pw_below_drewN | apply below_drew1 | refine below_set ?_ GE143.out) | exact HB.out)⟩⟩
          · rw [if_neg c7] at H
            exact absurd H (by simp)
        · rw [if_neg c6] at H
          have c6b0 : (x8_1 == (wrap64 (a1 - 1))) = false := beq_eq_false_iff_ne.mpr c6
          have c6b1 : (x8_1 != (wrap64 (a1 - 1))) = true := bne_iff_ne.mpr c6
          by_cases c10 : 0 ≤ x8_1
          · rw [if_pos c10] at H
            have c10b0 : decide (0 ≤ x8_1) = true := decide_eq_true c10
            clear c10
            by_cases c11 : x7_1.length < 1466015503701
            · rw [if_pos c11] at H
              have LMc11 := Aside0.mk c11
              clear c11
              obtain ⟨y148, hy148⟩ : ∃ y_ : List (S28), y_ = (x7_1 ++ [(⟨(rd_T28 l0 x8_1).f0, (rd_T28 l0 x8_1).f1, (rd_T28 l0 x8_1).f2, (rd_T28 l0 x8_1).f3, (rd_T28 l0 x8_1).f4, (rd_T28 l0 x8_1).f5, (rd_T28 l0 x8_1).f6⟩ : S28)]) := ⟨_, rfl⟩
              replace H : (sojournref16_With.l0 k1 l0 a1 y148 (wrap64 (x8_1 + 1)) a2_0 a2_1 a2_2 a2_3 a2_4 a2_5 l2_6) = some r := by first | (rw [hy148]; with_reducible exact H) | (have H2_ := (Option.bind_some _ _).symm.trans H; rw [hy148]; with_reducible exact H2_) | (have H2_ := (Option.bind_some _ _).symm.trans H; with_reducible exact H2_) | with_reducible exact H | (rw [hy148]; exact H) | exact H
              have Ny148 := Aside0.mk hy148
              clear hy148
              have H' := Aside0.mk H
              clear H
              have p147 : 0 ≤ (x8_1 : Int) := of_decide_eq_true (by first | (with_reducible assumption) | assumption)
              have q147 : x8_1 < (l0.length : Int) := of_decide_eq_true (by first | (with_reducible assumption) | assumption)
              obtain ⟨ad147, A147_6, c147_6, e147, hx147_0, hx147_1, hx147_2, hx147_3, hx147_4, hx147_5, hx147_6, hl147_6, hi147_6⟩ := at_T28 (Kd.V_reads' HO_0.out).2.2 x8_1 p147 q147
              cases e147
              obtain ⟨ce147, hce147, hMe147, hcc147⟩ := Kd.V_get HO_0.out z28 x8_1 p147 (by first | exact q147 | exact of_decide_eq_true (by first | (with_reducible assumption) | assumption) | (have e_ := (Kd.V_reads' HO_0.out).1; omega))
              obtain ⟨ua147_6, uc147_6, rfl, ul147_6, ge147_6⟩ := k28_openF hMe147
              have hv147_6 := hcc147 6 _ rfl
              rw [add_field _ _ 6 (by omega)] at hv147_6
              replace hv147_6 := Option.some.inj (hv147_6.symm.trans hx147_6)
              injection hv147_6 with hva_ hvn_ hvc_
              rw [hva_] at ge147_6
              rw [hvc_] at ul147_6
              have HL147_6 := Aside0.mk (show Kd.V k71 71 _ w.heap.size _ _ ((rd_T28 l0 x8_1).f6) from Kd.V_mk ul147_6 ge147_6)
              clear hva_ hvn_ hvc_ ge147_6 ul147_6
              clear hcc147 hce147
              have HR147_6 := Aside0.mk hi147_6
              have HC147_6 := Aside0.mk hl147_6
              clear hi147_6 hl147_6
              replace p147 := eq_true p147
              replace q147 := eq_true q147
              go_wp2_with (first | ((with_reducible refine gate_builtin (b := .append) (xs := #[.tmp 23, .tmp 28]) rfl ?_); at_builtin; refine Kd.N_append k28 (w0 := w) w.heap.size rfl (.tmp 23) (.tmp 28) 37 28 (.agg #[(.string ⟨#[]⟩), (.string ⟨#[]⟩), (.string ⟨#[]⟩), (.int .i64 0), (.int .i64 0), (.int .i64 0), (.slice none 0 0)]) 96 rfl Try.underlying37 info28 rfl (by decide) (by omega) u7 x7_1 (⟨(rd_T28 l0 x8_1).f0, (rd_T28 l0 x8_1).f1, (rd_T28 l0 x8_1).f2, (rd_T28 l0 x8_1).f3, (rd_T28 l0 x8_1).f4, (rd_T28 l0 x8_1).f5, (rd_T28 l0 x8_1).f6⟩ : S28) [.string ((rd_T28 l0 x8_1).f0), .string ((rd_T28 l0 x8_1).f1), .string ((rd_T28 l0 x8_1).f2), .int .i64 ((rd_T28 l0 x8_1).f3), .int .i64 ((rd_T28 l0 x8_1).f4), .int .i64 ((rd_T28 l0 x8_1).f5), .slice A147_6 ((rd_T28 l0 x8_1).f6).length c147_6] (fun k_ => ((P0_ k_ ∨ P2_6_ k_) ∨ w.heap.size ≤ k_) ∧ k_ ≠ gb143) (fun k_ => ((fun k_ => ((P0_ k_ ∨ P2_6_ k_) ∨ w.heap.size ≤ k_) ∧ k_ ≠ gb143)) k_ ∧ some k_ ≠ (u7 : Value).ownBlock) rfl rfl ?aP (fun _ hk => hk) ?aF ?aO ?aB ?aS ?aL ?_; (case aP => exact (k28_mkF _ _ (⟨(rd_T28 l0 x8_1).f0, (rd_T28 l0 x8_1).f1, (rd_T28 l0 x8_1).f2, (rd_T28 l0 x8_1).f3, (rd_T28 l0 x8_1).f4, (rd_T28 l0 x8_1).f5, (rd_T28 l0 x8_1).f6⟩ : S28) (Kd.V_reads' (Kd.V_mono (ok' := (fun k_ => ((fun k_ => ((P0_ k_ ∨ P2_6_ k_) ∨ w.heap.size ≤ k_) ∧ k_ ≠ gb143)) k_ ∧ some k_ ≠ (u7 : Value).ownBlock)) (HL147_6.out) (fun k_ hk => ⟨⟨hk.1, hk.2.2⟩, hk.2.1⟩))).2.1 (Kd.V_F (Kd.V_mono (ok' := (fun k_ => ((fun k_ => ((P0_ k_ ∨ P2_6_ k_) ∨ w.heap.size ≤ k_) ∧ k_ ≠ gb143)) k_ ∧ some k_ ≠ (u7 : Value).ownBlock)) (HL147_6.out) (fun k_ hk => ⟨⟨hk.1, hk.2.2⟩, hk.2.1⟩))))); (case aB => exact (by repeat (first | (with_reducible first | exact HB.out | apply below_alloc | apply pw_below_drewN | apply below_drew1 | refine below_set ?_ GE143.out) | exact HB.out))); (case aF => exact (fun k_ hk => ⟨(.inr (Nat.le_trans (below_size (by repeat (first | (with_reducible first | exact HB.out | apply below_alloc | apply pw_below_drewN | apply below_drew1 | refine below_set ?_ GE143.out) | exact HB.out))) hk)), Kd.freshB (g := gb143) (o := .cells #[.string a2_0, .string a2_1, .string a2_2, .int .i64 a2_3, .int .i64 a2_4, .int .i64 a2_5, .slice A2_6 l2_6.length c2_6] 28 (0, 0)) (by (with_reducible repeat (first | refine blk_drewN ?_ _ | refine blk_drew ?_ | refine blk_alloc ?_ _)); exact BK143.out) k_ hk⟩)); (case aO => exact (by (with_reducible repeat (first | apply Kd.N_alloc | apply Kd.N_drewN | apply Kd.N_drew)); exact HO_7.out)); (case aS => exact (below_size (by repeat (first | (with_reducible first | exact HB.out | apply below_alloc | apply pw_below_drewN | apply below_drew1 | refine below_set ?_ GE143.out) | exact HB.out)))); (case aL => have := LMc11.out; omega); intro v149 w12 ho hb hg hat; rw [← Ny148.out] at ho; have n0_ := Aside0.mk (Kd.V_afterv (ok := (fun k_ => ((P0_ k_ ∨ P2_6_ k_) ∨ w.heap.size ≤ k_) ∧ k_ ≠ gb143)) (by (with_reducible repeat (first | apply Kd.V_alloc | apply Kd.V_drewN | apply Kd.V_drew)); exact Kd.V_mono HO_0.out (fun _ hk => ⟨⟨hk.1, hk.2.2⟩, hk.2.1⟩)) hg hat); have n1_ := Aside0.mk (Kd.V_afterv (ok := (fun k_ => ((P0_ k_ ∨ P2_6_ k_) ∨ w.heap.size ≤ k_) ∧ k_ ≠ gb143)) (by (with_reducible repeat (first | apply Kd.V_alloc | apply Kd.V_drewN | apply Kd.V_drew)); exact Kd.V_mono HO_144006.out (fun _ hk => ⟨⟨hk.1, hk.2.2⟩, hk.2.1⟩)) hg hat); have n2_ := Aside0.mk (blk_grown (g := gb143) (o := .cells #[.string a2_0, .string a2_1, .string a2_2, .int .i64 a2_3, .int .i64 a2_4, .int .i64 a2_5, .slice A2_6 l2_6.length c2_6] 28 (0, 0)) (by (with_reducible repeat (first | refine blk_drewN ?_ _ | refine blk_drew ?_ | refine blk_alloc ?_ _)); exact BK143.out) hg (Kd.N_away HO_7.out (fun _ hk => hk.2))); have n3_ := Aside0.mk (Kd.V_afterv (ok := (fun k_ => ((P0_ k_ ∨ P2_6_ k_) ∨ w.heap.size ≤ k_) ∧ k_ ≠ gb143)) (by (with_reducible repeat (first | apply Kd.V_alloc | apply Kd.V_drewN | apply Kd.V_drew)); exact Kd.V_mono HL147_6.out (fun _ hk => ⟨⟨hk.1, hk.2.2⟩, hk.2.1⟩)) hg hat); have n4_ := Aside0.mk (hb); have n5_ := Aside0.mk (ho); clear HO_0; clear HO_144006; clear BK143; clear HL147_6; clear HB; clear HO_7; have HO_0 := n0_; have HO_144006 := n1_; have BK143 := n2_; have HL147_6 := n3_; have HB := n4_; have HO150 := n5_; clear n0_ n1_ n2_ n3_ n4_ n5_; clear ho hb hg hat))
              go_roundg k1
              case measure => have := HK1.out; omega
              case rel => exact ⟨(y148), (wrap64 (x8_1 + 1)), (by first | rfl | (simp; done) | (simp [*]; done)), H', ⟨by have := HK1.out; omega⟩, ⟨by (with_reducible repeat (first | apply Kd.V_alloc | apply Kd.V_drewN | apply Kd.V_drew)); exact Kd.V_mono HO_0.out (fun _ hk => ⟨hk.1.1, ⟨hk.2, hk.1.2⟩⟩)⟩, ⟨by (with_reducible repeat (first | apply Kd.N_alloc | apply Kd.N_drewN | apply Kd.N_drew)); exact HO150.out⟩, ⟨by (with_reducible repeat (first | apply Kd.V_alloc | apply Kd.V_drewN | apply Kd.V_drew)); exact Kd.V_mono HO_144006.out (fun _ hk => ⟨hk.1.1, ⟨hk.2, hk.1.2⟩⟩)⟩, ⟨by (with_reducible repeat (first | refine blk_drewN ?_ _ | refine blk_drew ?_ | refine blk_alloc ?_ _)); exact BK143.out⟩, ⟨by repeat (first | (with_reducible first | exact HB.out | apply below_alloc | apply pw_below_drewN | apply below_drew1 | refine below_set ?_ GE143.out) | exact HB.out)⟩⟩
            · rw [if_neg c11] at H
              exact absurd H (by simp)
          · rw [if_neg c10] at H
            exact absurd H (by simp)
      · rw [if_neg c5] at H
        have c5b0 : decide (x8_1 < (l0.length : Int)) = false := decide_eq_false c5
        clear c5
        obtain rfl := Option.some.inj H
        go_wp2
        go_ret
        exact ⟨_, by first | rfl | (simp [errW_none, errW_some] <;> rfl) | (simp [*, errW_none, errW_some] <;> rfl), by (with_reducible repeat (first | apply Kd.N_alloc | apply Kd.N_drewN | apply Kd.N_drew)); exact Kd.N_mono HO_7.out (fun _ hk => hk.1), by repeat (first | (with_reducible first | exact HB.out | apply below_alloc | apply pw_below_drewN | apply below_drew1 | refine below_set ?_ GE143.out) | exact HB.out)⟩

-- NOT PRINTED: function 42 (sojournref16_Lead)

/-! ### sojournlaw16_ids: function 43 -/
def sojournlaw16_ids.l0 : Nat → List Int → List Int → Int → Int → Option (Bool)
  | 0, _, _, _, _ => none
  | k + 1, x0, x1, x12, x13 => if x13 < x12 then (if 0 ≤ x13 then (if x13 < (x0.length : Int) then (if x13 < (x1.length : Int) then (if (rd x0 x13) = (rd x1 x13) then (sojournlaw16_ids.l0 k x0 x1 x12 (wrap64 (x13 + 1))) else (some false)) else (none)) else (none)) else (none)) else (some true)
def sojournlaw16_ids.f (k : Nat) (l0 : List Int) (l1 : List Int) : Option (Bool) := if (l0.length : Int) = (l1.length : Int) then (sojournlaw16_ids.l0 k l0 l1 (l0.length : Int) 0) else (some false)
theorem sojournlaw16_ids.mono_l : ∀ k, (∀ y0 y1 y2 y3, LeO (sojournlaw16_ids.l0 k y0 y1 y2 y3) (sojournlaw16_ids.l0 (k + 1) y0 y1 y2 y3))
  | 0 => fun _ _ _ _ r h => by simp [sojournlaw16_ids.l0] at h
  | k + 1 => by
    have ih0 := sojournlaw16_ids.mono_l k
    · intro y0 y1 y2 y3
      unfold sojournlaw16_ids.l0
      repeat' first
      | (with_reducible exact ih0 _ _ _ _)
      | (with_reducible exact LeO.refl _)
      | (with_reducible exact LeO.none _)
      | (with_reducible refine LeO.ite ?_ ?_)
      | (with_reducible refine LeO.bind ?_ (fun _ => ?_))
      | exact ih0 _ _ _ _
      | exact LeO.none _
      | refine LeO.ite ?_ ?_
      | refine LeO.bind ?_ (fun _ => ?_)
theorem sojournlaw16_ids.mono : ∀ a0 a1 k, LeO (sojournlaw16_ids.f k a0 a1) (sojournlaw16_ids.f (k + 1) a0 a1) := by
  intro a0 a1 k
  have ih0 := sojournlaw16_ids.mono_l k
  unfold sojournlaw16_ids.f
  repeat' first
      | (with_reducible exact ih0 _ _ _ _)
      | (with_reducible exact LeO.refl _)
      | (with_reducible exact LeO.none _)
      | (with_reducible refine LeO.ite ?_ ?_)
      | (with_reducible refine LeO.bind ?_ (fun _ => ?_))
      | exact ih0 _ _ _ _
      | exact LeO.none _
      | refine LeO.ite ?_ ?_
      | refine LeO.bind ?_ (fun _ => ?_)
set_option maxHeartbeats 8000000 in
set_option maxRecDepth 100000 in
theorem sojournlaw16_ids.calls (k : Nat) (A0 : Option Addr) (c0 : Nat) (l0 : List Int) (A1 : Option Addr) (c1 : Nat) (l1 : List Int) (r : Bool) (w : World) (hr0 : Kd.C (Kd.int .i64) w A0 l0.length l0) (hc0 : l0.length ≤ c0) (hr1 : Kd.C (Kd.int .i64) w A1 l1.length l1) (hc1 : l1.length ≤ c1) (h : sojournlaw16_ids.f k l0 l1 = some r) :
    Calls Try.prog 43 #[.slice A0 l0.length c0, .slice A1 l1.length c1] w fun e w' => e = .returned (.bool r) ∧ Drawn0 w w' := by
  have HR0 := Aside0.mk hr0
  have HC0 := Aside0.mk hc0
  clear hr0 hc0
  have HR1 := Aside0.mk hr1
  have HC1 := Aside0.mk hc1
  clear hr1 hc1
  have H : (if (l0.length : Int) = (l1.length : Int) then (sojournlaw16_ids.l0 k l0 l1 (l0.length : Int) 0) else (some false)) = some r := h
  clear h
  by_cases c3 : (l0.length : Int) = (l1.length : Int)
  · rw [if_pos c3] at H
    have c3b0 : ((l0.length : Int) == (l1.length : Int)) = true := beq_iff_eq.mpr c3
    have c3b1 : ((l0.length : Int) != (l1.length : Int)) = false := bne_eq_false_iff_eq.mpr c3
    have c3b2 : (l0.length == l1.length) = true := by first | simpa using c3 | (simp at c3 ⊢; omega)
    clear c3
    have H' := Aside0.mk H
    clear H
    go_enter Try.func43, Try.ntmps43
    go_wp2
    repeat (go_quiet (fail); try go_wp2)
    go_loopg [13] k (fun kq v13 w' => ∃ (x13_1 : Int), v13 = .int .i64 x13_1 ∧ Aside0 (sojournlaw16_ids.l0 kq l0 l1 (l0.length : Int) x13_1 = some r) ∧ Aside0 (kq ≤ k) ∧ Drawn0 w w')
    case atStart => exact ⟨(0), (by first | rfl | (simp; done) | (simp [*]; done)), H', ⟨Nat.le_refl _⟩, by repeat (first | exact Drawn0.refl _ | apply Drawn0.step)⟩
    case round =>
      clear H'
      try clear c1
      try clear p2
      try clear c3
      try clear c3b0
      try clear c3b1
      try clear c3b2
      obtain ⟨x13_1, rfl, HA, HK1, ⟨m1, rfl⟩⟩ := hrel
      cases gk with
      | zero => exact absurd HA.out (by simp [sojournlaw16_ids.l0])
      | succ k1 =>
        have H := HA.out
        clear HA
        simp only [sojournlaw16_ids.l0] at H
        by_cases c4 : x13_1 < (l0.length : Int)
        · rw [if_pos c4] at H
          have c4b0 : decide (x13_1 < (l0.length : Int)) = true := decide_eq_true c4
          clear c4
          by_cases c5 : 0 ≤ x13_1
          · rw [if_pos c5] at H
            have c5b0 : decide (0 ≤ x13_1) = true := decide_eq_true c5
            clear c5
            by_cases c6 : x13_1 < (l0.length : Int)
            · rw [if_pos c6] at H
              have c6b0 : decide (x13_1 < (l0.length : Int)) = true := decide_eq_true c6
              clear c6
              by_cases c7 : x13_1 < (l1.length : Int)
              · rw [if_pos c7] at H
                have c7b0 : decide (x13_1 < (l1.length : Int)) = true := decide_eq_true c7
                clear c7
                by_cases c8 : (rd l0 x13_1) = (rd l1 x13_1)
                · rw [if_pos c8] at H
                  have c8b0 : ((rd l0 x13_1) == (rd l1 x13_1)) = true := beq_iff_eq.mpr c8
                  have c8b1 : ((rd l0 x13_1) != (rd l1 x13_1)) = false := bne_eq_false_iff_eq.mpr c8
                  clear c8
                  have H' := Aside0.mk H
                  clear H
                  have p160 : 0 ≤ (x13_1 : Int) := of_decide_eq_true (by first | (with_reducible assumption) | assumption)
                  have q160 : x13_1 < (l0.length : Int) := of_decide_eq_true (by first | (with_reducible assumption) | assumption)
                  obtain ⟨ad160, e160, hx160_0⟩ := Kd.at_int HR0.out x13_1 p160 q160
                  cases e160
                  replace p160 := eq_true p160
                  replace q160 := eq_true q160
                  have p161 : 0 ≤ (x13_1 : Int) := of_decide_eq_true (by first | (with_reducible assumption) | assumption)
                  have q161 : x13_1 < (l1.length : Int) := of_decide_eq_true (by first | (with_reducible assumption) | assumption)
                  obtain ⟨ad161, e161, hx161_0⟩ := Kd.at_int HR1.out x13_1 p161 q161
                  cases e161
                  replace p161 := eq_true p161
                  replace q161 := eq_true q161
                  go_wp2
                  repeat (go_quiet (fail); try go_wp2)
                  go_roundg k1
                  case measure => have := HK1.out; omega
                  case rel => exact ⟨(wrap64 (x13_1 + 1)), (by first | rfl | (simp; done) | (simp [*]; done)), H', ⟨by have := HK1.out; omega⟩, by repeat (first | exact Drawn0.refl _ | apply Drawn0.step)⟩
                · rw [if_neg c8] at H
                  have c8b0 : ((rd l0 x13_1) == (rd l1 x13_1)) = false := beq_eq_false_iff_ne.mpr c8
                  have c8b1 : ((rd l0 x13_1) != (rd l1 x13_1)) = true := bne_iff_ne.mpr c8
                  obtain rfl := Option.some.inj H
                  have p160 : 0 ≤ (x13_1 : Int) := of_decide_eq_true (by first | (with_reducible assumption) | assumption)
                  have q160 : x13_1 < (l0.length : Int) := of_decide_eq_true (by first | (with_reducible assumption) | assumption)
                  obtain ⟨ad160, e160, hx160_0⟩ := Kd.at_int HR0.out x13_1 p160 q160
                  cases e160
                  replace p160 := eq_true p160
                  replace q160 := eq_true q160
                  have p161 : 0 ≤ (x13_1 : Int) := of_decide_eq_true (by first | (with_reducible assumption) | assumption)
                  have q161 : x13_1 < (l1.length : Int) := of_decide_eq_true (by first | (with_reducible assumption) | assumption)
                  obtain ⟨ad161, e161, hx161_0⟩ := Kd.at_int HR1.out x13_1 p161 q161
                  cases e161
                  replace p161 := eq_true p161
                  replace q161 := eq_true q161
                  go_wp2
                  repeat (go_quiet (fail); try go_wp2)
                  go_ret
                  exact ⟨by first | rfl | (simp; done) | (simp [*]; done), by repeat (first | exact Drawn0.refl _ | apply Drawn0.step)⟩
              · rw [if_neg c7] at H
                exact absurd H (by simp)
            · rw [if_neg c6] at H
              exact absurd H (by simp)
          · rw [if_neg c5] at H
            exact absurd H (by simp)
        · rw [if_neg c4] at H
          have c4b0 : decide (x13_1 < (l0.length : Int)) = false := decide_eq_false c4
          clear c4
          obtain rfl := Option.some.inj H
          go_wp2
          repeat (go_quiet (fail); try go_wp2)
          go_ret
          exact ⟨by first | rfl | (simp; done) | (simp [*]; done), by repeat (first | exact Drawn0.refl _ | apply Drawn0.step)⟩
  · rw [if_neg c3] at H
    have c3b0 : ((l0.length : Int) == (l1.length : Int)) = false := beq_eq_false_iff_ne.mpr c3
    have c3b1 : ((l0.length : Int) != (l1.length : Int)) = true := bne_iff_ne.mpr c3
    have c3b2 : (l0.length == l1.length) = false := by first | simpa using c3 | (simp at c3 ⊢; omega)
    obtain rfl := Option.some.inj H
    go_enter Try.func43, Try.ntmps43
    go_wp2
    repeat (go_quiet (fail); try go_wp2)
    go_ret
    exact ⟨by first | rfl | (simp; done) | (simp [*]; done), by repeat (first | exact Drawn0.refl _ | apply Drawn0.step)⟩

/-! ### sojournref16_In: function 44 -/
def sojournref16_In.l0 : Nat → List (S28) → Int → List Int → Int → Option (List Int)
  | 0, _, _, _, _ => none
  | k + 1, x0, x1, x5, x6 => if x6 < (x0.length : Int) then (if 0 ≤ x6 then (if ((rd_T28 x0 x6).f3) = x1 then (if x5.length < 17592186044416 then (sojournref16_In.l0 k x0 x1 (x5 ++ [wrap64 (x6 + 1)]) (wrap64 (x6 + 1))) else (none)) else (sojournref16_In.l0 k x0 x1 x5 (wrap64 (x6 + 1)))) else (none)) else (some x5)
def sojournref16_In.f (k : Nat) (l0 : List (S28)) (a1 : Int) : Option (List Int) := sojournref16_In.l0 k l0 a1 ([] : List Int) 0
theorem sojournref16_In.mono_l : ∀ k, (∀ y0 y1 y2 y3, LeO (sojournref16_In.l0 k y0 y1 y2 y3) (sojournref16_In.l0 (k + 1) y0 y1 y2 y3))
  | 0 => fun _ _ _ _ r h => by simp [sojournref16_In.l0] at h
  | k + 1 => by
    have ih0 := sojournref16_In.mono_l k
    · intro y0 y1 y2 y3
      unfold sojournref16_In.l0
      repeat' first
      | (with_reducible exact ih0 _ _ _ _)
      | (with_reducible exact LeO.refl _)
      | (with_reducible exact LeO.none _)
      | (with_reducible refine LeO.ite ?_ ?_)
      | (with_reducible refine LeO.bind ?_ (fun _ => ?_))
      | exact ih0 _ _ _ _
      | exact LeO.none _
      | refine LeO.ite ?_ ?_
      | refine LeO.bind ?_ (fun _ => ?_)
theorem sojournref16_In.mono : ∀ a0 a1 k, LeO (sojournref16_In.f k a0 a1) (sojournref16_In.f (k + 1) a0 a1) := by
  intro a0 a1 k
  have ih0 := sojournref16_In.mono_l k
  unfold sojournref16_In.f
  repeat' first
      | (with_reducible exact ih0 _ _ _ _)
      | (with_reducible exact LeO.refl _)
      | (with_reducible exact LeO.none _)
      | (with_reducible refine LeO.ite ?_ ?_)
      | (with_reducible refine LeO.bind ?_ (fun _ => ?_))
      | exact ih0 _ _ _ _
      | exact LeO.none _
      | refine LeO.ite ?_ ?_
      | refine LeO.bind ?_ (fun _ => ?_)
set_option maxHeartbeats 8000000 in
set_option maxRecDepth 100000 in
theorem sojournref16_In.calls (k : Nat) (A0 : Option Addr) (c0 : Nat) (l0 : List (S28)) (a1 : Int) (r : List Int) (w : World) (hr0 : Kd.C k28 w A0 l0.length l0) (hc0 : l0.length ≤ c0) (h : sojournref16_In.f k l0 a1 = some r) :
    Calls Try.prog 44 #[.slice A0 l0.length c0, .int .i64 a1] w fun e w' => ∃ v0_ : Value, e = .returned (v0_) ∧ Kd.R (Kd.int .i64) 3 w' w.heap.size (fun _ => True) v0_ r ∧ Below w.heap.size w w' := by
  have HR0 := Aside0.mk hr0
  have HC0 := Aside0.mk hc0
  clear hr0 hc0
  have HB := Aside0.mk (Below.refl w.heap.size w)
  have H : (sojournref16_In.l0 k l0 a1 ([] : List Int) 0) = some r := h
  clear h
  have H' := Aside0.mk H
  clear H
  go_enter Try.func44, Try.ntmps44
  go_wp2
  go_loopg [5, 6] k (fun kq v5 v6 w' => ∃ (x5_1 : List Int) (x6_1 : Int), v6 = .int .i64 x6_1 ∧ Aside0 (sojournref16_In.l0 kq l0 a1 x5_1 x6_1 = some r) ∧ Aside0 (kq ≤ k) ∧ Aside0 (Kd.R (Kd.int .i64) 3 w' w.heap.size (fun _ => True) v5 x5_1) ∧ Aside0 (Below w.heap.size w w'))
  case atStart => exact ⟨(([] : List Int)), (0), (by first | rfl | (simp; done) | (simp [*]; done)), H', ⟨Nat.le_refl _⟩, ⟨by first | exact Kd.R_nil _ _ _ _ _ | exact Kd.N_nil _ _ _ _ _ | exact Kd.V_nil _ _ _ _ _ | exact Kd.Q_nil _ _ _ _ _ | exact Kd.S_nil _ _ _ _ _⟩, ⟨by repeat (first | (with_reducible first | exact HB.out | apply below_alloc | apply pw_below_drewN | apply below_drew1) | exact HB.out)⟩⟩
  case round =>
    clear H'
    try clear p2
    obtain ⟨x5_1, x6_1, rfl, HA, HK1, HO_5, HB⟩ := hrel
    cases gk with
    | zero => exact absurd HA.out (by simp [sojournref16_In.l0])
    | succ k1 =>
      have H := HA.out
      clear HA
      simp only [sojournref16_In.l0] at H
      by_cases c3 : x6_1 < (l0.length : Int)
      · rw [if_pos c3] at H
        have c3b0 : decide (x6_1 < (l0.length : Int)) = true := decide_eq_true c3
        clear c3
        by_cases c4 : 0 ≤ x6_1
        · rw [if_pos c4] at H
          have c4b0 : decide (0 ≤ x6_1) = true := decide_eq_true c4
          clear c4
          by_cases c5 : ((rd_T28 l0 x6_1).f3) = a1
          · rw [if_pos c5] at H
            have c5b0 : (((rd_T28 l0 x6_1).f3) == a1) = true := beq_iff_eq.mpr c5
            have c5b1 : (((rd_T28 l0 x6_1).f3) != a1) = false := bne_eq_false_iff_eq.mpr c5
            clear c5
            by_cases c6 : x5_1.length < 17592186044416
            · rw [if_pos c6] at H
              have LMc6 := Aside0.mk c6
              clear c6
              obtain ⟨y163, hy163⟩ : ∃ y_ : List Int, y_ = (x5_1 ++ [wrap64 (x6_1 + 1)]) := ⟨_, rfl⟩
              replace H : (sojournref16_In.l0 k1 l0 a1 y163 (wrap64 (x6_1 + 1))) = some r := by first | (rw [hy163]; with_reducible exact H) | (have H2_ := (Option.bind_some _ _).symm.trans H; rw [hy163]; with_reducible exact H2_) | (have H2_ := (Option.bind_some _ _).symm.trans H; with_reducible exact H2_) | with_reducible exact H | (rw [hy163]; exact H) | exact H
              have Ny163 := Aside0.mk hy163
              clear hy163
              have H' := Aside0.mk H
              clear H
              have p162 : 0 ≤ (x6_1 : Int) := of_decide_eq_true (by first | (with_reducible assumption) | assumption)
              have q162 : x6_1 < (l0.length : Int) := of_decide_eq_true (by first | (with_reducible assumption) | assumption)
              obtain ⟨ad162, A162_6, c162_6, e162, hx162_0, hx162_1, hx162_2, hx162_3, hx162_4, hx162_5, hx162_6, hl162_6, hi162_6⟩ := at_T28 HR0.out x6_1 p162 q162
              cases e162
              replace hx162_0 := (HB.out.cell (World.block_lt_of_cell? w _ hx162_0)).trans hx162_0
              replace hx162_1 := (HB.out.cell (World.block_lt_of_cell? w _ hx162_1)).trans hx162_1
              replace hx162_2 := (HB.out.cell (World.block_lt_of_cell? w _ hx162_2)).trans hx162_2
              replace hx162_3 := (HB.out.cell (World.block_lt_of_cell? w _ hx162_3)).trans hx162_3
              replace hx162_4 := (HB.out.cell (World.block_lt_of_cell? w _ hx162_4)).trans hx162_4
              replace hx162_5 := (HB.out.cell (World.block_lt_of_cell? w _ hx162_5)).trans hx162_5
              replace hx162_6 := (HB.out.cell (World.block_lt_of_cell? w _ hx162_6)).trans hx162_6
              have HR162_6 := Aside0.mk hi162_6
              have HC162_6 := Aside0.mk hl162_6
              clear hi162_6 hl162_6
              replace p162 := eq_true p162
              replace q162 := eq_true q162
              go_wp2_with (first | ((with_reducible refine gate_builtin (b := .append) (xs := #[.tmp 20, .tmp 23]) rfl ?_); at_builtin; refine Kd.R_append (Kd.int .i64) (w0 := w) w.heap.size rfl (.tmp 20) (.tmp 23) 48 3 (.int .i64 0) 8 rfl Try.underlying48 info3 rfl (by decide) (by omega) u5 x5_1 (wrap64 (x6_1 + 1)) [.int .i64 (wrap64 (x6_1 + 1))] (fun _ => True) (fun _ => False) rfl rfl ?aP (fun _ hk => hk.elim) ?aF ?aO ?aB ?aS ?aL ?_; (case aP => exact rfl); (case aB => exact (by repeat (first | (with_reducible first | exact HB.out | apply below_alloc | apply pw_below_drewN | apply below_drew1) | exact HB.out))); (case aF => exact (fun _ _ => trivial)); (case aO => exact (by (with_reducible repeat (first | apply Kd.R_alloc | apply Kd.R_drewN | apply Kd.R_drew)); exact HO_5.out)); (case aS => exact (below_size (by repeat (first | (with_reducible first | exact HB.out | apply below_alloc | apply pw_below_drewN | apply below_drew1) | exact HB.out)))); (case aL => have := LMc6.out; omega); intro v164 w7 ho hb hg hat; rw [← Ny163.out] at ho; have n0_ := Aside0.mk (hb); have n1_ := Aside0.mk (ho); clear HB; clear HO_5; have HB := n0_; have HO165 := n1_; clear n0_ n1_; clear ho hb hg hat))
              go_roundg k1
              case measure => have := HK1.out; omega
              case rel => exact ⟨(y163), (wrap64 (x6_1 + 1)), (by first | rfl | (simp; done) | (simp [*]; done)), H', ⟨by have := HK1.out; omega⟩, ⟨by (with_reducible repeat (first | apply Kd.R_alloc | apply Kd.R_drewN | apply Kd.R_drew)); exact HO165.out⟩, ⟨by repeat (first | (with_reducible first | exact HB.out | apply below_alloc | apply pw_below_drewN | apply below_drew1) | exact HB.out)⟩⟩
            · rw [if_neg c6] at H
              exact absurd H (by simp)
          · rw [if_neg c5] at H
            have c5b0 : (((rd_T28 l0 x6_1).f3) == a1) = false := beq_eq_false_iff_ne.mpr c5
            have c5b1 : (((rd_T28 l0 x6_1).f3) != a1) = true := bne_iff_ne.mpr c5
            have H' := Aside0.mk H
            clear H
            have p162 : 0 ≤ (x6_1 : Int) := of_decide_eq_true (by first | (with_reducible assumption) | assumption)
            have q162 : x6_1 < (l0.length : Int) := of_decide_eq_true (by first | (with_reducible assumption) | assumption)
            obtain ⟨ad162, A162_6, c162_6, e162, hx162_0, hx162_1, hx162_2, hx162_3, hx162_4, hx162_5, hx162_6, hl162_6, hi162_6⟩ := at_T28 HR0.out x6_1 p162 q162
            cases e162
            replace hx162_0 := (HB.out.cell (World.block_lt_of_cell? w _ hx162_0)).trans hx162_0
            replace hx162_1 := (HB.out.cell (World.block_lt_of_cell? w _ hx162_1)).trans hx162_1
            replace hx162_2 := (HB.out.cell (World.block_lt_of_cell? w _ hx162_2)).trans hx162_2
            replace hx162_3 := (HB.out.cell (World.block_lt_of_cell? w _ hx162_3)).trans hx162_3
            replace hx162_4 := (HB.out.cell (World.block_lt_of_cell? w _ hx162_4)).trans hx162_4
            replace hx162_5 := (HB.out.cell (World.block_lt_of_cell? w _ hx162_5)).trans hx162_5
            replace hx162_6 := (HB.out.cell (World.block_lt_of_cell? w _ hx162_6)).trans hx162_6
            have HR162_6 := Aside0.mk hi162_6
            have HC162_6 := Aside0.mk hl162_6
            clear hi162_6 hl162_6
            replace p162 := eq_true p162
            replace q162 := eq_true q162
            go_wp2
            go_roundg k1
            case measure => have := HK1.out; omega
            case rel => exact ⟨(x5_1), (wrap64 (x6_1 + 1)), (by first | rfl | (simp; done) | (simp [*]; done)), H', ⟨by have := HK1.out; omega⟩, ⟨by (with_reducible repeat (first | apply Kd.R_alloc | apply Kd.R_drewN | apply Kd.R_drew)); exact HO_5.out⟩, ⟨by repeat (first | (with_reducible first | exact HB.out | apply below_alloc | apply pw_below_drewN | apply below_drew1) | exact HB.out)⟩⟩
        · rw [if_neg c4] at H
          exact absurd H (by simp)
      · rw [if_neg c3] at H
        have c3b0 : decide (x6_1 < (l0.length : Int)) = false := decide_eq_false c3
        clear c3
        obtain rfl := Option.some.inj H
        go_wp2
        go_ret
        exact ⟨_, by first | rfl | (simp [errW_none, errW_some] <;> rfl) | (simp [*, errW_none, errW_some] <;> rfl), by (with_reducible repeat (first | apply Kd.R_alloc | apply Kd.R_drewN | apply Kd.R_drew)); exact HO_5.out, by repeat (first | (with_reducible first | exact HB.out | apply below_alloc | apply pw_below_drewN | apply below_drew1) | exact HB.out)⟩

-- NOT PRINTED: function 25 (sojournlaw16_step)

-- NOT PRINTED: function 26 (table_Table_Clone)

-- NOT PRINTED: function 24 (sojournlaw16_run)

-- NOT PRINTED: function 6 (sojournlaw16_TableAll)

/-! ### sojournlaw16_ahead: function 21 -/
def sojournlaw16_ahead.f (a0 : Int) (a1 : Int) : Option (Bool) := if a0 = a1 then (some true) else (if a0 = 1 then (if a1 = 2 then (some true) else (if a1 = 3 then (some true) else (if a0 = 3 then (if a1 = 4 then (some true) else (some (a1 == 5))) else (some false)))) else (if a0 = 3 then (if a1 = 4 then (some true) else (some (a1 == 5))) else (some false)))
set_option maxHeartbeats 8000000 in
set_option maxRecDepth 100000 in
theorem sojournlaw16_ahead.calls (a0 : Int) (a1 : Int) (r : Bool) (w : World) (h : sojournlaw16_ahead.f a0 a1 = some r) :
    Calls Try.prog 21 #[.int .i64 a0, .int .i64 a1] w fun e w' => e = .returned (.bool r) ∧ Drawn0 w w' := by
  have H : (if a0 = a1 then (some true) else (if a0 = 1 then (if a1 = 2 then (some true) else (if a1 = 3 then (some true) else (if a0 = 3 then (if a1 = 4 then (some true) else (some (a1 == 5))) else (some false)))) else (if a0 = 3 then (if a1 = 4 then (some true) else (some (a1 == 5))) else (some false)))) = some r := h
  clear h
  by_cases c3 : a0 = a1
  · rw [if_pos c3] at H
    have c3b0 : (a0 == a1) = true := beq_iff_eq.mpr c3
    have c3b1 : (a0 != a1) = false := bne_eq_false_iff_eq.mpr c3
    clear c3
    obtain rfl := Option.some.inj H
    go_enter Try.func21, Try.ntmps21
    go_wp2
    go_ret
    exact ⟨by first | rfl | (simp; done) | (simp [*]; done), by repeat (first | exact Drawn0.refl _ | apply Drawn0.step)⟩
  · rw [if_neg c3] at H
    have c3b0 : (a0 == a1) = false := beq_eq_false_iff_ne.mpr c3
    have c3b1 : (a0 != a1) = true := bne_iff_ne.mpr c3
    by_cases c4 : a0 = 1
    · rw [if_pos c4] at H
      have c4b0 : (a0 == 1) = true := beq_iff_eq.mpr c4
      have c4b1 : (a0 != 1) = false := bne_eq_false_iff_eq.mpr c4
      clear c4
      by_cases c5 : a1 = 2
      · rw [if_pos c5] at H
        have c5b0 : (a1 == 2) = true := beq_iff_eq.mpr c5
        have c5b1 : (a1 != 2) = false := bne_eq_false_iff_eq.mpr c5
        clear c5
        obtain rfl := Option.some.inj H
        go_enter Try.func21, Try.ntmps21
        go_wp2
        go_ret
        exact ⟨by first | rfl | (simp; done) | (simp [*]; done), by repeat (first | exact Drawn0.refl _ | apply Drawn0.step)⟩
      · rw [if_neg c5] at H
        have c5b0 : (a1 == 2) = false := beq_eq_false_iff_ne.mpr c5
        have c5b1 : (a1 != 2) = true := bne_iff_ne.mpr c5
        by_cases c6 : a1 = 3
        · rw [if_pos c6] at H
          have c6b0 : (a1 == 3) = true := beq_iff_eq.mpr c6
          have c6b1 : (a1 != 3) = false := bne_eq_false_iff_eq.mpr c6
          clear c6
          obtain rfl := Option.some.inj H
          go_enter Try.func21, Try.ntmps21
          go_wp2
          go_ret
          exact ⟨by first | rfl | (simp; done) | (simp [*]; done), by repeat (first | exact Drawn0.refl _ | apply Drawn0.step)⟩
        · rw [if_neg c6] at H
          have c6b0 : (a1 == 3) = false := beq_eq_false_iff_ne.mpr c6
          have c6b1 : (a1 != 3) = true := bne_iff_ne.mpr c6
          by_cases c7 : a0 = 3
          · rw [if_pos c7] at H
            have c7b0 : (a0 == 3) = true := beq_iff_eq.mpr c7
            have c7b1 : (a0 != 3) = false := bne_eq_false_iff_eq.mpr c7
            clear c7
            by_cases c8 : a1 = 4
            · rw [if_pos c8] at H
              have c8b0 : (a1 == 4) = true := beq_iff_eq.mpr c8
              have c8b1 : (a1 != 4) = false := bne_eq_false_iff_eq.mpr c8
              clear c8
              obtain rfl := Option.some.inj H
              go_enter Try.func21, Try.ntmps21
              go_wp2
              go_ret
              exact ⟨by first | rfl | (simp; done) | (simp [*]; done), by repeat (first | exact Drawn0.refl _ | apply Drawn0.step)⟩
            · rw [if_neg c8] at H
              have c8b0 : (a1 == 4) = false := beq_eq_false_iff_ne.mpr c8
              have c8b1 : (a1 != 4) = true := bne_iff_ne.mpr c8
              obtain rfl := Option.some.inj H
              go_enter Try.func21, Try.ntmps21
              go_wp2
              go_ret
              exact ⟨by first | rfl | (simp; done) | (simp [*]; done), by repeat (first | exact Drawn0.refl _ | apply Drawn0.step)⟩
          · rw [if_neg c7] at H
            have c7b0 : (a0 == 3) = false := beq_eq_false_iff_ne.mpr c7
            have c7b1 : (a0 != 3) = true := bne_iff_ne.mpr c7
            obtain rfl := Option.some.inj H
            go_enter Try.func21, Try.ntmps21
            go_wp2
            go_ret
            exact ⟨by first | rfl | (simp; done) | (simp [*]; done), by repeat (first | exact Drawn0.refl _ | apply Drawn0.step)⟩
    · rw [if_neg c4] at H
      have c4b0 : (a0 == 1) = false := beq_eq_false_iff_ne.mpr c4
      have c4b1 : (a0 != 1) = true := bne_iff_ne.mpr c4
      by_cases c9 : a0 = 3
      · rw [if_pos c9] at H
        have c9b0 : (a0 == 3) = true := beq_iff_eq.mpr c9
        have c9b1 : (a0 != 3) = false := bne_eq_false_iff_eq.mpr c9
        clear c9
        by_cases c10 : a1 = 4
        · rw [if_pos c10] at H
          have c10b0 : (a1 == 4) = true := beq_iff_eq.mpr c10
          have c10b1 : (a1 != 4) = false := bne_eq_false_iff_eq.mpr c10
          clear c10
          obtain rfl := Option.some.inj H
          go_enter Try.func21, Try.ntmps21
          go_wp2
          go_ret
          exact ⟨by first | rfl | (simp; done) | (simp [*]; done), by repeat (first | exact Drawn0.refl _ | apply Drawn0.step)⟩
        · rw [if_neg c10] at H
          have c10b0 : (a1 == 4) = false := beq_eq_false_iff_ne.mpr c10
          have c10b1 : (a1 != 4) = true := bne_iff_ne.mpr c10
          obtain rfl := Option.some.inj H
          go_enter Try.func21, Try.ntmps21
          go_wp2
          go_ret
          exact ⟨by first | rfl | (simp; done) | (simp [*]; done), by repeat (first | exact Drawn0.refl _ | apply Drawn0.step)⟩
      · rw [if_neg c9] at H
        have c9b0 : (a0 == 3) = false := beq_eq_false_iff_ne.mpr c9
        have c9b1 : (a0 != 3) = true := bne_iff_ne.mpr c9
        obtain rfl := Option.some.inj H
        go_enter Try.func21, Try.ntmps21
        go_wp2
        go_ret
        exact ⟨by first | rfl | (simp; done) | (simp [*]; done), by repeat (first | exact Drawn0.refl _ | apply Drawn0.step)⟩

-- NOT PRINTED: function 4 (sojournlaw16_TableOn)

-- NOT PRINTED: function 45 (table_right)

-- NOT PRINTED: function 27 (table_Load)

/-! ### sojournref16_Load: function 28 -/
def sojournref16_Load.l0 : Nat → List (S28) → Int → Option (Int)
  | 0, _, _ => none
  | k + 1, x0, x3 => if x3 < (x0.length : Int) then (if 0 ≤ x3 then ((sojournref16_Right.f k ((rd_T28 x0 x3).f0) ((rd_T28 x0 x3).f1) ((rd_T28 x0 x3).f2) ((rd_T28 x0 x3).f3) ((rd_T28 x0 x3).f4) ((rd_T28 x0 x3).f5) ((rd_T28 x0 x3).f6)).bind fun t173 => (if t173 = 0 then (sojournref16_Load.l0 k x0 (wrap64 (x3 + 1))) else (some t173))) else (none)) else (some 0)
def sojournref16_Load.f (k : Nat) (l0 : List (S28)) : Option (Int) := if (l0.length : Int) > 64 then (some 161) else (sojournref16_Load.l0 k l0 0)
theorem sojournref16_Load.mono_l : ∀ k, (∀ y0 y1, LeO (sojournref16_Load.l0 k y0 y1) (sojournref16_Load.l0 (k + 1) y0 y1))
  | 0 => fun _ _ r h => by simp [sojournref16_Load.l0] at h
  | k + 1 => by
    have ih0 := sojournref16_Load.mono_l k
    · intro y0 y1
      unfold sojournref16_Load.l0
      repeat' first
      | (with_reducible exact ih0 _ _)
      | (with_reducible exact sojournref16_Right.mono _ _ _ _ _ _ _ _)
      | (with_reducible exact LeO.refl _)
      | (with_reducible exact LeO.none _)
      | (with_reducible refine LeO.ite ?_ ?_)
      | (with_reducible refine LeO.bind ?_ (fun _ => ?_))
      | exact ih0 _ _
      | exact sojournref16_Right.mono _ _ _ _ _ _ _ _
      | exact LeO.none _
      | refine LeO.ite ?_ ?_
      | refine LeO.bind ?_ (fun _ => ?_)
theorem sojournref16_Load.mono : ∀ a0 k, LeO (sojournref16_Load.f k a0) (sojournref16_Load.f (k + 1) a0) := by
  intro a0 k
  have ih0 := sojournref16_Load.mono_l k
  unfold sojournref16_Load.f
  repeat' first
      | (with_reducible exact ih0 _ _)
      | (with_reducible exact sojournref16_Right.mono _ _ _ _ _ _ _ _)
      | (with_reducible exact LeO.refl _)
      | (with_reducible exact LeO.none _)
      | (with_reducible refine LeO.ite ?_ ?_)
      | (with_reducible refine LeO.bind ?_ (fun _ => ?_))
      | exact ih0 _ _
      | exact sojournref16_Right.mono _ _ _ _ _ _ _ _
      | exact LeO.none _
      | refine LeO.ite ?_ ?_
      | refine LeO.bind ?_ (fun _ => ?_)
set_option maxHeartbeats 8000000 in
set_option maxRecDepth 100000 in
theorem sojournref16_Load.calls (k : Nat) (A0 : Option Addr) (c0 : Nat) (l0 : List (S28)) (r : Int) (w : World) (hr0 : Kd.C k28 w A0 l0.length l0) (hc0 : l0.length ≤ c0) (h : sojournref16_Load.f k l0 = some r) :
    Calls Try.prog 28 #[.slice A0 l0.length c0] w fun e w' => e = .returned (.int .i64 r) ∧ Below w.heap.size w w' := by
  have hu28 := Try.underlying28
  have HR0 := Aside0.mk hr0
  have HC0 := Aside0.mk hc0
  clear hr0 hc0
  have HB := Aside0.mk (Below.refl w.heap.size w)
  have H : (if (l0.length : Int) > 64 then (some 161) else (sojournref16_Load.l0 k l0 0)) = some r := h
  clear h
  by_cases c2 : (l0.length : Int) > 64
  · rw [if_pos c2] at H
    have c2b0 : decide (64 < (l0.length : Int)) = true := decide_eq_true c2
    have c2b1 : decide (64 < l0.length) = true := decide_eq_true (by omega)
    clear c2
    obtain rfl := Option.some.inj H
    go_enter Try.func28, Try.ntmps28
    go_wp2
    go_ret
    exact ⟨by first | rfl | (simp [errW_none, errW_some] <;> rfl) | (simp [*, errW_none, errW_some] <;> rfl), by repeat (first | (with_reducible first | exact HB.out | apply below_alloc | apply pw_below_drewN | apply below_drew1) | exact HB.out)⟩
  · rw [if_neg c2] at H
    have c2b0 : decide (64 < (l0.length : Int)) = false := decide_eq_false c2
    have c2b1 : decide (64 < l0.length) = false := decide_eq_false (by omega)
    clear c2
    have H' := Aside0.mk H
    clear H
    go_enter Try.func28, Try.ntmps28
    go_wp2
    go_loopg [3] k (fun kq v3 w' => ∃ (x3_1 : Int), v3 = .int .i64 x3_1 ∧ Aside0 (sojournref16_Load.l0 kq l0 x3_1 = some r) ∧ Aside0 (kq ≤ k) ∧ Aside0 (Below w.heap.size w w'))
    case atStart => exact ⟨(0), (by first | rfl | (simp; done) | (simp [*]; done)), H', ⟨Nat.le_refl _⟩, ⟨by repeat (first | (with_reducible first | exact HB.out | apply below_alloc | apply pw_below_drewN | apply below_drew1) | exact HB.out)⟩⟩
    case round =>
      clear H'
      try clear c2
      try clear c2b0
      try clear c2b1
      try clear p2
      obtain ⟨x3_1, rfl, HA, HK1, HB⟩ := hrel
      cases gk with
      | zero => exact absurd HA.out (by simp [sojournref16_Load.l0])
      | succ k1 =>
        have H := HA.out
        clear HA
        simp only [sojournref16_Load.l0] at H
        by_cases c3 : x3_1 < (l0.length : Int)
        · rw [if_pos c3] at H
          have c3b0 : decide (x3_1 < (l0.length : Int)) = true := decide_eq_true c3
          clear c3
          by_cases c4 : 0 ≤ x3_1
          · rw [if_pos c4] at H
            have c4b0 : decide (0 ≤ x3_1) = true := decide_eq_true c4
            clear c4
            replace H := Option.bind_eq_some_iff.mp H
            obtain ⟨t173, A50, H⟩ := H
            replace H : (if t173 = 0 then (sojournref16_Load.l0 k1 l0 (wrap64 (x3_1 + 1))) else (some t173)) = some r := H
            have A5 := Aside0.mk A50
            clear A50
            by_cases c6 : t173 = 0
            · rw [if_pos c6] at H
              have c6b0 : (t173 == 0) = true := beq_iff_eq.mpr c6
              have c6b1 : (t173 != 0) = false := bne_eq_false_iff_eq.mpr c6
              clear c6
              have H' := Aside0.mk H
              clear H
              have p172 : 0 ≤ (x3_1 : Int) := of_decide_eq_true (by first | (with_reducible assumption) | assumption)
              have q172 : x3_1 < (l0.length : Int) := of_decide_eq_true (by first | (with_reducible assumption) | assumption)
              obtain ⟨ad172, A172_6, c172_6, e172, hx172_0, hx172_1, hx172_2, hx172_3, hx172_4, hx172_5, hx172_6, hl172_6, hi172_6⟩ := at_T28 HR0.out x3_1 p172 q172
              cases e172
              replace hx172_0 := (HB.out.cell (World.block_lt_of_cell? w _ hx172_0)).trans hx172_0
              replace hx172_1 := (HB.out.cell (World.block_lt_of_cell? w _ hx172_1)).trans hx172_1
              replace hx172_2 := (HB.out.cell (World.block_lt_of_cell? w _ hx172_2)).trans hx172_2
              replace hx172_3 := (HB.out.cell (World.block_lt_of_cell? w _ hx172_3)).trans hx172_3
              replace hx172_4 := (HB.out.cell (World.block_lt_of_cell? w _ hx172_4)).trans hx172_4
              replace hx172_5 := (HB.out.cell (World.block_lt_of_cell? w _ hx172_5)).trans hx172_5
              replace hx172_6 := (HB.out.cell (World.block_lt_of_cell? w _ hx172_6)).trans hx172_6
              have HR172_6 := Aside0.mk hi172_6
              have HC172_6 := Aside0.mk hl172_6
              clear hi172_6 hl172_6
              replace p172 := eq_true p172
              replace q172 := eq_true q172
              go_wp2_with (first | ((with_reducible refine gate_callee (f := 46) rfl ?_); refine goesL_ (some 18) rfl rfl Try.func46 (by kernel_rfl) rfl #[.agg #[.string ((rd_T28 l0 x3_1).f0), .string ((rd_T28 l0 x3_1).f1), .string ((rd_T28 l0 x3_1).f2), .int .i64 ((rd_T28 l0 x3_1).f3), .int .i64 ((rd_T28 l0 x3_1).f4), .int .i64 ((rd_T28 l0 x3_1).f5), .slice A172_6 ((rd_T28 l0 x3_1).f6).length c172_6]] rfl (by (try simp only [List.map_toArray, List.map_cons, List.map_nil]); first | done | rfl | (simp only [List.length_drop, List.length_take]; rfl)) ?_; (with_reducible refine (sojournref16_Right.calls k1 ((rd_T28 l0 x3_1).f0) ((rd_T28 l0 x3_1).f1) ((rd_T28 l0 x3_1).f2) ((rd_T28 l0 x3_1).f3) ((rd_T28 l0 x3_1).f4) ((rd_T28 l0 x3_1).f5) _ _ ((rd_T28 l0 x3_1).f6) t173 _ ?side1 ?side2 A5.out).mono ?_); (case side1 => repeat (first | exact (Kd.C_below HR172_6.out HB.out) | (with_reducible refine Kd.C_alloc ?_ _) | (with_reducible refine Kd.C_drewN ?_ _) | (with_reducible refine Kd.C_drew ?_))); (case side2 => exact HC172_6.out); rintro e w7 ⟨rfl, hb⟩; refine ⟨_, rfl, ?_⟩; have n0_ := Aside0.mk (below_step (by repeat (first | (with_reducible first | exact HB.out | apply below_alloc | apply pw_below_drewN | apply below_drew1) | exact HB.out)) hb); clear HB; have HB := n0_; clear n0_; (try clear hb); (try clear hb2); (try clear hk); (try clear hi)))
              go_roundg k1
              case measure => have := HK1.out; omega
              case rel => exact ⟨(wrap64 (x3_1 + 1)), (by first | rfl | (simp; done) | (simp [*]; done)), H', ⟨by have := HK1.out; omega⟩, ⟨by repeat (first | (with_reducible first | exact HB.out | apply below_alloc | apply pw_below_drewN | apply below_drew1) | exact HB.out)⟩⟩
            · rw [if_neg c6] at H
              have c6b0 : (t173 == 0) = false := beq_eq_false_iff_ne.mpr c6
              have c6b1 : (t173 != 0) = true := bne_iff_ne.mpr c6
              obtain rfl := Option.some.inj H
              have p172 : 0 ≤ (x3_1 : Int) := of_decide_eq_true (by first | (with_reducible assumption) | assumption)
              have q172 : x3_1 < (l0.length : Int) := of_decide_eq_true (by first | (with_reducible assumption) | assumption)
              obtain ⟨ad172, A172_6, c172_6, e172, hx172_0, hx172_1, hx172_2, hx172_3, hx172_4, hx172_5, hx172_6, hl172_6, hi172_6⟩ := at_T28 HR0.out x3_1 p172 q172
              cases e172
              replace hx172_0 := (HB.out.cell (World.block_lt_of_cell? w _ hx172_0)).trans hx172_0
              replace hx172_1 := (HB.out.cell (World.block_lt_of_cell? w _ hx172_1)).trans hx172_1
              replace hx172_2 := (HB.out.cell (World.block_lt_of_cell? w _ hx172_2)).trans hx172_2
              replace hx172_3 := (HB.out.cell (World.block_lt_of_cell? w _ hx172_3)).trans hx172_3
              replace hx172_4 := (HB.out.cell (World.block_lt_of_cell? w _ hx172_4)).trans hx172_4
              replace hx172_5 := (HB.out.cell (World.block_lt_of_cell? w _ hx172_5)).trans hx172_5
              replace hx172_6 := (HB.out.cell (World.block_lt_of_cell? w _ hx172_6)).trans hx172_6
              have HR172_6 := Aside0.mk hi172_6
              have HC172_6 := Aside0.mk hl172_6
              clear hi172_6 hl172_6
              replace p172 := eq_true p172
              replace q172 := eq_true q172
              go_wp2_with (first | ((with_reducible refine gate_callee (f := 46) rfl ?_); refine goesL_ (some 18) rfl rfl Try.func46 (by kernel_rfl) rfl #[.agg #[.string ((rd_T28 l0 x3_1).f0), .string ((rd_T28 l0 x3_1).f1), .string ((rd_T28 l0 x3_1).f2), .int .i64 ((rd_T28 l0 x3_1).f3), .int .i64 ((rd_T28 l0 x3_1).f4), .int .i64 ((rd_T28 l0 x3_1).f5), .slice A172_6 ((rd_T28 l0 x3_1).f6).length c172_6]] rfl (by (try simp only [List.map_toArray, List.map_cons, List.map_nil]); first | done | rfl | (simp only [List.length_drop, List.length_take]; rfl)) ?_; (with_reducible refine (sojournref16_Right.calls k1 ((rd_T28 l0 x3_1).f0) ((rd_T28 l0 x3_1).f1) ((rd_T28 l0 x3_1).f2) ((rd_T28 l0 x3_1).f3) ((rd_T28 l0 x3_1).f4) ((rd_T28 l0 x3_1).f5) _ _ ((rd_T28 l0 x3_1).f6) t173 _ ?side1 ?side2 A5.out).mono ?_); (case side1 => repeat (first | exact (Kd.C_below HR172_6.out HB.out) | (with_reducible refine Kd.C_alloc ?_ _) | (with_reducible refine Kd.C_drewN ?_ _) | (with_reducible refine Kd.C_drew ?_))); (case side2 => exact HC172_6.out); rintro e w8 ⟨rfl, hb⟩; refine ⟨_, rfl, ?_⟩; have n0_ := Aside0.mk (below_step (by repeat (first | (with_reducible first | exact HB.out | apply below_alloc | apply pw_below_drewN | apply below_drew1) | exact HB.out)) hb); clear HB; have HB := n0_; clear n0_; (try clear hb); (try clear hb2); (try clear hk); (try clear hi)))
              go_ret
              exact ⟨by first | rfl | (simp [errW_none, errW_some] <;> rfl) | (simp [*, errW_none, errW_some] <;> rfl), by repeat (first | (with_reducible first | exact HB.out | apply below_alloc | apply pw_below_drewN | apply below_drew1) | exact HB.out)⟩
          · rw [if_neg c4] at H
            exact absurd H (by simp)
        · rw [if_neg c3] at H
          have c3b0 : decide (x3_1 < (l0.length : Int)) = false := decide_eq_false c3
          clear c3
          obtain rfl := Option.some.inj H
          go_wp2
          go_ret
          exact ⟨by first | rfl | (simp [errW_none, errW_some] <;> rfl) | (simp [*, errW_none, errW_some] <;> rfl), by repeat (first | (with_reducible first | exact HB.out | apply below_alloc | apply pw_below_drewN | apply below_drew1) | exact HB.out)⟩

-- NOT PRINTED: function 8 (sojournlaw16_TableLoads)

end Go.Proofs.Ytagifiakjniedaa.PTab
