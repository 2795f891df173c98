-- PRINTED by print.py (a twelfth state) out of the translation. Not trusted: Lean checks it.
import Derived.Test.YtgphdeelangkfaaPDutyx0
import Derived.Test.YtgphdeelangkfaaPDutyx4
import Derived.Test.YtgphdeelangkfaaPDutyx5
import Derived.Test.YtgphdeelangkfaaPDutyx7
import Derived.Test.YtgphdeelangkfaaPDutyx8
import Derived.Test.YtgphdeelangkfaaA6
namespace Go.Proofs.Ytgphdeelangkfaa.PDuty
open Go.RowKit Go.Proofs.YtgphdeelangkfaaW.PrintWords Go.Proofs.YtgphdeelangkfaaW.PrintLast Go.Proofs.YtgphdeelangkfaaW.PrintMore
attribute [local go_sem] max2_int min2_int max_two min_two max_three min_three max_four min_four   -- for this text's walks alone
set_option linter.unusedVariables false
set_option linter.unusedSimpArgs false

/-! ### sojournref15_Begin: function 17 -/
def sojournref15_Begin.l0 : Nat → List (S51) → Int → Bool → List (S32) → Int → Option ((List (S32)) × Bool)
  | 0, _, _, _, _, _ => none
  | k + 1, x0, x1, x6, x7, x8 => if x8 < (x0.length : Int) then (if 0 ≤ x8 then ((sojournref01_Add.f x1 ((rd_T51 x0 x8).f1)).bind fun bt175 => (if x6 = true then (if x7.length < 8796093022208 then (sojournref15_Begin.l0 k x0 x1 bt175.2 (x7 ++ [(⟨bt175.1, false⟩ : S32)]) (wrap64 (x8 + 1))) else (none)) else (if x7.length < 8796093022208 then (sojournref15_Begin.l0 k x0 x1 false (x7 ++ [(⟨bt175.1, false⟩ : S32)]) (wrap64 (x8 + 1))) else (none)))) else (none)) else (if x6 = true then (some (x7, true)) else (some (([] : List (S32)), false)))
def sojournref15_Begin.f (k : Nat) (l0 : List (S51)) (a1 : Int) : Option ((List (S32)) × Bool) := (sojournref15_Right.f k l0).bind fun t173 => (if t173 = true then (sojournref15_Begin.l0 k l0 a1 t173 ([] : List (S32)) 0) else (some (([] : List (S32)), false)))
theorem sojournref15_Begin.mono_l : ∀ k, (∀ y0 y1 y2 y3 y4, LeO (sojournref15_Begin.l0 k y0 y1 y2 y3 y4) (sojournref15_Begin.l0 (k + 1) y0 y1 y2 y3 y4))
  | 0 => fun _ _ _ _ _ r h => by simp [sojournref15_Begin.l0] at h
  | k + 1 => by
    have ih0 := sojournref15_Begin.mono_l k
    · intro y0 y1 y2 y3 y4
      unfold sojournref15_Begin.l0
      repeat' first
      | (with_reducible exact ih0 _ _ _ _ _)
      | (with_reducible exact sojournref15_Right.mono _ _)
      | (with_reducible exact LeO.refl _)
      | (with_reducible exact LeO.none _)
      | (with_reducible refine LeO.ite ?_ ?_)
      | (with_reducible refine LeO.bind ?_ (fun _ => ?_))
      | exact ih0 _ _ _ _ _
      | exact sojournref15_Right.mono _ _
      | exact LeO.none _
      | refine LeO.ite ?_ ?_
      | refine LeO.bind ?_ (fun _ => ?_)
theorem sojournref15_Begin.mono : ∀ a0 a1 k, LeO (sojournref15_Begin.f k a0 a1) (sojournref15_Begin.f (k + 1) a0 a1) := by
  intro a0 a1 k
  have ih0 := sojournref15_Begin.mono_l k
  unfold sojournref15_Begin.f
  repeat' first
      | (with_reducible exact ih0 _ _ _ _ _)
      | (with_reducible exact sojournref15_Right.mono _ _)
      | (with_reducible exact LeO.refl _)
      | (with_reducible exact LeO.none _)
      | (with_reducible refine LeO.ite ?_ ?_)
      | (with_reducible refine LeO.bind ?_ (fun _ => ?_))
      | exact ih0 _ _ _ _ _
      | exact sojournref15_Right.mono _ _
      | exact LeO.none _
      | refine LeO.ite ?_ ?_
      | refine LeO.bind ?_ (fun _ => ?_)
set_option maxHeartbeats 8000000 in
set_option maxRecDepth 100000 in
theorem sojournref15_Begin.calls (k : Nat) (A0 : Option Addr) (c0 : Nat) (l0 : List (S51)) (a1 : Int) (r1 : List (S32)) (r2 : Bool) (w : World) (hr0 : Kd.C k51 w A0 l0.length l0) (hc0 : l0.length ≤ c0) (h : sojournref15_Begin.f k l0 a1 = some (r1, r2)) :
    Calls Try.prog 17 #[.slice A0 l0.length c0, .int .i64 a1] w fun e w' => ∃ v0_ : Value, e = .returned (.tuple #[v0_, .bool r2]) ∧ Kd.R k32 32 w' w.heap.size (fun _ => True) v0_ r1 ∧ Below w.heap.size w w' := by
  have hu32 := Try.underlying32
  have HR0 := Aside0.mk hr0
  have HC0 := Aside0.mk hc0
  clear hr0 hc0
  have HB := Aside0.mk (Below.refl w.heap.size w)
  have H : ((sojournref15_Right.f k l0).bind fun t173 => (if t173 = true then (sojournref15_Begin.l0 k l0 a1 t173 ([] : List (S32)) 0) else (some (([] : List (S32)), false)))) = some (r1, r2) := h
  clear h
  replace H := Option.bind_eq_some_iff.mp H
  obtain ⟨t173, A30, H⟩ := H
  replace H : (if t173 = true then (sojournref15_Begin.l0 k l0 a1 t173 ([] : List (S32)) 0) else (some (([] : List (S32)), false))) = some (r1, r2) := H
  have A3 := Aside0.mk A30
  clear A30
  by_cases c4 : t173 = true
  · subst c4
    have H1 : (sojournref15_Begin.l0 k l0 a1 true ([] : List (S32)) 0) = some (r1, r2) := by rw [if_pos rfl] at H; exact H
    clear H
    have H := H1
    clear H1
    have H' := Aside0.mk H
    clear H
    go_enter Try.func17, Try.ntmps17
    go_wp2_with (first | ((with_reducible refine gate_callee (f := 12) rfl ?_); refine goesL_ (some 12) rfl rfl Try.func12 (by kernel_rfl) rfl #[.slice A0 l0.length c0] rfl (by (try simp only [List.map_toArray, List.map_cons, List.map_nil]); first | done | rfl | (simp only [List.length_drop, List.length_take]; rfl)) ?_; (with_reducible refine (sojournref15_Right.calls k _ _ l0 true _ ?side1 ?side2 A3.out).mono ?_); (case side1 => repeat (first | exact HR0.out | (with_reducible refine Kd.C_alloc ?_ _) | (with_reducible refine Kd.C_drewN ?_ _) | (with_reducible refine Kd.C_drew ?_))); (case side2 => exact HC0.out); rintro e w5 ⟨rfl, hb⟩; refine ⟨_, rfl, ?_⟩; have n0_ := Aside0.mk (below_step (by repeat (first | (with_reducible first | exact HB.out | apply below_alloc | apply pw_below_drewN | apply below_drew1) | exact HB.out)) hb); clear HB; have HB := n0_; clear n0_; (try clear hb); (try clear hb2); (try clear hk); (try clear hi)))
    go_loopg [6, 7, 8] k (fun kq v6 v7 v8 w' => ∃ (x6_1 : Bool) (x7_1 : List (S32)) (x8_1 : Int), v6 = .bool x6_1 ∧ v8 = .int .i64 x8_1 ∧ Aside0 (sojournref15_Begin.l0 kq l0 a1 x6_1 x7_1 x8_1 = some (r1, r2)) ∧ Aside0 (kq ≤ k) ∧ Aside0 (Kd.R k32 32 w' w.heap.size (fun _ => True) v7 x7_1) ∧ Aside0 (Below w.heap.size w w'))
    case atStart => exact ⟨(true), (([] : List (S32))), (0), (by first | rfl | (simp; done) | (simp [*]; done)), (by first | rfl | (simp; done) | (simp [*]; done)), H', ⟨Nat.le_refl _⟩, ⟨by first | exact Kd.R_nil _ _ _ _ _ | exact Kd.N_nil _ _ _ _ _ | exact Kd.V_nil _ _ _ _ _ | exact Kd.Q_nil _ _ _ _ _ | exact Kd.S_nil _ _ _ _ _⟩, ⟨by repeat (first | (with_reducible first | exact HB.out | apply below_alloc | apply pw_below_drewN | apply below_drew1) | exact HB.out)⟩⟩
    case round =>
      clear H'
      try clear c1
      try clear p2
      try clear c4
      obtain ⟨x6_1, x7_1, x8_1, rfl, rfl, HA, HK1, HO_7, HB⟩ := hrel
      cases gk with
      | zero => exact absurd HA.out (by simp [sojournref15_Begin.l0])
      | succ k1 =>
        have H := HA.out
        clear HA
        simp only [sojournref15_Begin.l0] at H
        by_cases c6 : x8_1 < (l0.length : Int)
        · rw [if_pos c6] at H
          have c6b0 : decide (x8_1 < (l0.length : Int)) = true := decide_eq_true c6
          clear c6
          by_cases c7 : 0 ≤ x8_1
          · rw [if_pos c7] at H
            have c7b0 : decide (0 ≤ x8_1) = true := decide_eq_true c7
            clear c7
            replace H := Option.bind_eq_some_iff.mp H
            obtain ⟨⟨t175, t176⟩, A80, H⟩ := H
            replace H : (if x6_1 = true then (if x7_1.length < 8796093022208 then (sojournref15_Begin.l0 k1 l0 a1 t176 (x7_1 ++ [(⟨t175, false⟩ : S32)]) (wrap64 (x8_1 + 1))) else (none)) else (if x7_1.length < 8796093022208 then (sojournref15_Begin.l0 k1 l0 a1 false (x7_1 ++ [(⟨t175, false⟩ : S32)]) (wrap64 (x8_1 + 1))) else (none))) = some (r1, r2) := H
            have A8 := Aside0.mk A80
            clear A80
            by_cases c9 : x6_1 = true
            · subst c9
              have H1 : (if x7_1.length < 8796093022208 then (sojournref15_Begin.l0 k1 l0 a1 t176 (x7_1 ++ [(⟨t175, false⟩ : S32)]) (wrap64 (x8_1 + 1))) else (none)) = some (r1, r2) := by rw [if_pos rfl] at H; exact H
              clear H
              have H := H1
              clear H1
              by_cases c10 : x7_1.length < 8796093022208
              · rw [if_pos c10] at H
                have LMc10 := Aside0.mk c10
                clear c10
                obtain ⟨y177, hy177⟩ : ∃ y_ : List (S32), y_ = (x7_1 ++ [(⟨t175, false⟩ : S32)]) := ⟨_, rfl⟩
                replace H : (sojournref15_Begin.l0 k1 l0 a1 t176 y177 (wrap64 (x8_1 + 1))) = some (r1, r2) := by first | (rw [hy177]; with_reducible exact H) | (have H2_ := (Option.bind_some _ _).symm.trans H; rw [hy177]; with_reducible exact H2_) | (have H2_ := (Option.bind_some _ _).symm.trans H; with_reducible exact H2_) | with_reducible exact H | (rw [hy177]; exact H) | exact H
                have Ny177 := Aside0.mk hy177
                clear hy177
                have H' := Aside0.mk H
                clear H
                have p174 : 0 ≤ (x8_1 : Int) := of_decide_eq_true (by first | (with_reducible assumption) | assumption)
                have q174 : x8_1 < (l0.length : Int) := of_decide_eq_true (by first | (with_reducible assumption) | assumption)
                obtain ⟨ad174, e174, hx174_0, hx174_1, hx174_2⟩ := at_T51 HR0.out x8_1 p174 q174
                cases e174
                replace hx174_0 := (HB.out.cell (World.block_lt_of_cell? w _ hx174_0)).trans hx174_0
                replace hx174_1 := (HB.out.cell (World.block_lt_of_cell? w _ hx174_1)).trans hx174_1
                replace hx174_2 := (HB.out.cell (World.block_lt_of_cell? w _ hx174_2)).trans hx174_2
                replace p174 := eq_true p174
                replace q174 := eq_true q174
                go_wp2_with (first | ((with_reducible refine gate_callee (f := 28) rfl ?_); refine goesL_ (some 28) rfl rfl Try.func28 (by kernel_rfl) rfl #[.int .i64 a1, .int .i64 ((rd_T51 l0 x8_1).f1)] rfl (by (try simp only [List.map_toArray, List.map_cons, List.map_nil]); first | done | rfl | (simp only [List.length_drop, List.length_take]; rfl)) ?_; (with_reducible refine (sojournref01_Add.calls a1 ((rd_T51 l0 x8_1).f1) t175 t176 _ A8.out).mono ?_); rintro e w11 ⟨rfl, hb⟩; refine ⟨_, rfl, ?_⟩; have n0_ := Aside0.mk (Kd.R_below (by (with_reducible repeat (first | apply Kd.R_alloc | apply Kd.R_drewN | apply Kd.R_drew)); exact HO_7.out) hb); have n1_ := Aside0.mk (below_step (by repeat (first | (with_reducible first | exact HB.out | apply below_alloc | apply pw_below_drewN | apply below_drew1) | exact HB.out)) hb); clear HO_7; clear HB; have HO_7 := n0_; have HB := n1_; clear n0_ n1_; (try clear hb); (try clear hb2); (try clear hk); (try clear hi)) | ((with_reducible refine gate_builtin (b := .append) (xs := #[.tmp 35, .tmp 38]) rfl ?_); at_builtin; refine Kd.R_append k32 (w0 := w) w.heap.size rfl (.tmp 35) (.tmp 38) 23 32 (.agg #[(.int .i64 0), (.bool false)]) 16 rfl Try.underlying23 info32 rfl (by decide) (by omega) u7 x7_1 (⟨t175, false⟩ : S32) [.int .i64 t175, .bool false] (fun _ => True) (fun _ => False) rfl rfl ?aP (fun _ hk => hk.elim) ?aF ?aO ?aB ?aS ?aL ?_; (case aP => exact k32_mkM _ _ _ (⟨t175, false⟩ : S32)); (case aB => exact (by repeat (first | (with_reducible first | exact HB.out | apply below_alloc | apply pw_below_drewN | apply below_drew1) | exact HB.out))); (case aF => exact (fun _ _ => trivial)); (case aO => exact (by (with_reducible repeat (first | apply Kd.R_alloc | apply Kd.R_drewN | apply Kd.R_drew)); exact HO_7.out)); (case aS => exact (below_size (by repeat (first | (with_reducible first | exact HB.out | apply below_alloc | apply pw_below_drewN | apply below_drew1) | exact HB.out)))); (case aL => have := LMc10.out; omega); intro v178 w12 ho hb hg hat; rw [← Ny177.out] at ho; have n0_ := Aside0.mk (hb); have n1_ := Aside0.mk (ho); clear HB; clear HO_7; have HB := n0_; have HO179 := n1_; clear n0_ n1_; clear ho hb hg hat))
                go_roundg k1
                case measure => have := HK1.out; omega
                case rel => exact ⟨(t176), (y177), (wrap64 (x8_1 + 1)), (by first | rfl | (simp; done) | (simp [*]; done)), (by first | rfl | (simp; done) | (simp [*]; done)), H', ⟨by have := HK1.out; omega⟩, ⟨by (with_reducible repeat (first | apply Kd.R_alloc | apply Kd.R_drewN | apply Kd.R_drew)); exact HO179.out⟩, ⟨by repeat (first | (with_reducible first | exact HB.out | apply below_alloc | apply pw_below_drewN | apply below_drew1) | exact HB.out)⟩⟩
              · rw [if_neg c10] at H
                exact absurd H (by simp)
            · replace c9 := Bool.eq_false_iff.mpr c9
              subst c9
              have H1 : (if x7_1.length < 8796093022208 then (sojournref15_Begin.l0 k1 l0 a1 false (x7_1 ++ [(⟨t175, false⟩ : S32)]) (wrap64 (x8_1 + 1))) else (none)) = some (r1, r2) := by rw [if_neg (show ¬ (false = true) by decide)] at H; exact H
              clear H
              have H := H1
              clear H1
              by_cases c13 : x7_1.length < 8796093022208
              · rw [if_pos c13] at H
                have LMc13 := Aside0.mk c13
                clear c13
                obtain ⟨y180, hy180⟩ : ∃ y_ : List (S32), y_ = (x7_1 ++ [(⟨t175, false⟩ : S32)]) := ⟨_, rfl⟩
                replace H : (sojournref15_Begin.l0 k1 l0 a1 false y180 (wrap64 (x8_1 + 1))) = some (r1, r2) := by first | (rw [hy180]; with_reducible exact H) | (have H2_ := (Option.bind_some _ _).symm.trans H; rw [hy180]; with_reducible exact H2_) | (have H2_ := (Option.bind_some _ _).symm.trans H; with_reducible exact H2_) | with_reducible exact H | (rw [hy180]; exact H) | exact H
                have Ny180 := Aside0.mk hy180
                clear hy180
                have H' := Aside0.mk H
                clear H
                have p174 : 0 ≤ (x8_1 : Int) := of_decide_eq_true (by first | (with_reducible assumption) | assumption)
                have q174 : x8_1 < (l0.length : Int) := of_decide_eq_true (by first | (with_reducible assumption) | assumption)
                obtain ⟨ad174, e174, hx174_0, hx174_1, hx174_2⟩ := at_T51 HR0.out x8_1 p174 q174
                cases e174
                replace hx174_0 := (HB.out.cell (World.block_lt_of_cell? w _ hx174_0)).trans hx174_0
                replace hx174_1 := (HB.out.cell (World.block_lt_of_cell? w _ hx174_1)).trans hx174_1
                replace hx174_2 := (HB.out.cell (World.block_lt_of_cell? w _ hx174_2)).trans hx174_2
                replace p174 := eq_true p174
                replace q174 := eq_true q174
                go_wp2_with (first | ((with_reducible refine gate_callee (f := 28) rfl ?_); refine goesL_ (some 28) rfl rfl Try.func28 (by kernel_rfl) rfl #[.int .i64 a1, .int .i64 ((rd_T51 l0 x8_1).f1)] rfl (by (try simp only [List.map_toArray, List.map_cons, List.map_nil]); first | done | rfl | (simp only [List.length_drop, List.length_take]; rfl)) ?_; (with_reducible refine (sojournref01_Add.calls a1 ((rd_T51 l0 x8_1).f1) t175 t176 _ A8.out).mono ?_); rintro e w14 ⟨rfl, hb⟩; refine ⟨_, rfl, ?_⟩; have n0_ := Aside0.mk (Kd.R_below (by (with_reducible repeat (first | apply Kd.R_alloc | apply Kd.R_drewN | apply Kd.R_drew)); exact HO_7.out) hb); have n1_ := Aside0.mk (below_step (by repeat (first | (with_reducible first | exact HB.out | apply below_alloc | apply pw_below_drewN | apply below_drew1) | exact HB.out)) hb); clear HO_7; clear HB; have HO_7 := n0_; have HB := n1_; clear n0_ n1_; (try clear hb); (try clear hb2); (try clear hk); (try clear hi)) | ((with_reducible refine gate_builtin (b := .append) (xs := #[.tmp 35, .tmp 38]) rfl ?_); at_builtin; refine Kd.R_append k32 (w0 := w) w.heap.size rfl (.tmp 35) (.tmp 38) 23 32 (.agg #[(.int .i64 0), (.bool false)]) 16 rfl Try.underlying23 info32 rfl (by decide) (by omega) u7 x7_1 (⟨t175, false⟩ : S32) [.int .i64 t175, .bool false] (fun _ => True) (fun _ => False) rfl rfl ?aP (fun _ hk => hk.elim) ?aF ?aO ?aB ?aS ?aL ?_; (case aP => exact k32_mkM _ _ _ (⟨t175, false⟩ : S32)); (case aB => exact (by repeat (first | (with_reducible first | exact HB.out | apply below_alloc | apply pw_below_drewN | apply below_drew1) | exact HB.out))); (case aF => exact (fun _ _ => trivial)); (case aO => exact (by (with_reducible repeat (first | apply Kd.R_alloc | apply Kd.R_drewN | apply Kd.R_drew)); exact HO_7.out)); (case aS => exact (below_size (by repeat (first | (with_reducible first | exact HB.out | apply below_alloc | apply pw_below_drewN | apply below_drew1) | exact HB.out)))); (case aL => have := LMc13.out; omega); intro v181 w15 ho hb hg hat; rw [← Ny180.out] at ho; have n0_ := Aside0.mk (hb); have n1_ := Aside0.mk (ho); clear HB; clear HO_7; have HB := n0_; have HO182 := n1_; clear n0_ n1_; clear ho hb hg hat))
                go_roundg k1
                case measure => have := HK1.out; omega
                case rel => exact ⟨(false), (y180), (wrap64 (x8_1 + 1)), (by first | rfl | (simp; done) | (simp [*]; done)), (by first | rfl | (simp; done) | (simp [*]; done)), H', ⟨by have := HK1.out; omega⟩, ⟨by (with_reducible repeat (first | apply Kd.R_alloc | apply Kd.R_drewN | apply Kd.R_drew)); exact HO182.out⟩, ⟨by repeat (first | (with_reducible first | exact HB.out | apply below_alloc | apply pw_below_drewN | apply below_drew1) | exact HB.out)⟩⟩
              · rw [if_neg c13] at H
                exact absurd H (by simp)
          · rw [if_neg c7] at H
            exact absurd H (by simp)
        · rw [if_neg c6] at H
          have c6b0 : decide (x8_1 < (l0.length : Int)) = false := decide_eq_false c6
          clear c6
          by_cases c16 : x6_1 = true
          · subst c16
            have H1 : (some (x7_1, true)) = some (r1, r2) := by rw [if_pos rfl] at H; exact H
            clear H
            have H := H1
            clear H1
            simp only [Option.some.injEq, Prod.mk.injEq] at H
            obtain ⟨rfl, rfl⟩ := H
            go_wp2
            go_ret2
            exact ⟨_, by first | rfl | (simp [errW_none, errW_some] <;> rfl) | (simp [*, errW_none, errW_some] <;> rfl), by (with_reducible repeat (first | apply Kd.R_alloc | apply Kd.R_drewN | apply Kd.R_drew)); exact HO_7.out, by repeat (first | (with_reducible first | exact HB.out | apply below_alloc | apply pw_below_drewN | apply below_drew1) | exact HB.out)⟩
          · replace c16 := Bool.eq_false_iff.mpr c16
            subst c16
            have H1 : (some (([] : List (S32)), false)) = some (r1, r2) := by rw [if_neg (show ¬ (false = true) by decide)] at H; exact H
            clear H
            have H := H1
            clear H1
            simp only [Option.some.injEq, Prod.mk.injEq] at H
            obtain ⟨rfl, rfl⟩ := H
            go_wp2
            go_ret2
            exact ⟨_, by first | rfl | (simp [errW_none, errW_some] <;> rfl) | (simp [*, errW_none, errW_some] <;> rfl), by first | exact Kd.R_nil _ _ _ _ _ | exact Kd.N_nil _ _ _ _ _ | exact Kd.V_nil _ _ _ _ _ | exact Kd.Q_nil _ _ _ _ _ | exact Kd.S_nil _ _ _ _ _, by repeat (first | (with_reducible first | exact HB.out | apply below_alloc | apply pw_below_drewN | apply below_drew1) | exact HB.out)⟩
  · replace c4 := Bool.eq_false_iff.mpr c4
    subst c4
    have H1 : (some (([] : List (S32)), false)) = some (r1, r2) := by rw [if_neg (show ¬ (false = true) by decide)] at H; exact H
    clear H
    have H := H1
    clear H1
    simp only [Option.some.injEq, Prod.mk.injEq] at H
    obtain ⟨rfl, rfl⟩ := H
    go_enter Try.func17, Try.ntmps17
    go_wp2_with (first | ((with_reducible refine gate_callee (f := 12) rfl ?_); refine goesL_ (some 12) rfl rfl Try.func12 (by kernel_rfl) rfl #[.slice A0 l0.length c0] rfl (by (try simp only [List.map_toArray, List.map_cons, List.map_nil]); first | done | rfl | (simp only [List.length_drop, List.length_take]; rfl)) ?_; (with_reducible refine (sojournref15_Right.calls k _ _ l0 false _ ?side1 ?side2 A3.out).mono ?_); (case side1 => repeat (first | exact HR0.out | (with_reducible refine Kd.C_alloc ?_ _) | (with_reducible refine Kd.C_drewN ?_ _) | (with_reducible refine Kd.C_drew ?_))); (case side2 => exact HC0.out); rintro e w17 ⟨rfl, hb⟩; refine ⟨_, rfl, ?_⟩; have n0_ := Aside0.mk (below_step (by repeat (first | (with_reducible first | exact HB.out | apply below_alloc | apply pw_below_drewN | apply below_drew1) | exact HB.out)) hb); clear HB; have HB := n0_; clear n0_; (try clear hb); (try clear hb2); (try clear hk); (try clear hi)))
    go_ret2
    exact ⟨_, by first | rfl | (simp [errW_none, errW_some] <;> rfl) | (simp [*, errW_none, errW_some] <;> rfl), by first | exact Kd.R_nil _ _ _ _ _ | exact Kd.N_nil _ _ _ _ _ | exact Kd.V_nil _ _ _ _ _ | exact Kd.Q_nil _ _ _ _ _ | exact Kd.S_nil _ _ _ _ _, by repeat (first | (with_reducible first | exact HB.out | apply below_alloc | apply pw_below_drewN | apply below_drew1) | exact HB.out)⟩

/-! ### sojournlaw15_DutyBegins: function 4 -/
mutual
def sojournlaw15_DutyBegins.j0 : Nat → Int → List (S51) → List (S32) → List (S32) → Bool → Option (Bool)
  | 0, _, _, _, _, _ => none
  | k + 1, x1, x5, x6, x8, x46 => if x46 = true then (some false) else (sojournlaw15_DutyBegins.l0 k x1 x5 x6 x8 (x6.length : Int) 0)
def sojournlaw15_DutyBegins.l0 : Nat → Int → List (S51) → List (S32) → List (S32) → Int → Int → Option (Bool)
  | 0, _, _, _, _, _, _ => none
  | k + 1, x1, x5, x6, x8, x48, x49 => if x49 < x48 then (if 0 ≤ x49 then (if x49 < (x6.length : Int) then (sojournlaw15_DutyBegins.l0 k x1 x5 (x6.set (x49 : Int).toNat (⟨(-9), true⟩ : S32)) x8 x48 (wrap64 (x49 + 1))) else (none)) else (none)) else ((duty_Begin.f k x5 x1).bind fun bt201 => ((sojournref15_Same.f k bt201.1 x8).bind fun t205 => (some t205)))
end
def sojournlaw15_DutyBegins.f (k : Nat) (l0 : List (S51)) (a1 : Int) : Option (Bool) := (some (([] : List (S51)) : List (S51))).bind fun y183 => (if y183.length + l0.length < 4398046511104 then ((some (y183 ++ l0 : List (S51))).bind fun y186 => ((duty_Begin.f k y186 a1).bind fun bt189 => ((sojournref15_Begin.f k l0 a1).bind fun bt193 => ((sojournlaw15_alive.f k).bind fun t197 => (if t197 = true then (if (bt189.2 != bt193.2) = true then (sojournlaw15_DutyBegins.j0 k a1 y186 bt189.1 bt193.1 true) else ((sojournref15_Same.f k bt189.1 bt193.1).bind fun t198 => (if t198 = true then ((sojournlaw15_sameDuties.f k l0 y186).bind fun t199 => (sojournlaw15_DutyBegins.j0 k a1 y186 bt189.1 bt193.1 (!t199))) else (sojournlaw15_DutyBegins.j0 k a1 y186 bt189.1 bt193.1 true)))) else (sojournlaw15_DutyBegins.j0 k a1 y186 bt189.1 bt193.1 true)))))) else (none))
theorem sojournlaw15_DutyBegins.mono_l : ∀ k, (∀ y0 y1 y2 y3 y4, LeO (sojournlaw15_DutyBegins.j0 k y0 y1 y2 y3 y4) (sojournlaw15_DutyBegins.j0 (k + 1) y0 y1 y2 y3 y4)) ∧ (∀ y0 y1 y2 y3 y4 y5, LeO (sojournlaw15_DutyBegins.l0 k y0 y1 y2 y3 y4 y5) (sojournlaw15_DutyBegins.l0 (k + 1) y0 y1 y2 y3 y4 y5))
  | 0 => ⟨fun _ _ _ _ _ r h => by simp [sojournlaw15_DutyBegins.j0] at h, fun _ _ _ _ _ _ r h => by simp [sojournlaw15_DutyBegins.l0] at h⟩
  | k + 1 => by
    obtain ⟨ih0, ih1⟩ := sojournlaw15_DutyBegins.mono_l k
    refine ⟨?_, ?_⟩
    · intro y0 y1 y2 y3 y4
      unfold sojournlaw15_DutyBegins.j0
      repeat' first
      | (with_reducible exact ih0 _ _ _ _ _)
      | (with_reducible exact ih1 _ _ _ _ _ _)
      | (with_reducible exact duty_Begin.mono _ _ _)
      | (with_reducible exact sojournlaw15_alive.mono _)
      | (with_reducible exact sojournlaw15_sameDuties.mono _ _ _)
      | (with_reducible exact sojournref15_Begin.mono _ _ _)
      | (with_reducible exact sojournref15_Same.mono _ _ _)
      | (with_reducible exact LeO.refl _)
      | (with_reducible exact LeO.none _)
      | (with_reducible refine LeO.ite ?_ ?_)
      | (with_reducible refine LeO.bind ?_ (fun _ => ?_))
      | exact ih0 _ _ _ _ _
      | exact ih1 _ _ _ _ _ _
      | exact duty_Begin.mono _ _ _
      | exact sojournlaw15_alive.mono _
      | exact sojournlaw15_sameDuties.mono _ _ _
      | exact sojournref15_Begin.mono _ _ _
      | exact sojournref15_Same.mono _ _ _
      | exact LeO.none _
      | refine LeO.ite ?_ ?_
      | refine LeO.bind ?_ (fun _ => ?_)
    · intro y0 y1 y2 y3 y4 y5
      unfold sojournlaw15_DutyBegins.l0
      repeat' first
      | (with_reducible exact ih0 _ _ _ _ _)
      | (with_reducible exact ih1 _ _ _ _ _ _)
      | (with_reducible exact duty_Begin.mono _ _ _)
      | (with_reducible exact sojournlaw15_alive.mono _)
      | (with_reducible exact sojournlaw15_sameDuties.mono _ _ _)
      | (with_reducible exact sojournref15_Begin.mono _ _ _)
      | (with_reducible exact sojournref15_Same.mono _ _ _)
      | (with_reducible exact LeO.refl _)
      | (with_reducible exact LeO.none _)
      | (with_reducible refine LeO.ite ?_ ?_)
      | (with_reducible refine LeO.bind ?_ (fun _ => ?_))
      | exact ih0 _ _ _ _ _
      | exact ih1 _ _ _ _ _ _
      | exact duty_Begin.mono _ _ _
      | exact sojournlaw15_alive.mono _
      | exact sojournlaw15_sameDuties.mono _ _ _
      | exact sojournref15_Begin.mono _ _ _
      | exact sojournref15_Same.mono _ _ _
      | exact LeO.none _
      | refine LeO.ite ?_ ?_
      | refine LeO.bind ?_ (fun _ => ?_)
theorem sojournlaw15_DutyBegins.mono : ∀ a0 a1 k, LeO (sojournlaw15_DutyBegins.f k a0 a1) (sojournlaw15_DutyBegins.f (k + 1) a0 a1) := by
  intro a0 a1 k
  obtain ⟨ih0, ih1⟩ := sojournlaw15_DutyBegins.mono_l k
  unfold sojournlaw15_DutyBegins.f
  repeat' first
      | (with_reducible exact ih0 _ _ _ _ _)
      | (with_reducible exact ih1 _ _ _ _ _ _)
      | (with_reducible exact duty_Begin.mono _ _ _)
      | (with_reducible exact sojournlaw15_alive.mono _)
      | (with_reducible exact sojournlaw15_sameDuties.mono _ _ _)
      | (with_reducible exact sojournref15_Begin.mono _ _ _)
      | (with_reducible exact sojournref15_Same.mono _ _ _)
      | (with_reducible exact LeO.refl _)
      | (with_reducible exact LeO.none _)
      | (with_reducible refine LeO.ite ?_ ?_)
      | (with_reducible refine LeO.bind ?_ (fun _ => ?_))
      | exact ih0 _ _ _ _ _
      | exact ih1 _ _ _ _ _ _
      | exact duty_Begin.mono _ _ _
      | exact sojournlaw15_alive.mono _
      | exact sojournlaw15_sameDuties.mono _ _ _
      | exact sojournref15_Begin.mono _ _ _
      | exact sojournref15_Same.mono _ _ _
      | exact LeO.none _
      | refine LeO.ite ?_ ?_
      | refine LeO.bind ?_ (fun _ => ?_)
set_option maxHeartbeats 8000000 in
set_option maxRecDepth 100000 in
theorem sojournlaw15_DutyBegins.calls (k : Nat) (A0 : Option Addr) (c0 : Nat) (l0 : List (S51)) (a1 : Int) (r : Bool) (w : World) (hr0 : Kd.C k51 w A0 l0.length l0) (hc0 : l0.length ≤ c0) (h : sojournlaw15_DutyBegins.f k l0 a1 = some r) :
    Calls Try.prog 4 #[.slice A0 l0.length c0, .int .i64 a1] w fun e w' => e = .returned (.bool r) ∧ Below w.heap.size w w' := by
  have hu32 := Try.underlying32
  have HR0 := Aside0.mk hr0
  have HC0 := Aside0.mk hc0
  clear hr0 hc0
  have HB := Aside0.mk (Below.refl w.heap.size w)
  have H : ((some (([] : List (S51)) : List (S51))).bind fun y183 => (if y183.length + l0.length < 4398046511104 then ((some (y183 ++ l0 : List (S51))).bind fun y186 => ((duty_Begin.f k y186 a1).bind fun bt189 => ((sojournref15_Begin.f k l0 a1).bind fun bt193 => ((sojournlaw15_alive.f k).bind fun t197 => (if t197 = true then (if (bt189.2 != bt193.2) = true then (sojournlaw15_DutyBegins.j0 k a1 y186 bt189.1 bt193.1 true) else ((sojournref15_Same.f k bt189.1 bt193.1).bind fun t198 => (if t198 = true then ((sojournlaw15_sameDuties.f k l0 y186).bind fun t199 => (sojournlaw15_DutyBegins.j0 k a1 y186 bt189.1 bt193.1 (!t199))) else (sojournlaw15_DutyBegins.j0 k a1 y186 bt189.1 bt193.1 true)))) else (sojournlaw15_DutyBegins.j0 k a1 y186 bt189.1 bt193.1 true)))))) else (none))) = some r := h
  clear h
  obtain ⟨y183, hy183⟩ : ∃ y_ : List (S51), y_ = (([] : List (S51))) := ⟨_, rfl⟩
  replace H : (if y183.length + l0.length < 4398046511104 then ((some (y183 ++ l0 : List (S51))).bind fun y186 => ((duty_Begin.f k y186 a1).bind fun bt189 => ((sojournref15_Begin.f k l0 a1).bind fun bt193 => ((sojournlaw15_alive.f k).bind fun t197 => (if t197 = true then (if (bt189.2 != bt193.2) = true then (sojournlaw15_DutyBegins.j0 k a1 y186 bt189.1 bt193.1 true) else ((sojournref15_Same.f k bt189.1 bt193.1).bind fun t198 => (if t198 = true then ((sojournlaw15_sameDuties.f k l0 y186).bind fun t199 => (sojournlaw15_DutyBegins.j0 k a1 y186 bt189.1 bt193.1 (!t199))) else (sojournlaw15_DutyBegins.j0 k a1 y186 bt189.1 bt193.1 true)))) else (sojournlaw15_DutyBegins.j0 k a1 y186 bt189.1 bt193.1 true)))))) else (none)) = some r := by first | (rw [hy183]; with_reducible exact H) | (have H2_ := (Option.bind_some _ _).symm.trans H; rw [hy183]; with_reducible exact H2_) | (have H2_ := (Option.bind_some _ _).symm.trans H; with_reducible exact H2_) | with_reducible exact H | (rw [hy183]; exact H) | exact H
  have Ny183 := Aside0.mk hy183
  clear hy183
  by_cases c3 : y183.length + l0.length < 4398046511104
  · rw [if_pos c3] at H
    have LMc3 := Aside0.mk c3
    clear c3
    obtain ⟨y186, hy186⟩ : ∃ y_ : List (S51), y_ = (y183 ++ l0) := ⟨_, rfl⟩
    replace H : ((duty_Begin.f k y186 a1).bind fun bt189 => ((sojournref15_Begin.f k l0 a1).bind fun bt193 => ((sojournlaw15_alive.f k).bind fun t197 => (if t197 = true then (if (bt189.2 != bt193.2) = true then (sojournlaw15_DutyBegins.j0 k a1 y186 bt189.1 bt193.1 true) else ((sojournref15_Same.f k bt189.1 bt193.1).bind fun t198 => (if t198 = true then ((sojournlaw15_sameDuties.f k l0 y186).bind fun t199 => (sojournlaw15_DutyBegins.j0 k a1 y186 bt189.1 bt193.1 (!t199))) else (sojournlaw15_DutyBegins.j0 k a1 y186 bt189.1 bt193.1 true)))) else (sojournlaw15_DutyBegins.j0 k a1 y186 bt189.1 bt193.1 true))))) = some r := by first | (rw [hy186]; with_reducible exact H) | (have H2_ := (Option.bind_some _ _).symm.trans H; rw [hy186]; with_reducible exact H2_) | (have H2_ := (Option.bind_some _ _).symm.trans H; with_reducible exact H2_) | with_reducible exact H | (rw [hy186]; exact H) | exact H
    have Ny186 := Aside0.mk hy186
    clear hy186
    replace H := Option.bind_eq_some_iff.mp H
    obtain ⟨⟨t189, t190⟩, A40, H⟩ := H
    replace H : ((sojournref15_Begin.f k l0 a1).bind fun bt193 => ((sojournlaw15_alive.f k).bind fun t197 => (if t197 = true then (if (t190 != bt193.2) = true then (sojournlaw15_DutyBegins.j0 k a1 y186 t189 bt193.1 true) else ((sojournref15_Same.f k t189 bt193.1).bind fun t198 => (if t198 = true then ((sojournlaw15_sameDuties.f k l0 y186).bind fun t199 => (sojournlaw15_DutyBegins.j0 k a1 y186 t189 bt193.1 (!t199))) else (sojournlaw15_DutyBegins.j0 k a1 y186 t189 bt193.1 true)))) else (sojournlaw15_DutyBegins.j0 k a1 y186 t189 bt193.1 true)))) = some r := H
    have A4 := Aside0.mk A40
    clear A40
    replace H := Option.bind_eq_some_iff.mp H
    obtain ⟨⟨t193, t194⟩, A50, H⟩ := H
    replace H : ((sojournlaw15_alive.f k).bind fun t197 => (if t197 = true then (if (t190 != t194) = true then (sojournlaw15_DutyBegins.j0 k a1 y186 t189 t193 true) else ((sojournref15_Same.f k t189 t193).bind fun t198 => (if t198 = true then ((sojournlaw15_sameDuties.f k l0 y186).bind fun t199 => (sojournlaw15_DutyBegins.j0 k a1 y186 t189 t193 (!t199))) else (sojournlaw15_DutyBegins.j0 k a1 y186 t189 t193 true)))) else (sojournlaw15_DutyBegins.j0 k a1 y186 t189 t193 true))) = some r := H
    have A5 := Aside0.mk A50
    clear A50
    have HC6 := Aside0.mk H
    clear H
    go_enter Try.func4, Try.ntmps4
    go_upto_region 4 with (first | ((with_reducible refine gate_dst (N := 13) rfl ?_); refine Kd.R_lit k51 _ 51 ?hg (N := 13) ?hd (xs := ([] : List (S51))) (inner := []) (ok := fun _ => True) (okp := fun _ => True) ?hr ?hp (fun _ hk => hk) trivial (Below.refl _ _) (Nat.le_refl _) (by simp) ?_; (case hd => rfl); (case hg => rfl); (case hr => first | (go_simp; done) | (go_simp; rfl)); (case hp => exact (Reps.none _ _)); intro v184 w7 ho8 hb hg_ hnew_; clear hg_ hnew_; (first | rw [← Ny183.out] at ho8 | (simp only [Int.reduceToNat] at ho8; rw [← Ny183.out] at ho8)); have n0_ := Aside0.mk (Kd.R_lower ho8 (below_size (by repeat (first | (with_reducible first | exact HB.out | apply below_alloc | apply pw_below_drewN | apply below_drew1) | exact HB.out)))); have n1_ := Aside0.mk (below_step (by repeat (first | (with_reducible first | exact HB.out | apply below_alloc | apply pw_below_drewN | apply below_drew1) | exact HB.out)) hb); clear HB; have HO185 := n0_; have HB := n1_; clear n0_ n1_; clear hb ho8) | ((with_reducible refine gate_builtin (b := .append) (xs := #[.tmp 13, .tmp 14]) rfl ?_); at_builtin; refine Kd.R_append_rows k51 (w0 := w) w.heap.size rfl (.tmp 13) (.tmp 14) 22 51 (.agg #[(.string ⟨#[]⟩), (.int .i64 0), (.bool false)]) 32 rfl Try.underlying22 info51 rfl (by decide) (by omega) v184 y183 l0 _ _ _ (fun _ => True) (fun _ => False) rfl rfl ?aO ?aR (fun _ _ h => h) (fun _ h => h.elim) ?aF ?aB ?aS ?aL ?_; (case aR => repeat (first | exact (Kd.C_below HR0.out HB.out) | (with_reducible refine Kd.C_alloc ?_ _) | (with_reducible refine Kd.C_drewN ?_ _) | (with_reducible refine Kd.C_drew ?_))); (case aB => exact (by repeat (first | (with_reducible first | exact HB.out | apply below_alloc | apply pw_below_drewN | apply below_drew1) | exact HB.out))); (case aF => exact (fun _ _ => trivial)); (case aO => exact (by (with_reducible repeat (first | apply Kd.R_alloc | apply Kd.R_drewN | apply Kd.R_drew)); exact HO185.out)); (case aS => exact (below_size (by repeat (first | (with_reducible first | exact HB.out | apply below_alloc | apply pw_below_drewN | apply below_drew1) | exact HB.out)))); (case aL => have := LMc3.out; omega); intro v187 w9 ho hb hg hat; rw [← Ny186.out] at ho; have n0_ := Aside0.mk (hb); have n1_ := Aside0.mk (ho); clear HB; clear HO185; have HB := n0_; have HO188 := n1_; clear n0_ n1_; clear ho hb hg hat; obtain ⟨Ao10, co10, eo10⟩ := Kd.R_slice HO188.out; subst eo10) | ((with_reducible refine gate_callee (f := 16) rfl ?_); refine goesL_ (some 19) rfl rfl Try.func16 (by kernel_rfl) rfl #[.slice Ao10 y186.length co10, .int .i64 a1] rfl (by (try simp only [List.map_toArray, List.map_cons, List.map_nil]); first | done | rfl | (simp only [List.length_drop, List.length_take]; rfl)) ?_; (with_reducible refine (duty_Begin.calls k _ _ y186 a1 t189 t190 _ ?side1 ?side2 A4.out).mono ?_); (case side1 => repeat (first | exact (Kd.R_reads' HO188.out).2.2 | (with_reducible refine Kd.C_alloc ?_ _) | (with_reducible refine Kd.C_drewN ?_ _) | (with_reducible refine Kd.C_drew ?_))); (case side2 => exact (Kd.R_reads' HO188.out).2.1); rintro e w11 ⟨v191, rfl, ho0, hb⟩; refine ⟨_, rfl, ?_⟩; have n0_ := Aside0.mk (Kd.R_below (by (with_reducible repeat (first | apply Kd.R_alloc | apply Kd.R_drewN | apply Kd.R_drew)); exact HO188.out) hb); have n1_ := Aside0.mk (Kd.R_lower ho0 (below_size (by repeat (first | (with_reducible first | exact HB.out | apply below_alloc | apply pw_below_drewN | apply below_drew1) | exact HB.out)))); have n2_ := Aside0.mk (below_step (by repeat (first | (with_reducible first | exact HB.out | apply below_alloc | apply pw_below_drewN | apply below_drew1) | exact HB.out)) hb); clear HO188; clear HB; have HO188 := n0_; have HO192 := n1_; have HB := n2_; clear n0_ n1_ n2_; (try clear hb); (try clear hb2); (try clear hk); (try clear hi); (try clear ho0)) | ((with_reducible refine gate_callee (f := 17) rfl ?_); refine goesL_ (some 25) rfl rfl Try.func17 (by kernel_rfl) rfl #[.slice A0 l0.length c0, .int .i64 a1] rfl (by (try simp only [List.map_toArray, List.map_cons, List.map_nil]); first | done | rfl | (simp only [List.length_drop, List.length_take]; rfl)) ?_; (with_reducible refine (sojournref15_Begin.calls k _ _ l0 a1 t193 t194 _ ?side1 ?side2 A5.out).mono ?_); (case side1 => repeat (first | exact (Kd.C_below HR0.out HB.out) | (with_reducible refine Kd.C_alloc ?_ _) | (with_reducible refine Kd.C_drewN ?_ _) | (with_reducible refine Kd.C_drew ?_))); (case side2 => exact HC0.out); rintro e w12 ⟨v195, rfl, ho0, hb⟩; refine ⟨_, rfl, ?_⟩; have n0_ := Aside0.mk (Kd.R_below (by (with_reducible repeat (first | apply Kd.R_alloc | apply Kd.R_drewN | apply Kd.R_drew)); exact HO188.out) hb); have n1_ := Aside0.mk (Kd.R_elder' (by (with_reducible repeat (first | apply Kd.R_alloc | apply Kd.R_drewN | apply Kd.R_drew)); exact HO192.out) (Kd.R_base ho0) hb); have n2_ := Aside0.mk (Kd.R_lower (Kd.R_new' ho0 (Kd.R_lt (by (with_reducible repeat (first | apply Kd.R_alloc | apply Kd.R_drewN | apply Kd.R_drew)); exact HO192.out))) (below_size (by repeat (first | (with_reducible first | exact HB.out | apply below_alloc | apply pw_below_drewN | apply below_drew1) | exact HB.out)))); have n3_ := Aside0.mk (below_step (by repeat (first | (with_reducible first | exact HB.out | apply below_alloc | apply pw_below_drewN | apply below_drew1) | exact HB.out)) hb); clear HO188; clear HO192; clear HB; have HO188 := n0_; have HO192 := n1_; have HO196 := n2_; have HB := n3_; clear n0_ n1_ n2_ n3_; (try clear hb); (try clear hb2); (try clear hk); (try clear hi); (try clear ho0)))
    (try simp only [Act.put, List.setIfInBounds_toArray, List.set_cons_zero, List.set_cons_succ])
    go_cut [46] (fun v46 wc => ∃ (kq : Nat) (x46_5 : Bool), v46 = .bool x46_5 ∧ Aside0 (sojournlaw15_DutyBegins.j0 kq a1 y186 t189 t193 x46_5 = some r) ∧ Aside0 (kq ≤ k) ∧ Aside0 (Kd.R k51 51 wc w.heap.size (fun _ => True) (.slice Ao10 y186.length co10) y186) ∧ Aside0 (Kd.R k32 32 wc w.heap.size (fun k_ => some k_ ≠ (v195 : Value).ownBlock) v191 t189) ∧ Aside0 (Kd.R k32 32 wc w.heap.size (fun k_ => some k_ ≠ (v191 : Value).ownBlock) v195 t193) ∧ Aside0 (Below w.heap.size w wc))
    case first =>
      have H := HC6.out
      clear HC6
      replace H := Option.bind_eq_some_iff.mp H
      obtain ⟨t197, A130, H⟩ := H
      replace H : (if t197 = true then (if (t190 != t194) = true then (sojournlaw15_DutyBegins.j0 k a1 y186 t189 t193 true) else ((sojournref15_Same.f k t189 t193).bind fun t198 => (if t198 = true then ((sojournlaw15_sameDuties.f k l0 y186).bind fun t199 => (sojournlaw15_DutyBegins.j0 k a1 y186 t189 t193 (!t199))) else (sojournlaw15_DutyBegins.j0 k a1 y186 t189 t193 true)))) else (sojournlaw15_DutyBegins.j0 k a1 y186 t189 t193 true)) = some r := H
      have A13 := Aside0.mk A130
      clear A130
      by_cases c14 : t197 = true
      · subst c14
        have H1 : (if (t190 != t194) = true then (sojournlaw15_DutyBegins.j0 k a1 y186 t189 t193 true) else ((sojournref15_Same.f k t189 t193).bind fun t198 => (if t198 = true then ((sojournlaw15_sameDuties.f k l0 y186).bind fun t199 => (sojournlaw15_DutyBegins.j0 k a1 y186 t189 t193 (!t199))) else (sojournlaw15_DutyBegins.j0 k a1 y186 t189 t193 true)))) = some r := by rw [if_pos rfl] at H; exact H
        clear H
        have H := H1
        clear H1
        by_cases c15 : (t190 != t194) = true
        · rw [if_pos c15] at H
          have c15b0 : (t190 != t194) = true := c15
          (try (have c15b1 : decide (t190 = t194) = false := by simpa using c15))
          (try (have c15b2 : (t190 == t194) = false := by simpa using c15))
          (try (have c15b3 : ¬ (t190 = t194) := by simpa using c15))
          clear c15
          (first | rw [c15b0] | (simp only [i64_w, i32_w]; rw [c15b0]) | skip)
          have H' := Aside0.mk H
          clear H
          go_wp2_with (first | ((with_reducible refine gate_callee (f := 11) rfl ?_); refine goesL_ (some 28) rfl rfl Try.func11 (by kernel_rfl) rfl #[] rfl (by (try simp only [List.map_toArray, List.map_cons, List.map_nil]); first | done | rfl | (simp only [List.length_drop, List.length_take]; rfl)) ?_; (with_reducible refine (sojournlaw15_alive.calls k  true _ A13.out).mono ?_); rintro e w16 ⟨rfl, hb⟩; refine ⟨_, rfl, ?_⟩; have n0_ := Aside0.mk (Kd.R_below (by (with_reducible repeat (first | apply Kd.R_alloc | apply Kd.R_drewN | apply Kd.R_drew)); exact HO188.out) hb); have n1_ := Aside0.mk (Kd.R_below (by (with_reducible repeat (first | apply Kd.R_alloc | apply Kd.R_drewN | apply Kd.R_drew)); exact HO192.out) hb); have n2_ := Aside0.mk (Kd.R_below (by (with_reducible repeat (first | apply Kd.R_alloc | apply Kd.R_drewN | apply Kd.R_drew)); exact HO196.out) hb); have n3_ := Aside0.mk (below_step (by repeat (first | (with_reducible first | exact HB.out | apply below_alloc | apply pw_below_drewN | apply below_drew1) | exact HB.out)) hb); clear HO188; clear HO192; clear HO196; clear HB; have HO188 := n0_; have HO192 := n1_; have HO196 := n2_; have HB := n3_; clear n0_ n1_ n2_ n3_; (try clear hb); (try clear hb2); (try clear hk); (try clear hi)))
          go_meet
          case rel => exact ⟨_, (true), (by first | rfl | (simp; done) | (simp [*]; done)), H', ⟨by first | omega | exact Nat.le_refl _⟩, ⟨by (with_reducible repeat (first | apply Kd.R_alloc | apply Kd.R_drewN | apply Kd.R_drew)); exact HO188.out⟩, ⟨by (with_reducible repeat (first | apply Kd.R_alloc | apply Kd.R_drewN | apply Kd.R_drew)); exact Kd.R_mono HO192.out (fun _ hk => hk.2)⟩, ⟨by (with_reducible repeat (first | apply Kd.R_alloc | apply Kd.R_drewN | apply Kd.R_drew)); exact Kd.R_mono HO196.out (fun _ hk => hk.2)⟩, ⟨by repeat (first | (with_reducible first | exact HB.out | apply below_alloc | apply pw_below_drewN | apply below_drew1) | exact HB.out)⟩⟩
        · rw [if_neg c15] at H
          have c15b0 : (t190 != t194) = false := by simpa using c15
          (try (have c15b1 : decide (t190 = t194) = true := by simpa using c15))
          (try (have c15b2 : (t190 == t194) = true := by simpa using c15))
          clear c15
          (first | rw [c15b0] | (simp only [i64_w, i32_w]; rw [c15b0]) | skip)
          replace H := Option.bind_eq_some_iff.mp H
          obtain ⟨t198, A170, H⟩ := H
          replace H : (if t198 = true then ((sojournlaw15_sameDuties.f k l0 y186).bind fun t199 => (sojournlaw15_DutyBegins.j0 k a1 y186 t189 t193 (!t199))) else (sojournlaw15_DutyBegins.j0 k a1 y186 t189 t193 true)) = some r := H
          have A17 := Aside0.mk A170
          clear A170
          by_cases c18 : t198 = true
          · subst c18
            have H1 : ((sojournlaw15_sameDuties.f k l0 y186).bind fun t199 => (sojournlaw15_DutyBegins.j0 k a1 y186 t189 t193 (!t199))) = some r := by rw [if_pos rfl] at H; exact H
            clear H
            have H := H1
            clear H1
            replace H := Option.bind_eq_some_iff.mp H
            obtain ⟨t199, A190, H⟩ := H
            replace H : (sojournlaw15_DutyBegins.j0 k a1 y186 t189 t193 (!t199)) = some r := H
            have A19 := Aside0.mk A190
            clear A190
            have H' := Aside0.mk H
            clear H
            go_wp2_with (first | ((with_reducible refine gate_callee (f := 11) rfl ?_); refine goesL_ (some 28) rfl rfl Try.func11 (by kernel_rfl) rfl #[] rfl (by (try simp only [List.map_toArray, List.map_cons, List.map_nil]); first | done | rfl | (simp only [List.length_drop, List.length_take]; rfl)) ?_; (with_reducible refine (sojournlaw15_alive.calls k  true _ A13.out).mono ?_); rintro e w20 ⟨rfl, hb⟩; refine ⟨_, rfl, ?_⟩; have n0_ := Aside0.mk (Kd.R_below (by (with_reducible repeat (first | apply Kd.R_alloc | apply Kd.R_drewN | apply Kd.R_drew)); exact HO188.out) hb); have n1_ := Aside0.mk (Kd.R_below (by (with_reducible repeat (first | apply Kd.R_alloc | apply Kd.R_drewN | apply Kd.R_drew)); exact HO192.out) hb); have n2_ := Aside0.mk (Kd.R_below (by (with_reducible repeat (first | apply Kd.R_alloc | apply Kd.R_drewN | apply Kd.R_drew)); exact HO196.out) hb); have n3_ := Aside0.mk (below_step (by repeat (first | (with_reducible first | exact HB.out | apply below_alloc | apply pw_below_drewN | apply below_drew1) | exact HB.out)) hb); clear HO188; clear HO192; clear HO196; clear HB; have HO188 := n0_; have HO192 := n1_; have HO196 := n2_; have HB := n3_; clear n0_ n1_ n2_ n3_; (try clear hb); (try clear hb2); (try clear hk); (try clear hi); obtain ⟨Ao21, co21, eo21⟩ := Kd.R_slice HO192.out; subst eo21; obtain ⟨Ao22, co22, eo22⟩ := Kd.R_slice HO196.out; subst eo22) | (go_at_call 15; (with_reducible refine (sojournref15_Same.calls k _ _ t189 _ _ t193 true _ ?side1 ?side2 ?side3 ?side4 A17.out).mono ?_); (case side1 => repeat (first | exact (Kd.R_reads' HO192.out).2.2 | (with_reducible refine Kd.C_alloc ?_ _) | (with_reducible refine Kd.C_drewN ?_ _) | (with_reducible refine Kd.C_drew ?_))); (case side2 => exact (Kd.R_reads' HO192.out).2.1); (case side3 => repeat (first | exact (Kd.R_reads' HO196.out).2.2 | (with_reducible refine Kd.C_alloc ?_ _) | (with_reducible refine Kd.C_drewN ?_ _) | (with_reducible refine Kd.C_drew ?_))); (case side4 => exact (Kd.R_reads' HO196.out).2.1); rintro e w' ⟨rfl, ⟨nd, rfl⟩⟩) | (go_at_call 14; (with_reducible refine (sojournlaw15_sameDuties.calls k _ _ l0 _ _ y186 t199 _ ?side1 ?side2 ?side3 ?side4 A19.out).mono ?_); (case side1 => repeat (first | exact (Kd.C_below HR0.out (by repeat (first | (with_reducible first | exact HB.out | apply below_alloc | apply pw_below_drewN | apply below_drew1) | exact HB.out))) | (with_reducible refine Kd.C_alloc ?_ _) | (with_reducible refine Kd.C_drewN ?_ _) | (with_reducible refine Kd.C_drew ?_))); (case side2 => exact HC0.out); (case side3 => repeat (first | exact (Kd.R_reads' HO188.out).2.2 | (with_reducible refine Kd.C_alloc ?_ _) | (with_reducible refine Kd.C_drewN ?_ _) | (with_reducible refine Kd.C_drew ?_))); (case side4 => exact (Kd.R_reads' HO188.out).2.1); rintro e w' ⟨rfl, ⟨nd, rfl⟩⟩))
            go_meet
            case rel => exact ⟨_, (!t199), (by first | rfl | (simp; done) | (simp [*]; done)), H', ⟨by first | omega | exact Nat.le_refl _⟩, ⟨by (with_reducible repeat (first | apply Kd.R_alloc | apply Kd.R_drewN | apply Kd.R_drew)); exact HO188.out⟩, ⟨by (with_reducible repeat (first | apply Kd.R_alloc | apply Kd.R_drewN | apply Kd.R_drew)); exact Kd.R_mono HO192.out (fun _ hk => hk.2)⟩, ⟨by (with_reducible repeat (first | apply Kd.R_alloc | apply Kd.R_drewN | apply Kd.R_drew)); exact Kd.R_mono HO196.out (fun _ hk => hk.2)⟩, ⟨by repeat (first | (with_reducible first | exact HB.out | apply below_alloc | apply pw_below_drewN | apply below_drew1) | exact HB.out)⟩⟩
          · replace c18 := Bool.eq_false_iff.mpr c18
            subst c18
            have H1 : (sojournlaw15_DutyBegins.j0 k a1 y186 t189 t193 true) = some r := by rw [if_neg (show ¬ (false = true) by decide)] at H; exact H
            clear H
            have H := H1
            clear H1
            have H' := Aside0.mk H
            clear H
            go_wp2_with (first | ((with_reducible refine gate_callee (f := 11) rfl ?_); refine goesL_ (some 28) rfl rfl Try.func11 (by kernel_rfl) rfl #[] rfl (by (try simp only [List.map_toArray, List.map_cons, List.map_nil]); first | done | rfl | (simp only [List.length_drop, List.length_take]; rfl)) ?_; (with_reducible refine (sojournlaw15_alive.calls k  true _ A13.out).mono ?_); rintro e w23 ⟨rfl, hb⟩; refine ⟨_, rfl, ?_⟩; have n0_ := Aside0.mk (Kd.R_below (by (with_reducible repeat (first | apply Kd.R_alloc | apply Kd.R_drewN | apply Kd.R_drew)); exact HO188.out) hb); have n1_ := Aside0.mk (Kd.R_below (by (with_reducible repeat (first | apply Kd.R_alloc | apply Kd.R_drewN | apply Kd.R_drew)); exact HO192.out) hb); have n2_ := Aside0.mk (Kd.R_below (by (with_reducible repeat (first | apply Kd.R_alloc | apply Kd.R_drewN | apply Kd.R_drew)); exact HO196.out) hb); have n3_ := Aside0.mk (below_step (by repeat (first | (with_reducible first | exact HB.out | apply below_alloc | apply pw_below_drewN | apply below_drew1) | exact HB.out)) hb); clear HO188; clear HO192; clear HO196; clear HB; have HO188 := n0_; have HO192 := n1_; have HO196 := n2_; have HB := n3_; clear n0_ n1_ n2_ n3_; (try clear hb); (try clear hb2); (try clear hk); (try clear hi); obtain ⟨Ao24, co24, eo24⟩ := Kd.R_slice HO192.out; subst eo24; obtain ⟨Ao25, co25, eo25⟩ := Kd.R_slice HO196.out; subst eo25) | (go_at_call 15; (with_reducible refine (sojournref15_Same.calls k _ _ t189 _ _ t193 false _ ?side1 ?side2 ?side3 ?side4 A17.out).mono ?_); (case side1 => repeat (first | exact (Kd.R_reads' HO192.out).2.2 | (with_reducible refine Kd.C_alloc ?_ _) | (with_reducible refine Kd.C_drewN ?_ _) | (with_reducible refine Kd.C_drew ?_))); (case side2 => exact (Kd.R_reads' HO192.out).2.1); (case side3 => repeat (first | exact (Kd.R_reads' HO196.out).2.2 | (with_reducible refine Kd.C_alloc ?_ _) | (with_reducible refine Kd.C_drewN ?_ _) | (with_reducible refine Kd.C_drew ?_))); (case side4 => exact (Kd.R_reads' HO196.out).2.1); rintro e w' ⟨rfl, ⟨nd, rfl⟩⟩))
            go_meet
            case rel => exact ⟨_, (true), (by first | rfl | (simp; done) | (simp [*]; done)), H', ⟨by first | omega | exact Nat.le_refl _⟩, ⟨by (with_reducible repeat (first | apply Kd.R_alloc | apply Kd.R_drewN | apply Kd.R_drew)); exact HO188.out⟩, ⟨by (with_reducible repeat (first | apply Kd.R_alloc | apply Kd.R_drewN | apply Kd.R_drew)); exact Kd.R_mono HO192.out (fun _ hk => hk.2)⟩, ⟨by (with_reducible repeat (first | apply Kd.R_alloc | apply Kd.R_drewN | apply Kd.R_drew)); exact Kd.R_mono HO196.out (fun _ hk => hk.2)⟩, ⟨by repeat (first | (with_reducible first | exact HB.out | apply below_alloc | apply pw_below_drewN | apply below_drew1) | exact HB.out)⟩⟩
      · replace c14 := Bool.eq_false_iff.mpr c14
        subst c14
        have H1 : (sojournlaw15_DutyBegins.j0 k a1 y186 t189 t193 true) = some r := by rw [if_neg (show ¬ (false = true) by decide)] at H; exact H
        clear H
        have H := H1
        clear H1
        have H' := Aside0.mk H
        clear H
        go_wp2_with (first | ((with_reducible refine gate_callee (f := 11) rfl ?_); refine goesL_ (some 28) rfl rfl Try.func11 (by kernel_rfl) rfl #[] rfl (by (try simp only [List.map_toArray, List.map_cons, List.map_nil]); first | done | rfl | (simp only [List.length_drop, List.length_take]; rfl)) ?_; (with_reducible refine (sojournlaw15_alive.calls k  false _ A13.out).mono ?_); rintro e w26 ⟨rfl, hb⟩; refine ⟨_, rfl, ?_⟩; have n0_ := Aside0.mk (Kd.R_below (by (with_reducible repeat (first | apply Kd.R_alloc | apply Kd.R_drewN | apply Kd.R_drew)); exact HO188.out) hb); have n1_ := Aside0.mk (Kd.R_below (by (with_reducible repeat (first | apply Kd.R_alloc | apply Kd.R_drewN | apply Kd.R_drew)); exact HO192.out) hb); have n2_ := Aside0.mk (Kd.R_below (by (with_reducible repeat (first | apply Kd.R_alloc | apply Kd.R_drewN | apply Kd.R_drew)); exact HO196.out) hb); have n3_ := Aside0.mk (below_step (by repeat (first | (with_reducible first | exact HB.out | apply below_alloc | apply pw_below_drewN | apply below_drew1) | exact HB.out)) hb); clear HO188; clear HO192; clear HO196; clear HB; have HO188 := n0_; have HO192 := n1_; have HO196 := n2_; have HB := n3_; clear n0_ n1_ n2_ n3_; (try clear hb); (try clear hb2); (try clear hk); (try clear hi)))
        go_meet
        case rel => exact ⟨_, (true), (by first | rfl | (simp; done) | (simp [*]; done)), H', ⟨by first | omega | exact Nat.le_refl _⟩, ⟨by (with_reducible repeat (first | apply Kd.R_alloc | apply Kd.R_drewN | apply Kd.R_drew)); exact HO188.out⟩, ⟨by (with_reducible repeat (first | apply Kd.R_alloc | apply Kd.R_drewN | apply Kd.R_drew)); exact Kd.R_mono HO192.out (fun _ hk => hk.2)⟩, ⟨by (with_reducible repeat (first | apply Kd.R_alloc | apply Kd.R_drewN | apply Kd.R_drew)); exact Kd.R_mono HO196.out (fun _ hk => hk.2)⟩, ⟨by repeat (first | (with_reducible first | exact HB.out | apply below_alloc | apply pw_below_drewN | apply below_drew1) | exact HB.out)⟩⟩
    case rest =>
      clear HC6
      try clear c1
      try clear p2
      try clear c3
      try clear c4
      try clear c11
      try clear c14
      try clear c15
      try clear c15b0
      try clear c15b1
      try clear c15b2
      try clear c16
      try clear c17
      try clear c18
      obtain ⟨kq, x46_5, rfl, HA, HJ5, HO_5, HO_6, HO_8, HB⟩ := hcut
      cases kq with
      | zero => exact absurd HA.out (by simp [sojournlaw15_DutyBegins.j0])
      | succ kj5 =>
        have H := HA.out
        clear HA
        simp only [sojournlaw15_DutyBegins.j0] at H
        by_cases c27 : x46_5 = true
        · subst c27
          have H1 : (some false) = some r := by rw [if_pos rfl] at H; exact H
          clear H
          have H := H1
          clear H1
          obtain rfl := Option.some.inj H
          go_wp2
          go_ret
          exact ⟨by first | rfl | (simp [errW_none, errW_some] <;> rfl) | (simp [*, errW_none, errW_some] <;> rfl), by repeat (first | (with_reducible first | exact HB.out | apply below_alloc | apply pw_below_drewN | apply below_drew1) | exact HB.out)⟩
        · replace c27 := Bool.eq_false_iff.mpr c27
          subst c27
          have H1 : (sojournlaw15_DutyBegins.l0 kj5 a1 y186 t189 t193 (t189.length : Int) 0) = some r := by rw [if_neg (show ¬ (false = true) by decide)] at H; exact H
          clear H
          have H := H1
          clear H1
          have H' := Aside0.mk H
          clear H
          obtain ⟨Ao28, co28, eo28⟩ := Kd.R_slice HO_6.out
          subst eo28
          go_wp2
          go_loopg [49] kj5 (fun kq v49 w' => ∃ (x6_2 : List (S32)) (x49_2 : Int), v49 = .int .i64 x49_2 ∧ Aside0 (sojournlaw15_DutyBegins.l0 kq a1 y186 x6_2 t193 (t189.length : Int) x49_2 = some r) ∧ Aside0 (kq ≤ kj5) ∧ Aside0 (Kd.R k51 51 w' w.heap.size (fun _ => True) (.slice Ao10 y186.length co10) y186) ∧ Aside0 (Kd.R k32 32 w' w.heap.size (fun k_ => some k_ ≠ (v195 : Value).ownBlock) (.slice Ao28 t189.length co28) x6_2) ∧ Aside0 (Kd.R k32 32 w' w.heap.size (fun k_ => some k_ ≠ ((.slice Ao28 t189.length co28) : Value).ownBlock) v195 t193) ∧ Aside0 (Below w.heap.size w w'))
          case atStart => exact ⟨(t189), (0), (by first | rfl | (simp; done) | (simp [*]; done)), H', ⟨Nat.le_refl _⟩, ⟨by (with_reducible repeat (first | apply Kd.R_alloc | apply Kd.R_drewN | apply Kd.R_drew)); exact HO_5.out⟩, ⟨by (with_reducible repeat (first | apply Kd.R_alloc | apply Kd.R_drewN | apply Kd.R_drew)); exact HO_6.out⟩, ⟨by (with_reducible repeat (first | apply Kd.R_alloc | apply Kd.R_drewN | apply Kd.R_drew)); exact HO_8.out⟩, ⟨by repeat (first | (with_reducible first | exact HB.out | apply below_alloc | apply pw_below_drewN | apply below_drew1) | exact HB.out)⟩⟩
          case round =>
            clear H'
            try clear c1
            try clear c2
            try clear p2
            try clear c3
            try clear c4
            try clear c11
            try clear c14
            try clear c15
            try clear c15b0
            try clear c15b1
            try clear c15b2
            try clear c16
            try clear c17
            try clear c18
            try clear c27
            try clear p2
            obtain ⟨x6_2, x49_2, rfl, HA, HK2, HO_5, HO_6, HO_8, HB⟩ := hrel
            have hl6_2 := (Kd.R_reads' HO_6.out).1
            rw [hl6_2] at HO_6
            (try simp only [hl6_2])
            (try simp only [hl6_2] at HO_5)
            (try simp only [hl6_2] at HO_8)
            cases gk with
            | zero => exact absurd HA.out (by simp [sojournlaw15_DutyBegins.l0])
            | succ k2 =>
              have H := HA.out
              clear HA
              simp only [sojournlaw15_DutyBegins.l0] at H
              by_cases c29 : x49_2 < (t189.length : Int)
              · rw [if_pos c29] at H
                have c29b0 : decide (x49_2 < (t189.length : Int)) = true := decide_eq_true c29
                clear c29
                by_cases c30 : 0 ≤ x49_2
                · rw [if_pos c30] at H
                  have c30b0 : decide (0 ≤ x49_2) = true := decide_eq_true c30
                  clear c30
                  by_cases c31 : x49_2 < (x6_2.length : Int)
                  · rw [if_pos c31] at H
                    have c31b0 : decide (x49_2 < (x6_2.length : Int)) = true := decide_eq_true c31
                    clear c31
                    obtain ⟨y200, hy200⟩ : ∃ y_ : List (S32), y_ = (x6_2.set (x49_2 : Int).toNat (⟨(-9), true⟩ : S32)) := ⟨_, rfl⟩
                    replace H : (sojournlaw15_DutyBegins.l0 k2 a1 y186 y200 t193 (t189.length : Int) (wrap64 (x49_2 + 1))) = some r := by first | (rw [hy200]; with_reducible exact H) | (have H2_ := (Option.bind_some _ _).symm.trans H; rw [hy200]; with_reducible exact H2_) | (have H2_ := (Option.bind_some _ _).symm.trans H; with_reducible exact H2_) | with_reducible exact H | (rw [hy200]; exact H) | exact H
                    have Ny200 := Aside0.mk hy200
                    clear hy200
                    have H' := Aside0.mk H
                    clear H
                    have p32 : 0 ≤ (x49_2 : Int) := of_decide_eq_true (by first | (with_reducible assumption) | assumption)
                    have q32 : (x49_2 : Int) < ((x6_2.length : Int) : Int) := of_decide_eq_true (by first | (with_reducible assumption) | assumption)
                    obtain ⟨go32, co32, eo32, gb32, gl32, cl32, HG32⟩ := Kd.R_form HO_6.out (by omega)
                    (first | cases eo32 | (injection eo32 with ea_ en_ ec_; (first | subst ea_ | (injection ea_ with ea_; subst ea_)); subst ec_; clear en_))
                    have GB32 := Aside0.mk gb32
                    have GG32 := Aside0.mk HG32
                    clear gb32 gl32 HG32
                    obtain ⟨ce32, hcl32, hM32, hcc32, hfr32⟩ := Kd.R_elem HO_6.out z32 (x49_2 : Int) p32 q32
                    obtain rfl := k32_openM hM32
                    have hx32_0 : wr.cell? ⟨go32, (x49_2 : Int).toNat * 2, none⟩ = some (.int .i64 ((rd_T32 x6_2 x49_2).f0)) := hcc32 0 _ rfl
                    have hx32_1 : wr.cell? ⟨go32, (x49_2 : Int).toNat * 2 + 1, none⟩ = some (.bool ((rd_T32 x6_2 x49_2).f1)) := hcc32 1 _ rfl
                    have hf32_0 : wr.frozen? ⟨go32, (x49_2 : Int).toNat * 2, none⟩ = false := hfr32 0
                    have hf32_1 : wr.frozen? ⟨go32, (x49_2 : Int).toNat * 2 + 1, none⟩ = false := hfr32 1
                    clear hcl32 hcc32 hfr32 hM32
                    replace p32 := eq_true p32
                    replace q32 := eq_true q32
                    have HX33 := Aside0.mk (show Kd.R k32 32 wr w.heap.size (fun k_ => some k_ ≠ (v195 : Value).ownBlock) (.slice (some ⟨go32, 0, none⟩) x6_2.length co28) x6_2 from (by (with_reducible repeat (first | apply Kd.R_alloc | apply Kd.R_drewN | apply Kd.R_drew)); exact HO_6.out))
                    obtain ⟨ce33, hcl33, hM33, hcc33, hfr33⟩ := Kd.R_elem HX33.out z32 (x49_2 : Int) (of_decide_eq_true (by first | (with_reducible assumption) | assumption)) (by have h_ : (x49_2 : Int) < ((x6_2.length : Int) : Int) := of_decide_eq_true (by first | (with_reducible assumption) | assumption); first | exact h_ | (have e_ := (Kd.R_reads' HO_6.out).1; omega) | simpa using h_)
                    obtain rfl := k32_openM hM33
                    have HP33 := Kd.R_seg HX33.out (x49_2 : Int) (of_decide_eq_true (by first | (with_reducible assumption) | assumption)) (by have h_ : (x49_2 : Int) < ((x6_2.length : Int) : Int) := of_decide_eq_true (by first | (with_reducible assumption) | assumption); first | exact h_ | (have e_ := (Kd.R_reads' HO_6.out).1; omega) | simpa using h_) (seg := [.int .i64 (-9), .bool true]) (j := 0) hcl33 hcc33 (show 2 ≤ 2 from by decide) (x' := (⟨(-9), true⟩ : S32)) (k32_mkM _ _ _ (⟨(-9), true⟩ : S32) ) (fun _ hk => hk)
                    have hx33_0 := hcc33 0 _ rfl
                    (try simp only [show (k32).sz = 2 from rfl, Nat.mul_one, Nat.add_zero] at hx33_0)
                    have hf33_0 := hfr33 0
                    (try simp only [show (k32).sz = 2 from rfl, Nat.mul_one, Nat.add_zero] at hf33_0)
                    have hx33_1 := hcc33 1 _ rfl
                    (try simp only [show (k32).sz = 2 from rfl, Nat.mul_one, Nat.add_zero] at hx33_1)
                    have hf33_1 := hfr33 1
                    (try simp only [show (k32).sz = 2 from rfl, Nat.mul_one, Nat.add_zero] at hf33_1)
                    clear hcl33 hcc33 hfr33 hM33
                    go_wp2_with (first | ((with_reducible refine gate_store (t := 32) (p := 55) rfl ?_); refine store_event (t := 32) (p := 55) (v := ?vo_w34) (w1 := ((wr.setCell ⟨go32, (x49_2 : Int).toNat * 2, none⟩ (.int .i64 (-9))).setCell ⟨go32, (x49_2 : Int).toNat * 2 + 1, none⟩ (.bool true))) ?hg ?ho ?hn ?hr ?_; (case ho => rfl); (case hg => rfl); (case hn => rfl); (case hr => first | (go_simp; done) | (go_simp; rfl)); intro w34 hw; have hg : wr.grownBy w34 (some go32) := (by rw [hw]; exact HP33.2); have hp_ : Kd.R k32 32 w34 w.heap.size (fun k_ => some k_ ≠ (v195 : Value).ownBlock) (.slice (some ⟨go32, 0, none⟩) x6_2.length co28) y200 := (by rw [hw, Ny200.out]; exact HP33.1); clear HP33; have n0_ := Aside0.mk (Kd.R_over' (v := (.slice (some ⟨go32, 0, none⟩) x6_2.length co28)) (by (with_reducible repeat (first | apply Kd.R_alloc | apply Kd.R_drewN | apply Kd.R_drew)); exact HO_5.out) (Kd.R_typed HO_6.out) (by decide) hg); have n1_ := Aside0.mk (hp_); have n2_ := Aside0.mk (Kd.R_after (v := (.slice (some ⟨go32, 0, none⟩) x6_2.length co28)) (v1 := (.slice (some ⟨go32, 0, none⟩) x6_2.length co28)) (ok := (fun _ => True)) (by (with_reducible repeat (first | apply Kd.R_alloc | apply Kd.R_drewN | apply Kd.R_drew)); exact Kd.R_mono HO_8.out (fun _ hk => ⟨trivial, hk⟩)) hg (.inl rfl)); have n3_ := Aside0.mk ((by rw [hw]; exact below_set (below_set (HB.out) GB32.out) GB32.out : Below w.heap.size w w34)); clear HO_5; clear HO_6; clear HO_8; clear HB; have HO_5 := n0_; have HO_6 := n1_; have HO_8 := n2_; have HB := n3_; clear n0_ n1_ n2_ n3_; clear hg hw hp_))
                    (try simp only [← hl6_2])
                    go_roundg k2
                    case measure => have := HJ5.out; have := HK2.out; omega
                    case rel => exact ⟨(y200), (wrap64 (x49_2 + 1)), (by first | rfl | (simp; done) | (simp [*]; done)), H', ⟨by have := HJ5.out; have := HK2.out; omega⟩, ⟨by (try simp only [hl6_2]); (with_reducible repeat (first | apply Kd.R_alloc | apply Kd.R_drewN | apply Kd.R_drew)); exact HO_5.out⟩, ⟨by (try simp only [hl6_2]); (with_reducible repeat (first | apply Kd.R_alloc | apply Kd.R_drewN | apply Kd.R_drew)); exact HO_6.out⟩, ⟨by (try simp only [hl6_2]); (with_reducible repeat (first | apply Kd.R_alloc | apply Kd.R_drewN | apply Kd.R_drew)); exact Kd.R_mono HO_8.out (fun _ hk => hk.2)⟩, ⟨by repeat (first | (with_reducible first | exact HB.out | apply below_alloc | apply pw_below_drewN | apply below_drew1) | exact HB.out)⟩⟩
                  · rw [if_neg c31] at H
                    exact absurd H (by simp)
                · rw [if_neg c30] at H
                  exact absurd H (by simp)
              · rw [if_neg c29] at H
                have c29b0 : decide (x49_2 < (t189.length : Int)) = false := decide_eq_false c29
                have c29b1 : decide (x49_2 < (x6_2.length : Int)) = false := by rw [← hl6_2]; exact c29b0
                clear c29
                replace H := Option.bind_eq_some_iff.mp H
                obtain ⟨⟨t201, t202⟩, A350, H⟩ := H
                replace H : ((sojournref15_Same.f k2 t201 t193).bind fun t205 => (some t205)) = some r := H
                have A35 := Aside0.mk A350
                clear A350
                replace H := Option.bind_eq_some_iff.mp H
                obtain ⟨t205, A360, H⟩ := H
                replace H : (some t205) = some r := H
                have A36 := Aside0.mk A360
                clear A360
                obtain rfl := Option.some.inj H
                go_wp2_with (first | ((with_reducible refine gate_callee (f := 16) rfl ?_); refine goesL_ (some 60) rfl rfl Try.func16 (by kernel_rfl) rfl #[.slice Ao10 y186.length co10, .int .i64 a1] rfl (by (try simp only [List.map_toArray, List.map_cons, List.map_nil]); first | done | rfl | (simp only [List.length_drop, List.length_take]; rfl)) ?_; (with_reducible refine (duty_Begin.calls k2 _ _ y186 a1 t201 t202 _ ?side1 ?side2 A35.out).mono ?_); (case side1 => repeat (first | exact (Kd.R_reads' HO_5.out).2.2 | (with_reducible refine Kd.C_alloc ?_ _) | (with_reducible refine Kd.C_drewN ?_ _) | (with_reducible refine Kd.C_drew ?_))); (case side2 => exact (Kd.R_reads' HO_5.out).2.1); rintro e w37 ⟨v203, rfl, ho0, hb⟩; refine ⟨_, rfl, ?_⟩; have n0_ := Aside0.mk (Kd.R_below (by (with_reducible repeat (first | apply Kd.R_alloc | apply Kd.R_drewN | apply Kd.R_drew)); exact HO_5.out) hb); have n1_ := Aside0.mk (Kd.R_elder' (by (with_reducible repeat (first | apply Kd.R_alloc | apply Kd.R_drewN | apply Kd.R_drew)); exact HO_6.out) (Kd.R_base ho0) hb); have n2_ := Aside0.mk (Kd.R_elder' (by (with_reducible repeat (first | apply Kd.R_alloc | apply Kd.R_drewN | apply Kd.R_drew)); exact HO_8.out) (Kd.R_base ho0) hb); have n3_ := Aside0.mk (Kd.R_lower (Kd.R_new' (Kd.R_new' ho0 (Kd.R_lt (by (with_reducible repeat (first | apply Kd.R_alloc | apply Kd.R_drewN | apply Kd.R_drew)); exact HO_6.out))) (Kd.R_lt (by (with_reducible repeat (first | apply Kd.R_alloc | apply Kd.R_drewN | apply Kd.R_drew)); exact HO_8.out))) (below_size (by repeat (first | (with_reducible first | exact HB.out | apply below_alloc | apply pw_below_drewN | apply below_drew1) | exact HB.out)))); have n4_ := Aside0.mk (below_step (by repeat (first | (with_reducible first | exact HB.out | apply below_alloc | apply pw_below_drewN | apply below_drew1) | exact HB.out)) hb); clear HO_5; clear HO_6; clear HO_8; clear HB; have HO_5 := n0_; have HO_6 := n1_; have HO_8 := n2_; have HO204 := n3_; have HB := n4_; clear n0_ n1_ n2_ n3_ n4_; (try clear hb); (try clear hb2); (try clear hk); (try clear hi); (try clear ho0); obtain ⟨Ao38, co38, eo38⟩ := Kd.R_slice HO204.out; subst eo38; obtain ⟨Ao39, co39, eo39⟩ := Kd.R_slice HO_8.out; subst eo39) | ((with_reducible refine gate_callee (f := 15) rfl ?_); refine goesL_ (some 65) rfl rfl Try.func15 (by kernel_rfl) rfl #[.slice Ao38 t201.length co38, .slice Ao39 t193.length co39] rfl (by (try simp only [List.map_toArray, List.map_cons, List.map_nil]); first | done | rfl | (simp only [List.length_drop, List.length_take]; rfl)) ?_; (with_reducible refine (sojournref15_Same.calls k2 _ _ t201 _ _ t193 t205 _ ?side1 ?side2 ?side3 ?side4 A36.out).mono ?_); (case side1 => repeat (first | exact (Kd.R_reads' HO204.out).2.2 | (with_reducible refine Kd.C_alloc ?_ _) | (with_reducible refine Kd.C_drewN ?_ _) | (with_reducible refine Kd.C_drew ?_))); (case side2 => exact (Kd.R_reads' HO204.out).2.1); (case side3 => repeat (first | exact (Kd.R_reads' HO_8.out).2.2 | (with_reducible refine Kd.C_alloc ?_ _) | (with_reducible refine Kd.C_drewN ?_ _) | (with_reducible refine Kd.C_drew ?_))); (case side4 => exact (Kd.R_reads' HO_8.out).2.1); rintro e w' ⟨rfl, ⟨nd, rfl⟩⟩; refine ⟨_, rfl, ?_⟩))
                go_ret
                exact ⟨by first | rfl | (simp [errW_none, errW_some] <;> rfl) | (simp [*, errW_none, errW_some] <;> rfl), by repeat (first | (with_reducible first | exact HB.out | apply below_alloc | apply pw_below_drewN | apply below_drew1) | exact HB.out)⟩
  · rw [if_neg c3] at H
    exact absurd H (by simp)

end Go.Proofs.Ytgphdeelangkfaa.PDuty
