-- PRINTED by print.py (a twelfth state) out of the translation. Not trusted: Lean checks it.
import Derived.Test.YtgphdeelangkfaaPDutyx0
import Derived.Test.YtgphdeelangkfaaPDutyx7
import Derived.Test.YtgphdeelangkfaaA6
namespace Go.Proofs.Ytgphdeelangkfaa.PDuty
open Go.RowKit Go.Proofs.YtgphdeelangkfaaW.PrintWords Go.Proofs.YtgphdeelangkfaaW.PrintLast Go.Proofs.YtgphdeelangkfaaW.PrintMore
attribute [local go_sem] max2_int min2_int max_two min_two max_three min_three max_four min_four   -- for this text's walks alone
set_option linter.unusedVariables false
set_option linter.unusedSimpArgs false

/-! ### sojournref15_Done: function 19 -/
mutual
def sojournref15_Done.l0 : Nat → List (S51) → List (S32) → ByteArray → Int → Int → Option ((List (S32)) × Int)
  | 0, _, _, _, _, _ => none
  | k + 1, x0, x1, x2, x3, x11 => if x11 < (x0.length : Int) then (if 0 ≤ x11 then (if ((rd_T51 x0 x11).f0).toList = x2.toList then ((sojournref01_Add.f x3 ((rd_T51 x0 x11).f1)).bind fun bt209 => (if x11 < (x1.length : Int) then (if (rd_T32 x1 x11).f1 = true then (some (([] : List (S32)), 151)) else (if (rd_T51 x0 x11).f2 = true then (sojournref15_Done.j1 k x0 x1 x11 bt209.1 (!bt209.2)) else (sojournref15_Done.j1 k x0 x1 x11 bt209.1 false))) else (none))) else (sojournref15_Done.l0 k x0 x1 x2 x3 (wrap64 (x11 + 1)))) else (none)) else (some (([] : List (S32)), 150))
def sojournref15_Done.j1 : Nat → List (S51) → List (S32) → Int → Int → Bool → Option ((List (S32)) × Int)
  | 0, _, _, _, _, _ => none
  | k + 1, x0, x1, x11, x12, x56 => if x56 = true then (some (([] : List (S32)), 152)) else ((some (([] : List (S32)) : List (S32))).bind fun y213 => (if y213.length + x1.length < 8796093022208 then ((some (y213 ++ x1 : List (S32))).bind fun y216 => (if 0 ≤ x11 then (if x11 < (x0.length : Int) then (if (rd_T51 x0 x11).f2 = true then (if x11 < (y216.length : Int) then (some ((y216.set (x11 : Int).toNat (⟨x12, (rd_T32 y216 x11).f1⟩ : S32)), 0)) else (none)) else (if x11 < (y216.length : Int) then (some ((y216.set (x11 : Int).toNat (⟨(rd_T32 y216 x11).f0, true⟩ : S32)), 0)) else (none))) else (none)) else (none))) else (none)))
end
def sojournref15_Done.f (k : Nat) (l0 : List (S51)) (l1 : List (S32)) (a2 : ByteArray) (a3 : Int) : Option ((List (S32)) × Int) := (sojournref15_Stand.f k l0 l1).bind fun t206 => (if t206 = true then (sojournref15_Done.l0 k l0 l1 a2 a3 0) else (some (([] : List (S32)), 1)))
theorem sojournref15_Done.mono_l : ∀ k, (∀ y0 y1 y2 y3 y4, LeO (sojournref15_Done.l0 k y0 y1 y2 y3 y4) (sojournref15_Done.l0 (k + 1) y0 y1 y2 y3 y4)) ∧ (∀ y0 y1 y2 y3 y4, LeO (sojournref15_Done.j1 k y0 y1 y2 y3 y4) (sojournref15_Done.j1 (k + 1) y0 y1 y2 y3 y4))
  | 0 => ⟨fun _ _ _ _ _ r h => by simp [sojournref15_Done.l0] at h, fun _ _ _ _ _ r h => by simp [sojournref15_Done.j1] at h⟩
  | k + 1 => by
    obtain ⟨ih0, ih1⟩ := sojournref15_Done.mono_l k
    refine ⟨?_, ?_⟩
    · intro y0 y1 y2 y3 y4
      unfold sojournref15_Done.l0
      repeat' first
      | (with_reducible exact ih0 _ _ _ _ _)
      | (with_reducible exact ih1 _ _ _ _ _)
      | (with_reducible exact sojournref15_Stand.mono _ _ _)
      | (with_reducible exact LeO.refl _)
      | (with_reducible exact LeO.none _)
      | (with_reducible refine LeO.ite ?_ ?_)
      | (with_reducible refine LeO.bind ?_ (fun _ => ?_))
      | exact ih0 _ _ _ _ _
      | exact ih1 _ _ _ _ _
      | exact sojournref15_Stand.mono _ _ _
      | exact LeO.none _
      | refine LeO.ite ?_ ?_
      | refine LeO.bind ?_ (fun _ => ?_)
    · intro y0 y1 y2 y3 y4
      unfold sojournref15_Done.j1
      repeat' first
      | (with_reducible exact ih0 _ _ _ _ _)
      | (with_reducible exact ih1 _ _ _ _ _)
      | (with_reducible exact sojournref15_Stand.mono _ _ _)
      | (with_reducible exact LeO.refl _)
      | (with_reducible exact LeO.none _)
      | (with_reducible refine LeO.ite ?_ ?_)
      | (with_reducible refine LeO.bind ?_ (fun _ => ?_))
      | exact ih0 _ _ _ _ _
      | exact ih1 _ _ _ _ _
      | exact sojournref15_Stand.mono _ _ _
      | exact LeO.none _
      | refine LeO.ite ?_ ?_
      | refine LeO.bind ?_ (fun _ => ?_)
theorem sojournref15_Done.mono : ∀ a0 a1 a2 a3 k, LeO (sojournref15_Done.f k a0 a1 a2 a3) (sojournref15_Done.f (k + 1) a0 a1 a2 a3) := by
  intro a0 a1 a2 a3 k
  obtain ⟨ih0, ih1⟩ := sojournref15_Done.mono_l k
  unfold sojournref15_Done.f
  repeat' first
      | (with_reducible exact ih0 _ _ _ _ _)
      | (with_reducible exact ih1 _ _ _ _ _)
      | (with_reducible exact sojournref15_Stand.mono _ _ _)
      | (with_reducible exact LeO.refl _)
      | (with_reducible exact LeO.none _)
      | (with_reducible refine LeO.ite ?_ ?_)
      | (with_reducible refine LeO.bind ?_ (fun _ => ?_))
      | exact ih0 _ _ _ _ _
      | exact ih1 _ _ _ _ _
      | exact sojournref15_Stand.mono _ _ _
      | exact LeO.none _
      | refine LeO.ite ?_ ?_
      | refine LeO.bind ?_ (fun _ => ?_)
set_option maxHeartbeats 8000000 in
set_option maxRecDepth 100000 in
theorem sojournref15_Done.calls (k : Nat) (A0 : Option Addr) (c0 : Nat) (l0 : List (S51)) (A1 : Option Addr) (c1 : Nat) (l1 : List (S32)) (a2 : ByteArray) (a3 : Int) (r1 : List (S32)) (r2 : Int) (w : World) (hr0 : Kd.C k51 w A0 l0.length l0) (hc0 : l0.length ≤ c0) (hr1 : Kd.C k32 w A1 l1.length l1) (hc1 : l1.length ≤ c1) (h : sojournref15_Done.f k l0 l1 a2 a3 = some (r1, r2)) :
    Calls Try.prog 19 #[.slice A0 l0.length c0, .slice A1 l1.length c1, .string a2, .int .i64 a3] w fun e w' => ∃ v0_ : Value, e = .returned (.tuple #[v0_, .int .i64 r2]) ∧ Kd.R k32 32 w' w.heap.size (fun _ => True) v0_ r1 ∧ Below w.heap.size w w' := by
  have HR0 := Aside0.mk hr0
  have HC0 := Aside0.mk hc0
  clear hr0 hc0
  have HR1 := Aside0.mk hr1
  have HC1 := Aside0.mk hc1
  clear hr1 hc1
  have HB := Aside0.mk (Below.refl w.heap.size w)
  have H : ((sojournref15_Stand.f k l0 l1).bind fun t206 => (if t206 = true then (sojournref15_Done.l0 k l0 l1 a2 a3 0) else (some (([] : List (S32)), 1)))) = some (r1, r2) := h
  clear h
  replace H := Option.bind_eq_some_iff.mp H
  obtain ⟨t206, A50, H⟩ := H
  replace H : (if t206 = true then (sojournref15_Done.l0 k l0 l1 a2 a3 0) else (some (([] : List (S32)), 1))) = some (r1, r2) := H
  have A5 := Aside0.mk A50
  clear A50
  by_cases c6 : t206 = true
  · subst c6
    have H1 : (sojournref15_Done.l0 k l0 l1 a2 a3 0) = some (r1, r2) := by rw [if_pos rfl] at H; exact H
    clear H
    have H := H1
    clear H1
    have H' := Aside0.mk H
    clear H
    go_enter Try.func19, Try.ntmps19
    go_wp2_with (first | ((with_reducible refine gate_callee (f := 13) rfl ?_); refine goesL_ (some 17) rfl rfl Try.func13 (by kernel_rfl) rfl #[.slice A0 l0.length c0, .slice A1 l1.length c1] rfl (by (try simp only [List.map_toArray, List.map_cons, List.map_nil]); first | done | rfl | (simp only [List.length_drop, List.length_take]; rfl)) ?_; (with_reducible refine (sojournref15_Stand.calls k _ _ l0 _ _ l1 true _ ?side1 ?side2 ?side3 ?side4 A5.out).mono ?_); (case side1 => repeat (first | exact HR0.out | (with_reducible refine Kd.C_alloc ?_ _) | (with_reducible refine Kd.C_drewN ?_ _) | (with_reducible refine Kd.C_drew ?_))); (case side2 => exact HC0.out); (case side3 => repeat (first | exact HR1.out | (with_reducible refine Kd.C_alloc ?_ _) | (with_reducible refine Kd.C_drewN ?_ _) | (with_reducible refine Kd.C_drew ?_))); (case side4 => exact HC1.out); rintro e w7 ⟨rfl, hb⟩; refine ⟨_, rfl, ?_⟩; have n0_ := Aside0.mk (below_step (by repeat (first | (with_reducible first | exact HB.out | apply below_alloc | apply pw_below_drewN | apply below_drew1) | exact HB.out)) hb); clear HB; have HB := n0_; clear n0_; (try clear hb); (try clear hb2); (try clear hk); (try clear hi)))
    go_loopg [11] k (fun kq v11 w' => ∃ (x11_1 : Int), v11 = .int .i64 x11_1 ∧ Aside0 (sojournref15_Done.l0 kq l0 l1 a2 a3 x11_1 = some (r1, r2)) ∧ Aside0 (kq ≤ k) ∧ Aside0 (Below w.heap.size w w'))
    case atStart => exact ⟨(0), (by first | rfl | (simp; done) | (simp [*]; done)), H', ⟨Nat.le_refl _⟩, ⟨by repeat (first | (with_reducible first | exact HB.out | apply below_alloc | apply pw_below_drewN | apply below_drew1) | exact HB.out)⟩⟩
    case round =>
      clear H'
      try clear c1
      try clear p2
      try clear c6
      obtain ⟨x11_1, rfl, HA, HK1, HB⟩ := hrel
      cases gk with
      | zero => exact absurd HA.out (by simp [sojournref15_Done.l0])
      | succ k1 =>
        have H := HA.out
        clear HA
        simp only [sojournref15_Done.l0] at H
        by_cases c8 : x11_1 < (l0.length : Int)
        · rw [if_pos c8] at H
          have c8b0 : decide (x11_1 < (l0.length : Int)) = true := decide_eq_true c8
          clear c8
          by_cases c9 : 0 ≤ x11_1
          · rw [if_pos c9] at H
            have c9b0 : decide (0 ≤ x11_1) = true := decide_eq_true c9
            clear c9
            by_cases c10 : ((rd_T51 l0 x11_1).f0).toList = a2.toList
            · rw [if_pos c10] at H
              have c10b0 : (((rd_T51 l0 x11_1).f0).toList == a2.toList) = true := beq_iff_eq.mpr c10
              have c10b1 : (((rd_T51 l0 x11_1).f0).toList != a2.toList) = false := bne_eq_false_iff_eq.mpr c10
              clear c10
              replace H := Option.bind_eq_some_iff.mp H
              obtain ⟨⟨t209, t210⟩, A110, H⟩ := H
              replace H : (if x11_1 < (l1.length : Int) then (if (rd_T32 l1 x11_1).f1 = true then (some (([] : List (S32)), 151)) else (if (rd_T51 l0 x11_1).f2 = true then (sojournref15_Done.j1 k1 l0 l1 x11_1 t209 (!t210)) else (sojournref15_Done.j1 k1 l0 l1 x11_1 t209 false))) else (none)) = some (r1, r2) := H
              have A11 := Aside0.mk A110
              clear A110
              by_cases c12 : x11_1 < (l1.length : Int)
              · rw [if_pos c12] at H
                have c12b0 : decide (x11_1 < (l1.length : Int)) = true := decide_eq_true c12
                clear c12
                obtain ⟨bq13, hbq13⟩ : ∃ b_ : Bool, b_ = ((rd_T32 l1 x11_1).f1) := ⟨_, rfl⟩
                replace H : (if bq13 = true then (some (([] : List (S32)), 151)) else (if (rd_T51 l0 x11_1).f2 = true then (sojournref15_Done.j1 k1 l0 l1 x11_1 t209 (!t210)) else (sojournref15_Done.j1 k1 l0 l1 x11_1 t209 false))) = some (r1, r2) := by rw [← hbq13] at H; exact H
                have Nbq13 := Aside0.mk hbq13
                clear hbq13
                by_cases c14 : bq13 = true
                · subst c14
                  have H1 : (some (([] : List (S32)), 151)) = some (r1, r2) := by rw [if_pos rfl] at H; exact H
                  clear H
                  have H := H1
                  clear H1
                  simp only [Option.some.injEq, Prod.mk.injEq] at H
                  obtain ⟨rfl, rfl⟩ := H
                  have p207 : 0 ≤ (x11_1 : Int) := of_decide_eq_true (by first | (with_reducible assumption) | assumption)
                  have q207 : x11_1 < (l0.length : Int) := of_decide_eq_true (by first | (with_reducible assumption) | assumption)
                  obtain ⟨ad207, e207, hx207_0, hx207_1, hx207_2⟩ := at_T51 HR0.out x11_1 p207 q207
                  (try rw [← Nbq13.out] at hx207_2)
                  cases e207
                  replace hx207_0 := (HB.out.cell (World.block_lt_of_cell? w _ hx207_0)).trans hx207_0
                  replace hx207_1 := (HB.out.cell (World.block_lt_of_cell? w _ hx207_1)).trans hx207_1
                  replace hx207_2 := (HB.out.cell (World.block_lt_of_cell? w _ hx207_2)).trans hx207_2
                  replace p207 := eq_true p207
                  replace q207 := eq_true q207
                  have p208 : 0 ≤ (x11_1 : Int) := of_decide_eq_true (by first | (with_reducible assumption) | assumption)
                  have q208 : x11_1 < (l0.length : Int) := of_decide_eq_true (by first | (with_reducible assumption) | assumption)
                  obtain ⟨ad208, e208, hx208_0, hx208_1, hx208_2⟩ := at_T51 HR0.out x11_1 p208 q208
                  (try rw [← Nbq13.out] at hx208_2)
                  obtain rfl : ad207 = ad208 := (by injection e208)
                  replace hx208_0 := (HB.out.cell (World.block_lt_of_cell? w _ hx208_0)).trans hx208_0
                  replace hx208_1 := (HB.out.cell (World.block_lt_of_cell? w _ hx208_1)).trans hx208_1
                  replace hx208_2 := (HB.out.cell (World.block_lt_of_cell? w _ hx208_2)).trans hx208_2
                  replace p208 := eq_true p208
                  replace q208 := eq_true q208
                  go_wp2_with (first | ((with_reducible refine gate_callee (f := 28) rfl ?_); refine goesL_ (some 40) rfl rfl Try.func28 (by kernel_rfl) rfl #[.int .i64 a3, .int .i64 ((rd_T51 l0 x11_1).f1)] rfl (by (try simp only [List.map_toArray, List.map_cons, List.map_nil]); first | done | rfl | (simp only [List.length_drop, List.length_take]; rfl)) ?_; (with_reducible refine (sojournref01_Add.calls a3 ((rd_T51 l0 x11_1).f1) t209 t210 _ A11.out).mono ?_); rintro e w15 ⟨rfl, hb⟩; refine ⟨_, rfl, ?_⟩; have n0_ := Aside0.mk (below_step (by repeat (first | (with_reducible first | exact HB.out | apply below_alloc | apply pw_below_drewN | apply below_drew1) | exact HB.out)) hb); clear HB; have HB := n0_; clear n0_; (try clear hb); (try clear hb2); (try clear hk); (try clear hi); have p211 : 0 ≤ (x11_1 : Int) := of_decide_eq_true (by first | (with_reducible assumption) | assumption); have q211 : x11_1 < (l1.length : Int) := of_decide_eq_true (by first | (with_reducible assumption) | assumption); obtain ⟨ad211, e211, hx211_0, hx211_1⟩ := at_T32 HR1.out x11_1 p211 q211; (try rw [← Nbq13.out] at hx211_1); cases e211; replace hx211_0 := (HB.out.cell (World.block_lt_of_cell? w _ hx211_0)).trans hx211_0; replace hx211_1 := (HB.out.cell (World.block_lt_of_cell? w _ hx211_1)).trans hx211_1; replace p211 := eq_true p211; replace q211 := eq_true q211))
                  go_ret2
                  exact ⟨_, by first | rfl | (simp [errW_none, errW_some] <;> rfl) | (simp [*, errW_none, errW_some] <;> rfl), by first | exact Kd.R_nil _ _ _ _ _ | exact Kd.N_nil _ _ _ _ _ | exact Kd.V_nil _ _ _ _ _ | exact Kd.Q_nil _ _ _ _ _ | exact Kd.S_nil _ _ _ _ _, by repeat (first | (with_reducible first | exact HB.out | apply below_alloc | apply pw_below_drewN | apply below_drew1) | exact HB.out)⟩
                · replace c14 := Bool.eq_false_iff.mpr c14
                  subst c14
                  have H1 : (if (rd_T51 l0 x11_1).f2 = true then (sojournref15_Done.j1 k1 l0 l1 x11_1 t209 (!t210)) else (sojournref15_Done.j1 k1 l0 l1 x11_1 t209 false)) = some (r1, r2) := by rw [if_neg (show ¬ (false = true) by decide)] at H; exact H
                  clear H
                  have H := H1
                  clear H1
                  have HC16 := Aside0.mk H
                  clear H
                  have p207 : 0 ≤ (x11_1 : Int) := of_decide_eq_true (by first | (with_reducible assumption) | assumption)
                  have q207 : x11_1 < (l0.length : Int) := of_decide_eq_true (by first | (with_reducible assumption) | assumption)
                  obtain ⟨ad207, e207, hx207_0, hx207_1, hx207_2⟩ := at_T51 HR0.out x11_1 p207 q207
                  (try rw [← Nbq13.out] at hx207_2)
                  cases e207
                  replace hx207_0 := (HB.out.cell (World.block_lt_of_cell? w _ hx207_0)).trans hx207_0
                  replace hx207_1 := (HB.out.cell (World.block_lt_of_cell? w _ hx207_1)).trans hx207_1
                  replace hx207_2 := (HB.out.cell (World.block_lt_of_cell? w _ hx207_2)).trans hx207_2
                  replace p207 := eq_true p207
                  replace q207 := eq_true q207
                  have p208 : 0 ≤ (x11_1 : Int) := of_decide_eq_true (by first | (with_reducible assumption) | assumption)
                  have q208 : x11_1 < (l0.length : Int) := of_decide_eq_true (by first | (with_reducible assumption) | assumption)
                  obtain ⟨ad208, e208, hx208_0, hx208_1, hx208_2⟩ := at_T51 HR0.out x11_1 p208 q208
                  (try rw [← Nbq13.out] at hx208_2)
                  obtain rfl : ad207 = ad208 := (by injection e208)
                  replace hx208_0 := (HB.out.cell (World.block_lt_of_cell? w _ hx208_0)).trans hx208_0
                  replace hx208_1 := (HB.out.cell (World.block_lt_of_cell? w _ hx208_1)).trans hx208_1
                  replace hx208_2 := (HB.out.cell (World.block_lt_of_cell? w _ hx208_2)).trans hx208_2
                  replace p208 := eq_true p208
                  replace q208 := eq_true q208
                  go_upto_region 11 with (first | ((with_reducible refine gate_callee (f := 28) rfl ?_); refine goesL_ (some 40) rfl rfl Try.func28 (by kernel_rfl) rfl #[.int .i64 a3, .int .i64 ((rd_T51 l0 x11_1).f1)] rfl (by (try simp only [List.map_toArray, List.map_cons, List.map_nil]); first | done | rfl | (simp only [List.length_drop, List.length_take]; rfl)) ?_; (with_reducible refine (sojournref01_Add.calls a3 ((rd_T51 l0 x11_1).f1) t209 t210 _ A11.out).mono ?_); rintro e w17 ⟨rfl, hb⟩; refine ⟨_, rfl, ?_⟩; have n0_ := Aside0.mk (below_step (by repeat (first | (with_reducible first | exact HB.out | apply below_alloc | apply pw_below_drewN | apply below_drew1) | exact HB.out)) hb); clear HB; have HB := n0_; clear n0_; (try clear hb); (try clear hb2); (try clear hk); (try clear hi); have p211 : 0 ≤ (x11_1 : Int) := of_decide_eq_true (by first | (with_reducible assumption) | assumption); have q211 : x11_1 < (l1.length : Int) := of_decide_eq_true (by first | (with_reducible assumption) | assumption); obtain ⟨ad211, e211, hx211_0, hx211_1⟩ := at_T32 HR1.out x11_1 p211 q211; (try rw [← Nbq13.out] at hx211_1); cases e211; replace hx211_0 := (HB.out.cell (World.block_lt_of_cell? w _ hx211_0)).trans hx211_0; replace hx211_1 := (HB.out.cell (World.block_lt_of_cell? w _ hx211_1)).trans hx211_1; replace p211 := eq_true p211; replace q211 := eq_true q211))
                  (try simp only [Act.put, List.setIfInBounds_toArray, List.set_cons_zero, List.set_cons_succ])
                  go_cut [56] (fun v56 wc => ∃ (kq : Nat) (x56_15 : Bool), v56 = .bool x56_15 ∧ Aside0 (sojournref15_Done.j1 kq l0 l1 x11_1 t209 x56_15 = some (r1, r2)) ∧ Aside0 (kq ≤ k1) ∧ Aside0 (Below w.heap.size w wc))
                  case first =>
                    have H := HC16.out
                    clear HC16
                    obtain ⟨bq18, hbq18⟩ : ∃ b_ : Bool, b_ = ((rd_T51 l0 x11_1).f2) := ⟨_, rfl⟩
                    replace H : (if bq18 = true then (sojournref15_Done.j1 k1 l0 l1 x11_1 t209 (!t210)) else (sojournref15_Done.j1 k1 l0 l1 x11_1 t209 false)) = some (r1, r2) := by rw [← hbq18] at H; exact H
                    have Nbq18 := Aside0.mk hbq18
                    clear hbq18
                    (try rw [← Nbq18.out])
                    by_cases c19 : bq18 = true
                    · subst c19
                      have H1 : (sojournref15_Done.j1 k1 l0 l1 x11_1 t209 (!t210)) = some (r1, r2) := by rw [if_pos rfl] at H; exact H
                      clear H
                      have H := H1
                      clear H1
                      have H' := Aside0.mk H
                      clear H
                      have p212 : 0 ≤ (x11_1 : Int) := of_decide_eq_true (by first | (with_reducible assumption) | assumption)
                      have q212 : x11_1 < (l0.length : Int) := of_decide_eq_true (by first | (with_reducible assumption) | assumption)
                      obtain ⟨ad212, e212, hx212_0, hx212_1, hx212_2⟩ := at_T51 HR0.out x11_1 p212 q212
                      (try rw [← Nbq13.out] at hx212_2)
                      (try rw [← Nbq18.out] at hx212_2)
                      obtain rfl : ad207 = ad212 := (by injection e212)
                      replace hx212_0 := (HB.out.cell (World.block_lt_of_cell? w _ hx212_0)).trans hx212_0
                      replace hx212_1 := (HB.out.cell (World.block_lt_of_cell? w _ hx212_1)).trans hx212_1
                      replace hx212_2 := (HB.out.cell (World.block_lt_of_cell? w _ hx212_2)).trans hx212_2
                      replace p212 := eq_true p212
                      replace q212 := eq_true q212
                      go_wp2
                      go_meet
                      case rel => exact ⟨_, (!t210), (by first | rfl | (simp; done) | (simp [*]; done)), H', ⟨by have := HK1.out; first | omega | exact Nat.le_refl _⟩, ⟨by repeat (first | (with_reducible first | exact HB.out | apply below_alloc | apply pw_below_drewN | apply below_drew1) | exact HB.out)⟩⟩
                    · replace c19 := Bool.eq_false_iff.mpr c19
                      subst c19
                      have H1 : (sojournref15_Done.j1 k1 l0 l1 x11_1 t209 false) = some (r1, r2) := by rw [if_neg (show ¬ (false = true) by decide)] at H; exact H
                      clear H
                      have H := H1
                      clear H1
                      have H' := Aside0.mk H
                      clear H
                      have p212 : 0 ≤ (x11_1 : Int) := of_decide_eq_true (by first | (with_reducible assumption) | assumption)
                      have q212 : x11_1 < (l0.length : Int) := of_decide_eq_true (by first | (with_reducible assumption) | assumption)
                      obtain ⟨ad212, e212, hx212_0, hx212_1, hx212_2⟩ := at_T51 HR0.out x11_1 p212 q212
                      (try rw [← Nbq13.out] at hx212_2)
                      (try rw [← Nbq18.out] at hx212_2)
                      obtain rfl : ad207 = ad212 := (by injection e212)
                      replace hx212_0 := (HB.out.cell (World.block_lt_of_cell? w _ hx212_0)).trans hx212_0
                      replace hx212_1 := (HB.out.cell (World.block_lt_of_cell? w _ hx212_1)).trans hx212_1
                      replace hx212_2 := (HB.out.cell (World.block_lt_of_cell? w _ hx212_2)).trans hx212_2
                      replace p212 := eq_true p212
                      replace q212 := eq_true q212
                      go_wp2
                      go_meet
                      case rel => exact ⟨_, (false), (by first | rfl | (simp; done) | (simp [*]; done)), H', ⟨by have := HK1.out; first | omega | exact Nat.le_refl _⟩, ⟨by repeat (first | (with_reducible first | exact HB.out | apply below_alloc | apply pw_below_drewN | apply below_drew1) | exact HB.out)⟩⟩
                  case rest =>
                    clear HC16
                    try clear c1
                    try clear q1
                    try clear c2
                    try clear p2
                    try clear q2
                    try clear hx2
                    try clear c6
                    try clear c8
                    try clear c8b0
                    try clear c9
                    try clear c9b0
                    try clear c10
                    try clear c10b0
                    try clear c10b1
                    try clear c12
                    try clear c12b0
                    try clear c13
                    try clear q13
                    try clear c14
                    try clear q18
                    try clear c19
                    try clear hx207_0
                    try clear hx207_1
                    try clear hx207_2
                    try clear hx208_0
                    try clear hx208_1
                    try clear hx208_2
                    try clear hx211_0
                    try clear hx211_1
                    try clear hx212_0
                    try clear hx212_1
                    try clear hx212_2
                    try clear p2
                    try clear p207
                    try clear p208
                    try clear p211
                    try clear p212
                    try clear q207
                    try clear q208
                    try clear q211
                    try clear q212
                    obtain ⟨kq, x56_15, rfl, HA, HJ15, HB⟩ := hcut
                    cases kq with
                    | zero => exact absurd HA.out (by simp [sojournref15_Done.j1])
                    | succ kj15 =>
                      have H := HA.out
                      clear HA
                      simp only [sojournref15_Done.j1] at H
                      by_cases c20 : x56_15 = true
                      · subst c20
                        have H1 : (some (([] : List (S32)), 152)) = some (r1, r2) := by rw [if_pos rfl] at H; exact H
                        clear H
                        have H := H1
                        clear H1
                        simp only [Option.some.injEq, Prod.mk.injEq] at H
                        obtain ⟨rfl, rfl⟩ := H
                        go_wp2
                        go_ret2
                        exact ⟨_, by first | rfl | (simp [errW_none, errW_some] <;> rfl) | (simp [*, errW_none, errW_some] <;> rfl), by first | exact Kd.R_nil _ _ _ _ _ | exact Kd.N_nil _ _ _ _ _ | exact Kd.V_nil _ _ _ _ _ | exact Kd.Q_nil _ _ _ _ _ | exact Kd.S_nil _ _ _ _ _, by repeat (first | (with_reducible first | exact HB.out | apply below_alloc | apply pw_below_drewN | apply below_drew1) | exact HB.out)⟩
                      · replace c20 := Bool.eq_false_iff.mpr c20
                        subst c20
                        have H1 : ((some (([] : List (S32)) : List (S32))).bind fun y213 => (if y213.length + l1.length < 8796093022208 then ((some (y213 ++ l1 : List (S32))).bind fun y216 => (if 0 ≤ x11_1 then (if x11_1 < (l0.length : Int) then (if (rd_T51 l0 x11_1).f2 = true then (if x11_1 < (y216.length : Int) then (some ((y216.set (x11_1 : Int).toNat (⟨t209, (rd_T32 y216 x11_1).f1⟩ : S32)), 0)) else (none)) else (if x11_1 < (y216.length : Int) then (some ((y216.set (x11_1 : Int).toNat (⟨(rd_T32 y216 x11_1).f0, true⟩ : S32)), 0)) else (none))) else (none)) else (none))) else (none))) = some (r1, r2) := by rw [if_neg (show ¬ (false = true) by decide)] at H; exact H
                        clear H
                        have H := H1
                        clear H1
                        obtain ⟨y213, hy213⟩ : ∃ y_ : List (S32), y_ = (([] : List (S32))) := ⟨_, rfl⟩
                        replace H : (if y213.length + l1.length < 8796093022208 then ((some (y213 ++ l1 : List (S32))).bind fun y216 => (if 0 ≤ x11_1 then (if x11_1 < (l0.length : Int) then (if (rd_T51 l0 x11_1).f2 = true then (if x11_1 < (y216.length : Int) then (some ((y216.set (x11_1 : Int).toNat (⟨t209, (rd_T32 y216 x11_1).f1⟩ : S32)), 0)) else (none)) else (if x11_1 < (y216.length : Int) then (some ((y216.set (x11_1 : Int).toNat (⟨(rd_T32 y216 x11_1).f0, true⟩ : S32)), 0)) else (none))) else (none)) else (none))) else (none)) = some (r1, r2) := by first | (rw [hy213]; with_reducible exact H) | (have H2_ := (Option.bind_some _ _).symm.trans H; rw [hy213]; with_reducible exact H2_) | (have H2_ := (Option.bind_some _ _).symm.trans H; with_reducible exact H2_) | with_reducible exact H | (rw [hy213]; exact H) | exact H
                        have Ny213 := Aside0.mk hy213
                        clear hy213
                        by_cases c21 : y213.length + l1.length < 8796093022208
                        · rw [if_pos c21] at H
                          have LMc21 := Aside0.mk c21
                          clear c21
                          obtain ⟨y216, hy216⟩ : ∃ y_ : List (S32), y_ = (y213 ++ l1) := ⟨_, rfl⟩
                          replace H : (if 0 ≤ x11_1 then (if x11_1 < (l0.length : Int) then (if (rd_T51 l0 x11_1).f2 = true then (if x11_1 < (y216.length : Int) then (some ((y216.set (x11_1 : Int).toNat (⟨t209, (rd_T32 y216 x11_1).f1⟩ : S32)), 0)) else (none)) else (if x11_1 < (y216.length : Int) then (some ((y216.set (x11_1 : Int).toNat (⟨(rd_T32 y216 x11_1).f0, true⟩ : S32)), 0)) else (none))) else (none)) else (none)) = some (r1, r2) := by first | (rw [hy216]; with_reducible exact H) | (have H2_ := (Option.bind_some _ _).symm.trans H; rw [hy216]; with_reducible exact H2_) | (have H2_ := (Option.bind_some _ _).symm.trans H; with_reducible exact H2_) | with_reducible exact H | (rw [hy216]; exact H) | exact H
                          have Ny216 := Aside0.mk hy216
                          clear hy216
                          by_cases c22 : 0 ≤ x11_1
                          · rw [if_pos c22] at H
                            have c22b0 : decide (0 ≤ x11_1) = true := decide_eq_true c22
                            clear c22
                            by_cases c23 : x11_1 < (l0.length : Int)
                            · rw [if_pos c23] at H
                              have c23b0 : decide (x11_1 < (l0.length : Int)) = true := decide_eq_true c23
                              clear c23
                              obtain ⟨bq24, hbq24⟩ : ∃ b_ : Bool, b_ = ((rd_T51 l0 x11_1).f2) := ⟨_, rfl⟩
                              replace H : (if bq24 = true then (if x11_1 < (y216.length : Int) then (some ((y216.set (x11_1 : Int).toNat (⟨t209, (rd_T32 y216 x11_1).f1⟩ : S32)), 0)) else (none)) else (if x11_1 < (y216.length : Int) then (some ((y216.set (x11_1 : Int).toNat (⟨(rd_T32 y216 x11_1).f0, true⟩ : S32)), 0)) else (none))) = some (r1, r2) := by rw [← hbq24] at H; exact H
                              have Nbq24 := Aside0.mk hbq24
                              clear hbq24
                              by_cases c25 : bq24 = true
                              · subst c25
                                have H1 : (if x11_1 < (y216.length : Int) then (some ((y216.set (x11_1 : Int).toNat (⟨t209, (rd_T32 y216 x11_1).f1⟩ : S32)), 0)) else (none)) = some (r1, r2) := by rw [if_pos rfl] at H; exact H
                                clear H
                                have H := H1
                                clear H1
                                by_cases c26 : x11_1 < (y216.length : Int)
                                · rw [if_pos c26] at H
                                  have c26b0 : decide (x11_1 < (y216.length : Int)) = true := decide_eq_true c26
                                  clear c26
                                  obtain ⟨y220, hy220⟩ : ∃ y_ : List (S32), y_ = (y216.set (x11_1 : Int).toNat (⟨t209, (rd_T32 y216 x11_1).f1⟩ : S32)) := ⟨_, rfl⟩
                                  replace H : (some (y220, 0)) = some (r1, r2) := by first | (rw [hy220]; with_reducible exact H) | (have H2_ := (Option.bind_some _ _).symm.trans H; rw [hy220]; with_reducible exact H2_) | (have H2_ := (Option.bind_some _ _).symm.trans H; with_reducible exact H2_) | with_reducible exact H | (rw [hy220]; exact H) | exact H
                                  have Ny220 := Aside0.mk hy220
                                  clear hy220
                                  simp only [Option.some.injEq, Prod.mk.injEq] at H
                                  obtain ⟨rfl, rfl⟩ := H
                                  go_wp2_with (first | ((with_reducible refine gate_dst (N := 57) rfl ?_); refine Kd.R_lit k32 _ 32 ?hg (N := 57) ?hd (xs := ([] : List (S32))) (inner := []) (ok := fun _ => True) (okp := fun _ => True) ?hr ?hp (fun _ hk => hk) trivial (Below.refl _ _) (Nat.le_refl _) (by simp) ?_; (case hd => rfl); (case hg => rfl); (case hr => first | (go_simp; done) | (go_simp; rfl)); (case hp => exact (Reps.none _ _)); intro v214 w28 ho29 hb hg_ hnew_; clear hg_ hnew_; (first | rw [← Ny213.out] at ho29 | (simp only [Int.reduceToNat] at ho29; rw [← Ny213.out] at ho29)); have n0_ := Aside0.mk (Kd.R_lower ho29 (below_size (by repeat (first | (with_reducible first | exact HB.out | apply below_alloc | apply pw_below_drewN | apply below_drew1) | exact HB.out)))); have n1_ := Aside0.mk (below_step (by repeat (first | (with_reducible first | exact HB.out | apply below_alloc | apply pw_below_drewN | apply below_drew1) | exact HB.out)) hb); clear HB; have HO215 := n0_; have HB := n1_; clear n0_ n1_; clear hb ho29) | ((with_reducible refine gate_builtin (b := .append) (xs := #[.tmp 57, .tmp 58]) rfl ?_); at_builtin; refine Kd.R_append_rows k32 (w0 := w) w.heap.size rfl (.tmp 57) (.tmp 58) 23 32 (.agg #[(.int .i64 0), (.bool false)]) 16 rfl Try.underlying23 info32 rfl (by decide) (by omega) v214 y213 l1 _ _ _ (fun _ => True) (fun _ => False) rfl rfl ?aO ?aR (fun _ _ h => h) (fun _ h => h.elim) ?aF ?aB ?aS ?aL ?_; (case aR => repeat (first | exact (Kd.C_below HR1.out HB.out) | (with_reducible refine Kd.C_alloc ?_ _) | (with_reducible refine Kd.C_drewN ?_ _) | (with_reducible refine Kd.C_drew ?_))); (case aB => exact (by repeat (first | (with_reducible first | exact HB.out | apply below_alloc | apply pw_below_drewN | apply below_drew1) | exact HB.out))); (case aF => exact (fun _ _ => trivial)); (case aO => exact (by (with_reducible repeat (first | apply Kd.R_alloc | apply Kd.R_drewN | apply Kd.R_drew)); exact HO215.out)); (case aS => exact (below_size (by repeat (first | (with_reducible first | exact HB.out | apply below_alloc | apply pw_below_drewN | apply below_drew1) | exact HB.out)))); (case aL => have := LMc21.out; omega); intro v217 w30 ho hb hg hat; rw [← Ny216.out] at ho; have n0_ := Aside0.mk (hb); have n1_ := Aside0.mk (ho); clear HB; clear HO215; have HB := n0_; have HO218 := n1_; clear n0_ n1_; clear ho hb hg hat; have p219 : 0 ≤ (x11_1 : Int) := of_decide_eq_true (by first | (with_reducible assumption) | assumption); have q219 : x11_1 < (l0.length : Int) := of_decide_eq_true (by first | (with_reducible assumption) | assumption); obtain ⟨ad219, e219, hx219_0, hx219_1, hx219_2⟩ := at_T51 HR0.out x11_1 p219 q219; (try rw [← Nbq13.out] at hx219_2); (try rw [← Nbq24.out] at hx219_2); obtain rfl : ad207 = ad219 := (by injection e219); replace hx219_0 := (HB.out.cell (World.block_lt_of_cell? w _ hx219_0)).trans hx219_0; replace hx219_1 := (HB.out.cell (World.block_lt_of_cell? w _ hx219_1)).trans hx219_1; replace hx219_2 := (HB.out.cell (World.block_lt_of_cell? w _ hx219_2)).trans hx219_2; replace p219 := eq_true p219; replace q219 := eq_true q219; have p27 : 0 ≤ (x11_1 : Int) := of_decide_eq_true (by first | (with_reducible assumption) | assumption); have q27 : (x11_1 : Int) < ((y216.length : Int) : Int) := of_decide_eq_true (by first | (with_reducible assumption) | assumption); obtain ⟨go27, co27, eo27, gb27, gl27, cl27, HG27⟩ := Kd.R_form HO218.out (by omega); (first | cases eo27 | (injection eo27 with ea_ en_ ec_; (first | subst ea_ | (injection ea_ with ea_; subst ea_)); subst ec_; clear en_)); have GB27 := Aside0.mk gb27; have GG27 := Aside0.mk HG27; clear gb27 gl27 HG27; obtain ⟨ce27, hcl27, hM27, hcc27, hfr27⟩ := Kd.R_elem HO218.out z32 (x11_1 : Int) p27 q27; obtain rfl := k32_openM hM27; have hx27_0 : w30.cell? ⟨go27, (x11_1 : Int).toNat * 2, none⟩ = some (.int .i64 ((rd_T32 y216 x11_1).f0)) := hcc27 0 _ rfl; have hx27_1 : w30.cell? ⟨go27, (x11_1 : Int).toNat * 2 + 1, none⟩ = some (.bool ((rd_T32 y216 x11_1).f1)) := hcc27 1 _ rfl; have hf27_0 : w30.frozen? ⟨go27, (x11_1 : Int).toNat * 2, none⟩ = false := hfr27 0; have hf27_1 : w30.frozen? ⟨go27, (x11_1 : Int).toNat * 2 + 1, none⟩ = false := hfr27 1; clear hcl27 hcc27 hfr27 hM27; replace p27 := eq_true p27; replace q27 := eq_true q27; have HX31 := Aside0.mk (show Kd.R k32 32 w30 w.heap.size (fun _ => True) (.slice (some ⟨go27, 0, none⟩) y216.length co27) y216 from (by (with_reducible repeat (first | apply Kd.R_alloc | apply Kd.R_drewN | apply Kd.R_drew)); exact HO218.out)); obtain ⟨ce31, hcl31, hM31, hcc31, hfr31⟩ := Kd.R_elem HX31.out z32 (x11_1 : Int) (of_decide_eq_true (by first | (with_reducible assumption) | assumption)) (by have h_ : (x11_1 : Int) < ((y216.length : Int) : Int) := of_decide_eq_true (by first | (with_reducible assumption) | assumption); first | exact h_ | (have e_ := (Kd.R_reads' HO218.out).1; omega) | simpa using h_); obtain rfl := k32_openM hM31; have HP31 := Kd.R_seg HX31.out (x11_1 : Int) (of_decide_eq_true (by first | (with_reducible assumption) | assumption)) (by have h_ : (x11_1 : Int) < ((y216.length : Int) : Int) := of_decide_eq_true (by first | (with_reducible assumption) | assumption); first | exact h_ | (have e_ := (Kd.R_reads' HO218.out).1; omega) | simpa using h_) (seg := [.int .i64 t209]) (j := 0) hcl31 hcc31 (show 1 ≤ 2 from by decide) (x' := (⟨t209, (rd_T32 y216 x11_1).f1⟩ : S32)) (k32_mkM _ _ _ (⟨t209, (rd_T32 y216 x11_1).f1⟩ : S32) ) (fun _ hk => hk); have hx31_0 := hcc31 0 _ rfl; (try simp only [show (k32).sz = 2 from rfl, Nat.mul_one, Nat.add_zero] at hx31_0); have hf31_0 := hfr31 0; (try simp only [show (k32).sz = 2 from rfl, Nat.mul_one, Nat.add_zero] at hf31_0); clear hcl31 hcc31 hfr31 hM31) | ((with_reducible refine gate_store (t := 3) (p := 69) rfl ?_); refine store_event (t := 3) (p := 69) (v := ?vo_w32) (w1 := (w30.setCell ⟨go27, (x11_1 : Int).toNat * 2, none⟩ (.int .i64 t209))) ?hg ?ho ?hn ?hr ?_; (case ho => rfl); (case hg => rfl); (case hn => rfl); (case hr => first | (go_simp; done) | (go_simp; rfl)); intro w32 hw; have hg : w30.grownBy w32 (some go27) := (by rw [hw]; exact HP31.2); have hp_ : Kd.R k32 32 w32 w.heap.size (fun _ => True) (.slice (some ⟨go27, 0, none⟩) y216.length co27) y220 := (by rw [hw, Ny220.out]; exact HP31.1); clear HP31; have n0_ := Aside0.mk (hp_); have n1_ := Aside0.mk ((by rw [hw]; exact below_set (HB.out) GB27.out : Below w.heap.size w w32)); clear HO218; clear HB; have HO218 := n0_; have HB := n1_; clear n0_ n1_; clear hg hw hp_))
                                  go_ret2
                                  exact ⟨_, by first | rfl | (simp [errW_none, errW_some] <;> rfl) | (simp [*, errW_none, errW_some] <;> rfl), by (with_reducible repeat (first | apply Kd.R_alloc | apply Kd.R_drewN | apply Kd.R_drew)); exact HO218.out, by repeat (first | (with_reducible first | exact HB.out | apply below_alloc | apply pw_below_drewN | apply below_drew1) | exact HB.out)⟩
                                · rw [if_neg c26] at H
                                  exact absurd H (by simp)
                              · replace c25 := Bool.eq_false_iff.mpr c25
                                subst c25
                                have H1 : (if x11_1 < (y216.length : Int) then (some ((y216.set (x11_1 : Int).toNat (⟨(rd_T32 y216 x11_1).f0, true⟩ : S32)), 0)) else (none)) = some (r1, r2) := by rw [if_neg (show ¬ (false = true) by decide)] at H; exact H
                                clear H
                                have H := H1
                                clear H1
                                by_cases c33 : x11_1 < (y216.length : Int)
                                · rw [if_pos c33] at H
                                  have c33b0 : decide (x11_1 < (y216.length : Int)) = true := decide_eq_true c33
                                  clear c33
                                  obtain ⟨y221, hy221⟩ : ∃ y_ : List (S32), y_ = (y216.set (x11_1 : Int).toNat (⟨(rd_T32 y216 x11_1).f0, true⟩ : S32)) := ⟨_, rfl⟩
                                  replace H : (some (y221, 0)) = some (r1, r2) := by first | (rw [hy221]; with_reducible exact H) | (have H2_ := (Option.bind_some _ _).symm.trans H; rw [hy221]; with_reducible exact H2_) | (have H2_ := (Option.bind_some _ _).symm.trans H; with_reducible exact H2_) | with_reducible exact H | (rw [hy221]; exact H) | exact H
                                  have Ny221 := Aside0.mk hy221
                                  clear hy221
                                  simp only [Option.some.injEq, Prod.mk.injEq] at H
                                  obtain ⟨rfl, rfl⟩ := H
                                  go_wp2_with (first | ((with_reducible refine gate_dst (N := 57) rfl ?_); refine Kd.R_lit k32 _ 32 ?hg (N := 57) ?hd (xs := ([] : List (S32))) (inner := []) (ok := fun _ => True) (okp := fun _ => True) ?hr ?hp (fun _ hk => hk) trivial (Below.refl _ _) (Nat.le_refl _) (by simp) ?_; (case hd => rfl); (case hg => rfl); (case hr => first | (go_simp; done) | (go_simp; rfl)); (case hp => exact (Reps.none _ _)); intro v214 w35 ho36 hb hg_ hnew_; clear hg_ hnew_; (first | rw [← Ny213.out] at ho36 | (simp only [Int.reduceToNat] at ho36; rw [← Ny213.out] at ho36)); have n0_ := Aside0.mk (Kd.R_lower ho36 (below_size (by repeat (first | (with_reducible first | exact HB.out | apply below_alloc | apply pw_below_drewN | apply below_drew1) | exact HB.out)))); have n1_ := Aside0.mk (below_step (by repeat (first | (with_reducible first | exact HB.out | apply below_alloc | apply pw_below_drewN | apply below_drew1) | exact HB.out)) hb); clear HB; have HO215 := n0_; have HB := n1_; clear n0_ n1_; clear hb ho36) | ((with_reducible refine gate_builtin (b := .append) (xs := #[.tmp 57, .tmp 58]) rfl ?_); at_builtin; refine Kd.R_append_rows k32 (w0 := w) w.heap.size rfl (.tmp 57) (.tmp 58) 23 32 (.agg #[(.int .i64 0), (.bool false)]) 16 rfl Try.underlying23 info32 rfl (by decide) (by omega) v214 y213 l1 _ _ _ (fun _ => True) (fun _ => False) rfl rfl ?aO ?aR (fun _ _ h => h) (fun _ h => h.elim) ?aF ?aB ?aS ?aL ?_; (case aR => repeat (first | exact (Kd.C_below HR1.out HB.out) | (with_reducible refine Kd.C_alloc ?_ _) | (with_reducible refine Kd.C_drewN ?_ _) | (with_reducible refine Kd.C_drew ?_))); (case aB => exact (by repeat (first | (with_reducible first | exact HB.out | apply below_alloc | apply pw_below_drewN | apply below_drew1) | exact HB.out))); (case aF => exact (fun _ _ => trivial)); (case aO => exact (by (with_reducible repeat (first | apply Kd.R_alloc | apply Kd.R_drewN | apply Kd.R_drew)); exact HO215.out)); (case aS => exact (below_size (by repeat (first | (with_reducible first | exact HB.out | apply below_alloc | apply pw_below_drewN | apply below_drew1) | exact HB.out)))); (case aL => have := LMc21.out; omega); intro v217 w37 ho hb hg hat; rw [← Ny216.out] at ho; have n0_ := Aside0.mk (hb); have n1_ := Aside0.mk (ho); clear HB; clear HO215; have HB := n0_; have HO218 := n1_; clear n0_ n1_; clear ho hb hg hat; have p219 : 0 ≤ (x11_1 : Int) := of_decide_eq_true (by first | (with_reducible assumption) | assumption); have q219 : x11_1 < (l0.length : Int) := of_decide_eq_true (by first | (with_reducible assumption) | assumption); obtain ⟨ad219, e219, hx219_0, hx219_1, hx219_2⟩ := at_T51 HR0.out x11_1 p219 q219; (try rw [← Nbq13.out] at hx219_2); (try rw [← Nbq24.out] at hx219_2); obtain rfl : ad207 = ad219 := (by injection e219); replace hx219_0 := (HB.out.cell (World.block_lt_of_cell? w _ hx219_0)).trans hx219_0; replace hx219_1 := (HB.out.cell (World.block_lt_of_cell? w _ hx219_1)).trans hx219_1; replace hx219_2 := (HB.out.cell (World.block_lt_of_cell? w _ hx219_2)).trans hx219_2; replace p219 := eq_true p219; replace q219 := eq_true q219; have p34 : 0 ≤ (x11_1 : Int) := of_decide_eq_true (by first | (with_reducible assumption) | assumption); have q34 : (x11_1 : Int) < ((y216.length : Int) : Int) := of_decide_eq_true (by first | (with_reducible assumption) | assumption); obtain ⟨go34, co34, eo34, gb34, gl34, cl34, HG34⟩ := Kd.R_form HO218.out (by omega); (first | cases eo34 | (injection eo34 with ea_ en_ ec_; (first | subst ea_ | (injection ea_ with ea_; subst ea_)); subst ec_; clear en_)); have GB34 := Aside0.mk gb34; have GG34 := Aside0.mk HG34; clear gb34 gl34 HG34; obtain ⟨ce34, hcl34, hM34, hcc34, hfr34⟩ := Kd.R_elem HO218.out z32 (x11_1 : Int) p34 q34; obtain rfl := k32_openM hM34; have hx34_0 : w37.cell? ⟨go34, (x11_1 : Int).toNat * 2, none⟩ = some (.int .i64 ((rd_T32 y216 x11_1).f0)) := hcc34 0 _ rfl; have hx34_1 : w37.cell? ⟨go34, (x11_1 : Int).toNat * 2 + 1, none⟩ = some (.bool ((rd_T32 y216 x11_1).f1)) := hcc34 1 _ rfl; have hf34_0 : w37.frozen? ⟨go34, (x11_1 : Int).toNat * 2, none⟩ = false := hfr34 0; have hf34_1 : w37.frozen? ⟨go34, (x11_1 : Int).toNat * 2 + 1, none⟩ = false := hfr34 1; clear hcl34 hcc34 hfr34 hM34; replace p34 := eq_true p34; replace q34 := eq_true q34; have HX38 := Aside0.mk (show Kd.R k32 32 w37 w.heap.size (fun _ => True) (.slice (some ⟨go34, 0, none⟩) y216.length co34) y216 from (by (with_reducible repeat (first | apply Kd.R_alloc | apply Kd.R_drewN | apply Kd.R_drew)); exact HO218.out)); obtain ⟨ce38, hcl38, hM38, hcc38, hfr38⟩ := Kd.R_elem HX38.out z32 (x11_1 : Int) (of_decide_eq_true (by first | (with_reducible assumption) | assumption)) (by have h_ : (x11_1 : Int) < ((y216.length : Int) : Int) := of_decide_eq_true (by first | (with_reducible assumption) | assumption); first | exact h_ | (have e_ := (Kd.R_reads' HO218.out).1; omega) | simpa using h_); obtain rfl := k32_openM hM38; have HP38 := Kd.R_seg HX38.out (x11_1 : Int) (of_decide_eq_true (by first | (with_reducible assumption) | assumption)) (by have h_ : (x11_1 : Int) < ((y216.length : Int) : Int) := of_decide_eq_true (by first | (with_reducible assumption) | assumption); first | exact h_ | (have e_ := (Kd.R_reads' HO218.out).1; omega) | simpa using h_) (seg := [.bool true]) (j := 1) hcl38 hcc38 (show 2 ≤ 2 from by decide) (x' := (⟨(rd_T32 y216 x11_1).f0, true⟩ : S32)) (k32_mkM _ _ _ (⟨(rd_T32 y216 x11_1).f0, true⟩ : S32) ) (fun _ hk => hk); have hx38_1 := hcc38 1 _ rfl; (try simp only [show (k32).sz = 2 from rfl, Nat.mul_one, Nat.add_zero] at hx38_1); have hf38_1 := hfr38 1; (try simp only [show (k32).sz = 2 from rfl, Nat.mul_one, Nat.add_zero] at hf38_1); clear hcl38 hcc38 hfr38 hM38) | ((with_reducible refine gate_store (t := 4) (p := 73) rfl ?_); refine store_event (t := 4) (p := 73) (v := ?vo_w39) (w1 := (w37.setCell ⟨go34, (x11_1 : Int).toNat * 2 + 1, none⟩ (.bool true))) ?hg ?ho ?hn ?hr ?_; (case ho => rfl); (case hg => rfl); (case hn => rfl); (case hr => first | (go_simp; done) | (go_simp; rfl)); intro w39 hw; have hg : w37.grownBy w39 (some go34) := (by rw [hw]; exact HP38.2); have hp_ : Kd.R k32 32 w39 w.heap.size (fun _ => True) (.slice (some ⟨go34, 0, none⟩) y216.length co34) y221 := (by rw [hw, Ny221.out]; exact HP38.1); clear HP38; have n0_ := Aside0.mk (hp_); have n1_ := Aside0.mk ((by rw [hw]; exact below_set (HB.out) GB34.out : Below w.heap.size w w39)); clear HO218; clear HB; have HO218 := n0_; have HB := n1_; clear n0_ n1_; clear hg hw hp_))
                                  go_ret2
                                  exact ⟨_, by first | rfl | (simp [errW_none, errW_some] <;> rfl) | (simp [*, errW_none, errW_some] <;> rfl), by (with_reducible repeat (first | apply Kd.R_alloc | apply Kd.R_drewN | apply Kd.R_drew)); exact HO218.out, by repeat (first | (with_reducible first | exact HB.out | apply below_alloc | apply pw_below_drewN | apply below_drew1) | exact HB.out)⟩
                                · rw [if_neg c33] at H
                                  exact absurd H (by simp)
                            · rw [if_neg c23] at H
                              exact absurd H (by simp)
                          · rw [if_neg c22] at H
                            exact absurd H (by simp)
                        · rw [if_neg c21] at H
                          exact absurd H (by simp)
              · rw [if_neg c12] at H
                exact absurd H (by simp)
            · rw [if_neg c10] at H
              have c10b0 : (((rd_T51 l0 x11_1).f0).toList == a2.toList) = false := beq_eq_false_iff_ne.mpr c10
              have c10b1 : (((rd_T51 l0 x11_1).f0).toList != a2.toList) = true := bne_iff_ne.mpr c10
              have H' := Aside0.mk H
              clear H
              have p207 : 0 ≤ (x11_1 : Int) := of_decide_eq_true (by first | (with_reducible assumption) | assumption)
              have q207 : x11_1 < (l0.length : Int) := of_decide_eq_true (by first | (with_reducible assumption) | assumption)
              obtain ⟨ad207, e207, hx207_0, hx207_1, hx207_2⟩ := at_T51 HR0.out x11_1 p207 q207
              cases e207
              replace hx207_0 := (HB.out.cell (World.block_lt_of_cell? w _ hx207_0)).trans hx207_0
              replace hx207_1 := (HB.out.cell (World.block_lt_of_cell? w _ hx207_1)).trans hx207_1
              replace hx207_2 := (HB.out.cell (World.block_lt_of_cell? w _ hx207_2)).trans hx207_2
              replace p207 := eq_true p207
              replace q207 := eq_true q207
              go_wp2
              go_roundg k1
              case measure => have := HK1.out; omega
              case rel => exact ⟨(wrap64 (x11_1 + 1)), (by first | rfl | (simp; done) | (simp [*]; done)), H', ⟨by have := HK1.out; omega⟩, ⟨by repeat (first | (with_reducible first | exact HB.out | apply below_alloc | apply pw_below_drewN | apply below_drew1) | exact HB.out)⟩⟩
          · rw [if_neg c9] at H
            exact absurd H (by simp)
        · rw [if_neg c8] at H
          have c8b0 : decide (x11_1 < (l0.length : Int)) = false := decide_eq_false c8
          clear c8
          simp only [Option.some.injEq, Prod.mk.injEq] at H
          obtain ⟨rfl, rfl⟩ := H
          go_wp2
          go_ret2
          exact ⟨_, by first | rfl | (simp [errW_none, errW_some] <;> rfl) | (simp [*, errW_none, errW_some] <;> rfl), by first | exact Kd.R_nil _ _ _ _ _ | exact Kd.N_nil _ _ _ _ _ | exact Kd.V_nil _ _ _ _ _ | exact Kd.Q_nil _ _ _ _ _ | exact Kd.S_nil _ _ _ _ _, by repeat (first | (with_reducible first | exact HB.out | apply below_alloc | apply pw_below_drewN | apply below_drew1) | exact HB.out)⟩
  · replace c6 := Bool.eq_false_iff.mpr c6
    subst c6
    have H1 : (some (([] : List (S32)), 1)) = some (r1, r2) := by rw [if_neg (show ¬ (false = true) by decide)] at H; exact H
    clear H
    have H := H1
    clear H1
    simp only [Option.some.injEq, Prod.mk.injEq] at H
    obtain ⟨rfl, rfl⟩ := H
    go_enter Try.func19, Try.ntmps19
    go_wp2_with (first | ((with_reducible refine gate_callee (f := 13) rfl ?_); refine goesL_ (some 17) rfl rfl Try.func13 (by kernel_rfl) rfl #[.slice A0 l0.length c0, .slice A1 l1.length c1] rfl (by (try simp only [List.map_toArray, List.map_cons, List.map_nil]); first | done | rfl | (simp only [List.length_drop, List.length_take]; rfl)) ?_; (with_reducible refine (sojournref15_Stand.calls k _ _ l0 _ _ l1 false _ ?side1 ?side2 ?side3 ?side4 A5.out).mono ?_); (case side1 => repeat (first | exact HR0.out | (with_reducible refine Kd.C_alloc ?_ _) | (with_reducible refine Kd.C_drewN ?_ _) | (with_reducible refine Kd.C_drew ?_))); (case side2 => exact HC0.out); (case side3 => repeat (first | exact HR1.out | (with_reducible refine Kd.C_alloc ?_ _) | (with_reducible refine Kd.C_drewN ?_ _) | (with_reducible refine Kd.C_drew ?_))); (case side4 => exact HC1.out); rintro e w40 ⟨rfl, hb⟩; refine ⟨_, rfl, ?_⟩; have n0_ := Aside0.mk (below_step (by repeat (first | (with_reducible first | exact HB.out | apply below_alloc | apply pw_below_drewN | apply below_drew1) | exact HB.out)) hb); clear HB; have HB := n0_; clear n0_; (try clear hb); (try clear hb2); (try clear hk); (try clear hi)))
    go_ret2
    exact ⟨_, by first | rfl | (simp [errW_none, errW_some] <;> rfl) | (simp [*, errW_none, errW_some] <;> rfl), by first | exact Kd.R_nil _ _ _ _ _ | exact Kd.N_nil _ _ _ _ _ | exact Kd.V_nil _ _ _ _ _ | exact Kd.Q_nil _ _ _ _ _ | exact Kd.S_nil _ _ _ _ _, by repeat (first | (with_reducible first | exact HB.out | apply below_alloc | apply pw_below_drewN | apply below_drew1) | exact HB.out)⟩

end Go.Proofs.Ytgphdeelangkfaa.PDuty
