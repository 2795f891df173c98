/-
  Contracts of functions that a statement of this seat reaches (joined texts: H8).
-/
import Derived.Test.YtagifiakjniedaaMA
section
namespace Go.Proofs.Ytagifiakjniedaa.PTab
open Go.RowKit Go.Proofs.YtagifiakjniedaaW.PrintWords Go.Proofs.YtagifiakjniedaaW.PrintLast Go.Proofs.YtagifiakjniedaaW.PrintMore
attribute [local go_sem] max2_int min2_int max_two min_two max_three min_three max_four min_four   -- for this text's walks alone
set_option linter.unusedVariables false
set_option linter.unusedSimpArgs false
open Classical in
/-- named, as the print would have it. -/
noncomputable def table_named.f : List ByteArray → Option Bool
  | [s, o, p] => if s.size ≤ 140737488351232 ∧ o.size ≤ 140737488351232 ∧ p.size ≤ 140737488351232 then some (nameB s && (nameB o && nameB p)) else none
  | _ => none
theorem table_named.calls (A0 : Option Addr) (c0 : Nat) (l0 : List ByteArray) (r : Bool) (w : World) (hr0 : Kd.C Kd.string w A0 l0.length l0) (hc0 : l0.length ≤ c0) (h : table_named.f l0 = some r) :
    Calls Try.prog 30 #[.slice A0 l0.length c0] w fun e w' => e = .returned (.bool r) ∧ Below w.heap.size w w' := by
  unfold table_named.f at h
  split at h
  · rename_i s o p
    split at h
    · rename_i hs
      obtain rfl := Option.some.inj h
      obtain ⟨_, _, hC⟩ := hr0
      obtain ⟨ad, rfl, hcell⟩ := hC (by simp)
      have hrd : ∀ (j : Nat) (x : ByteArray), [s, o, p][j]? = some x → w.cell? (ad.add j) = some (.string x) := by
        intro j x hx
        obtain ⟨cs, _, hK, hcc⟩ := hcell j x hx
        obtain rfl : cs = [.string x] := hK
        have := hcc 0 _ rfl
        simpa [Kd.string, Kd.scalar] using this
      have h0 := hrd 0 s rfl
      have hsp : ad.spot = none := by
        have h2 : w.cell? ad = some (.string s) := by simpa [Addr.add] using h0
        rcases hsp : ad.spot with _ | q
        · rfl
        · exfalso
          unfold World.cell? at h2
          split at h2
          · simp [hsp] at h2
          · cases h2
      obtain ⟨b, o0, sp⟩ := ad
      obtain rfl : sp = none := hsp
      exact named_calls s o p b o0 c0 w hs.1 hs.2.1 hs.2.2 (by simpa [Addr.add] using h0) (by simpa [Addr.add] using hrd 1 o rfl) (by simpa [Addr.add] using hrd 2 p rfl)
    · cases h
  · cases h
/-! ### table_right: function 45 -/
mutual
def table_right.j0 : Nat → Bool → ByteArray → ByteArray → ByteArray → Int → Int → Int → List (S71) → Option (Int)
  | 0, _, _, _, _, _, _, _, _ => none
  | k + 1, x21, x102000, x102001, x102002, x102003, x102004, x102005, x102006 => if x21 = true then (some 163) else (if x102003 = 2 then (table_right.j1 k (x102005 == 0) true x102000 x102001 x102002 x102003 x102004 x102005 x102006) else (table_right.j1 k (x102005 == 0) (x102003 == 4) x102000 x102001 x102002 x102003 x102004 x102005 x102006))
def table_right.j1 : Nat → Bool → Bool → ByteArray → ByteArray → ByteArray → Int → Int → Int → List (S71) → Option (Int)
  | 0, _, _, _, _, _, _, _, _, _ => none
  | k + 1, x3, x32, x102000, x102001, x102002, x102003, x102004, x102005, x102006 => if x32 = true then ((table_because.f x102005).bind fun t106 => (table_right.j2 k t106 x102000 x102001 x102002 x102003 x102004 x102005 x102006)) else (table_right.j2 k x3 x102000 x102001 x102002 x102003 x102004 x102005 x102006)
def table_right.j2 : Nat → Bool → ByteArray → ByteArray → ByteArray → Int → Int → Int → List (S71) → Option (Int)
  | 0, _, _, _, _, _, _, _, _ => none
  | k + 1, x3, x102000, x102001, x102002, x102003, x102004, x102005, x102006 => if x102003 ≥ 3 then (if x3 = true then (if x102004 < 0 then (some 1) else (if x102004 > 0 then (if 4 = 0 then (some 1) else (if (x102006.length : Int) > 4 then (some 1) else (some 0))) else (if (x102006.length : Int) > 4 then (some 1) else (some 0)))) else (some 1)) else (if x3 = true then (if x102004 < 0 then (some 1) else (if x102004 > 0 then (if 0 = 0 then (some 1) else (if (x102006.length : Int) > 0 then (some 1) else (some 0))) else (if (x102006.length : Int) > 0 then (some 1) else (some 0)))) else (some 1))
end
noncomputable def table_right.f (k : Nat) (a0_0 : ByteArray) (a0_1 : ByteArray) (a0_2 : ByteArray) (a0_3 : Int) (a0_4 : Int) (a0_5 : Int) (l0_6 : List (S71)) : Option (Int) := (table_named.f (([a0_0, a0_1, a0_2] : List ByteArray))).bind fun t105 => (if t105 = true then (if a0_3 < 1 then (table_right.j0 k true a0_0 a0_1 a0_2 a0_3 a0_4 a0_5 l0_6) else (table_right.j0 k (decide (a0_3 > 5)) a0_0 a0_1 a0_2 a0_3 a0_4 a0_5 l0_6)) else (some 160))
theorem table_right.mono_l : ∀ k, (∀ y0 y1 y2 y3 y4 y5 y6 y7, LeO (table_right.j0 k y0 y1 y2 y3 y4 y5 y6 y7) (table_right.j0 (k + 1) y0 y1 y2 y3 y4 y5 y6 y7)) ∧ (∀ y0 y1 y2 y3 y4 y5 y6 y7 y8, LeO (table_right.j1 k y0 y1 y2 y3 y4 y5 y6 y7 y8) (table_right.j1 (k + 1) y0 y1 y2 y3 y4 y5 y6 y7 y8)) ∧ (∀ y0 y1 y2 y3 y4 y5 y6 y7, LeO (table_right.j2 k y0 y1 y2 y3 y4 y5 y6 y7) (table_right.j2 (k + 1) y0 y1 y2 y3 y4 y5 y6 y7))
  | 0 => ⟨fun _ _ _ _ _ _ _ _ r h => by simp [table_right.j0] at h, fun _ _ _ _ _ _ _ _ _ r h => by simp [table_right.j1] at h, fun _ _ _ _ _ _ _ _ r h => by simp [table_right.j2] at h⟩
  | k + 1 => by
    obtain ⟨ih0, ih1, ih2⟩ := table_right.mono_l k
    refine ⟨?_, ?_, ?_⟩
    · intro y0 y1 y2 y3 y4 y5 y6 y7
      unfold table_right.j0
      repeat' first
      | (with_reducible exact ih0 _ _ _ _ _ _ _ _)
      | (with_reducible exact ih1 _ _ _ _ _ _ _ _ _)
      | (with_reducible exact ih2 _ _ _ _ _ _ _ _)
      | (with_reducible exact LeO.refl _)
      | (with_reducible exact LeO.none _)
      | (with_reducible refine LeO.ite ?_ ?_)
      | (with_reducible refine LeO.bind ?_ (fun _ => ?_))
      | exact ih0 _ _ _ _ _ _ _ _
      | exact ih1 _ _ _ _ _ _ _ _ _
      | exact ih2 _ _ _ _ _ _ _ _
      | exact LeO.none _
      | refine LeO.ite ?_ ?_
      | refine LeO.bind ?_ (fun _ => ?_)
    · intro y0 y1 y2 y3 y4 y5 y6 y7 y8
      unfold table_right.j1
      repeat' first
      | (with_reducible exact ih0 _ _ _ _ _ _ _ _)
      | (with_reducible exact ih1 _ _ _ _ _ _ _ _ _)
      | (with_reducible exact ih2 _ _ _ _ _ _ _ _)
      | (with_reducible exact LeO.refl _)
      | (with_reducible exact LeO.none _)
      | (with_reducible refine LeO.ite ?_ ?_)
      | (with_reducible refine LeO.bind ?_ (fun _ => ?_))
      | exact ih0 _ _ _ _ _ _ _ _
      | exact ih1 _ _ _ _ _ _ _ _ _
      | exact ih2 _ _ _ _ _ _ _ _
      | exact LeO.none _
      | refine LeO.ite ?_ ?_
      | refine LeO.bind ?_ (fun _ => ?_)
    · intro y0 y1 y2 y3 y4 y5 y6 y7
      unfold table_right.j2
      repeat' first
      | (with_reducible exact ih0 _ _ _ _ _ _ _ _)
      | (with_reducible exact ih1 _ _ _ _ _ _ _ _ _)
      | (with_reducible exact ih2 _ _ _ _ _ _ _ _)
      | (with_reducible exact LeO.refl _)
      | (with_reducible exact LeO.none _)
      | (with_reducible refine LeO.ite ?_ ?_)
      | (with_reducible refine LeO.bind ?_ (fun _ => ?_))
      | exact ih0 _ _ _ _ _ _ _ _
      | exact ih1 _ _ _ _ _ _ _ _ _
      | exact ih2 _ _ _ _ _ _ _ _
      | exact LeO.none _
      | refine LeO.ite ?_ ?_
      | refine LeO.bind ?_ (fun _ => ?_)
theorem table_right.mono : ∀ a0 a1 a2 a3 a4 a5 a6 k, LeO (table_right.f k a0 a1 a2 a3 a4 a5 a6) (table_right.f (k + 1) a0 a1 a2 a3 a4 a5 a6) := by
  intro a0 a1 a2 a3 a4 a5 a6 k
  obtain ⟨ih0, ih1, ih2⟩ := table_right.mono_l k
  unfold table_right.f
  repeat' first
      | (with_reducible exact ih0 _ _ _ _ _ _ _ _)
      | (with_reducible exact ih1 _ _ _ _ _ _ _ _ _)
      | (with_reducible exact ih2 _ _ _ _ _ _ _ _)
      | (with_reducible exact LeO.refl _)
      | (with_reducible exact LeO.none _)
      | (with_reducible refine LeO.ite ?_ ?_)
      | (with_reducible refine LeO.bind ?_ (fun _ => ?_))
      | exact ih0 _ _ _ _ _ _ _ _
      | exact ih1 _ _ _ _ _ _ _ _ _
      | exact ih2 _ _ _ _ _ _ _ _
      | exact LeO.none _
      | refine LeO.ite ?_ ?_
      | refine LeO.bind ?_ (fun _ => ?_)
set_option maxHeartbeats 8000000 in
set_option maxRecDepth 100000 in
theorem table_right.calls (k : Nat) (a0_0 : ByteArray) (a0_1 : ByteArray) (a0_2 : ByteArray) (a0_3 : Int) (a0_4 : Int) (a0_5 : Int) (A0_6 : Option Addr) (c0_6 : Nat) (l0_6 : List (S71)) (r : Int) (w : World) (hr0_6 : Kd.C k71 w A0_6 l0_6.length l0_6) (hc0_6 : l0_6.length ≤ c0_6) (h : table_right.f k a0_0 a0_1 a0_2 a0_3 a0_4 a0_5 l0_6 = some r) :
    Calls Try.prog 45 #[.agg #[.string a0_0, .string a0_1, .string a0_2, .int .i64 a0_3, .int .i64 a0_4, .int .i64 a0_5, .slice A0_6 l0_6.length c0_6]] w fun e w' => e = .returned (.int .i64 r) ∧ Below w.heap.size w w' := by
  have hu28 := Try.underlying28
  have HR0_6 := Aside0.mk hr0_6
  have HC0_6 := Aside0.mk hc0_6
  clear hr0_6 hc0_6
  have HB := Aside0.mk (Below.refl w.heap.size w)
  have H : ((table_named.f (([a0_0, a0_1, a0_2] : List ByteArray))).bind fun t105 => (if t105 = true then (if a0_3 < 1 then (table_right.j0 k true a0_0 a0_1 a0_2 a0_3 a0_4 a0_5 l0_6) else (table_right.j0 k (decide (a0_3 > 5)) a0_0 a0_1 a0_2 a0_3 a0_4 a0_5 l0_6)) else (some 160))) = some r := h
  clear h
  obtain ⟨y102, hy102⟩ : ∃ y_ : List ByteArray, y_ = (([a0_0, a0_1, a0_2] : List ByteArray)) := ⟨_, rfl⟩
  replace H : ((table_named.f y102).bind fun t105 => (if t105 = true then (if a0_3 < 1 then (table_right.j0 k true a0_0 a0_1 a0_2 a0_3 a0_4 a0_5 l0_6) else (table_right.j0 k (decide (a0_3 > 5)) a0_0 a0_1 a0_2 a0_3 a0_4 a0_5 l0_6)) else (some 160))) = some r := by first | (rw [hy102]; with_reducible exact H) | (have H2_ := (Option.bind_some _ _).symm.trans H; rw [hy102]; with_reducible exact H2_) | (have H2_ := (Option.bind_some _ _).symm.trans H; with_reducible exact H2_) | with_reducible exact H | (rw [hy102]; exact H) | exact H
  have Ny102 := Aside0.mk hy102
  clear hy102
  replace H := Option.bind_eq_some_iff.mp H
  obtain ⟨t105, A20, H⟩ := H
  replace H : (if t105 = true then (if a0_3 < 1 then (table_right.j0 k true a0_0 a0_1 a0_2 a0_3 a0_4 a0_5 l0_6) else (table_right.j0 k (decide (a0_3 > 5)) a0_0 a0_1 a0_2 a0_3 a0_4 a0_5 l0_6)) else (some 160)) = some r := H
  have A2 := Aside0.mk A20
  clear A20
  by_cases c3 : t105 = true
  · subst c3
    have H1 : (if a0_3 < 1 then (table_right.j0 k true a0_0 a0_1 a0_2 a0_3 a0_4 a0_5 l0_6) else (table_right.j0 k (decide (a0_3 > 5)) a0_0 a0_1 a0_2 a0_3 a0_4 a0_5 l0_6)) = some r := by rw [if_pos rfl] at H; exact H
    clear H
    have H := H1
    clear H1
    have HC4 := Aside0.mk H
    clear H
    go_enter Try.func45, Try.ntmps45
    go_upto_region 3 with (first | ((with_reducible refine gate_dst (N := 1) rfl ?_); (try (refine gate_guard (by rfl) ?_; dsimp only)); refine box_event ?hg (N := 1) ?hd (cs := #[.string a0_0, .string a0_1, .string a0_2, .int .i64 a0_3, .int .i64 a0_4, .int .i64 a0_5, .slice A0_6 l0_6.length c0_6]) (t := 28) ?hr ?_; (case hd => rfl); (case hg => rfl); (case hr => first | (go_simp; done) | (go_simp; rfl)); intro gb101 hg w5 hbox hb; have n0_ := Aside0.mk (below_step (by repeat (first | (with_reducible first | exact HB.out | apply below_alloc | apply pw_below_drewN | apply below_drew1) | exact HB.out)) hb); have n1_ := Aside0.mk (hbox); have n2_ := Aside0.mk ((by rw [hg]; exact (below_size (by repeat (first | (with_reducible first | exact HB.out | apply below_alloc | apply pw_below_drewN | apply below_drew1) | exact HB.out))) : w.heap.size ≤ gb101)); have n3_ := Aside0.mk ((by rw [hg]; exact (below_size (by repeat (first | (with_reducible first | exact HB.out | apply below_alloc | apply pw_below_drewN | apply below_drew1) | exact HB.out))) : w.heap.size ≤ gb101)); clear HB; have HB := n0_; have BK101 := n1_; have GW101 := n2_; have GE101 := n3_; clear n0_ n1_ n2_ n3_; clear hb hbox hg; have hcz6_0 : w5.cell? ⟨gb101, 0, none⟩ = some (.string a0_0) := (blk_cell BK101.out 0).trans rfl; have hcz6_1 : w5.cell? ⟨gb101, 1, none⟩ = some (.string a0_1) := (blk_cell BK101.out 1).trans rfl; have hcz6_2 : w5.cell? ⟨gb101, 2, none⟩ = some (.string a0_2) := (blk_cell BK101.out 2).trans rfl; have hcz6_3 : w5.cell? ⟨gb101, 3, none⟩ = some (.int .i64 a0_3) := (blk_cell BK101.out 3).trans rfl; have hcz6_4 : w5.cell? ⟨gb101, 4, none⟩ = some (.int .i64 a0_4) := (blk_cell BK101.out 4).trans rfl; have hcz6_5 : w5.cell? ⟨gb101, 5, none⟩ = some (.int .i64 a0_5) := (blk_cell BK101.out 5).trans rfl; have hcz6_6 : w5.cell? ⟨gb101, 6, none⟩ = some (.slice A0_6 l0_6.length c0_6) := (blk_cell BK101.out 6).trans rfl; have hfz6_0 := blk_frozen BK101.out 0; have hfz6_1 := blk_frozen BK101.out 1; have hfz6_2 := blk_frozen BK101.out 2; have hfz6_3 := blk_frozen BK101.out 3; have hfz6_4 := blk_frozen BK101.out 4; have hfz6_5 := blk_frozen BK101.out 5; have hfz6_6 := blk_frozen BK101.out 6) | ((with_reducible refine gate_dst (N := 11) rfl ?_); (try (refine gate_guard (by rfl) ?_; dsimp only)); refine Kd.R_lit Kd.string _ 9 ?hg (N := 11) ?hd (xs := ([a0_0, a0_1, a0_2] : List ByteArray)) (inner := [.string a0_0, .string a0_1, .string a0_2]) (ok := fun _ => True) (okp := fun _ => True) ?hr ?hp (fun _ hk => hk) trivial (Below.refl _ _) (Nat.le_refl _) (by simp) ?_; (case hd => rfl); (case hg => rfl); (case hr => first | (go_simp; done) | (go_simp; rfl)); (case hp => exact (Reps.one (show Kd.M Kd.string _ _ _ a0_0 [.string a0_0] from rfl) (Reps.one (show Kd.M Kd.string _ _ _ a0_1 [.string a0_1] from rfl) (Reps.one (show Kd.M Kd.string _ _ _ a0_2 [.string a0_2] from rfl) (Reps.none _ _))))); intro v103 w7 ho8 hb hg_ hnew_; clear hg_ hnew_; (first | rw [← Ny102.out] at ho8 | (simp only [Int.reduceToNat] at ho8; rw [← Ny102.out] at ho8)); have n0_ := Aside0.mk (Kd.R_lower ho8 (below_size (by repeat (first | (with_reducible first | exact HB.out | apply below_alloc | apply pw_below_drewN | apply below_drew1 | refine below_set ?_ GE101.out) | exact HB.out)))); have n1_ := Aside0.mk (blk_below (g := gb101) (o := .cells #[.string a0_0, .string a0_1, .string a0_2, .int .i64 a0_3, .int .i64 a0_4, .int .i64 a0_5, .slice A0_6 l0_6.length c0_6] 28 (0, 0)) (by (with_reducible repeat (first | refine blk_drewN ?_ _ | refine blk_drew ?_ | refine blk_alloc ?_ _)); exact BK101.out) hb); have n2_ := Aside0.mk (below_step (by repeat (first | (with_reducible first | exact HB.out | apply below_alloc | apply pw_below_drewN | apply below_drew1 | refine below_set ?_ GE101.out) | exact HB.out)) hb); clear BK101; clear HB; have HO104 := n0_; have BK101 := n1_; have HB := n2_; clear n0_ n1_ n2_; clear hb ho8; obtain ⟨Ao9, co9, eo9⟩ := Kd.R_slice HO104.out; subst eo9) | ((with_reducible refine gate_callee (f := 30) rfl ?_); refine goesL_ (some 12) rfl rfl Try.func30 (by kernel_rfl) rfl #[.slice Ao9 y102.length co9] rfl (by (try simp only [List.map_toArray, List.map_cons, List.map_nil]); first | done | rfl | (simp only [List.length_drop, List.length_take]; rfl)) ?_; (with_reducible refine (table_named.calls _ _ y102 true _ ?side1 ?side2 A2.out).mono ?_); (case side1 => repeat (first | exact (Kd.R_reads' HO104.out).2.2 | (with_reducible refine Kd.C_alloc ?_ _) | (with_reducible refine Kd.C_drewN ?_ _) | (with_reducible refine Kd.C_drew ?_))); (case side2 => exact (Kd.R_reads' HO104.out).2.1); rintro e w10 ⟨rfl, hb⟩; refine ⟨_, rfl, ?_⟩; have n0_ := Aside0.mk (Kd.R_below (by (with_reducible repeat (first | apply Kd.R_alloc | apply Kd.R_drewN | apply Kd.R_drew)); exact HO104.out) hb); have n1_ := Aside0.mk (blk_below (g := gb101) (o := .cells #[.string a0_0, .string a0_1, .string a0_2, .int .i64 a0_3, .int .i64 a0_4, .int .i64 a0_5, .slice A0_6 l0_6.length c0_6] 28 (0, 0)) (by (with_reducible repeat (first | refine blk_drewN ?_ _ | refine blk_drew ?_ | refine blk_alloc ?_ _)); exact BK101.out) hb); have n2_ := Aside0.mk (below_step (by repeat (first | (with_reducible first | exact HB.out | apply below_alloc | apply pw_below_drewN | apply below_drew1 | refine below_set ?_ GE101.out) | exact HB.out)) hb); clear HO104; clear BK101; clear HB; have HO104 := n0_; have BK101 := n1_; have HB := n2_; clear n0_ n1_ n2_; (try clear hb); (try clear hb2); (try clear hk); (try clear hi)))
    (try simp only [Act.put, List.setIfInBounds_toArray, List.set_cons_zero, List.set_cons_succ])
    go_cut [21] (fun v21 wc => ∃ (kq : Nat) (x21_3 : Bool), v21 = .bool x21_3 ∧ Aside0 (table_right.j0 kq x21_3 a0_0 a0_1 a0_2 a0_3 a0_4 a0_5 l0_6 = some r) ∧ Aside0 (kq ≤ k) ∧ Aside0 (wc.heap[gb101]? = some (.cells #[.string a0_0, .string a0_1, .string a0_2, .int .i64 a0_3, .int .i64 a0_4, .int .i64 a0_5, (.slice A0_6 l0_6.length c0_6)] 28 (0, 0))) ∧ Aside0 (Below w.heap.size w wc))
    case first =>
      have H := HC4.out
      clear HC4
      by_cases c11 : a0_3 < 1
      · rw [if_pos c11] at H
        have c11b0 : decide (a0_3 < 1) = true := decide_eq_true c11
        clear c11
        (first | rw [c11b0] | (simp only [i64_w, i32_w]; rw [c11b0]) | skip)
        have H' := Aside0.mk H
        clear H
        have hcz12_0 : w10.cell? ⟨gb101, 0, none⟩ = some (.string a0_0) := (blk_cell BK101.out 0).trans rfl
        have hcz12_1 : w10.cell? ⟨gb101, 1, none⟩ = some (.string a0_1) := (blk_cell BK101.out 1).trans rfl
        have hcz12_2 : w10.cell? ⟨gb101, 2, none⟩ = some (.string a0_2) := (blk_cell BK101.out 2).trans rfl
        have hcz12_3 : w10.cell? ⟨gb101, 3, none⟩ = some (.int .i64 a0_3) := (blk_cell BK101.out 3).trans rfl
        have hcz12_4 : w10.cell? ⟨gb101, 4, none⟩ = some (.int .i64 a0_4) := (blk_cell BK101.out 4).trans rfl
        have hcz12_5 : w10.cell? ⟨gb101, 5, none⟩ = some (.int .i64 a0_5) := (blk_cell BK101.out 5).trans rfl
        have hcz12_6 : w10.cell? ⟨gb101, 6, none⟩ = some (.slice A0_6 l0_6.length c0_6) := (blk_cell BK101.out 6).trans rfl
        have hfz12_0 := blk_frozen BK101.out 0
        have hfz12_1 := blk_frozen BK101.out 1
        have hfz12_2 := blk_frozen BK101.out 2
        have hfz12_3 := blk_frozen BK101.out 3
        have hfz12_4 := blk_frozen BK101.out 4
        have hfz12_5 := blk_frozen BK101.out 5
        have hfz12_6 := blk_frozen BK101.out 6
        go_wp2
        go_meet
        case rel => exact ⟨_, (true), (by first | rfl | (simp; done) | (simp [*]; done)), H', ⟨by first | omega | exact Nat.le_refl _⟩, ⟨by (with_reducible repeat (first | refine blk_drewN ?_ _ | refine blk_drew ?_ | refine blk_alloc ?_ _)); exact BK101.out⟩, ⟨by repeat (first | (with_reducible first | exact HB.out | apply below_alloc | apply pw_below_drewN | apply below_drew1 | refine below_set ?_ GE101.out) | exact HB.out)⟩⟩
      · rw [if_neg c11] at H
        have c11b0 : decide (a0_3 < 1) = false := decide_eq_false c11
        clear c11
        (first | rw [c11b0] | (simp only [i64_w, i32_w]; rw [c11b0]) | skip)
        have H' := Aside0.mk H
        clear H
        have hcz13_0 : w10.cell? ⟨gb101, 0, none⟩ = some (.string a0_0) := (blk_cell BK101.out 0).trans rfl
        have hcz13_1 : w10.cell? ⟨gb101, 1, none⟩ = some (.string a0_1) := (blk_cell BK101.out 1).trans rfl
        have hcz13_2 : w10.cell? ⟨gb101, 2, none⟩ = some (.string a0_2) := (blk_cell BK101.out 2).trans rfl
        have hcz13_3 : w10.cell? ⟨gb101, 3, none⟩ = some (.int .i64 a0_3) := (blk_cell BK101.out 3).trans rfl
        have hcz13_4 : w10.cell? ⟨gb101, 4, none⟩ = some (.int .i64 a0_4) := (blk_cell BK101.out 4).trans rfl
        have hcz13_5 : w10.cell? ⟨gb101, 5, none⟩ = some (.int .i64 a0_5) := (blk_cell BK101.out 5).trans rfl
        have hcz13_6 : w10.cell? ⟨gb101, 6, none⟩ = some (.slice A0_6 l0_6.length c0_6) := (blk_cell BK101.out 6).trans rfl
        have hfz13_0 := blk_frozen BK101.out 0
        have hfz13_1 := blk_frozen BK101.out 1
        have hfz13_2 := blk_frozen BK101.out 2
        have hfz13_3 := blk_frozen BK101.out 3
        have hfz13_4 := blk_frozen BK101.out 4
        have hfz13_5 := blk_frozen BK101.out 5
        have hfz13_6 := blk_frozen BK101.out 6
        go_wp2
        go_meet
        case rel => exact ⟨_, (decide (a0_3 > 5)), (by first | rfl | (simp; done) | (simp [*]; done)), H', ⟨by first | omega | exact Nat.le_refl _⟩, ⟨by (with_reducible repeat (first | refine blk_drewN ?_ _ | refine blk_drew ?_ | refine blk_alloc ?_ _)); exact BK101.out⟩, ⟨by repeat (first | (with_reducible first | exact HB.out | apply below_alloc | apply pw_below_drewN | apply below_drew1 | refine below_set ?_ GE101.out) | exact HB.out)⟩⟩
    case rest =>
      clear HC4
      try clear c1
      try clear p2
      try clear c3
      try clear c4
      try clear c11
      try clear c11b0
      try clear hcz12_0
      try clear hcz12_1
      try clear hcz12_2
      try clear hcz12_3
      try clear hcz12_4
      try clear hcz12_5
      try clear hcz12_6
      try clear hcz13_0
      try clear hcz13_1
      try clear hcz13_2
      try clear hcz13_3
      try clear hcz13_4
      try clear hcz13_5
      try clear hcz13_6
      try clear hcz6_0
      try clear hcz6_1
      try clear hcz6_2
      try clear hcz6_3
      try clear hcz6_4
      try clear hcz6_5
      try clear hcz6_6
      try clear hfz12_0
      try clear hfz12_1
      try clear hfz12_2
      try clear hfz12_3
      try clear hfz12_4
      try clear hfz12_5
      try clear hfz12_6
      try clear hfz13_0
      try clear hfz13_1
      try clear hfz13_2
      try clear hfz13_3
      try clear hfz13_4
      try clear hfz13_5
      try clear hfz13_6
      try clear hfz6_0
      try clear hfz6_1
      try clear hfz6_2
      try clear hfz6_3
      try clear hfz6_4
      try clear hfz6_5
      try clear hfz6_6
      obtain ⟨kq, x21_3, rfl, HA, HJ3, BK101, HB⟩ := hcut
      cases kq with
      | zero => exact absurd HA.out (by simp [table_right.j0])
      | succ kj3 =>
        have H := HA.out
        clear HA
        simp only [table_right.j0] at H
        by_cases c14 : x21_3 = true
        · subst c14
          have H1 : (some 163) = some r := by rw [if_pos rfl] at H; exact H
          clear H
          have H := H1
          clear H1
          obtain rfl := Option.some.inj H
          go_wp2
          go_ret
          exact ⟨by first | rfl | (simp [errW_none, errW_some] <;> rfl) | (simp [*, errW_none, errW_some] <;> rfl), by repeat (first | (with_reducible first | exact HB.out | apply below_alloc | apply pw_below_drewN | apply below_drew1 | refine below_set ?_ GE101.out) | exact HB.out)⟩
        · replace c14 := Bool.eq_false_iff.mpr c14
          subst c14
          have H1 : (if a0_3 = 2 then (table_right.j1 kj3 (a0_5 == 0) true a0_0 a0_1 a0_2 a0_3 a0_4 a0_5 l0_6) else (table_right.j1 kj3 (a0_5 == 0) (a0_3 == 4) a0_0 a0_1 a0_2 a0_3 a0_4 a0_5 l0_6)) = some r := by rw [if_neg (show ¬ (false = true) by decide)] at H; exact H
          clear H
          have H := H1
          clear H1
          have HC15 := Aside0.mk H
          clear H
          have hcz16_0 : wc.cell? ⟨gb101, 0, none⟩ = some (.string a0_0) := (blk_cell BK101.out 0).trans rfl
          have hcz16_1 : wc.cell? ⟨gb101, 1, none⟩ = some (.string a0_1) := (blk_cell BK101.out 1).trans rfl
          have hcz16_2 : wc.cell? ⟨gb101, 2, none⟩ = some (.string a0_2) := (blk_cell BK101.out 2).trans rfl
          have hcz16_3 : wc.cell? ⟨gb101, 3, none⟩ = some (.int .i64 a0_3) := (blk_cell BK101.out 3).trans rfl
          have hcz16_4 : wc.cell? ⟨gb101, 4, none⟩ = some (.int .i64 a0_4) := (blk_cell BK101.out 4).trans rfl
          have hcz16_5 : wc.cell? ⟨gb101, 5, none⟩ = some (.int .i64 a0_5) := (blk_cell BK101.out 5).trans rfl
          have hcz16_6 : wc.cell? ⟨gb101, 6, none⟩ = some (.slice A0_6 l0_6.length c0_6) := (blk_cell BK101.out 6).trans rfl
          have hfz16_0 := blk_frozen BK101.out 0
          have hfz16_1 := blk_frozen BK101.out 1
          have hfz16_2 := blk_frozen BK101.out 2
          have hfz16_3 := blk_frozen BK101.out 3
          have hfz16_4 := blk_frozen BK101.out 4
          have hfz16_5 := blk_frozen BK101.out 5
          have hfz16_6 := blk_frozen BK101.out 6
          go_upto_region 6 with (fail)
          go_cut [32] (fun v32 wc => ∃ (kq : Nat) (x32_14 : Bool), v32 = .bool x32_14 ∧ Aside0 (table_right.j1 kq (a0_5 == 0) x32_14 a0_0 a0_1 a0_2 a0_3 a0_4 a0_5 l0_6 = some r) ∧ Aside0 (kq ≤ kj3) ∧ Aside0 (wc.heap[gb101]? = some (.cells #[.string a0_0, .string a0_1, .string a0_2, .int .i64 a0_3, .int .i64 a0_4, .int .i64 a0_5, (.slice A0_6 l0_6.length c0_6)] 28 (0, 0))) ∧ Aside0 (Below w.heap.size w wc))
          case first =>
            have H := HC15.out
            clear HC15
            by_cases c17 : a0_3 = 2
            · rw [if_pos c17] at H
              have c17b0 : (a0_3 == 2) = true := beq_iff_eq.mpr c17
              have c17b1 : (a0_3 != 2) = false := bne_eq_false_iff_eq.mpr c17
              clear c17
              (first | rw [c17b0] | (simp only [i64_w, i32_w]; rw [c17b0]) | skip)
              have H' := Aside0.mk H
              clear H
              have hcz18_0 : wc.cell? ⟨gb101, 0, none⟩ = some (.string a0_0) := (blk_cell BK101.out 0).trans rfl
              have hcz18_1 : wc.cell? ⟨gb101, 1, none⟩ = some (.string a0_1) := (blk_cell BK101.out 1).trans rfl
              have hcz18_2 : wc.cell? ⟨gb101, 2, none⟩ = some (.string a0_2) := (blk_cell BK101.out 2).trans rfl
              have hcz18_3 : wc.cell? ⟨gb101, 3, none⟩ = some (.int .i64 a0_3) := (blk_cell BK101.out 3).trans rfl
              have hcz18_4 : wc.cell? ⟨gb101, 4, none⟩ = some (.int .i64 a0_4) := (blk_cell BK101.out 4).trans rfl
              have hcz18_5 : wc.cell? ⟨gb101, 5, none⟩ = some (.int .i64 a0_5) := (blk_cell BK101.out 5).trans rfl
              have hcz18_6 : wc.cell? ⟨gb101, 6, none⟩ = some (.slice A0_6 l0_6.length c0_6) := (blk_cell BK101.out 6).trans rfl
              have hfz18_0 := blk_frozen BK101.out 0
              have hfz18_1 := blk_frozen BK101.out 1
              have hfz18_2 := blk_frozen BK101.out 2
              have hfz18_3 := blk_frozen BK101.out 3
              have hfz18_4 := blk_frozen BK101.out 4
              have hfz18_5 := blk_frozen BK101.out 5
              have hfz18_6 := blk_frozen BK101.out 6
              go_wp2
              go_meet
              case rel => exact ⟨_, (true), (by first | rfl | (simp; done) | (simp [*]; done)), H', ⟨by have := HJ3.out; first | omega | exact Nat.le_refl _⟩, ⟨by (with_reducible repeat (first | refine blk_drewN ?_ _ | refine blk_drew ?_ | refine blk_alloc ?_ _)); exact BK101.out⟩, ⟨by repeat (first | (with_reducible first | exact HB.out | apply below_alloc | apply pw_below_drewN | apply below_drew1 | refine below_set ?_ GE101.out) | exact HB.out)⟩⟩
            · rw [if_neg c17] at H
              have c17b0 : (a0_3 == 2) = false := beq_eq_false_iff_ne.mpr c17
              have c17b1 : (a0_3 != 2) = true := bne_iff_ne.mpr c17
              (first | rw [c17b0] | (simp only [i64_w, i32_w]; rw [c17b0]) | skip)
              have H' := Aside0.mk H
              clear H
              have hcz19_0 : wc.cell? ⟨gb101, 0, none⟩ = some (.string a0_0) := (blk_cell BK101.out 0).trans rfl
              have hcz19_1 : wc.cell? ⟨gb101, 1, none⟩ = some (.string a0_1) := (blk_cell BK101.out 1).trans rfl
              have hcz19_2 : wc.cell? ⟨gb101, 2, none⟩ = some (.string a0_2) := (blk_cell BK101.out 2).trans rfl
              have hcz19_3 : wc.cell? ⟨gb101, 3, none⟩ = some (.int .i64 a0_3) := (blk_cell BK101.out 3).trans rfl
              have hcz19_4 : wc.cell? ⟨gb101, 4, none⟩ = some (.int .i64 a0_4) := (blk_cell BK101.out 4).trans rfl
              have hcz19_5 : wc.cell? ⟨gb101, 5, none⟩ = some (.int .i64 a0_5) := (blk_cell BK101.out 5).trans rfl
              have hcz19_6 : wc.cell? ⟨gb101, 6, none⟩ = some (.slice A0_6 l0_6.length c0_6) := (blk_cell BK101.out 6).trans rfl
              have hfz19_0 := blk_frozen BK101.out 0
              have hfz19_1 := blk_frozen BK101.out 1
              have hfz19_2 := blk_frozen BK101.out 2
              have hfz19_3 := blk_frozen BK101.out 3
              have hfz19_4 := blk_frozen BK101.out 4
              have hfz19_5 := blk_frozen BK101.out 5
              have hfz19_6 := blk_frozen BK101.out 6
              go_wp2
              go_meet
              case rel => exact ⟨_, ((a0_3 == 4)), (by first | rfl | (simp; done) | (simp [*]; done)), H', ⟨by have := HJ3.out; first | omega | exact Nat.le_refl _⟩, ⟨by (with_reducible repeat (first | refine blk_drewN ?_ _ | refine blk_drew ?_ | refine blk_alloc ?_ _)); exact BK101.out⟩, ⟨by repeat (first | (with_reducible first | exact HB.out | apply below_alloc | apply pw_below_drewN | apply below_drew1 | refine below_set ?_ GE101.out) | exact HB.out)⟩⟩
          case rest =>
            clear HC15
            try clear c1
            try clear p2
            try clear c3
            try clear c4
            try clear c11
            try clear c11b0
            try clear c14
            try clear c17
            try clear c17b0
            try clear c17b1
            try clear hcz12_0
            try clear hcz12_1
            try clear hcz12_2
            try clear hcz12_3
            try clear hcz12_4
            try clear hcz12_5
            try clear hcz12_6
            try clear hcz13_0
            try clear hcz13_1
            try clear hcz13_2
            try clear hcz13_3
            try clear hcz13_4
            try clear hcz13_5
            try clear hcz13_6
            try clear hcz16_0
            try clear hcz16_1
            try clear hcz16_2
            try clear hcz16_3
            try clear hcz16_4
            try clear hcz16_5
            try clear hcz16_6
            try clear hcz18_0
            try clear hcz18_1
            try clear hcz18_2
            try clear hcz18_3
            try clear hcz18_4
            try clear hcz18_5
            try clear hcz18_6
            try clear hcz19_0
            try clear hcz19_1
            try clear hcz19_2
            try clear hcz19_3
            try clear hcz19_4
            try clear hcz19_5
            try clear hcz19_6
            try clear hcz6_0
            try clear hcz6_1
            try clear hcz6_2
            try clear hcz6_3
            try clear hcz6_4
            try clear hcz6_5
            try clear hcz6_6
            try clear hfz12_0
            try clear hfz12_1
            try clear hfz12_2
            try clear hfz12_3
            try clear hfz12_4
            try clear hfz12_5
            try clear hfz12_6
            try clear hfz13_0
            try clear hfz13_1
            try clear hfz13_2
            try clear hfz13_3
            try clear hfz13_4
            try clear hfz13_5
            try clear hfz13_6
            try clear hfz16_0
            try clear hfz16_1
            try clear hfz16_2
            try clear hfz16_3
            try clear hfz16_4
            try clear hfz16_5
            try clear hfz16_6
            try clear hfz18_0
            try clear hfz18_1
            try clear hfz18_2
            try clear hfz18_3
            try clear hfz18_4
            try clear hfz18_5
            try clear hfz18_6
            try clear hfz19_0
            try clear hfz19_1
            try clear hfz19_2
            try clear hfz19_3
            try clear hfz19_4
            try clear hfz19_5
            try clear hfz19_6
            try clear hfz6_0
            try clear hfz6_1
            try clear hfz6_2
            try clear hfz6_3
            try clear hfz6_4
            try clear hfz6_5
            try clear hfz6_6
            try clear p2
            obtain ⟨kq, x32_14, rfl, HA, HJ14, BK101, HB⟩ := hcut
            cases kq with
            | zero => exact absurd HA.out (by simp [table_right.j1])
            | succ kj14 =>
              have H := HA.out
              clear HA
              simp only [table_right.j1] at H
              have HC20 := Aside0.mk H
              clear H
              go_upto_if 32 with (fail)
              go_cut [3] (fun v3 wc => ∃ (kq : Nat) (x3_19 : Bool), v3 = .bool x3_19 ∧ Aside0 (table_right.j2 kq x3_19 a0_0 a0_1 a0_2 a0_3 a0_4 a0_5 l0_6 = some r) ∧ Aside0 (kq ≤ kj14) ∧ Aside0 (wc.heap[gb101]? = some (.cells #[.string a0_0, .string a0_1, .string a0_2, .int .i64 a0_3, .int .i64 a0_4, .int .i64 a0_5, (.slice A0_6 l0_6.length c0_6)] 28 (0, 0))) ∧ Aside0 (Below w.heap.size w wc))
              case first =>
                have H := HC20.out
                clear HC20
                by_cases c21 : x32_14 = true
                · subst c21
                  have H1 : ((table_because.f a0_5).bind fun t106 => (table_right.j2 kj14 t106 a0_0 a0_1 a0_2 a0_3 a0_4 a0_5 l0_6)) = some r := by rw [if_pos rfl] at H; exact H
                  clear H
                  have H := H1
                  clear H1
                  replace H := Option.bind_eq_some_iff.mp H
                  obtain ⟨t106, A220, H⟩ := H
                  replace H : (table_right.j2 kj14 t106 a0_0 a0_1 a0_2 a0_3 a0_4 a0_5 l0_6) = some r := H
                  have A22 := Aside0.mk A220
                  clear A220
                  have H' := Aside0.mk H
                  clear H
                  have hcz23_0 : wc.cell? ⟨gb101, 0, none⟩ = some (.string a0_0) := (blk_cell BK101.out 0).trans rfl
                  have hcz23_1 : wc.cell? ⟨gb101, 1, none⟩ = some (.string a0_1) := (blk_cell BK101.out 1).trans rfl
                  have hcz23_2 : wc.cell? ⟨gb101, 2, none⟩ = some (.string a0_2) := (blk_cell BK101.out 2).trans rfl
                  have hcz23_3 : wc.cell? ⟨gb101, 3, none⟩ = some (.int .i64 a0_3) := (blk_cell BK101.out 3).trans rfl
                  have hcz23_4 : wc.cell? ⟨gb101, 4, none⟩ = some (.int .i64 a0_4) := (blk_cell BK101.out 4).trans rfl
                  have hcz23_5 : wc.cell? ⟨gb101, 5, none⟩ = some (.int .i64 a0_5) := (blk_cell BK101.out 5).trans rfl
                  have hcz23_6 : wc.cell? ⟨gb101, 6, none⟩ = some (.slice A0_6 l0_6.length c0_6) := (blk_cell BK101.out 6).trans rfl
                  have hfz23_0 := blk_frozen BK101.out 0
                  have hfz23_1 := blk_frozen BK101.out 1
                  have hfz23_2 := blk_frozen BK101.out 2
                  have hfz23_3 := blk_frozen BK101.out 3
                  have hfz23_4 := blk_frozen BK101.out 4
                  have hfz23_5 := blk_frozen BK101.out 5
                  have hfz23_6 := blk_frozen BK101.out 6
                  go_wp2_with (first | ((with_reducible refine gate_callee (f := 53) rfl ?_); refine goesL_ (some 35) rfl rfl Try.func53 (by kernel_rfl) rfl #[.int .i64 a0_5] rfl (by (try simp only [List.map_toArray, List.map_cons, List.map_nil]); first | done | rfl | (simp only [List.length_drop, List.length_take]; rfl)) ?_; (with_reducible refine (table_because.calls a0_5 t106 _ A22.out).mono ?_); rintro e w' ⟨rfl, ⟨nd, rfl⟩⟩; refine ⟨_, rfl, ?_⟩))
                  go_meet
                  case rel => exact ⟨_, (t106), (by first | rfl | (simp; done) | (simp [*]; done)), H', ⟨by have := HJ3.out; have := HJ14.out; first | omega | exact Nat.le_refl _⟩, ⟨by (with_reducible repeat (first | refine blk_drewN ?_ _ | refine blk_drew ?_ | refine blk_alloc ?_ _)); exact BK101.out⟩, ⟨by repeat (first | (with_reducible first | exact HB.out | apply below_alloc | apply pw_below_drewN | apply below_drew1 | refine below_set ?_ GE101.out) | exact HB.out)⟩⟩
                · replace c21 := Bool.eq_false_iff.mpr c21
                  subst c21
                  have H1 : (table_right.j2 kj14 (a0_5 == 0) a0_0 a0_1 a0_2 a0_3 a0_4 a0_5 l0_6) = some r := by rw [if_neg (show ¬ (false = true) by decide)] at H; exact H
                  clear H
                  have H := H1
                  clear H1
                  have H' := Aside0.mk H
                  clear H
                  go_wp2
                  go_meet
                  case rel => exact ⟨_, ((a0_5 == 0)), (by first | rfl | (simp; done) | (simp [*]; done)), H', ⟨by have := HJ3.out; have := HJ14.out; first | omega | exact Nat.le_refl _⟩, ⟨by (with_reducible repeat (first | refine blk_drewN ?_ _ | refine blk_drew ?_ | refine blk_alloc ?_ _)); exact BK101.out⟩, ⟨by repeat (first | (with_reducible first | exact HB.out | apply below_alloc | apply pw_below_drewN | apply below_drew1 | refine below_set ?_ GE101.out) | exact HB.out)⟩⟩
              case rest =>
                clear HC20
                try clear c1
                try clear c2
                try clear p2
                try clear c3
                try clear c4
                try clear c5
                try clear c11
                try clear c11b0
                try clear c14
                try clear c17
                try clear c17b0
                try clear c17b1
                try clear c21
                try clear hcz12_0
                try clear hcz12_1
                try clear hcz12_2
                try clear hcz12_3
                try clear hcz12_4
                try clear hcz12_5
                try clear hcz12_6
                try clear hcz13_0
                try clear hcz13_1
                try clear hcz13_2
                try clear hcz13_3
                try clear hcz13_4
                try clear hcz13_5
                try clear hcz13_6
                try clear hcz16_0
                try clear hcz16_1
                try clear hcz16_2
                try clear hcz16_3
                try clear hcz16_4
                try clear hcz16_5
                try clear hcz16_6
                try clear hcz18_0
                try clear hcz18_1
                try clear hcz18_2
                try clear hcz18_3
                try clear hcz18_4
                try clear hcz18_5
                try clear hcz18_6
                try clear hcz19_0
                try clear hcz19_1
                try clear hcz19_2
                try clear hcz19_3
                try clear hcz19_4
                try clear hcz19_5
                try clear hcz19_6
                try clear hcz23_0
                try clear hcz23_1
                try clear hcz23_2
                try clear hcz23_3
                try clear hcz23_4
                try clear hcz23_5
                try clear hcz23_6
                try clear hcz6_0
                try clear hcz6_1
                try clear hcz6_2
                try clear hcz6_3
                try clear hcz6_4
                try clear hcz6_5
                try clear hcz6_6
                try clear hfz12_0
                try clear hfz12_1
                try clear hfz12_2
                try clear hfz12_3
                try clear hfz12_4
                try clear hfz12_5
                try clear hfz12_6
                try clear hfz13_0
                try clear hfz13_1
                try clear hfz13_2
                try clear hfz13_3
                try clear hfz13_4
                try clear hfz13_5
                try clear hfz13_6
                try clear hfz16_0
                try clear hfz16_1
                try clear hfz16_2
                try clear hfz16_3
                try clear hfz16_4
                try clear hfz16_5
                try clear hfz16_6
                try clear hfz18_0
                try clear hfz18_1
                try clear hfz18_2
                try clear hfz18_3
                try clear hfz18_4
                try clear hfz18_5
                try clear hfz18_6
                try clear hfz19_0
                try clear hfz19_1
                try clear hfz19_2
                try clear hfz19_3
                try clear hfz19_4
                try clear hfz19_5
                try clear hfz19_6
                try clear hfz23_0
                try clear hfz23_1
                try clear hfz23_2
                try clear hfz23_3
                try clear hfz23_4
                try clear hfz23_5
                try clear hfz23_6
                try clear hfz6_0
                try clear hfz6_1
                try clear hfz6_2
                try clear hfz6_3
                try clear hfz6_4
                try clear hfz6_5
                try clear hfz6_6
                try clear p2
                obtain ⟨kq, x3_19, rfl, HA, HJ19, BK101, HB⟩ := hcut
                cases kq with
                | zero => exact absurd HA.out (by simp [table_right.j2])
                | succ kj19 =>
                  have H := HA.out
                  clear HA
                  simp only [table_right.j2] at H
                  by_cases c24 : a0_3 ≥ 3
                  · rw [if_pos c24] at H
                    have c24b0 : decide (3 ≤ a0_3) = true := decide_eq_true c24
                    clear c24
                    by_cases c25 : x3_19 = true
                    · subst c25
                      have H1 : (if a0_4 < 0 then (some 1) else (if a0_4 > 0 then (if 4 = 0 then (some 1) else (if (l0_6.length : Int) > 4 then (some 1) else (some 0))) else (if (l0_6.length : Int) > 4 then (some 1) else (some 0)))) = some r := by rw [if_pos rfl] at H; exact H
                      clear H
                      have H := H1
                      clear H1
                      by_cases c26 : a0_4 < 0
                      · rw [if_pos c26] at H
                        have c26b0 : decide (a0_4 < 0) = true := decide_eq_true c26
                        clear c26
                        obtain rfl := Option.some.inj H
                        have hcz27_0 : wc.cell? ⟨gb101, 0, none⟩ = some (.string a0_0) := (blk_cell BK101.out 0).trans rfl
                        have hcz27_1 : wc.cell? ⟨gb101, 1, none⟩ = some (.string a0_1) := (blk_cell BK101.out 1).trans rfl
                        have hcz27_2 : wc.cell? ⟨gb101, 2, none⟩ = some (.string a0_2) := (blk_cell BK101.out 2).trans rfl
                        have hcz27_3 : wc.cell? ⟨gb101, 3, none⟩ = some (.int .i64 a0_3) := (blk_cell BK101.out 3).trans rfl
                        have hcz27_4 : wc.cell? ⟨gb101, 4, none⟩ = some (.int .i64 a0_4) := (blk_cell BK101.out 4).trans rfl
                        have hcz27_5 : wc.cell? ⟨gb101, 5, none⟩ = some (.int .i64 a0_5) := (blk_cell BK101.out 5).trans rfl
                        have hcz27_6 : wc.cell? ⟨gb101, 6, none⟩ = some (.slice A0_6 l0_6.length c0_6) := (blk_cell BK101.out 6).trans rfl
                        have hfz27_0 := blk_frozen BK101.out 0
                        have hfz27_1 := blk_frozen BK101.out 1
                        have hfz27_2 := blk_frozen BK101.out 2
                        have hfz27_3 := blk_frozen BK101.out 3
                        have hfz27_4 := blk_frozen BK101.out 4
                        have hfz27_5 := blk_frozen BK101.out 5
                        have hfz27_6 := blk_frozen BK101.out 6
                        go_wp2
                        go_ret
                        exact ⟨by first | rfl | (simp [errW_none, errW_some] <;> rfl) | (simp [*, errW_none, errW_some] <;> rfl), by repeat (first | (with_reducible first | exact HB.out | apply below_alloc | apply pw_below_drewN | apply below_drew1 | refine below_set ?_ GE101.out) | exact HB.out)⟩
                      · rw [if_neg c26] at H
                        have c26b0 : decide (a0_4 < 0) = false := decide_eq_false c26
                        clear c26
                        by_cases c28 : a0_4 > 0
                        · rw [if_pos c28] at H
                          have c28b0 : decide (0 < a0_4) = true := decide_eq_true c28
                          clear c28
                          by_cases c29 : 4 = 0
                          · exact absurd c29 (by decide)
                          · rw [if_neg c29] at H
                            have c29b0 : (4 == 0) = false := beq_eq_false_iff_ne.mpr c29
                            have c29b1 : (4 != 0) = true := bne_iff_ne.mpr c29
                            by_cases c31 : (l0_6.length : Int) > 4
                            · rw [if_pos c31] at H
                              have c31b0 : decide (4 < (l0_6.length : Int)) = true := decide_eq_true c31
                              have c31b1 : decide (4 < l0_6.length) = true := decide_eq_true (by omega)
                              clear c31
                              obtain rfl := Option.some.inj H
                              have hcz32_0 : wc.cell? ⟨gb101, 0, none⟩ = some (.string a0_0) := (blk_cell BK101.out 0).trans rfl
                              have hcz32_1 : wc.cell? ⟨gb101, 1, none⟩ = some (.string a0_1) := (blk_cell BK101.out 1).trans rfl
                              have hcz32_2 : wc.cell? ⟨gb101, 2, none⟩ = some (.string a0_2) := (blk_cell BK101.out 2).trans rfl
                              have hcz32_3 : wc.cell? ⟨gb101, 3, none⟩ = some (.int .i64 a0_3) := (blk_cell BK101.out 3).trans rfl
                              have hcz32_4 : wc.cell? ⟨gb101, 4, none⟩ = some (.int .i64 a0_4) := (blk_cell BK101.out 4).trans rfl
                              have hcz32_5 : wc.cell? ⟨gb101, 5, none⟩ = some (.int .i64 a0_5) := (blk_cell BK101.out 5).trans rfl
                              have hcz32_6 : wc.cell? ⟨gb101, 6, none⟩ = some (.slice A0_6 l0_6.length c0_6) := (blk_cell BK101.out 6).trans rfl
                              have hfz32_0 := blk_frozen BK101.out 0
                              have hfz32_1 := blk_frozen BK101.out 1
                              have hfz32_2 := blk_frozen BK101.out 2
                              have hfz32_3 := blk_frozen BK101.out 3
                              have hfz32_4 := blk_frozen BK101.out 4
                              have hfz32_5 := blk_frozen BK101.out 5
                              have hfz32_6 := blk_frozen BK101.out 6
                              go_wp2
                              go_ret
                              exact ⟨by first | rfl | (simp [errW_none, errW_some] <;> rfl) | (simp [*, errW_none, errW_some] <;> rfl), by repeat (first | (with_reducible first | exact HB.out | apply below_alloc | apply pw_below_drewN | apply below_drew1 | refine below_set ?_ GE101.out) | exact HB.out)⟩
                            · rw [if_neg c31] at H
                              have c31b0 : decide (4 < (l0_6.length : Int)) = false := decide_eq_false c31
                              have c31b1 : decide (4 < l0_6.length) = false := decide_eq_false (by omega)
                              clear c31
                              obtain rfl := Option.some.inj H
                              have hcz33_0 : wc.cell? ⟨gb101, 0, none⟩ = some (.string a0_0) := (blk_cell BK101.out 0).trans rfl
                              have hcz33_1 : wc.cell? ⟨gb101, 1, none⟩ = some (.string a0_1) := (blk_cell BK101.out 1).trans rfl
                              have hcz33_2 : wc.cell? ⟨gb101, 2, none⟩ = some (.string a0_2) := (blk_cell BK101.out 2).trans rfl
                              have hcz33_3 : wc.cell? ⟨gb101, 3, none⟩ = some (.int .i64 a0_3) := (blk_cell BK101.out 3).trans rfl
                              have hcz33_4 : wc.cell? ⟨gb101, 4, none⟩ = some (.int .i64 a0_4) := (blk_cell BK101.out 4).trans rfl
                              have hcz33_5 : wc.cell? ⟨gb101, 5, none⟩ = some (.int .i64 a0_5) := (blk_cell BK101.out 5).trans rfl
                              have hcz33_6 : wc.cell? ⟨gb101, 6, none⟩ = some (.slice A0_6 l0_6.length c0_6) := (blk_cell BK101.out 6).trans rfl
                              have hfz33_0 := blk_frozen BK101.out 0
                              have hfz33_1 := blk_frozen BK101.out 1
                              have hfz33_2 := blk_frozen BK101.out 2
                              have hfz33_3 := blk_frozen BK101.out 3
                              have hfz33_4 := blk_frozen BK101.out 4
                              have hfz33_5 := blk_frozen BK101.out 5
                              have hfz33_6 := blk_frozen BK101.out 6
                              go_wp2
                              go_ret
                              exact ⟨by first | rfl | (simp [errW_none, errW_some] <;> rfl) | (simp [*, errW_none, errW_some] <;> rfl), by repeat (first | (with_reducible first | exact HB.out | apply below_alloc | apply pw_below_drewN | apply below_drew1 | refine below_set ?_ GE101.out) | exact HB.out)⟩
                        · rw [if_neg c28] at H
                          have c28b0 : decide (0 < a0_4) = false := decide_eq_false c28
                          clear c28
                          by_cases c34 : (l0_6.length : Int) > 4
                          · rw [if_pos c34] at H
                            have c34b0 : decide (4 < (l0_6.length : Int)) = true := decide_eq_true c34
                            have c34b1 : decide (4 < l0_6.length) = true := decide_eq_true (by omega)
                            clear c34
                            obtain rfl := Option.some.inj H
                            have hcz35_0 : wc.cell? ⟨gb101, 0, none⟩ = some (.string a0_0) := (blk_cell BK101.out 0).trans rfl
                            have hcz35_1 : wc.cell? ⟨gb101, 1, none⟩ = some (.string a0_1) := (blk_cell BK101.out 1).trans rfl
                            have hcz35_2 : wc.cell? ⟨gb101, 2, none⟩ = some (.string a0_2) := (blk_cell BK101.out 2).trans rfl
                            have hcz35_3 : wc.cell? ⟨gb101, 3, none⟩ = some (.int .i64 a0_3) := (blk_cell BK101.out 3).trans rfl
                            have hcz35_4 : wc.cell? ⟨gb101, 4, none⟩ = some (.int .i64 a0_4) := (blk_cell BK101.out 4).trans rfl
                            have hcz35_5 : wc.cell? ⟨gb101, 5, none⟩ = some (.int .i64 a0_5) := (blk_cell BK101.out 5).trans rfl
                            have hcz35_6 : wc.cell? ⟨gb101, 6, none⟩ = some (.slice A0_6 l0_6.length c0_6) := (blk_cell BK101.out 6).trans rfl
                            have hfz35_0 := blk_frozen BK101.out 0
                            have hfz35_1 := blk_frozen BK101.out 1
                            have hfz35_2 := blk_frozen BK101.out 2
                            have hfz35_3 := blk_frozen BK101.out 3
                            have hfz35_4 := blk_frozen BK101.out 4
                            have hfz35_5 := blk_frozen BK101.out 5
                            have hfz35_6 := blk_frozen BK101.out 6
                            go_wp2
                            go_ret
                            exact ⟨by first | rfl | (simp [errW_none, errW_some] <;> rfl) | (simp [*, errW_none, errW_some] <;> rfl), by repeat (first | (with_reducible first | exact HB.out | apply below_alloc | apply pw_below_drewN | apply below_drew1 | refine below_set ?_ GE101.out) | exact HB.out)⟩
                          · rw [if_neg c34] at H
                            have c34b0 : decide (4 < (l0_6.length : Int)) = false := decide_eq_false c34
                            have c34b1 : decide (4 < l0_6.length) = false := decide_eq_false (by omega)
                            clear c34
                            obtain rfl := Option.some.inj H
                            have hcz36_0 : wc.cell? ⟨gb101, 0, none⟩ = some (.string a0_0) := (blk_cell BK101.out 0).trans rfl
                            have hcz36_1 : wc.cell? ⟨gb101, 1, none⟩ = some (.string a0_1) := (blk_cell BK101.out 1).trans rfl
                            have hcz36_2 : wc.cell? ⟨gb101, 2, none⟩ = some (.string a0_2) := (blk_cell BK101.out 2).trans rfl
                            have hcz36_3 : wc.cell? ⟨gb101, 3, none⟩ = some (.int .i64 a0_3) := (blk_cell BK101.out 3).trans rfl
                            have hcz36_4 : wc.cell? ⟨gb101, 4, none⟩ = some (.int .i64 a0_4) := (blk_cell BK101.out 4).trans rfl
                            have hcz36_5 : wc.cell? ⟨gb101, 5, none⟩ = some (.int .i64 a0_5) := (blk_cell BK101.out 5).trans rfl
                            have hcz36_6 : wc.cell? ⟨gb101, 6, none⟩ = some (.slice A0_6 l0_6.length c0_6) := (blk_cell BK101.out 6).trans rfl
                            have hfz36_0 := blk_frozen BK101.out 0
                            have hfz36_1 := blk_frozen BK101.out 1
                            have hfz36_2 := blk_frozen BK101.out 2
                            have hfz36_3 := blk_frozen BK101.out 3
                            have hfz36_4 := blk_frozen BK101.out 4
                            have hfz36_5 := blk_frozen BK101.out 5
                            have hfz36_6 := blk_frozen BK101.out 6
                            go_wp2
                            go_ret
                            exact ⟨by first | rfl | (simp [errW_none, errW_some] <;> rfl) | (simp [*, errW_none, errW_some] <;> rfl), by repeat (first | (with_reducible first | exact HB.out | apply below_alloc | apply pw_below_drewN | apply below_drew1 | refine below_set ?_ GE101.out) | exact HB.out)⟩
                    · replace c25 := Bool.eq_false_iff.mpr c25
                      subst c25
                      have H1 : (some 1) = some r := by rw [if_neg (show ¬ (false = true) by decide)] at H; exact H
                      clear H
                      have H := H1
                      clear H1
                      obtain rfl := Option.some.inj H
                      have hcz37_0 : wc.cell? ⟨gb101, 0, none⟩ = some (.string a0_0) := (blk_cell BK101.out 0).trans rfl
                      have hcz37_1 : wc.cell? ⟨gb101, 1, none⟩ = some (.string a0_1) := (blk_cell BK101.out 1).trans rfl
                      have hcz37_2 : wc.cell? ⟨gb101, 2, none⟩ = some (.string a0_2) := (blk_cell BK101.out 2).trans rfl
                      have hcz37_3 : wc.cell? ⟨gb101, 3, none⟩ = some (.int .i64 a0_3) := (blk_cell BK101.out 3).trans rfl
                      have hcz37_4 : wc.cell? ⟨gb101, 4, none⟩ = some (.int .i64 a0_4) := (blk_cell BK101.out 4).trans rfl
                      have hcz37_5 : wc.cell? ⟨gb101, 5, none⟩ = some (.int .i64 a0_5) := (blk_cell BK101.out 5).trans rfl
                      have hcz37_6 : wc.cell? ⟨gb101, 6, none⟩ = some (.slice A0_6 l0_6.length c0_6) := (blk_cell BK101.out 6).trans rfl
                      have hfz37_0 := blk_frozen BK101.out 0
                      have hfz37_1 := blk_frozen BK101.out 1
                      have hfz37_2 := blk_frozen BK101.out 2
                      have hfz37_3 := blk_frozen BK101.out 3
                      have hfz37_4 := blk_frozen BK101.out 4
                      have hfz37_5 := blk_frozen BK101.out 5
                      have hfz37_6 := blk_frozen BK101.out 6
                      go_wp2
                      go_ret
                      exact ⟨by first | rfl | (simp [errW_none, errW_some] <;> rfl) | (simp [*, errW_none, errW_some] <;> rfl), by repeat (first | (with_reducible first | exact HB.out | apply below_alloc | apply pw_below_drewN | apply below_drew1 | refine below_set ?_ GE101.out) | exact HB.out)⟩
                  · rw [if_neg c24] at H
                    have c24b0 : decide (3 ≤ a0_3) = false := decide_eq_false c24
                    clear c24
                    by_cases c38 : x3_19 = true
                    · subst c38
                      have H1 : (if a0_4 < 0 then (some 1) else (if a0_4 > 0 then (if 0 = 0 then (some 1) else (if (l0_6.length : Int) > 0 then (some 1) else (some 0))) else (if (l0_6.length : Int) > 0 then (some 1) else (some 0)))) = some r := by rw [if_pos rfl] at H; exact H
                      clear H
                      have H := H1
                      clear H1
                      by_cases c39 : a0_4 < 0
                      · rw [if_pos c39] at H
                        have c39b0 : decide (a0_4 < 0) = true := decide_eq_true c39
                        clear c39
                        obtain rfl := Option.some.inj H
                        have hcz40_0 : wc.cell? ⟨gb101, 0, none⟩ = some (.string a0_0) := (blk_cell BK101.out 0).trans rfl
                        have hcz40_1 : wc.cell? ⟨gb101, 1, none⟩ = some (.string a0_1) := (blk_cell BK101.out 1).trans rfl
                        have hcz40_2 : wc.cell? ⟨gb101, 2, none⟩ = some (.string a0_2) := (blk_cell BK101.out 2).trans rfl
                        have hcz40_3 : wc.cell? ⟨gb101, 3, none⟩ = some (.int .i64 a0_3) := (blk_cell BK101.out 3).trans rfl
                        have hcz40_4 : wc.cell? ⟨gb101, 4, none⟩ = some (.int .i64 a0_4) := (blk_cell BK101.out 4).trans rfl
                        have hcz40_5 : wc.cell? ⟨gb101, 5, none⟩ = some (.int .i64 a0_5) := (blk_cell BK101.out 5).trans rfl
                        have hcz40_6 : wc.cell? ⟨gb101, 6, none⟩ = some (.slice A0_6 l0_6.length c0_6) := (blk_cell BK101.out 6).trans rfl
                        have hfz40_0 := blk_frozen BK101.out 0
                        have hfz40_1 := blk_frozen BK101.out 1
                        have hfz40_2 := blk_frozen BK101.out 2
                        have hfz40_3 := blk_frozen BK101.out 3
                        have hfz40_4 := blk_frozen BK101.out 4
                        have hfz40_5 := blk_frozen BK101.out 5
                        have hfz40_6 := blk_frozen BK101.out 6
                        go_wp2
                        go_ret
                        exact ⟨by first | rfl | (simp [errW_none, errW_some] <;> rfl) | (simp [*, errW_none, errW_some] <;> rfl), by repeat (first | (with_reducible first | exact HB.out | apply below_alloc | apply pw_below_drewN | apply below_drew1 | refine below_set ?_ GE101.out) | exact HB.out)⟩
                      · rw [if_neg c39] at H
                        have c39b0 : decide (a0_4 < 0) = false := decide_eq_false c39
                        clear c39
                        by_cases c41 : a0_4 > 0
                        · rw [if_pos c41] at H
                          have c41b0 : decide (0 < a0_4) = true := decide_eq_true c41
                          clear c41
                          by_cases c42 : 0 = 0
                          · rw [if_pos c42] at H
                            have c42b0 : (0 == 0) = true := beq_iff_eq.mpr c42
                            have c42b1 : (0 != 0) = false := bne_eq_false_iff_eq.mpr c42
                            clear c42
                            obtain rfl := Option.some.inj H
                            have hcz43_0 : wc.cell? ⟨gb101, 0, none⟩ = some (.string a0_0) := (blk_cell BK101.out 0).trans rfl
                            have hcz43_1 : wc.cell? ⟨gb101, 1, none⟩ = some (.string a0_1) := (blk_cell BK101.out 1).trans rfl
                            have hcz43_2 : wc.cell? ⟨gb101, 2, none⟩ = some (.string a0_2) := (blk_cell BK101.out 2).trans rfl
                            have hcz43_3 : wc.cell? ⟨gb101, 3, none⟩ = some (.int .i64 a0_3) := (blk_cell BK101.out 3).trans rfl
                            have hcz43_4 : wc.cell? ⟨gb101, 4, none⟩ = some (.int .i64 a0_4) := (blk_cell BK101.out 4).trans rfl
                            have hcz43_5 : wc.cell? ⟨gb101, 5, none⟩ = some (.int .i64 a0_5) := (blk_cell BK101.out 5).trans rfl
                            have hcz43_6 : wc.cell? ⟨gb101, 6, none⟩ = some (.slice A0_6 l0_6.length c0_6) := (blk_cell BK101.out 6).trans rfl
                            have hfz43_0 := blk_frozen BK101.out 0
                            have hfz43_1 := blk_frozen BK101.out 1
                            have hfz43_2 := blk_frozen BK101.out 2
                            have hfz43_3 := blk_frozen BK101.out 3
                            have hfz43_4 := blk_frozen BK101.out 4
                            have hfz43_5 := blk_frozen BK101.out 5
                            have hfz43_6 := blk_frozen BK101.out 6
                            go_wp2
                            go_ret
                            exact ⟨by first | rfl | (simp [errW_none, errW_some] <;> rfl) | (simp [*, errW_none, errW_some] <;> rfl), by repeat (first | (with_reducible first | exact HB.out | apply below_alloc | apply pw_below_drewN | apply below_drew1 | refine below_set ?_ GE101.out) | exact HB.out)⟩
                          · exact absurd rfl c42
                        · rw [if_neg c41] at H
                          have c41b0 : decide (0 < a0_4) = false := decide_eq_false c41
                          clear c41
                          by_cases c47 : (l0_6.length : Int) > 0
                          · rw [if_pos c47] at H
                            have c47b0 : decide (0 < (l0_6.length : Int)) = true := decide_eq_true c47
                            have c47b1 : decide (0 < l0_6.length) = true := decide_eq_true (by omega)
                            clear c47
                            obtain rfl := Option.some.inj H
                            have hcz48_0 : wc.cell? ⟨gb101, 0, none⟩ = some (.string a0_0) := (blk_cell BK101.out 0).trans rfl
                            have hcz48_1 : wc.cell? ⟨gb101, 1, none⟩ = some (.string a0_1) := (blk_cell BK101.out 1).trans rfl
                            have hcz48_2 : wc.cell? ⟨gb101, 2, none⟩ = some (.string a0_2) := (blk_cell BK101.out 2).trans rfl
                            have hcz48_3 : wc.cell? ⟨gb101, 3, none⟩ = some (.int .i64 a0_3) := (blk_cell BK101.out 3).trans rfl
                            have hcz48_4 : wc.cell? ⟨gb101, 4, none⟩ = some (.int .i64 a0_4) := (blk_cell BK101.out 4).trans rfl
                            have hcz48_5 : wc.cell? ⟨gb101, 5, none⟩ = some (.int .i64 a0_5) := (blk_cell BK101.out 5).trans rfl
                            have hcz48_6 : wc.cell? ⟨gb101, 6, none⟩ = some (.slice A0_6 l0_6.length c0_6) := (blk_cell BK101.out 6).trans rfl
                            have hfz48_0 := blk_frozen BK101.out 0
                            have hfz48_1 := blk_frozen BK101.out 1
                            have hfz48_2 := blk_frozen BK101.out 2
                            have hfz48_3 := blk_frozen BK101.out 3
                            have hfz48_4 := blk_frozen BK101.out 4
                            have hfz48_5 := blk_frozen BK101.out 5
                            have hfz48_6 := blk_frozen BK101.out 6
                            go_wp2
                            go_ret
                            exact ⟨by first | rfl | (simp [errW_none, errW_some] <;> rfl) | (simp [*, errW_none, errW_some] <;> rfl), by repeat (first | (with_reducible first | exact HB.out | apply below_alloc | apply pw_below_drewN | apply below_drew1 | refine below_set ?_ GE101.out) | exact HB.out)⟩
                          · rw [if_neg c47] at H
                            have c47b0 : decide (0 < (l0_6.length : Int)) = false := decide_eq_false c47
                            have c47b1 : decide (0 < l0_6.length) = false := decide_eq_false (by omega)
                            clear c47
                            obtain rfl := Option.some.inj H
                            have hcz49_0 : wc.cell? ⟨gb101, 0, none⟩ = some (.string a0_0) := (blk_cell BK101.out 0).trans rfl
                            have hcz49_1 : wc.cell? ⟨gb101, 1, none⟩ = some (.string a0_1) := (blk_cell BK101.out 1).trans rfl
                            have hcz49_2 : wc.cell? ⟨gb101, 2, none⟩ = some (.string a0_2) := (blk_cell BK101.out 2).trans rfl
                            have hcz49_3 : wc.cell? ⟨gb101, 3, none⟩ = some (.int .i64 a0_3) := (blk_cell BK101.out 3).trans rfl
                            have hcz49_4 : wc.cell? ⟨gb101, 4, none⟩ = some (.int .i64 a0_4) := (blk_cell BK101.out 4).trans rfl
                            have hcz49_5 : wc.cell? ⟨gb101, 5, none⟩ = some (.int .i64 a0_5) := (blk_cell BK101.out 5).trans rfl
                            have hcz49_6 : wc.cell? ⟨gb101, 6, none⟩ = some (.slice A0_6 l0_6.length c0_6) := (blk_cell BK101.out 6).trans rfl
                            have hfz49_0 := blk_frozen BK101.out 0
                            have hfz49_1 := blk_frozen BK101.out 1
                            have hfz49_2 := blk_frozen BK101.out 2
                            have hfz49_3 := blk_frozen BK101.out 3
                            have hfz49_4 := blk_frozen BK101.out 4
                            have hfz49_5 := blk_frozen BK101.out 5
                            have hfz49_6 := blk_frozen BK101.out 6
                            go_wp2
                            go_ret
                            exact ⟨by first | rfl | (simp [errW_none, errW_some] <;> rfl) | (simp [*, errW_none, errW_some] <;> rfl), by repeat (first | (with_reducible first | exact HB.out | apply below_alloc | apply pw_below_drewN | apply below_drew1 | refine below_set ?_ GE101.out) | exact HB.out)⟩
                    · replace c38 := Bool.eq_false_iff.mpr c38
                      subst c38
                      have H1 : (some 1) = some r := by rw [if_neg (show ¬ (false = true) by decide)] at H; exact H
                      clear H
                      have H := H1
                      clear H1
                      obtain rfl := Option.some.inj H
                      have hcz50_0 : wc.cell? ⟨gb101, 0, none⟩ = some (.string a0_0) := (blk_cell BK101.out 0).trans rfl
                      have hcz50_1 : wc.cell? ⟨gb101, 1, none⟩ = some (.string a0_1) := (blk_cell BK101.out 1).trans rfl
                      have hcz50_2 : wc.cell? ⟨gb101, 2, none⟩ = some (.string a0_2) := (blk_cell BK101.out 2).trans rfl
                      have hcz50_3 : wc.cell? ⟨gb101, 3, none⟩ = some (.int .i64 a0_3) := (blk_cell BK101.out 3).trans rfl
                      have hcz50_4 : wc.cell? ⟨gb101, 4, none⟩ = some (.int .i64 a0_4) := (blk_cell BK101.out 4).trans rfl
                      have hcz50_5 : wc.cell? ⟨gb101, 5, none⟩ = some (.int .i64 a0_5) := (blk_cell BK101.out 5).trans rfl
                      have hcz50_6 : wc.cell? ⟨gb101, 6, none⟩ = some (.slice A0_6 l0_6.length c0_6) := (blk_cell BK101.out 6).trans rfl
                      have hfz50_0 := blk_frozen BK101.out 0
                      have hfz50_1 := blk_frozen BK101.out 1
                      have hfz50_2 := blk_frozen BK101.out 2
                      have hfz50_3 := blk_frozen BK101.out 3
                      have hfz50_4 := blk_frozen BK101.out 4
                      have hfz50_5 := blk_frozen BK101.out 5
                      have hfz50_6 := blk_frozen BK101.out 6
                      go_wp2
                      go_ret
                      exact ⟨by first | rfl | (simp [errW_none, errW_some] <;> rfl) | (simp [*, errW_none, errW_some] <;> rfl), by repeat (first | (with_reducible first | exact HB.out | apply below_alloc | apply pw_below_drewN | apply below_drew1 | refine below_set ?_ GE101.out) | exact HB.out)⟩
  · replace c3 := Bool.eq_false_iff.mpr c3
    subst c3
    have H1 : (some 160) = some r := by rw [if_neg (show ¬ (false = true) by decide)] at H; exact H
    clear H
    have H := H1
    clear H1
    obtain rfl := Option.some.inj H
    go_enter Try.func45, Try.ntmps45
    go_wp2_with (first | ((with_reducible refine gate_dst (N := 1) rfl ?_); (try (refine gate_guard (by rfl) ?_; dsimp only)); refine box_event ?hg (N := 1) ?hd (cs := #[.string a0_0, .string a0_1, .string a0_2, .int .i64 a0_3, .int .i64 a0_4, .int .i64 a0_5, .slice A0_6 l0_6.length c0_6]) (t := 28) ?hr ?_; (case hd => rfl); (case hg => rfl); (case hr => first | (go_simp; done) | (go_simp; rfl)); intro gb101 hg w51 hbox hb; have n0_ := Aside0.mk (below_step (by repeat (first | (with_reducible first | exact HB.out | apply below_alloc | apply pw_below_drewN | apply below_drew1) | exact HB.out)) hb); have n1_ := Aside0.mk (hbox); have n2_ := Aside0.mk ((by rw [hg]; exact (below_size (by repeat (first | (with_reducible first | exact HB.out | apply below_alloc | apply pw_below_drewN | apply below_drew1) | exact HB.out))) : w.heap.size ≤ gb101)); have n3_ := Aside0.mk ((by rw [hg]; exact (below_size (by repeat (first | (with_reducible first | exact HB.out | apply below_alloc | apply pw_below_drewN | apply below_drew1) | exact HB.out))) : w.heap.size ≤ gb101)); clear HB; have HB := n0_; have BK101 := n1_; have GW101 := n2_; have GE101 := n3_; clear n0_ n1_ n2_ n3_; clear hb hbox hg; have hcz52_0 : w51.cell? ⟨gb101, 0, none⟩ = some (.string a0_0) := (blk_cell BK101.out 0).trans rfl; have hcz52_1 : w51.cell? ⟨gb101, 1, none⟩ = some (.string a0_1) := (blk_cell BK101.out 1).trans rfl; have hcz52_2 : w51.cell? ⟨gb101, 2, none⟩ = some (.string a0_2) := (blk_cell BK101.out 2).trans rfl; have hcz52_3 : w51.cell? ⟨gb101, 3, none⟩ = some (.int .i64 a0_3) := (blk_cell BK101.out 3).trans rfl; have hcz52_4 : w51.cell? ⟨gb101, 4, none⟩ = some (.int .i64 a0_4) := (blk_cell BK101.out 4).trans rfl; have hcz52_5 : w51.cell? ⟨gb101, 5, none⟩ = some (.int .i64 a0_5) := (blk_cell BK101.out 5).trans rfl; have hcz52_6 : w51.cell? ⟨gb101, 6, none⟩ = some (.slice A0_6 l0_6.length c0_6) := (blk_cell BK101.out 6).trans rfl; have hfz52_0 := blk_frozen BK101.out 0; have hfz52_1 := blk_frozen BK101.out 1; have hfz52_2 := blk_frozen BK101.out 2; have hfz52_3 := blk_frozen BK101.out 3; have hfz52_4 := blk_frozen BK101.out 4; have hfz52_5 := blk_frozen BK101.out 5; have hfz52_6 := blk_frozen BK101.out 6) | ((with_reducible refine gate_dst (N := 11) rfl ?_); (try (refine gate_guard (by rfl) ?_; dsimp only)); refine Kd.R_lit Kd.string _ 9 ?hg (N := 11) ?hd (xs := ([a0_0, a0_1, a0_2] : List ByteArray)) (inner := [.string a0_0, .string a0_1, .string a0_2]) (ok := fun _ => True) (okp := fun _ => True) ?hr ?hp (fun _ hk => hk) trivial (Below.refl _ _) (Nat.le_refl _) (by simp) ?_; (case hd => rfl); (case hg => rfl); (case hr => first | (go_simp; done) | (go_simp; rfl)); (case hp => exact (Reps.one (show Kd.M Kd.string _ _ _ a0_0 [.string a0_0] from rfl) (Reps.one (show Kd.M Kd.string _ _ _ a0_1 [.string a0_1] from rfl) (Reps.one (show Kd.M Kd.string _ _ _ a0_2 [.string a0_2] from rfl) (Reps.none _ _))))); intro v103 w53 ho54 hb hg_ hnew_; clear hg_ hnew_; (first | rw [← Ny102.out] at ho54 | (simp only [Int.reduceToNat] at ho54; rw [← Ny102.out] at ho54)); have n0_ := Aside0.mk (Kd.R_lower ho54 (below_size (by repeat (first | (with_reducible first | exact HB.out | apply below_alloc | apply pw_below_drewN | apply below_drew1 | refine below_set ?_ GE101.out) | exact HB.out)))); have n1_ := Aside0.mk (blk_below (g := gb101) (o := .cells #[.string a0_0, .string a0_1, .string a0_2, .int .i64 a0_3, .int .i64 a0_4, .int .i64 a0_5, .slice A0_6 l0_6.length c0_6] 28 (0, 0)) (by (with_reducible repeat (first | refine blk_drewN ?_ _ | refine blk_drew ?_ | refine blk_alloc ?_ _)); exact BK101.out) hb); have n2_ := Aside0.mk (below_step (by repeat (first | (with_reducible first | exact HB.out | apply below_alloc | apply pw_below_drewN | apply below_drew1 | refine below_set ?_ GE101.out) | exact HB.out)) hb); clear BK101; clear HB; have HO104 := n0_; have BK101 := n1_; have HB := n2_; clear n0_ n1_ n2_; clear hb ho54; obtain ⟨Ao55, co55, eo55⟩ := Kd.R_slice HO104.out; subst eo55) | ((with_reducible refine gate_callee (f := 30) rfl ?_); refine goesL_ (some 12) rfl rfl Try.func30 (by kernel_rfl) rfl #[.slice Ao55 y102.length co55] rfl (by (try simp only [List.map_toArray, List.map_cons, List.map_nil]); first | done | rfl | (simp only [List.length_drop, List.length_take]; rfl)) ?_; (with_reducible refine (table_named.calls _ _ y102 false _ ?side1 ?side2 A2.out).mono ?_); (case side1 => repeat (first | exact (Kd.R_reads' HO104.out).2.2 | (with_reducible refine Kd.C_alloc ?_ _) | (with_reducible refine Kd.C_drewN ?_ _) | (with_reducible refine Kd.C_drew ?_))); (case side2 => exact (Kd.R_reads' HO104.out).2.1); rintro e w56 ⟨rfl, hb⟩; refine ⟨_, rfl, ?_⟩; have n0_ := Aside0.mk (Kd.R_below (by (with_reducible repeat (first | apply Kd.R_alloc | apply Kd.R_drewN | apply Kd.R_drew)); exact HO104.out) hb); have n1_ := Aside0.mk (blk_below (g := gb101) (o := .cells #[.string a0_0, .string a0_1, .string a0_2, .int .i64 a0_3, .int .i64 a0_4, .int .i64 a0_5, .slice A0_6 l0_6.length c0_6] 28 (0, 0)) (by (with_reducible repeat (first | refine blk_drewN ?_ _ | refine blk_drew ?_ | refine blk_alloc ?_ _)); exact BK101.out) hb); have n2_ := Aside0.mk (below_step (by repeat (first | (with_reducible first | exact HB.out | apply below_alloc | apply pw_below_drewN | apply below_drew1 | refine below_set ?_ GE101.out) | exact HB.out)) hb); clear HO104; clear BK101; clear HB; have HO104 := n0_; have BK101 := n1_; have HB := n2_; clear n0_ n1_ n2_; (try clear hb); (try clear hb2); (try clear hk); (try clear hi)))
    go_ret
    exact ⟨by first | rfl | (simp [errW_none, errW_some] <;> rfl) | (simp [*, errW_none, errW_some] <;> rfl), by repeat (first | (with_reducible first | exact HB.out | apply below_alloc | apply pw_below_drewN | apply below_drew1 | refine below_set ?_ GE101.out) | exact HB.out)⟩

end Go.Proofs.Ytagifiakjniedaa.PTab
end
