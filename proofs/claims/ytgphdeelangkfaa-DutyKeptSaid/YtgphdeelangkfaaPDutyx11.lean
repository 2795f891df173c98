-- PRINTED by print.py (a twelfth state) out of the translation. Not trusted: Lean checks it.
import Derived.Test.YtgphdeelangkfaaPDutyx0
import Derived.Test.YtgphdeelangkfaaPDutyx5
import Derived.Test.YtgphdeelangkfaaPDutyx7
import Derived.Test.YtgphdeelangkfaaPDutyx8
import Derived.Test.YtgphdeelangkfaaPDutyx10
import Derived.Test.YtgphdeelangkfaaDone
namespace Go.Proofs.Ytgphdeelangkfaa.PDuty
open Go.RowKit Go.Proofs.YtgphdeelangkfaaW.PrintWords Go.Proofs.YtgphdeelangkfaaW.PrintLast Go.Proofs.YtgphdeelangkfaaW.PrintMore
attribute [local go_sem] max2_int min2_int max_two min_two max_three min_three max_four min_four   -- for this text's walks alone
set_option linter.unusedVariables false
set_option linter.unusedSimpArgs false

/-! ### sojournlaw15_DutyDones: function 5 -/
mutual
def sojournlaw15_DutyDones.j0 : Nat → List (S51) → List (S32) → List (S51) → List (S32) → List (S32) → Bool → Option (Bool)
  | 0, _, _, _, _, _, _ => none
  | k + 1, x0, x1, x7, x8, x9, x52 => if x52 = true then (some false) else (sojournlaw15_DutyDones.l0 k x0 x1 x7 x8 x9 (x9.length : Int) 0)
def sojournlaw15_DutyDones.l0 : Nat → List (S51) → List (S32) → List (S51) → List (S32) → List (S32) → Int → Int → Option (Bool)
  | 0, _, _, _, _, _, _, _ => none
  | k + 1, x0, x1, x7, x8, x9, x54, x55 => if x55 < x54 then (if 0 ≤ x55 then (if x55 < (x9.length : Int) then (sojournlaw15_DutyDones.l0 k x0 x1 x7 x8 (x9.set (x55 : Int).toNat (⟨(-9), false⟩ : S32)) x54 (wrap64 (x55 + 1))) else (none)) else (none)) else ((sojournref15_Same.f k x1 x8).bind fun t246 => (if t246 = true then ((sojournlaw15_sameDuties.f k x0 x7).bind fun t247 => (some t247)) else (some false)))
end
def sojournlaw15_DutyDones.f (k : Nat) (l0 : List (S51)) (l1 : List (S32)) (a2_0 : Int) (a2_1 : Int) (a2_2 : ByteArray) (a2_3 : Int) (a2_4 : Int) (a2_5 : ByteArray) (a2_6 : ByteArray) (a2_7 : Int) (a2_8 : Int) (a2_9 : ByteArray) (a2_10 : Bool) (a2_11 : Nat) (a2_12 : ByteArray) (a2_13 : ByteArray) (a2_14 : ByteArray) (a2_15 : ByteArray) (a2_16 : Int) (a2_17 : ByteArray) (a2_18 : Int) : Option (Bool) := (some (([] : List (S51)) : List (S51))).bind fun y223 => (if y223.length + l0.length < 4398046511104 then ((some (y223 ++ l0 : List (S51))).bind fun y226 => ((some (([] : List (S32)) : List (S32))).bind fun y229 => (if y229.length + l1.length < 8796093022208 then ((some (y229 ++ l1 : List (S32))).bind fun y232 => ((duty_Done.f k y226 y232 a2_17 a2_18).bind fun bt235 => ((sojournref15_Done.f k l0 l1 a2_17 a2_18).bind fun bt239 => ((sojournlaw15_alive.f k).bind fun t243 => (if t243 = true then (if bt235.2 = bt239.2 then ((sojournref15_Same.f k bt235.1 bt239.1).bind fun t244 => (sojournlaw15_DutyDones.j0 k l0 l1 y226 y232 bt235.1 (!t244))) else (sojournlaw15_DutyDones.j0 k l0 l1 y226 y232 bt235.1 true)) else (sojournlaw15_DutyDones.j0 k l0 l1 y226 y232 bt235.1 true)))))) else (none)))) else (none))
theorem sojournlaw15_DutyDones.mono_l : ∀ k, (∀ y0 y1 y2 y3 y4 y5, LeO (sojournlaw15_DutyDones.j0 k y0 y1 y2 y3 y4 y5) (sojournlaw15_DutyDones.j0 (k + 1) y0 y1 y2 y3 y4 y5)) ∧ (∀ y0 y1 y2 y3 y4 y5 y6, LeO (sojournlaw15_DutyDones.l0 k y0 y1 y2 y3 y4 y5 y6) (sojournlaw15_DutyDones.l0 (k + 1) y0 y1 y2 y3 y4 y5 y6))
  | 0 => ⟨fun _ _ _ _ _ _ r h => by simp [sojournlaw15_DutyDones.j0] at h, fun _ _ _ _ _ _ _ r h => by simp [sojournlaw15_DutyDones.l0] at h⟩
  | k + 1 => by
    obtain ⟨ih0, ih1⟩ := sojournlaw15_DutyDones.mono_l k
    refine ⟨?_, ?_⟩
    · intro y0 y1 y2 y3 y4 y5
      unfold sojournlaw15_DutyDones.j0
      repeat' first
      | (with_reducible exact ih0 _ _ _ _ _ _)
      | (with_reducible exact ih1 _ _ _ _ _ _ _)
      | (with_reducible exact duty_Done.mono _ _ _ _ _)
      | (with_reducible exact sojournlaw15_alive.mono _)
      | (with_reducible exact sojournlaw15_sameDuties.mono _ _ _)
      | (with_reducible exact sojournref15_Done.mono _ _ _ _ _)
      | (with_reducible exact sojournref15_Same.mono _ _ _)
      | (with_reducible exact LeO.refl _)
      | (with_reducible exact LeO.none _)
      | (with_reducible refine LeO.ite ?_ ?_)
      | (with_reducible refine LeO.bind ?_ (fun _ => ?_))
      | exact ih0 _ _ _ _ _ _
      | exact ih1 _ _ _ _ _ _ _
      | exact duty_Done.mono _ _ _ _ _
      | exact sojournlaw15_alive.mono _
      | exact sojournlaw15_sameDuties.mono _ _ _
      | exact sojournref15_Done.mono _ _ _ _ _
      | exact sojournref15_Same.mono _ _ _
      | exact LeO.none _
      | refine LeO.ite ?_ ?_
      | refine LeO.bind ?_ (fun _ => ?_)
    · intro y0 y1 y2 y3 y4 y5 y6
      unfold sojournlaw15_DutyDones.l0
      repeat' first
      | (with_reducible exact ih0 _ _ _ _ _ _)
      | (with_reducible exact ih1 _ _ _ _ _ _ _)
      | (with_reducible exact duty_Done.mono _ _ _ _ _)
      | (with_reducible exact sojournlaw15_alive.mono _)
      | (with_reducible exact sojournlaw15_sameDuties.mono _ _ _)
      | (with_reducible exact sojournref15_Done.mono _ _ _ _ _)
      | (with_reducible exact sojournref15_Same.mono _ _ _)
      | (with_reducible exact LeO.refl _)
      | (with_reducible exact LeO.none _)
      | (with_reducible refine LeO.ite ?_ ?_)
      | (with_reducible refine LeO.bind ?_ (fun _ => ?_))
      | exact ih0 _ _ _ _ _ _
      | exact ih1 _ _ _ _ _ _ _
      | exact duty_Done.mono _ _ _ _ _
      | exact sojournlaw15_alive.mono _
      | exact sojournlaw15_sameDuties.mono _ _ _
      | exact sojournref15_Done.mono _ _ _ _ _
      | exact sojournref15_Same.mono _ _ _
      | exact LeO.none _
      | refine LeO.ite ?_ ?_
      | refine LeO.bind ?_ (fun _ => ?_)
theorem sojournlaw15_DutyDones.mono : ∀ a0 a1 a2 a3 a4 a5 a6 a7 a8 a9 a10 a11 a12 a13 a14 a15 a16 a17 a18 a19 a20 k, LeO (sojournlaw15_DutyDones.f k a0 a1 a2 a3 a4 a5 a6 a7 a8 a9 a10 a11 a12 a13 a14 a15 a16 a17 a18 a19 a20) (sojournlaw15_DutyDones.f (k + 1) a0 a1 a2 a3 a4 a5 a6 a7 a8 a9 a10 a11 a12 a13 a14 a15 a16 a17 a18 a19 a20) := by
  intro a0 a1 a2 a3 a4 a5 a6 a7 a8 a9 a10 a11 a12 a13 a14 a15 a16 a17 a18 a19 a20 k
  obtain ⟨ih0, ih1⟩ := sojournlaw15_DutyDones.mono_l k
  unfold sojournlaw15_DutyDones.f
  repeat' first
      | (with_reducible exact ih0 _ _ _ _ _ _)
      | (with_reducible exact ih1 _ _ _ _ _ _ _)
      | (with_reducible exact duty_Done.mono _ _ _ _ _)
      | (with_reducible exact sojournlaw15_alive.mono _)
      | (with_reducible exact sojournlaw15_sameDuties.mono _ _ _)
      | (with_reducible exact sojournref15_Done.mono _ _ _ _ _)
      | (with_reducible exact sojournref15_Same.mono _ _ _)
      | (with_reducible exact LeO.refl _)
      | (with_reducible exact LeO.none _)
      | (with_reducible refine LeO.ite ?_ ?_)
      | (with_reducible refine LeO.bind ?_ (fun _ => ?_))
      | exact ih0 _ _ _ _ _ _
      | exact ih1 _ _ _ _ _ _ _
      | exact duty_Done.mono _ _ _ _ _
      | exact sojournlaw15_alive.mono _
      | exact sojournlaw15_sameDuties.mono _ _ _
      | exact sojournref15_Done.mono _ _ _ _ _
      | exact sojournref15_Same.mono _ _ _
      | exact LeO.none _
      | refine LeO.ite ?_ ?_
      | refine LeO.bind ?_ (fun _ => ?_)
set_option maxHeartbeats 8000000 in
set_option maxRecDepth 100000 in
theorem sojournlaw15_DutyDones.calls (k : Nat) (A0 : Option Addr) (c0 : Nat) (l0 : List (S51)) (A1 : Option Addr) (c1 : Nat) (l1 : List (S32)) (a2_0 : Int) (a2_1 : Int) (a2_2 : ByteArray) (a2_3 : Int) (a2_4 : Int) (a2_5 : ByteArray) (a2_6 : ByteArray) (a2_7 : Int) (a2_8 : Int) (a2_9 : ByteArray) (a2_10 : Bool) (a2_11 : Nat) (a2_12 : ByteArray) (a2_13 : ByteArray) (a2_14 : ByteArray) (a2_15 : ByteArray) (a2_16 : Int) (a2_17 : ByteArray) (a2_18 : Int) (r : Bool) (w : World) (hr0 : Kd.C k51 w A0 l0.length l0) (hc0 : l0.length ≤ c0) (hr1 : Kd.C k32 w A1 l1.length l1) (hc1 : l1.length ≤ c1) (h : sojournlaw15_DutyDones.f k l0 l1 a2_0 a2_1 a2_2 a2_3 a2_4 a2_5 a2_6 a2_7 a2_8 a2_9 a2_10 a2_11 a2_12 a2_13 a2_14 a2_15 a2_16 a2_17 a2_18 = some r) :
    Calls Try.prog 5 #[.slice A0 l0.length c0, .slice A1 l1.length c1, .agg #[.int .i64 a2_0, .int .i64 a2_1, .string a2_2, .int .i64 a2_3, .int .i64 a2_4, .string a2_5, .string a2_6, .int .i64 a2_7, .int .i64 a2_8, .string a2_9, .bool a2_10, .float .f64 a2_11, .string a2_12, .string a2_13, .string a2_14, .string a2_15, .int .i64 a2_16, .string a2_17, .int .i64 a2_18]] w fun e w' => e = .returned (.bool r) ∧ Below w.heap.size w w' := by
  have hu42 := Try.underlying42
  have hu32 := Try.underlying32
  have HR0 := Aside0.mk hr0
  have HC0 := Aside0.mk hc0
  clear hr0 hc0
  have HR1 := Aside0.mk hr1
  have HC1 := Aside0.mk hc1
  clear hr1 hc1
  have HB := Aside0.mk (Below.refl w.heap.size w)
  have H : ((some (([] : List (S51)) : List (S51))).bind fun y223 => (if y223.length + l0.length < 4398046511104 then ((some (y223 ++ l0 : List (S51))).bind fun y226 => ((some (([] : List (S32)) : List (S32))).bind fun y229 => (if y229.length + l1.length < 8796093022208 then ((some (y229 ++ l1 : List (S32))).bind fun y232 => ((duty_Done.f k y226 y232 a2_17 a2_18).bind fun bt235 => ((sojournref15_Done.f k l0 l1 a2_17 a2_18).bind fun bt239 => ((sojournlaw15_alive.f k).bind fun t243 => (if t243 = true then (if bt235.2 = bt239.2 then ((sojournref15_Same.f k bt235.1 bt239.1).bind fun t244 => (sojournlaw15_DutyDones.j0 k l0 l1 y226 y232 bt235.1 (!t244))) else (sojournlaw15_DutyDones.j0 k l0 l1 y226 y232 bt235.1 true)) else (sojournlaw15_DutyDones.j0 k l0 l1 y226 y232 bt235.1 true)))))) else (none)))) else (none))) = some r := h
  clear h
  obtain ⟨y223, hy223⟩ : ∃ y_ : List (S51), y_ = (([] : List (S51))) := ⟨_, rfl⟩
  replace H : (if y223.length + l0.length < 4398046511104 then ((some (y223 ++ l0 : List (S51))).bind fun y226 => ((some (([] : List (S32)) : List (S32))).bind fun y229 => (if y229.length + l1.length < 8796093022208 then ((some (y229 ++ l1 : List (S32))).bind fun y232 => ((duty_Done.f k y226 y232 a2_17 a2_18).bind fun bt235 => ((sojournref15_Done.f k l0 l1 a2_17 a2_18).bind fun bt239 => ((sojournlaw15_alive.f k).bind fun t243 => (if t243 = true then (if bt235.2 = bt239.2 then ((sojournref15_Same.f k bt235.1 bt239.1).bind fun t244 => (sojournlaw15_DutyDones.j0 k l0 l1 y226 y232 bt235.1 (!t244))) else (sojournlaw15_DutyDones.j0 k l0 l1 y226 y232 bt235.1 true)) else (sojournlaw15_DutyDones.j0 k l0 l1 y226 y232 bt235.1 true)))))) else (none)))) else (none)) = some r := by first | (rw [hy223]; with_reducible exact H) | (have H2_ := (Option.bind_some _ _).symm.trans H; rw [hy223]; with_reducible exact H2_) | (have H2_ := (Option.bind_some _ _).symm.trans H; with_reducible exact H2_) | with_reducible exact H | (rw [hy223]; exact H) | exact H
  have Ny223 := Aside0.mk hy223
  clear hy223
  by_cases c4 : y223.length + l0.length < 4398046511104
  · rw [if_pos c4] at H
    have LMc4 := Aside0.mk c4
    clear c4
    obtain ⟨y226, hy226⟩ : ∃ y_ : List (S51), y_ = (y223 ++ l0) := ⟨_, rfl⟩
    replace H : ((some (([] : List (S32)) : List (S32))).bind fun y229 => (if y229.length + l1.length < 8796093022208 then ((some (y229 ++ l1 : List (S32))).bind fun y232 => ((duty_Done.f k y226 y232 a2_17 a2_18).bind fun bt235 => ((sojournref15_Done.f k l0 l1 a2_17 a2_18).bind fun bt239 => ((sojournlaw15_alive.f k).bind fun t243 => (if t243 = true then (if bt235.2 = bt239.2 then ((sojournref15_Same.f k bt235.1 bt239.1).bind fun t244 => (sojournlaw15_DutyDones.j0 k l0 l1 y226 y232 bt235.1 (!t244))) else (sojournlaw15_DutyDones.j0 k l0 l1 y226 y232 bt235.1 true)) else (sojournlaw15_DutyDones.j0 k l0 l1 y226 y232 bt235.1 true)))))) else (none))) = some r := by first | (rw [hy226]; with_reducible exact H) | (have H2_ := (Option.bind_some _ _).symm.trans H; rw [hy226]; with_reducible exact H2_) | (have H2_ := (Option.bind_some _ _).symm.trans H; with_reducible exact H2_) | with_reducible exact H | (rw [hy226]; exact H) | exact H
    have Ny226 := Aside0.mk hy226
    clear hy226
    obtain ⟨y229, hy229⟩ : ∃ y_ : List (S32), y_ = (([] : List (S32))) := ⟨_, rfl⟩
    replace H : (if y229.length + l1.length < 8796093022208 then ((some (y229 ++ l1 : List (S32))).bind fun y232 => ((duty_Done.f k y226 y232 a2_17 a2_18).bind fun bt235 => ((sojournref15_Done.f k l0 l1 a2_17 a2_18).bind fun bt239 => ((sojournlaw15_alive.f k).bind fun t243 => (if t243 = true then (if bt235.2 = bt239.2 then ((sojournref15_Same.f k bt235.1 bt239.1).bind fun t244 => (sojournlaw15_DutyDones.j0 k l0 l1 y226 y232 bt235.1 (!t244))) else (sojournlaw15_DutyDones.j0 k l0 l1 y226 y232 bt235.1 true)) else (sojournlaw15_DutyDones.j0 k l0 l1 y226 y232 bt235.1 true)))))) else (none)) = some r := by first | (rw [hy229]; with_reducible exact H) | (have H2_ := (Option.bind_some _ _).symm.trans H; rw [hy229]; with_reducible exact H2_) | (have H2_ := (Option.bind_some _ _).symm.trans H; with_reducible exact H2_) | with_reducible exact H | (rw [hy229]; exact H) | exact H
    have Ny229 := Aside0.mk hy229
    clear hy229
    by_cases c5 : y229.length + l1.length < 8796093022208
    · rw [if_pos c5] at H
      have LMc5 := Aside0.mk c5
      clear c5
      obtain ⟨y232, hy232⟩ : ∃ y_ : List (S32), y_ = (y229 ++ l1) := ⟨_, rfl⟩
      replace H : ((duty_Done.f k y226 y232 a2_17 a2_18).bind fun bt235 => ((sojournref15_Done.f k l0 l1 a2_17 a2_18).bind fun bt239 => ((sojournlaw15_alive.f k).bind fun t243 => (if t243 = true then (if bt235.2 = bt239.2 then ((sojournref15_Same.f k bt235.1 bt239.1).bind fun t244 => (sojournlaw15_DutyDones.j0 k l0 l1 y226 y232 bt235.1 (!t244))) else (sojournlaw15_DutyDones.j0 k l0 l1 y226 y232 bt235.1 true)) else (sojournlaw15_DutyDones.j0 k l0 l1 y226 y232 bt235.1 true))))) = some r := by first | (rw [hy232]; with_reducible exact H) | (have H2_ := (Option.bind_some _ _).symm.trans H; rw [hy232]; with_reducible exact H2_) | (have H2_ := (Option.bind_some _ _).symm.trans H; with_reducible exact H2_) | with_reducible exact H | (rw [hy232]; exact H) | exact H
      have Ny232 := Aside0.mk hy232
      clear hy232
      replace H := Option.bind_eq_some_iff.mp H
      obtain ⟨⟨t235, t236⟩, A60, H⟩ := H
      replace H : ((sojournref15_Done.f k l0 l1 a2_17 a2_18).bind fun bt239 => ((sojournlaw15_alive.f k).bind fun t243 => (if t243 = true then (if t236 = bt239.2 then ((sojournref15_Same.f k t235 bt239.1).bind fun t244 => (sojournlaw15_DutyDones.j0 k l0 l1 y226 y232 t235 (!t244))) else (sojournlaw15_DutyDones.j0 k l0 l1 y226 y232 t235 true)) else (sojournlaw15_DutyDones.j0 k l0 l1 y226 y232 t235 true)))) = some r := H
      have A6 := Aside0.mk A60
      clear A60
      replace H := Option.bind_eq_some_iff.mp H
      obtain ⟨⟨t239, t240⟩, A70, H⟩ := H
      replace H : ((sojournlaw15_alive.f k).bind fun t243 => (if t243 = true then (if t236 = t240 then ((sojournref15_Same.f k t235 t239).bind fun t244 => (sojournlaw15_DutyDones.j0 k l0 l1 y226 y232 t235 (!t244))) else (sojournlaw15_DutyDones.j0 k l0 l1 y226 y232 t235 true)) else (sojournlaw15_DutyDones.j0 k l0 l1 y226 y232 t235 true))) = some r := H
      have A7 := Aside0.mk A70
      clear A70
      have HC8 := Aside0.mk H
      clear H
      go_enter Try.func5, Try.ntmps5
      go_upto_region 5 with (first | ((with_reducible refine gate_dst (N := 5) rfl ?_); refine box_event ?hg (N := 5) ?hd (cs := #[.int .i64 a2_0, .int .i64 a2_1, .string a2_2, .int .i64 a2_3, .int .i64 a2_4, .string a2_5, .string a2_6, .int .i64 a2_7, .int .i64 a2_8, .string a2_9, .bool a2_10, .float .f64 a2_11, .string a2_12, .string a2_13, .string a2_14, .string a2_15, .int .i64 a2_16, .string a2_17, .int .i64 a2_18]) (t := 42) ?hr ?_; (case hd => rfl); (case hg => rfl); (case hr => first | (go_simp; done) | (go_simp; rfl)); intro gb222 hg w9 hbox hb; have n0_ := Aside0.mk (below_step (by repeat (first | (with_reducible first | exact HB.out | apply below_alloc | apply pw_below_drewN | apply below_drew1) | exact HB.out)) hb); have n1_ := Aside0.mk (hbox); have n2_ := Aside0.mk ((by rw [hg]; exact (below_size (by repeat (first | (with_reducible first | exact HB.out | apply below_alloc | apply pw_below_drewN | apply below_drew1) | exact HB.out))) : w.heap.size ≤ gb222)); have n3_ := Aside0.mk ((by rw [hg]; exact (below_size (by repeat (first | (with_reducible first | exact HB.out | apply below_alloc | apply pw_below_drewN | apply below_drew1) | exact HB.out))) : w.heap.size ≤ gb222)); clear HB; have HB := n0_; have BK222 := n1_; have GW222 := n2_; have GE222 := n3_; clear n0_ n1_ n2_ n3_; clear hb hbox hg) | ((with_reducible refine gate_dst (N := 14) rfl ?_); refine Kd.R_lit k51 _ 51 ?hg (N := 14) ?hd (xs := ([] : List (S51))) (inner := []) (ok := fun _ => True) (okp := fun _ => True) ?hr ?hp (fun _ hk => hk) trivial (Below.refl _ _) (Nat.le_refl _) (by simp) ?_; (case hd => rfl); (case hg => rfl); (case hr => first | (go_simp; done) | (go_simp; rfl)); (case hp => exact (Reps.none _ _)); intro v224 w10 ho11 hb hg_ hnew_; clear hg_ hnew_; (first | rw [← Ny223.out] at ho11 | (simp only [Int.reduceToNat] at ho11; rw [← Ny223.out] at ho11)); have n0_ := Aside0.mk (Kd.R_lower ho11 (below_size (by repeat (first | (with_reducible first | exact HB.out | apply below_alloc | apply pw_below_drewN | apply below_drew1 | refine below_set ?_ GE222.out) | exact HB.out)))); have n1_ := Aside0.mk (blk_below (g := gb222) (o := .cells #[.int .i64 a2_0, .int .i64 a2_1, .string a2_2, .int .i64 a2_3, .int .i64 a2_4, .string a2_5, .string a2_6, .int .i64 a2_7, .int .i64 a2_8, .string a2_9, .bool a2_10, .float .f64 a2_11, .string a2_12, .string a2_13, .string a2_14, .string a2_15, .int .i64 a2_16, .string a2_17, .int .i64 a2_18] 42 (0, 0)) (by (with_reducible repeat (first | refine blk_drewN ?_ _ | refine blk_drew ?_ | refine blk_alloc ?_ _)); exact BK222.out) hb); have n2_ := Aside0.mk (below_step (by repeat (first | (with_reducible first | exact HB.out | apply below_alloc | apply pw_below_drewN | apply below_drew1 | refine below_set ?_ GE222.out) | exact HB.out)) hb); clear BK222; clear HB; have HO225 := n0_; have BK222 := n1_; have HB := n2_; clear n0_ n1_ n2_; clear hb ho11) | ((with_reducible refine gate_builtin (b := .append) (xs := #[.tmp 14, .tmp 15]) rfl ?_); at_builtin; refine Kd.R_append_rows k51 (w0 := w) w.heap.size rfl (.tmp 14) (.tmp 15) 22 51 (.agg #[(.string ⟨#[]⟩), (.int .i64 0), (.bool false)]) 32 rfl Try.underlying22 info51 rfl (by decide) (by omega) v224 y223 l0 _ _ _ (fun _ => True) (fun _ => False) rfl rfl ?aO ?aR (fun _ _ h => h) (fun _ h => h.elim) ?aF ?aB ?aS ?aL ?_; (case aR => repeat (first | exact (Kd.C_below HR0.out HB.out) | (with_reducible refine Kd.C_alloc ?_ _) | (with_reducible refine Kd.C_drewN ?_ _) | (with_reducible refine Kd.C_drew ?_))); (case aB => exact (by repeat (first | (with_reducible first | exact HB.out | apply below_alloc | apply pw_below_drewN | apply below_drew1 | refine below_set ?_ GE222.out) | exact HB.out))); (case aF => exact (fun _ _ => trivial)); (case aO => exact (by (with_reducible repeat (first | apply Kd.R_alloc | apply Kd.R_drewN | apply Kd.R_drew)); exact HO225.out)); (case aS => exact (below_size (by repeat (first | (with_reducible first | exact HB.out | apply below_alloc | apply pw_below_drewN | apply below_drew1 | refine below_set ?_ GE222.out) | exact HB.out)))); (case aL => have := LMc4.out; omega); intro v227 w12 ho hb hg hat; rw [← Ny226.out] at ho; have n0_ := Aside0.mk (blk_grown (g := gb222) (o := .cells #[.int .i64 a2_0, .int .i64 a2_1, .string a2_2, .int .i64 a2_3, .int .i64 a2_4, .string a2_5, .string a2_6, .int .i64 a2_7, .int .i64 a2_8, .string a2_9, .bool a2_10, .float .f64 a2_11, .string a2_12, .string a2_13, .string a2_14, .string a2_15, .int .i64 a2_16, .string a2_17, .int .i64 a2_18] 42 (0, 0)) (by (with_reducible repeat (first | refine blk_drewN ?_ _ | refine blk_drew ?_ | refine blk_alloc ?_ _)); exact BK222.out) hg (Kd.R_ne HO225.out BK222.out (by decide))); have n1_ := Aside0.mk (hb); have n2_ := Aside0.mk (ho); clear BK222; clear HB; clear HO225; have BK222 := n0_; have HB := n1_; have HO228 := n2_; clear n0_ n1_ n2_; clear ho hb hg hat) | ((with_reducible refine gate_dst (N := 17) rfl ?_); refine Kd.R_lit k32 _ 32 ?hg (N := 17) ?hd (xs := ([] : List (S32))) (inner := []) (ok := fun _ => True) (okp := fun _ => True) ?hr ?hp (fun _ hk => hk) trivial (Below.refl _ _) (Nat.le_refl _) (by simp) ?_; (case hd => rfl); (case hg => rfl); (case hr => first | (go_simp; done) | (go_simp; rfl)); (case hp => exact (Reps.none _ _)); intro v230 w13 ho14 hb hg_ hnew_; clear hg_ hnew_; (first | rw [← Ny229.out] at ho14 | (simp only [Int.reduceToNat] at ho14; rw [← Ny229.out] at ho14)); have n0_ := Aside0.mk (Kd.R_below (by (with_reducible repeat (first | apply Kd.R_alloc | apply Kd.R_drewN | apply Kd.R_drew)); exact HO228.out) hb); have n1_ := Aside0.mk (Kd.R_lower ho14 (below_size (by repeat (first | (with_reducible first | exact HB.out | apply below_alloc | apply pw_below_drewN | apply below_drew1 | refine below_set ?_ GE222.out) | exact HB.out)))); have n2_ := Aside0.mk (blk_below (g := gb222) (o := .cells #[.int .i64 a2_0, .int .i64 a2_1, .string a2_2, .int .i64 a2_3, .int .i64 a2_4, .string a2_5, .string a2_6, .int .i64 a2_7, .int .i64 a2_8, .string a2_9, .bool a2_10, .float .f64 a2_11, .string a2_12, .string a2_13, .string a2_14, .string a2_15, .int .i64 a2_16, .string a2_17, .int .i64 a2_18] 42 (0, 0)) (by (with_reducible repeat (first | refine blk_drewN ?_ _ | refine blk_drew ?_ | refine blk_alloc ?_ _)); exact BK222.out) hb); have n3_ := Aside0.mk (below_step (by repeat (first | (with_reducible first | exact HB.out | apply below_alloc | apply pw_below_drewN | apply below_drew1 | refine below_set ?_ GE222.out) | exact HB.out)) hb); clear HO228; clear BK222; clear HB; have HO228 := n0_; have HO231 := n1_; have BK222 := n2_; have HB := n3_; clear n0_ n1_ n2_ n3_; clear hb ho14) | ((with_reducible refine gate_builtin (b := .append) (xs := #[.tmp 17, .tmp 18]) rfl ?_); at_builtin; refine Kd.R_append_rows k32 (w0 := w) w.heap.size rfl (.tmp 17) (.tmp 18) 23 32 (.agg #[(.int .i64 0), (.bool false)]) 16 rfl Try.underlying23 info32 rfl (by decide) (by omega) v230 y229 l1 _ _ _ (fun _ => True) (fun _ => False) rfl rfl ?aO ?aR (fun _ _ h => h) (fun _ h => h.elim) ?aF ?aB ?aS ?aL ?_; (case aR => repeat (first | exact (Kd.C_below HR1.out HB.out) | (with_reducible refine Kd.C_alloc ?_ _) | (with_reducible refine Kd.C_drewN ?_ _) | (with_reducible refine Kd.C_drew ?_))); (case aB => exact (by repeat (first | (with_reducible first | exact HB.out | apply below_alloc | apply pw_below_drewN | apply below_drew1 | refine below_set ?_ GE222.out) | exact HB.out))); (case aF => exact (fun _ _ => trivial)); (case aO => exact (by (with_reducible repeat (first | apply Kd.R_alloc | apply Kd.R_drewN | apply Kd.R_drew)); exact HO231.out)); (case aS => exact (below_size (by repeat (first | (with_reducible first | exact HB.out | apply below_alloc | apply pw_below_drewN | apply below_drew1 | refine below_set ?_ GE222.out) | exact HB.out)))); (case aL => have := LMc5.out; omega); intro v233 w15 ho hb hg hat; rw [← Ny232.out] at ho; have n0_ := Aside0.mk (blk_grown (g := gb222) (o := .cells #[.int .i64 a2_0, .int .i64 a2_1, .string a2_2, .int .i64 a2_3, .int .i64 a2_4, .string a2_5, .string a2_6, .int .i64 a2_7, .int .i64 a2_8, .string a2_9, .bool a2_10, .float .f64 a2_11, .string a2_12, .string a2_13, .string a2_14, .string a2_15, .int .i64 a2_16, .string a2_17, .int .i64 a2_18] 42 (0, 0)) (by (with_reducible repeat (first | refine blk_drewN ?_ _ | refine blk_drew ?_ | refine blk_alloc ?_ _)); exact BK222.out) hg (Kd.R_ne HO231.out BK222.out (by decide))); have n1_ := Aside0.mk (Kd.R_over' (by (with_reducible repeat (first | apply Kd.R_alloc | apply Kd.R_drewN | apply Kd.R_drew)); exact HO228.out) (Kd.R_typed (by (with_reducible repeat (first | apply Kd.R_alloc | apply Kd.R_drewN | apply Kd.R_drew)); exact HO231.out)) (by decide) hg); have n2_ := Aside0.mk (hb); have n3_ := Aside0.mk (ho); clear BK222; clear HO228; clear HB; clear HO231; have BK222 := n0_; have HO228 := n1_; have HB := n2_; have HO234 := n3_; clear n0_ n1_ n2_ n3_; clear ho hb hg hat; have hcz16_0 : w15.cell? ⟨gb222, 0, none⟩ = some (.int .i64 a2_0) := (blk_cell BK222.out 0).trans rfl; have hcz16_1 : w15.cell? ⟨gb222, 1, none⟩ = some (.int .i64 a2_1) := (blk_cell BK222.out 1).trans rfl; have hcz16_2 : w15.cell? ⟨gb222, 2, none⟩ = some (.string a2_2) := (blk_cell BK222.out 2).trans rfl; have hcz16_3 : w15.cell? ⟨gb222, 3, none⟩ = some (.int .i64 a2_3) := (blk_cell BK222.out 3).trans rfl; have hcz16_4 : w15.cell? ⟨gb222, 4, none⟩ = some (.int .i64 a2_4) := (blk_cell BK222.out 4).trans rfl; have hcz16_5 : w15.cell? ⟨gb222, 5, none⟩ = some (.string a2_5) := (blk_cell BK222.out 5).trans rfl; have hcz16_6 : w15.cell? ⟨gb222, 6, none⟩ = some (.string a2_6) := (blk_cell BK222.out 6).trans rfl; have hcz16_7 : w15.cell? ⟨gb222, 7, none⟩ = some (.int .i64 a2_7) := (blk_cell BK222.out 7).trans rfl; have hcz16_8 : w15.cell? ⟨gb222, 8, none⟩ = some (.int .i64 a2_8) := (blk_cell BK222.out 8).trans rfl; have hcz16_9 : w15.cell? ⟨gb222, 9, none⟩ = some (.string a2_9) := (blk_cell BK222.out 9).trans rfl; have hcz16_10 : w15.cell? ⟨gb222, 10, none⟩ = some (.bool a2_10) := (blk_cell BK222.out 10).trans rfl; have hcz16_11 : w15.cell? ⟨gb222, 11, none⟩ = some (.float .f64 a2_11) := (blk_cell BK222.out 11).trans rfl; have hcz16_12 : w15.cell? ⟨gb222, 12, none⟩ = some (.string a2_12) := (blk_cell BK222.out 12).trans rfl; have hcz16_13 : w15.cell? ⟨gb222, 13, none⟩ = some (.string a2_13) := (blk_cell BK222.out 13).trans rfl; have hcz16_14 : w15.cell? ⟨gb222, 14, none⟩ = some (.string a2_14) := (blk_cell BK222.out 14).trans rfl; have hcz16_15 : w15.cell? ⟨gb222, 15, none⟩ = some (.string a2_15) := (blk_cell BK222.out 15).trans rfl; have hcz16_16 : w15.cell? ⟨gb222, 16, none⟩ = some (.int .i64 a2_16) := (blk_cell BK222.out 16).trans rfl; have hcz16_17 : w15.cell? ⟨gb222, 17, none⟩ = some (.string a2_17) := (blk_cell BK222.out 17).trans rfl; have hcz16_18 : w15.cell? ⟨gb222, 18, none⟩ = some (.int .i64 a2_18) := (blk_cell BK222.out 18).trans rfl; have hfz16_0 := blk_frozen BK222.out 0; have hfz16_1 := blk_frozen BK222.out 1; have hfz16_2 := blk_frozen BK222.out 2; have hfz16_3 := blk_frozen BK222.out 3; have hfz16_4 := blk_frozen BK222.out 4; have hfz16_5 := blk_frozen BK222.out 5; have hfz16_6 := blk_frozen BK222.out 6; have hfz16_7 := blk_frozen BK222.out 7; have hfz16_8 := blk_frozen BK222.out 8; have hfz16_9 := blk_frozen BK222.out 9; have hfz16_10 := blk_frozen BK222.out 10; have hfz16_11 := blk_frozen BK222.out 11; have hfz16_12 := blk_frozen BK222.out 12; have hfz16_13 := blk_frozen BK222.out 13; have hfz16_14 := blk_frozen BK222.out 14; have hfz16_15 := blk_frozen BK222.out 15; have hfz16_16 := blk_frozen BK222.out 16; have hfz16_17 := blk_frozen BK222.out 17; have hfz16_18 := blk_frozen BK222.out 18; obtain ⟨Ao17, co17, eo17⟩ := Kd.R_slice HO228.out; subst eo17; obtain ⟨Ao18, co18, eo18⟩ := Kd.R_slice HO234.out; subst eo18) | ((with_reducible refine gate_callee (f := 18) rfl ?_); refine goesL_ (some 27) rfl rfl Try.func18 (by kernel_rfl) rfl #[.slice Ao17 y226.length co17, .slice Ao18 y232.length co18, .string a2_17, .int .i64 a2_18] rfl (by (try simp only [List.map_toArray, List.map_cons, List.map_nil]); first | done | rfl | (simp only [List.length_drop, List.length_take]; rfl)) ?_; (with_reducible refine (duty_Done.calls k _ _ y226 _ _ y232 a2_17 a2_18 t235 t236 _ ?side1 ?side2 ?side3 ?side4 A6.out).mono ?_); (case side1 => repeat (first | exact (Kd.R_reads' HO228.out).2.2 | (with_reducible refine Kd.C_alloc ?_ _) | (with_reducible refine Kd.C_drewN ?_ _) | (with_reducible refine Kd.C_drew ?_))); (case side2 => exact (Kd.R_reads' HO228.out).2.1); (case side3 => repeat (first | exact (Kd.R_reads' HO234.out).2.2 | (with_reducible refine Kd.C_alloc ?_ _) | (with_reducible refine Kd.C_drewN ?_ _) | (with_reducible refine Kd.C_drew ?_))); (case side4 => exact (Kd.R_reads' HO234.out).2.1); rintro e w19 ⟨v237, rfl, ho0, hb⟩; refine ⟨_, rfl, ?_⟩; have n0_ := Aside0.mk (Kd.R_below (by (with_reducible repeat (first | apply Kd.R_alloc | apply Kd.R_drewN | apply Kd.R_drew)); exact HO228.out) hb); have n1_ := Aside0.mk (Kd.R_elder' (by (with_reducible repeat (first | apply Kd.R_alloc | apply Kd.R_drewN | apply Kd.R_drew)); exact HO234.out) (Kd.R_base ho0) hb); have n2_ := Aside0.mk (Kd.R_lower (Kd.R_new' ho0 (Kd.R_lt (by (with_reducible repeat (first | apply Kd.R_alloc | apply Kd.R_drewN | apply Kd.R_drew)); exact HO234.out))) (below_size (by repeat (first | (with_reducible first | exact HB.out | apply below_alloc | apply pw_below_drewN | apply below_drew1 | refine below_set ?_ GE222.out) | exact HB.out)))); have n3_ := Aside0.mk (blk_below (g := gb222) (o := .cells #[.int .i64 a2_0, .int .i64 a2_1, .string a2_2, .int .i64 a2_3, .int .i64 a2_4, .string a2_5, .string a2_6, .int .i64 a2_7, .int .i64 a2_8, .string a2_9, .bool a2_10, .float .f64 a2_11, .string a2_12, .string a2_13, .string a2_14, .string a2_15, .int .i64 a2_16, .string a2_17, .int .i64 a2_18] 42 (0, 0)) (by (with_reducible repeat (first | refine blk_drewN ?_ _ | refine blk_drew ?_ | refine blk_alloc ?_ _)); exact BK222.out) hb); have n4_ := Aside0.mk (below_step (by repeat (first | (with_reducible first | exact HB.out | apply below_alloc | apply pw_below_drewN | apply below_drew1 | refine below_set ?_ GE222.out) | exact HB.out)) hb); clear HO228; clear HO234; clear BK222; clear HB; have HO228 := n0_; have HO234 := n1_; have HO238 := n2_; have BK222 := n3_; have HB := n4_; clear n0_ n1_ n2_ n3_ n4_; (try clear hb); (try clear hb2); (try clear hk); (try clear hi); (try clear ho0); have hcz20_0 : w19.cell? ⟨gb222, 0, none⟩ = some (.int .i64 a2_0) := (blk_cell BK222.out 0).trans rfl; have hcz20_1 : w19.cell? ⟨gb222, 1, none⟩ = some (.int .i64 a2_1) := (blk_cell BK222.out 1).trans rfl; have hcz20_2 : w19.cell? ⟨gb222, 2, none⟩ = some (.string a2_2) := (blk_cell BK222.out 2).trans rfl; have hcz20_3 : w19.cell? ⟨gb222, 3, none⟩ = some (.int .i64 a2_3) := (blk_cell BK222.out 3).trans rfl; have hcz20_4 : w19.cell? ⟨gb222, 4, none⟩ = some (.int .i64 a2_4) := (blk_cell BK222.out 4).trans rfl; have hcz20_5 : w19.cell? ⟨gb222, 5, none⟩ = some (.string a2_5) := (blk_cell BK222.out 5).trans rfl; have hcz20_6 : w19.cell? ⟨gb222, 6, none⟩ = some (.string a2_6) := (blk_cell BK222.out 6).trans rfl; have hcz20_7 : w19.cell? ⟨gb222, 7, none⟩ = some (.int .i64 a2_7) := (blk_cell BK222.out 7).trans rfl; have hcz20_8 : w19.cell? ⟨gb222, 8, none⟩ = some (.int .i64 a2_8) := (blk_cell BK222.out 8).trans rfl; have hcz20_9 : w19.cell? ⟨gb222, 9, none⟩ = some (.string a2_9) := (blk_cell BK222.out 9).trans rfl; have hcz20_10 : w19.cell? ⟨gb222, 10, none⟩ = some (.bool a2_10) := (blk_cell BK222.out 10).trans rfl; have hcz20_11 : w19.cell? ⟨gb222, 11, none⟩ = some (.float .f64 a2_11) := (blk_cell BK222.out 11).trans rfl; have hcz20_12 : w19.cell? ⟨gb222, 12, none⟩ = some (.string a2_12) := (blk_cell BK222.out 12).trans rfl; have hcz20_13 : w19.cell? ⟨gb222, 13, none⟩ = some (.string a2_13) := (blk_cell BK222.out 13).trans rfl; have hcz20_14 : w19.cell? ⟨gb222, 14, none⟩ = some (.string a2_14) := (blk_cell BK222.out 14).trans rfl; have hcz20_15 : w19.cell? ⟨gb222, 15, none⟩ = some (.string a2_15) := (blk_cell BK222.out 15).trans rfl; have hcz20_16 : w19.cell? ⟨gb222, 16, none⟩ = some (.int .i64 a2_16) := (blk_cell BK222.out 16).trans rfl; have hcz20_17 : w19.cell? ⟨gb222, 17, none⟩ = some (.string a2_17) := (blk_cell BK222.out 17).trans rfl; have hcz20_18 : w19.cell? ⟨gb222, 18, none⟩ = some (.int .i64 a2_18) := (blk_cell BK222.out 18).trans rfl; have hfz20_0 := blk_frozen BK222.out 0; have hfz20_1 := blk_frozen BK222.out 1; have hfz20_2 := blk_frozen BK222.out 2; have hfz20_3 := blk_frozen BK222.out 3; have hfz20_4 := blk_frozen BK222.out 4; have hfz20_5 := blk_frozen BK222.out 5; have hfz20_6 := blk_frozen BK222.out 6; have hfz20_7 := blk_frozen BK222.out 7; have hfz20_8 := blk_frozen BK222.out 8; have hfz20_9 := blk_frozen BK222.out 9; have hfz20_10 := blk_frozen BK222.out 10; have hfz20_11 := blk_frozen BK222.out 11; have hfz20_12 := blk_frozen BK222.out 12; have hfz20_13 := blk_frozen BK222.out 13; have hfz20_14 := blk_frozen BK222.out 14; have hfz20_15 := blk_frozen BK222.out 15; have hfz20_16 := blk_frozen BK222.out 16; have hfz20_17 := blk_frozen BK222.out 17; have hfz20_18 := blk_frozen BK222.out 18) | ((with_reducible refine gate_callee (f := 19) rfl ?_); refine goesL_ (some 37) rfl rfl Try.func19 (by kernel_rfl) rfl #[.slice A0 l0.length c0, .slice A1 l1.length c1, .string a2_17, .int .i64 a2_18] rfl (by (try simp only [List.map_toArray, List.map_cons, List.map_nil]); first | done | rfl | (simp only [List.length_drop, List.length_take]; rfl)) ?_; (with_reducible refine (sojournref15_Done.calls k _ _ l0 _ _ l1 a2_17 a2_18 t239 t240 _ ?side1 ?side2 ?side3 ?side4 A7.out).mono ?_); (case side1 => repeat (first | exact (Kd.C_below HR0.out HB.out) | (with_reducible refine Kd.C_alloc ?_ _) | (with_reducible refine Kd.C_drewN ?_ _) | (with_reducible refine Kd.C_drew ?_))); (case side2 => exact HC0.out); (case side3 => repeat (first | exact (Kd.C_below HR1.out HB.out) | (with_reducible refine Kd.C_alloc ?_ _) | (with_reducible refine Kd.C_drewN ?_ _) | (with_reducible refine Kd.C_drew ?_))); (case side4 => exact HC1.out); rintro e w21 ⟨v241, rfl, ho0, hb⟩; refine ⟨_, rfl, ?_⟩; have n0_ := Aside0.mk (Kd.R_below (by (with_reducible repeat (first | apply Kd.R_alloc | apply Kd.R_drewN | apply Kd.R_drew)); exact HO228.out) hb); have n1_ := Aside0.mk (Kd.R_elder' (by (with_reducible repeat (first | apply Kd.R_alloc | apply Kd.R_drewN | apply Kd.R_drew)); exact HO234.out) (Kd.R_base ho0) hb); have n2_ := Aside0.mk (Kd.R_elder' (by (with_reducible repeat (first | apply Kd.R_alloc | apply Kd.R_drewN | apply Kd.R_drew)); exact HO238.out) (Kd.R_base ho0) hb); have n3_ := Aside0.mk (Kd.R_lower (Kd.R_new' (Kd.R_new' ho0 (Kd.R_lt (by (with_reducible repeat (first | apply Kd.R_alloc | apply Kd.R_drewN | apply Kd.R_drew)); exact HO234.out))) (Kd.R_lt (by (with_reducible repeat (first | apply Kd.R_alloc | apply Kd.R_drewN | apply Kd.R_drew)); exact HO238.out))) (below_size (by repeat (first | (with_reducible first | exact HB.out | apply below_alloc | apply pw_below_drewN | apply below_drew1 | refine below_set ?_ GE222.out) | exact HB.out)))); have n4_ := Aside0.mk (blk_below (g := gb222) (o := .cells #[.int .i64 a2_0, .int .i64 a2_1, .string a2_2, .int .i64 a2_3, .int .i64 a2_4, .string a2_5, .string a2_6, .int .i64 a2_7, .int .i64 a2_8, .string a2_9, .bool a2_10, .float .f64 a2_11, .string a2_12, .string a2_13, .string a2_14, .string a2_15, .int .i64 a2_16, .string a2_17, .int .i64 a2_18] 42 (0, 0)) (by (with_reducible repeat (first | refine blk_drewN ?_ _ | refine blk_drew ?_ | refine blk_alloc ?_ _)); exact BK222.out) hb); have n5_ := Aside0.mk (below_step (by repeat (first | (with_reducible first | exact HB.out | apply below_alloc | apply pw_below_drewN | apply below_drew1 | refine below_set ?_ GE222.out) | exact HB.out)) hb); clear HO228; clear HO234; clear HO238; clear BK222; clear HB; have HO228 := n0_; have HO234 := n1_; have HO238 := n2_; have HO242 := n3_; have BK222 := n4_; have HB := n5_; clear n0_ n1_ n2_ n3_ n4_ n5_; (try clear hb); (try clear hb2); (try clear hk); (try clear hi); (try clear ho0)))
      (try simp only [Act.put, List.setIfInBounds_toArray, List.set_cons_zero, List.set_cons_succ])
      go_cut [52] (fun v52 wc => ∃ (kq : Nat) (x52_7 : Bool), v52 = .bool x52_7 ∧ Aside0 (sojournlaw15_DutyDones.j0 kq l0 l1 y226 y232 t235 x52_7 = some r) ∧ Aside0 (kq ≤ k) ∧ Aside0 (Kd.R k51 51 wc w.heap.size (fun _ => True) (.slice Ao17 y226.length co17) y226) ∧ Aside0 (Kd.R k32 32 wc w.heap.size (fun k_ => some k_ ≠ (v237 : Value).ownBlock) (.slice Ao18 y232.length co18) y232) ∧ Aside0 (Kd.R k32 32 wc w.heap.size (fun k_ => some k_ ≠ ((.slice Ao18 y232.length co18) : Value).ownBlock) v237 t235) ∧ Aside0 (wc.heap[gb222]? = some (.cells #[.int .i64 a2_0, .int .i64 a2_1, .string a2_2, .int .i64 a2_3, .int .i64 a2_4, .string a2_5, .string a2_6, .int .i64 a2_7, .int .i64 a2_8, .string a2_9, .bool a2_10, .float .f64 a2_11, .string a2_12, .string a2_13, .string a2_14, .string a2_15, .int .i64 a2_16, .string a2_17, .int .i64 a2_18] 42 (0, 0))) ∧ Aside0 (Below w.heap.size w wc))
      case first =>
        have H := HC8.out
        clear HC8
        replace H := Option.bind_eq_some_iff.mp H
        obtain ⟨t243, A220, H⟩ := H
        replace H : (if t243 = true then (if t236 = t240 then ((sojournref15_Same.f k t235 t239).bind fun t244 => (sojournlaw15_DutyDones.j0 k l0 l1 y226 y232 t235 (!t244))) else (sojournlaw15_DutyDones.j0 k l0 l1 y226 y232 t235 true)) else (sojournlaw15_DutyDones.j0 k l0 l1 y226 y232 t235 true)) = some r := H
        have A22 := Aside0.mk A220
        clear A220
        by_cases c23 : t243 = true
        · subst c23
          have H1 : (if t236 = t240 then ((sojournref15_Same.f k t235 t239).bind fun t244 => (sojournlaw15_DutyDones.j0 k l0 l1 y226 y232 t235 (!t244))) else (sojournlaw15_DutyDones.j0 k l0 l1 y226 y232 t235 true)) = some r := by rw [if_pos rfl] at H; exact H
          clear H
          have H := H1
          clear H1
          by_cases c24 : t236 = t240
          · rw [if_pos c24] at H
            have c24b0 : (t236 == t240) = true := beq_iff_eq.mpr c24
            have c24b1 : (t236 != t240) = false := bne_eq_false_iff_eq.mpr c24
            clear c24
            (first | rw [c24b0] | (simp only [i64_w, i32_w]; rw [c24b0]) | skip)
            replace H := Option.bind_eq_some_iff.mp H
            obtain ⟨t244, A250, H⟩ := H
            replace H : (sojournlaw15_DutyDones.j0 k l0 l1 y226 y232 t235 (!t244)) = some r := H
            have A25 := Aside0.mk A250
            clear A250
            have H' := Aside0.mk H
            clear H
            go_wp2_with (first | ((with_reducible refine gate_callee (f := 11) rfl ?_); refine goesL_ (some 40) rfl rfl Try.func11 (by kernel_rfl) rfl #[] rfl (by (try simp only [List.map_toArray, List.map_cons, List.map_nil]); first | done | rfl | (simp only [List.length_drop, List.length_take]; rfl)) ?_; (with_reducible refine (sojournlaw15_alive.calls k  true _ A22.out).mono ?_); rintro e w26 ⟨rfl, hb⟩; refine ⟨_, rfl, ?_⟩; have n0_ := Aside0.mk (Kd.R_below (by (with_reducible repeat (first | apply Kd.R_alloc | apply Kd.R_drewN | apply Kd.R_drew)); exact HO228.out) hb); have n1_ := Aside0.mk (Kd.R_below (by (with_reducible repeat (first | apply Kd.R_alloc | apply Kd.R_drewN | apply Kd.R_drew)); exact HO234.out) hb); have n2_ := Aside0.mk (Kd.R_below (by (with_reducible repeat (first | apply Kd.R_alloc | apply Kd.R_drewN | apply Kd.R_drew)); exact HO238.out) hb); have n3_ := Aside0.mk (Kd.R_below (by (with_reducible repeat (first | apply Kd.R_alloc | apply Kd.R_drewN | apply Kd.R_drew)); exact HO242.out) hb); have n4_ := Aside0.mk (blk_below (g := gb222) (o := .cells #[.int .i64 a2_0, .int .i64 a2_1, .string a2_2, .int .i64 a2_3, .int .i64 a2_4, .string a2_5, .string a2_6, .int .i64 a2_7, .int .i64 a2_8, .string a2_9, .bool a2_10, .float .f64 a2_11, .string a2_12, .string a2_13, .string a2_14, .string a2_15, .int .i64 a2_16, .string a2_17, .int .i64 a2_18] 42 (0, 0)) (by (with_reducible repeat (first | refine blk_drewN ?_ _ | refine blk_drew ?_ | refine blk_alloc ?_ _)); exact BK222.out) hb); have n5_ := Aside0.mk (below_step (by repeat (first | (with_reducible first | exact HB.out | apply below_alloc | apply pw_below_drewN | apply below_drew1 | refine below_set ?_ GE222.out) | exact HB.out)) hb); clear HO228; clear HO234; clear HO238; clear HO242; clear BK222; clear HB; have HO228 := n0_; have HO234 := n1_; have HO238 := n2_; have HO242 := n3_; have BK222 := n4_; have HB := n5_; clear n0_ n1_ n2_ n3_ n4_ n5_; (try clear hb); (try clear hb2); (try clear hk); (try clear hi); obtain ⟨Ao27, co27, eo27⟩ := Kd.R_slice HO238.out; subst eo27; obtain ⟨Ao28, co28, eo28⟩ := Kd.R_slice HO242.out; subst eo28) | (go_at_call 15; (with_reducible refine (sojournref15_Same.calls k _ _ t235 _ _ t239 t244 _ ?side1 ?side2 ?side3 ?side4 A25.out).mono ?_); (case side1 => repeat (first | exact (Kd.R_reads' HO238.out).2.2 | (with_reducible refine Kd.C_alloc ?_ _) | (with_reducible refine Kd.C_drewN ?_ _) | (with_reducible refine Kd.C_drew ?_))); (case side2 => exact (Kd.R_reads' HO238.out).2.1); (case side3 => repeat (first | exact (Kd.R_reads' HO242.out).2.2 | (with_reducible refine Kd.C_alloc ?_ _) | (with_reducible refine Kd.C_drewN ?_ _) | (with_reducible refine Kd.C_drew ?_))); (case side4 => exact (Kd.R_reads' HO242.out).2.1); rintro e w' ⟨rfl, ⟨nd, rfl⟩⟩))
            go_meet
            case rel => exact ⟨_, (!t244), (by first | rfl | (simp; done) | (simp [*]; done)), H', ⟨by first | omega | exact Nat.le_refl _⟩, ⟨by (with_reducible repeat (first | apply Kd.R_alloc | apply Kd.R_drewN | apply Kd.R_drew)); exact HO228.out⟩, ⟨by (with_reducible repeat (first | apply Kd.R_alloc | apply Kd.R_drewN | apply Kd.R_drew)); exact Kd.R_mono HO234.out (fun _ hk => hk.1.2)⟩, ⟨by (with_reducible repeat (first | apply Kd.R_alloc | apply Kd.R_drewN | apply Kd.R_drew)); exact Kd.R_mono HO238.out (fun _ hk => hk.1.2)⟩, ⟨by (with_reducible repeat (first | refine blk_drewN ?_ _ | refine blk_drew ?_ | refine blk_alloc ?_ _)); exact BK222.out⟩, ⟨by repeat (first | (with_reducible first | exact HB.out | apply below_alloc | apply pw_below_drewN | apply below_drew1 | refine below_set ?_ GE222.out) | exact HB.out)⟩⟩
          · rw [if_neg c24] at H
            have c24b0 : (t236 == t240) = false := beq_eq_false_iff_ne.mpr c24
            have c24b1 : (t236 != t240) = true := bne_iff_ne.mpr c24
            (first | rw [c24b0] | (simp only [i64_w, i32_w]; rw [c24b0]) | skip)
            have H' := Aside0.mk H
            clear H
            go_wp2_with (first | ((with_reducible refine gate_callee (f := 11) rfl ?_); refine goesL_ (some 40) rfl rfl Try.func11 (by kernel_rfl) rfl #[] rfl (by (try simp only [List.map_toArray, List.map_cons, List.map_nil]); first | done | rfl | (simp only [List.length_drop, List.length_take]; rfl)) ?_; (with_reducible refine (sojournlaw15_alive.calls k  true _ A22.out).mono ?_); rintro e w29 ⟨rfl, hb⟩; refine ⟨_, rfl, ?_⟩; have n0_ := Aside0.mk (Kd.R_below (by (with_reducible repeat (first | apply Kd.R_alloc | apply Kd.R_drewN | apply Kd.R_drew)); exact HO228.out) hb); have n1_ := Aside0.mk (Kd.R_below (by (with_reducible repeat (first | apply Kd.R_alloc | apply Kd.R_drewN | apply Kd.R_drew)); exact HO234.out) hb); have n2_ := Aside0.mk (Kd.R_below (by (with_reducible repeat (first | apply Kd.R_alloc | apply Kd.R_drewN | apply Kd.R_drew)); exact HO238.out) hb); have n3_ := Aside0.mk (Kd.R_below (by (with_reducible repeat (first | apply Kd.R_alloc | apply Kd.R_drewN | apply Kd.R_drew)); exact HO242.out) hb); have n4_ := Aside0.mk (blk_below (g := gb222) (o := .cells #[.int .i64 a2_0, .int .i64 a2_1, .string a2_2, .int .i64 a2_3, .int .i64 a2_4, .string a2_5, .string a2_6, .int .i64 a2_7, .int .i64 a2_8, .string a2_9, .bool a2_10, .float .f64 a2_11, .string a2_12, .string a2_13, .string a2_14, .string a2_15, .int .i64 a2_16, .string a2_17, .int .i64 a2_18] 42 (0, 0)) (by (with_reducible repeat (first | refine blk_drewN ?_ _ | refine blk_drew ?_ | refine blk_alloc ?_ _)); exact BK222.out) hb); have n5_ := Aside0.mk (below_step (by repeat (first | (with_reducible first | exact HB.out | apply below_alloc | apply pw_below_drewN | apply below_drew1 | refine below_set ?_ GE222.out) | exact HB.out)) hb); clear HO228; clear HO234; clear HO238; clear HO242; clear BK222; clear HB; have HO228 := n0_; have HO234 := n1_; have HO238 := n2_; have HO242 := n3_; have BK222 := n4_; have HB := n5_; clear n0_ n1_ n2_ n3_ n4_ n5_; (try clear hb); (try clear hb2); (try clear hk); (try clear hi)))
            go_meet
            case rel => exact ⟨_, (true), (by first | rfl | (simp; done) | (simp [*]; done)), H', ⟨by first | omega | exact Nat.le_refl _⟩, ⟨by (with_reducible repeat (first | apply Kd.R_alloc | apply Kd.R_drewN | apply Kd.R_drew)); exact HO228.out⟩, ⟨by (with_reducible repeat (first | apply Kd.R_alloc | apply Kd.R_drewN | apply Kd.R_drew)); exact Kd.R_mono HO234.out (fun _ hk => hk.1.2)⟩, ⟨by (with_reducible repeat (first | apply Kd.R_alloc | apply Kd.R_drewN | apply Kd.R_drew)); exact Kd.R_mono HO238.out (fun _ hk => hk.1.2)⟩, ⟨by (with_reducible repeat (first | refine blk_drewN ?_ _ | refine blk_drew ?_ | refine blk_alloc ?_ _)); exact BK222.out⟩, ⟨by repeat (first | (with_reducible first | exact HB.out | apply below_alloc | apply pw_below_drewN | apply below_drew1 | refine below_set ?_ GE222.out) | exact HB.out)⟩⟩
        · replace c23 := Bool.eq_false_iff.mpr c23
          subst c23
          have H1 : (sojournlaw15_DutyDones.j0 k l0 l1 y226 y232 t235 true) = some r := by rw [if_neg (show ¬ (false = true) by decide)] at H; exact H
          clear H
          have H := H1
          clear H1
          have H' := Aside0.mk H
          clear H
          go_wp2_with (first | ((with_reducible refine gate_callee (f := 11) rfl ?_); refine goesL_ (some 40) rfl rfl Try.func11 (by kernel_rfl) rfl #[] rfl (by (try simp only [List.map_toArray, List.map_cons, List.map_nil]); first | done | rfl | (simp only [List.length_drop, List.length_take]; rfl)) ?_; (with_reducible refine (sojournlaw15_alive.calls k  false _ A22.out).mono ?_); rintro e w30 ⟨rfl, hb⟩; refine ⟨_, rfl, ?_⟩; have n0_ := Aside0.mk (Kd.R_below (by (with_reducible repeat (first | apply Kd.R_alloc | apply Kd.R_drewN | apply Kd.R_drew)); exact HO228.out) hb); have n1_ := Aside0.mk (Kd.R_below (by (with_reducible repeat (first | apply Kd.R_alloc | apply Kd.R_drewN | apply Kd.R_drew)); exact HO234.out) hb); have n2_ := Aside0.mk (Kd.R_below (by (with_reducible repeat (first | apply Kd.R_alloc | apply Kd.R_drewN | apply Kd.R_drew)); exact HO238.out) hb); have n3_ := Aside0.mk (Kd.R_below (by (with_reducible repeat (first | apply Kd.R_alloc | apply Kd.R_drewN | apply Kd.R_drew)); exact HO242.out) hb); have n4_ := Aside0.mk (blk_below (g := gb222) (o := .cells #[.int .i64 a2_0, .int .i64 a2_1, .string a2_2, .int .i64 a2_3, .int .i64 a2_4, .string a2_5, .string a2_6, .int .i64 a2_7, .int .i64 a2_8, .string a2_9, .bool a2_10, .float .f64 a2_11, .string a2_12, .string a2_13, .string a2_14, .string a2_15, .int .i64 a2_16, .string a2_17, .int .i64 a2_18] 42 (0, 0)) (by (with_reducible repeat (first | refine blk_drewN ?_ _ | refine blk_drew ?_ | refine blk_alloc ?_ _)); exact BK222.out) hb); have n5_ := Aside0.mk (below_step (by repeat (first | (with_reducible first | exact HB.out | apply below_alloc | apply pw_below_drewN | apply below_drew1 | refine below_set ?_ GE222.out) | exact HB.out)) hb); clear HO228; clear HO234; clear HO238; clear HO242; clear BK222; clear HB; have HO228 := n0_; have HO234 := n1_; have HO238 := n2_; have HO242 := n3_; have BK222 := n4_; have HB := n5_; clear n0_ n1_ n2_ n3_ n4_ n5_; (try clear hb); (try clear hb2); (try clear hk); (try clear hi)))
          go_meet
          case rel => exact ⟨_, (true), (by first | rfl | (simp; done) | (simp [*]; done)), H', ⟨by first | omega | exact Nat.le_refl _⟩, ⟨by (with_reducible repeat (first | apply Kd.R_alloc | apply Kd.R_drewN | apply Kd.R_drew)); exact HO228.out⟩, ⟨by (with_reducible repeat (first | apply Kd.R_alloc | apply Kd.R_drewN | apply Kd.R_drew)); exact Kd.R_mono HO234.out (fun _ hk => hk.1.2)⟩, ⟨by (with_reducible repeat (first | apply Kd.R_alloc | apply Kd.R_drewN | apply Kd.R_drew)); exact Kd.R_mono HO238.out (fun _ hk => hk.1.2)⟩, ⟨by (with_reducible repeat (first | refine blk_drewN ?_ _ | refine blk_drew ?_ | refine blk_alloc ?_ _)); exact BK222.out⟩, ⟨by repeat (first | (with_reducible first | exact HB.out | apply below_alloc | apply pw_below_drewN | apply below_drew1 | refine below_set ?_ GE222.out) | exact HB.out)⟩⟩
      case rest =>
        clear HC8
        try clear c1
        try clear c2
        try clear p2
        try clear c4
        try clear c5
        try clear c11
        try clear c18
        try clear c19
        try clear c23
        try clear c24
        try clear c24b0
        try clear c24b1
        try clear hcz16_0
        try clear hcz16_1
        try clear hcz16_10
        try clear hcz16_11
        try clear hcz16_12
        try clear hcz16_13
        try clear hcz16_14
        try clear hcz16_15
        try clear hcz16_16
        try clear hcz16_17
        try clear hcz16_18
        try clear hcz16_2
        try clear hcz16_3
        try clear hcz16_4
        try clear hcz16_5
        try clear hcz16_6
        try clear hcz16_7
        try clear hcz16_8
        try clear hcz16_9
        try clear hcz20_0
        try clear hcz20_1
        try clear hcz20_10
        try clear hcz20_11
        try clear hcz20_12
        try clear hcz20_13
        try clear hcz20_14
        try clear hcz20_15
        try clear hcz20_16
        try clear hcz20_17
        try clear hcz20_18
        try clear hcz20_2
        try clear hcz20_3
        try clear hcz20_4
        try clear hcz20_5
        try clear hcz20_6
        try clear hcz20_7
        try clear hcz20_8
        try clear hcz20_9
        try clear hfz16_0
        try clear hfz16_1
        try clear hfz16_10
        try clear hfz16_11
        try clear hfz16_12
        try clear hfz16_13
        try clear hfz16_14
        try clear hfz16_15
        try clear hfz16_16
        try clear hfz16_17
        try clear hfz16_18
        try clear hfz16_2
        try clear hfz16_3
        try clear hfz16_4
        try clear hfz16_5
        try clear hfz16_6
        try clear hfz16_7
        try clear hfz16_8
        try clear hfz16_9
        try clear hfz20_0
        try clear hfz20_1
        try clear hfz20_10
        try clear hfz20_11
        try clear hfz20_12
        try clear hfz20_13
        try clear hfz20_14
        try clear hfz20_15
        try clear hfz20_16
        try clear hfz20_17
        try clear hfz20_18
        try clear hfz20_2
        try clear hfz20_3
        try clear hfz20_4
        try clear hfz20_5
        try clear hfz20_6
        try clear hfz20_7
        try clear hfz20_8
        try clear hfz20_9
        obtain ⟨kq, x52_7, rfl, HA, HJ7, HO_7, HO_8, HO_9, BK222, HB⟩ := hcut
        cases kq with
        | zero => exact absurd HA.out (by simp [sojournlaw15_DutyDones.j0])
        | succ kj7 =>
          have H := HA.out
          clear HA
          simp only [sojournlaw15_DutyDones.j0] at H
          by_cases c31 : x52_7 = true
          · subst c31
            have H1 : (some false) = some r := by rw [if_pos rfl] at H; exact H
            clear H
            have H := H1
            clear H1
            obtain rfl := Option.some.inj H
            go_wp2
            go_ret
            exact ⟨by first | rfl | (simp [errW_none, errW_some] <;> rfl) | (simp [*, errW_none, errW_some] <;> rfl), by repeat (first | (with_reducible first | exact HB.out | apply below_alloc | apply pw_below_drewN | apply below_drew1 | refine below_set ?_ GE222.out) | exact HB.out)⟩
          · replace c31 := Bool.eq_false_iff.mpr c31
            subst c31
            have H1 : (sojournlaw15_DutyDones.l0 kj7 l0 l1 y226 y232 t235 (t235.length : Int) 0) = some r := by rw [if_neg (show ¬ (false = true) by decide)] at H; exact H
            clear H
            have H := H1
            clear H1
            have H' := Aside0.mk H
            clear H
            obtain ⟨Ao32, co32, eo32⟩ := Kd.R_slice HO_9.out
            subst eo32
            go_wp2
            go_loopg [55] kj7 (fun kq v55 w' => ∃ (x9_2 : List (S32)) (x55_2 : Int), v55 = .int .i64 x55_2 ∧ Aside0 (sojournlaw15_DutyDones.l0 kq l0 l1 y226 y232 x9_2 (t235.length : Int) x55_2 = some r) ∧ Aside0 (kq ≤ kj7) ∧ Aside0 (Kd.R k51 51 w' w.heap.size (fun _ => True) (.slice Ao17 y226.length co17) y226) ∧ Aside0 (Kd.R k32 32 w' w.heap.size (fun k_ => some k_ ≠ ((.slice Ao32 t235.length co32) : Value).ownBlock) (.slice Ao18 y232.length co18) y232) ∧ Aside0 (Kd.R k32 32 w' w.heap.size (fun k_ => some k_ ≠ ((.slice Ao18 y232.length co18) : Value).ownBlock) (.slice Ao32 t235.length co32) x9_2) ∧ Aside0 (w'.heap[gb222]? = some (.cells #[.int .i64 a2_0, .int .i64 a2_1, .string a2_2, .int .i64 a2_3, .int .i64 a2_4, .string a2_5, .string a2_6, .int .i64 a2_7, .int .i64 a2_8, .string a2_9, .bool a2_10, .float .f64 a2_11, .string a2_12, .string a2_13, .string a2_14, .string a2_15, .int .i64 a2_16, .string a2_17, .int .i64 a2_18] 42 (0, 0))) ∧ Aside0 (Below w.heap.size w w'))
            case atStart => exact ⟨(t235), (0), (by first | rfl | (simp; done) | (simp [*]; done)), H', ⟨Nat.le_refl _⟩, ⟨by (with_reducible repeat (first | apply Kd.R_alloc | apply Kd.R_drewN | apply Kd.R_drew)); exact HO_7.out⟩, ⟨by (with_reducible repeat (first | apply Kd.R_alloc | apply Kd.R_drewN | apply Kd.R_drew)); exact HO_8.out⟩, ⟨by (with_reducible repeat (first | apply Kd.R_alloc | apply Kd.R_drewN | apply Kd.R_drew)); exact HO_9.out⟩, ⟨by (with_reducible repeat (first | refine blk_drewN ?_ _ | refine blk_drew ?_ | refine blk_alloc ?_ _)); exact BK222.out⟩, ⟨by repeat (first | (with_reducible first | exact HB.out | apply below_alloc | apply pw_below_drewN | apply below_drew1 | refine below_set ?_ GE222.out) | exact HB.out)⟩⟩
            case round =>
              clear H'
              try clear c1
              try clear c2
              try clear p2
              try clear c3
              try clear c4
              try clear c5
              try clear c11
              try clear c18
              try clear c19
              try clear c23
              try clear c24
              try clear c24b0
              try clear c24b1
              try clear c31
              try clear hcz16_0
              try clear hcz16_1
              try clear hcz16_10
              try clear hcz16_11
              try clear hcz16_12
              try clear hcz16_13
              try clear hcz16_14
              try clear hcz16_15
              try clear hcz16_16
              try clear hcz16_17
              try clear hcz16_18
              try clear hcz16_2
              try clear hcz16_3
              try clear hcz16_4
              try clear hcz16_5
              try clear hcz16_6
              try clear hcz16_7
              try clear hcz16_8
              try clear hcz16_9
              try clear hcz20_0
              try clear hcz20_1
              try clear hcz20_10
              try clear hcz20_11
              try clear hcz20_12
              try clear hcz20_13
              try clear hcz20_14
              try clear hcz20_15
              try clear hcz20_16
              try clear hcz20_17
              try clear hcz20_18
              try clear hcz20_2
              try clear hcz20_3
              try clear hcz20_4
              try clear hcz20_5
              try clear hcz20_6
              try clear hcz20_7
              try clear hcz20_8
              try clear hcz20_9
              try clear hfz16_0
              try clear hfz16_1
              try clear hfz16_10
              try clear hfz16_11
              try clear hfz16_12
              try clear hfz16_13
              try clear hfz16_14
              try clear hfz16_15
              try clear hfz16_16
              try clear hfz16_17
              try clear hfz16_18
              try clear hfz16_2
              try clear hfz16_3
              try clear hfz16_4
              try clear hfz16_5
              try clear hfz16_6
              try clear hfz16_7
              try clear hfz16_8
              try clear hfz16_9
              try clear hfz20_0
              try clear hfz20_1
              try clear hfz20_10
              try clear hfz20_11
              try clear hfz20_12
              try clear hfz20_13
              try clear hfz20_14
              try clear hfz20_15
              try clear hfz20_16
              try clear hfz20_17
              try clear hfz20_18
              try clear hfz20_2
              try clear hfz20_3
              try clear hfz20_4
              try clear hfz20_5
              try clear hfz20_6
              try clear hfz20_7
              try clear hfz20_8
              try clear hfz20_9
              try clear p2
              obtain ⟨x9_2, x55_2, rfl, HA, HK2, HO_7, HO_8, HO_9, BK222, HB⟩ := hrel
              have hl9_2 := (Kd.R_reads' HO_9.out).1
              rw [hl9_2] at HO_9
              (try simp only [hl9_2])
              (try simp only [hl9_2] at BK222)
              (try simp only [hl9_2] at HO_7)
              (try simp only [hl9_2] at HO_8)
              cases gk with
              | zero => exact absurd HA.out (by simp [sojournlaw15_DutyDones.l0])
              | succ k2 =>
                have H := HA.out
                clear HA
                simp only [sojournlaw15_DutyDones.l0] at H
                by_cases c33 : x55_2 < (t235.length : Int)
                · rw [if_pos c33] at H
                  have c33b0 : decide (x55_2 < (t235.length : Int)) = true := decide_eq_true c33
                  clear c33
                  by_cases c34 : 0 ≤ x55_2
                  · rw [if_pos c34] at H
                    have c34b0 : decide (0 ≤ x55_2) = true := decide_eq_true c34
                    clear c34
                    by_cases c35 : x55_2 < (x9_2.length : Int)
                    · rw [if_pos c35] at H
                      have c35b0 : decide (x55_2 < (x9_2.length : Int)) = true := decide_eq_true c35
                      clear c35
                      obtain ⟨y245, hy245⟩ : ∃ y_ : List (S32), y_ = (x9_2.set (x55_2 : Int).toNat (⟨(-9), false⟩ : S32)) := ⟨_, rfl⟩
                      replace H : (sojournlaw15_DutyDones.l0 k2 l0 l1 y226 y232 y245 (t235.length : Int) (wrap64 (x55_2 + 1))) = some r := by first | (rw [hy245]; with_reducible exact H) | (have H2_ := (Option.bind_some _ _).symm.trans H; rw [hy245]; with_reducible exact H2_) | (have H2_ := (Option.bind_some _ _).symm.trans H; with_reducible exact H2_) | with_reducible exact H | (rw [hy245]; exact H) | exact H
                      have Ny245 := Aside0.mk hy245
                      clear hy245
                      have H' := Aside0.mk H
                      clear H
                      have p36 : 0 ≤ (x55_2 : Int) := of_decide_eq_true (by first | (with_reducible assumption) | assumption)
                      have q36 : (x55_2 : Int) < ((x9_2.length : Int) : Int) := of_decide_eq_true (by first | (with_reducible assumption) | assumption)
                      obtain ⟨go36, co36, eo36, gb36, gl36, cl36, HG36⟩ := Kd.R_form HO_9.out (by omega)
                      (first | cases eo36 | (injection eo36 with ea_ en_ ec_; (first | subst ea_ | (injection ea_ with ea_; subst ea_)); subst ec_; clear en_))
                      have GB36 := Aside0.mk gb36
                      have GG36 := Aside0.mk HG36
                      clear gb36 gl36 HG36
                      obtain ⟨ce36, hcl36, hM36, hcc36, hfr36⟩ := Kd.R_elem HO_9.out z32 (x55_2 : Int) p36 q36
                      obtain rfl := k32_openM hM36
                      have hx36_0 : wr.cell? ⟨go36, (x55_2 : Int).toNat * 2, none⟩ = some (.int .i64 ((rd_T32 x9_2 x55_2).f0)) := hcc36 0 _ rfl
                      have hx36_1 : wr.cell? ⟨go36, (x55_2 : Int).toNat * 2 + 1, none⟩ = some (.bool ((rd_T32 x9_2 x55_2).f1)) := hcc36 1 _ rfl
                      have hf36_0 : wr.frozen? ⟨go36, (x55_2 : Int).toNat * 2, none⟩ = false := hfr36 0
                      have hf36_1 : wr.frozen? ⟨go36, (x55_2 : Int).toNat * 2 + 1, none⟩ = false := hfr36 1
                      clear hcl36 hcc36 hfr36 hM36
                      replace p36 := eq_true p36
                      replace q36 := eq_true q36
                      have HX37 := Aside0.mk (show Kd.R k32 32 wr w.heap.size (fun k_ => some k_ ≠ (.slice Ao18 y232.length co18 : Value).ownBlock) (.slice (some ⟨go36, 0, none⟩) x9_2.length co32) x9_2 from (by (with_reducible repeat (first | apply Kd.R_alloc | apply Kd.R_drewN | apply Kd.R_drew)); exact HO_9.out))
                      obtain ⟨ce37, hcl37, hM37, hcc37, hfr37⟩ := Kd.R_elem HX37.out z32 (x55_2 : Int) (of_decide_eq_true (by first | (with_reducible assumption) | assumption)) (by have h_ : (x55_2 : Int) < ((x9_2.length : Int) : Int) := of_decide_eq_true (by first | (with_reducible assumption) | assumption); first | exact h_ | (have e_ := (Kd.R_reads' HO_9.out).1; omega) | simpa using h_)
                      obtain rfl := k32_openM hM37
                      have HP37 := Kd.R_seg HX37.out (x55_2 : Int) (of_decide_eq_true (by first | (with_reducible assumption) | assumption)) (by have h_ : (x55_2 : Int) < ((x9_2.length : Int) : Int) := of_decide_eq_true (by first | (with_reducible assumption) | assumption); first | exact h_ | (have e_ := (Kd.R_reads' HO_9.out).1; omega) | simpa using h_) (seg := [.int .i64 (-9), .bool false]) (j := 0) hcl37 hcc37 (show 2 ≤ 2 from by decide) (x' := (⟨(-9), false⟩ : S32)) (k32_mkM _ _ _ (⟨(-9), false⟩ : S32) ) (fun _ hk => hk)
                      have hx37_0 := hcc37 0 _ rfl
                      (try simp only [show (k32).sz = 2 from rfl, Nat.mul_one, Nat.add_zero] at hx37_0)
                      have hf37_0 := hfr37 0
                      (try simp only [show (k32).sz = 2 from rfl, Nat.mul_one, Nat.add_zero] at hf37_0)
                      have hx37_1 := hcc37 1 _ rfl
                      (try simp only [show (k32).sz = 2 from rfl, Nat.mul_one, Nat.add_zero] at hx37_1)
                      have hf37_1 := hfr37 1
                      (try simp only [show (k32).sz = 2 from rfl, Nat.mul_one, Nat.add_zero] at hf37_1)
                      clear hcl37 hcc37 hfr37 hM37
                      go_wp2_with (first | ((with_reducible refine gate_store (t := 32) (p := 61) rfl ?_); refine store_event (t := 32) (p := 61) (v := ?vo_w38) (w1 := ((wr.setCell ⟨go36, (x55_2 : Int).toNat * 2, none⟩ (.int .i64 (-9))).setCell ⟨go36, (x55_2 : Int).toNat * 2 + 1, none⟩ (.bool false))) ?hg ?ho ?hn ?hr ?_; (case ho => rfl); (case hg => rfl); (case hn => rfl); (case hr => first | (go_simp; done) | (go_simp; rfl)); intro w38 hw; have hg : wr.grownBy w38 (some go36) := (by rw [hw]; exact HP37.2); have hp_ : Kd.R k32 32 w38 w.heap.size (fun k_ => some k_ ≠ (.slice Ao18 y232.length co18 : Value).ownBlock) (.slice (some ⟨go36, 0, none⟩) x9_2.length co32) y245 := (by rw [hw, Ny245.out]; exact HP37.1); clear HP37; have n0_ := Aside0.mk (Kd.R_over' (v := (.slice (some ⟨go36, 0, none⟩) x9_2.length co32)) (by (with_reducible repeat (first | apply Kd.R_alloc | apply Kd.R_drewN | apply Kd.R_drew)); exact HO_7.out) (Kd.R_typed HO_9.out) (by decide) hg); have n1_ := Aside0.mk (Kd.R_after (v := (.slice (some ⟨go36, 0, none⟩) x9_2.length co32)) (v1 := (.slice (some ⟨go36, 0, none⟩) x9_2.length co32)) (ok := (fun _ => True)) (by (with_reducible repeat (first | apply Kd.R_alloc | apply Kd.R_drewN | apply Kd.R_drew)); exact Kd.R_mono HO_8.out (fun _ hk => ⟨trivial, hk⟩)) hg (.inl rfl)); have n2_ := Aside0.mk (hp_); have n3_ := Aside0.mk (blk_grown (g := gb222) (o := .cells #[.int .i64 a2_0, .int .i64 a2_1, .string a2_2, .int .i64 a2_3, .int .i64 a2_4, .string a2_5, .string a2_6, .int .i64 a2_7, .int .i64 a2_8, .string a2_9, .bool a2_10, .float .f64 a2_11, .string a2_12, .string a2_13, .string a2_14, .string a2_15, .int .i64 a2_16, .string a2_17, .int .i64 a2_18] 42 (0, 0)) (by (with_reducible repeat (first | refine blk_drewN ?_ _ | refine blk_drew ?_ | refine blk_alloc ?_ _)); exact BK222.out) hg (Kd.R_ne HO_9.out BK222.out (by decide))); have n4_ := Aside0.mk ((by rw [hw]; exact below_set (below_set (HB.out) GB36.out) GB36.out : Below w.heap.size w w38)); clear HO_7; clear HO_8; clear HO_9; clear BK222; clear HB; have HO_7 := n0_; have HO_8 := n1_; have HO_9 := n2_; have BK222 := n3_; have HB := n4_; clear n0_ n1_ n2_ n3_ n4_; clear hg hw hp_))
                      (try simp only [← hl9_2])
                      go_roundg k2
                      case measure => have := HJ7.out; have := HK2.out; omega
                      case rel => exact ⟨(y245), (wrap64 (x55_2 + 1)), (by first | rfl | (simp; done) | (simp [*]; done)), H', ⟨by have := HJ7.out; have := HK2.out; omega⟩, ⟨by (try simp only [hl9_2]); (with_reducible repeat (first | apply Kd.R_alloc | apply Kd.R_drewN | apply Kd.R_drew)); exact HO_7.out⟩, ⟨by (try simp only [hl9_2]); (with_reducible repeat (first | apply Kd.R_alloc | apply Kd.R_drewN | apply Kd.R_drew)); exact Kd.R_mono HO_8.out (fun _ hk => hk.2)⟩, ⟨by (try simp only [hl9_2]); (with_reducible repeat (first | apply Kd.R_alloc | apply Kd.R_drewN | apply Kd.R_drew)); exact HO_9.out⟩, ⟨by (try simp only [hl9_2]); (with_reducible repeat (first | refine blk_drewN ?_ _ | refine blk_drew ?_ | refine blk_alloc ?_ _)); exact BK222.out⟩, ⟨by repeat (first | (with_reducible first | exact HB.out | apply below_alloc | apply pw_below_drewN | apply below_drew1 | refine below_set ?_ GE222.out) | exact HB.out)⟩⟩
                    · rw [if_neg c35] at H
                      exact absurd H (by simp)
                  · rw [if_neg c34] at H
                    exact absurd H (by simp)
                · rw [if_neg c33] at H
                  have c33b0 : decide (x55_2 < (t235.length : Int)) = false := decide_eq_false c33
                  (try (have c33b1 : decide (x55_2 < (x9_2.length : Int)) = false := by rw [← hl9_2]; exact c33b0))
                  clear c33
                  replace H := Option.bind_eq_some_iff.mp H
                  obtain ⟨t246, A390, H⟩ := H
                  replace H : (if t246 = true then ((sojournlaw15_sameDuties.f k2 l0 y226).bind fun t247 => (some t247)) else (some false)) = some r := H
                  have A39 := Aside0.mk A390
                  clear A390
                  by_cases c40 : t246 = true
                  · subst c40
                    have H1 : ((sojournlaw15_sameDuties.f k2 l0 y226).bind fun t247 => (some t247)) = some r := by rw [if_pos rfl] at H; exact H
                    clear H
                    have H := H1
                    clear H1
                    replace H := Option.bind_eq_some_iff.mp H
                    obtain ⟨t247, A410, H⟩ := H
                    replace H : (some t247) = some r := H
                    have A41 := Aside0.mk A410
                    clear A410
                    obtain rfl := Option.some.inj H
                    go_wp2_with (first | ((with_reducible refine gate_callee (f := 15) rfl ?_); refine goesL_ (some 65) rfl rfl Try.func15 (by kernel_rfl) rfl #[.slice A1 l1.length c1, .slice Ao18 y232.length co18] rfl (by (try simp only [List.map_toArray, List.map_cons, List.map_nil]); first | done | rfl | (simp only [List.length_drop, List.length_take]; rfl)) ?_; (with_reducible refine (sojournref15_Same.calls k2 _ _ l1 _ _ y232 true _ ?side1 ?side2 ?side3 ?side4 A39.out).mono ?_); (case side1 => repeat (first | exact (Kd.C_below HR1.out HB.out) | (with_reducible refine Kd.C_alloc ?_ _) | (with_reducible refine Kd.C_drewN ?_ _) | (with_reducible refine Kd.C_drew ?_))); (case side2 => exact HC1.out); (case side3 => repeat (first | exact (Kd.R_reads' HO_8.out).2.2 | (with_reducible refine Kd.C_alloc ?_ _) | (with_reducible refine Kd.C_drewN ?_ _) | (with_reducible refine Kd.C_drew ?_))); (case side4 => exact (Kd.R_reads' HO_8.out).2.1); rintro e w' ⟨rfl, ⟨nd, rfl⟩⟩; refine ⟨_, rfl, ?_⟩) | (go_at_call 14; (with_reducible refine (sojournlaw15_sameDuties.calls k2 _ _ l0 _ _ y226 t247 _ ?side1 ?side2 ?side3 ?side4 A41.out).mono ?_); (case side1 => repeat (first | exact (Kd.C_below HR0.out (by repeat (first | (with_reducible first | exact HB.out | apply below_alloc | apply pw_below_drewN | apply below_drew1 | refine below_set ?_ GE222.out) | exact HB.out))) | (with_reducible refine Kd.C_alloc ?_ _) | (with_reducible refine Kd.C_drewN ?_ _) | (with_reducible refine Kd.C_drew ?_))); (case side2 => exact HC0.out); (case side3 => repeat (first | exact (Kd.R_reads' HO_7.out).2.2 | (with_reducible refine Kd.C_alloc ?_ _) | (with_reducible refine Kd.C_drewN ?_ _) | (with_reducible refine Kd.C_drew ?_))); (case side4 => exact (Kd.R_reads' HO_7.out).2.1); rintro e w' ⟨rfl, ⟨nd, rfl⟩⟩))
                    go_ret
                    exact ⟨by first | rfl | (simp [errW_none, errW_some] <;> rfl) | (simp [*, errW_none, errW_some] <;> rfl), by repeat (first | (with_reducible first | exact HB.out | apply below_alloc | apply pw_below_drewN | apply below_drew1 | refine below_set ?_ GE222.out) | exact HB.out)⟩
                  · replace c40 := Bool.eq_false_iff.mpr c40
                    subst c40
                    have H1 : (some false) = some r := by rw [if_neg (show ¬ (false = true) by decide)] at H; exact H
                    clear H
                    have H := H1
                    clear H1
                    obtain rfl := Option.some.inj H
                    go_wp2_with (first | ((with_reducible refine gate_callee (f := 15) rfl ?_); refine goesL_ (some 65) rfl rfl Try.func15 (by kernel_rfl) rfl #[.slice A1 l1.length c1, .slice Ao18 y232.length co18] rfl (by (try simp only [List.map_toArray, List.map_cons, List.map_nil]); first | done | rfl | (simp only [List.length_drop, List.length_take]; rfl)) ?_; (with_reducible refine (sojournref15_Same.calls k2 _ _ l1 _ _ y232 false _ ?side1 ?side2 ?side3 ?side4 A39.out).mono ?_); (case side1 => repeat (first | exact (Kd.C_below HR1.out HB.out) | (with_reducible refine Kd.C_alloc ?_ _) | (with_reducible refine Kd.C_drewN ?_ _) | (with_reducible refine Kd.C_drew ?_))); (case side2 => exact HC1.out); (case side3 => repeat (first | exact (Kd.R_reads' HO_8.out).2.2 | (with_reducible refine Kd.C_alloc ?_ _) | (with_reducible refine Kd.C_drewN ?_ _) | (with_reducible refine Kd.C_drew ?_))); (case side4 => exact (Kd.R_reads' HO_8.out).2.1); rintro e w' ⟨rfl, ⟨nd, rfl⟩⟩; refine ⟨_, rfl, ?_⟩))
                    go_ret
                    exact ⟨by first | rfl | (simp [errW_none, errW_some] <;> rfl) | (simp [*, errW_none, errW_some] <;> rfl), by repeat (first | (with_reducible first | exact HB.out | apply below_alloc | apply pw_below_drewN | apply below_drew1 | refine below_set ?_ GE222.out) | exact HB.out)⟩
    · rw [if_neg c5] at H
      exact absurd H (by simp)
  · rw [if_neg c4] at H
    exact absurd H (by simp)

end Go.Proofs.Ytgphdeelangkfaa.PDuty
