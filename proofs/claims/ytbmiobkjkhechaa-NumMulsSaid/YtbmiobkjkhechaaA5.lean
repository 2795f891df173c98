import Derived.Test.YtbmiobkjkhechaaA3
import Derived.Test.YtbmiobkjkhechaaA4
import Derived.Deep.RegionWith
import Derived.Lib.Hide
import Derived.Deep.RegionHeld3
namespace Go.Proofs.Ytbmiobkjkhechaa.Hand
open Go.RowKit Go.Proofs.YtbmiobkjkhechaaW.PrintWords Go.Proofs.YtbmiobkjkhechaaW.PrintLast Go.Proofs.YtbmiobkjkhechaaPlain
set_option linter.unusedVariables false
set_option linter.unusedSimpArgs false
attribute [local go_sem] setCell_drewN
@[local simp, local go_sem] theorem ne2 (n : Nat) : (n = n + 1 + 1) ↔ False := iff_false_intro (by omega)
@[local simp, local go_sem] theorem ne2' (n : Nat) : (n + 1 + 1 = n) ↔ False := iff_false_intro (by omega)
theorem bcell {W w1 : World} (hb : Below W.heap.size W w1) : (∀ b o, b < W.heap.size → w1.cell? ⟨b, o, none⟩ = W.cell? ⟨b, o, none⟩) ∧ (∀ b o, b < W.heap.size → w1.frozen? ⟨b, o, none⟩ = W.frozen? ⟨b, o, none⟩) :=
  ⟨fun b o h => hb.cell (p := ⟨b, o, none⟩) h, fun b o h => hb.frozen (p := ⟨b, o, none⟩) h⟩
set_option maxRecDepth 100000 in
set_option maxHeartbeats 2000000 in
theorem sum_same (p : Bool) (x0 x1 x2 x3 y0 y1 y2 y3 z0 z1 z2 z3 : Int) (w : World) (hp : ∀ W, Calls Try.prog 27 #[ar x0 x1 x2 x3, ar y0 y1 y2 y3] W fun e w' => e = .returned (ar z0 z1 z2 z3) ∧ Below W.heap.size W w') :
    Calls Try.prog 22 #[wd p x0 x1 x2 x3, wd p y0 y1 y2 y3] w fun e w' => e = .returned (wd p z0 z1 z2 z3) ∧ Below w.heap.size w w' := by
  unfold wd
  unfold ar at hp
  have HP := Lib.hid hp
  clear hp
  go_enter Try.func22, Try.ntmps22
  go_wp2_with fail
  go_region_held3 (fun w' => w'.cell? ⟨w.heap.size, 0, none⟩ = some (.bool p) ∧ w'.cell? ⟨w.heap.size, 1, none⟩ = some (.int .i64 x0) ∧ w'.cell? ⟨w.heap.size, 2, none⟩ = some (.int .i64 x1) ∧ w'.cell? ⟨w.heap.size, 3, none⟩ = some (.int .i64 x2) ∧ w'.cell? ⟨w.heap.size, 4, none⟩ = some (.int .i64 x3) ∧ w'.cell? ⟨w.heap.size + 1, 0, none⟩ = some (.bool p) ∧ w'.cell? ⟨w.heap.size + 1, 1, none⟩ = some (.int .i64 y0) ∧ w'.cell? ⟨w.heap.size + 1, 2, none⟩ = some (.int .i64 y1) ∧ w'.cell? ⟨w.heap.size + 1, 3, none⟩ = some (.int .i64 y2) ∧ w'.cell? ⟨w.heap.size + 1, 4, none⟩ = some (.int .i64 y3)) (go_keep)
    (first | (go_at_call 27; refine (HP.out _).mono ?_; rintro e w2 ⟨rfl, hb2⟩; obtain ⟨hd, hg⟩ := bcell hb2; have hd0 := fun o => hd w.heap.size o (by simp; try omega); have hd1 := fun o => hd (w.heap.size + 1) o (by simp; try omega); have hd2 := fun o => hd (w.heap.size + 1 + 1) o (by simp; try omega); have hg2 := fun o => hg (w.heap.size + 1 + 1) o (by simp; try omega); have HB2 := Aside0.mk hb2; clear hb2 hd hg))
  go_wp2
  refine bodyPost_ret (v := wd p z0 z1 z2 z3) ?_ rfl ⟨rfl, ?_⟩
  · simp [results, Try.results22, go_sem, wd, hd2]
    try rfl
  · have hz := HB2.out.size
    simp at hz
    repeat (first | (with_reducible refine Below.setCell ?_ (by simp; omega) _) | (with_reducible refine pw_below_drewN ?_ _))
    refine Below.trans ?_ (HB2.out.mono (by simp; try omega))
    repeat (first | (with_reducible exact Below.refl _ _) | (with_reducible exact HB1.out) | (with_reducible refine Below.setCell ?_ (by first | (simp; done) | (simp; omega)) _) | (with_reducible refine Below.alloc ?_ (by first | (simp; done) | (simp; omega)) _) | (with_reducible refine pw_below_drewN ?_ _) | (with_reducible refine Below.drew ?_))
set_option maxRecDepth 100000 in
set_option maxHeartbeats 2000000 in
theorem sum_ge (p : Bool) (x0 x1 x2 x3 y0 y1 y2 y3 z0 z1 z2 z3 : Int) (w : World) (hcm : 0 ≤ cmpV x0 x1 x2 x3 y0 y1 y2 y3) (hp : ∀ W, Calls Try.prog 29 #[ar x0 x1 x2 x3, ar y0 y1 y2 y3] W fun e w' => e = .returned (ar z0 z1 z2 z3) ∧ Below W.heap.size W w') :
    Calls Try.prog 22 #[wd p x0 x1 x2 x3, wd (!p) y0 y1 y2 y3] w fun e w' => e = .returned (wd p z0 z1 z2 z3) ∧ Below w.heap.size w w' := by
  unfold wd
  unfold ar at hp
  have HP := Lib.hid hp
  clear hp
  have hcp := fun W => cmp_calls x0 x1 x2 x3 y0 y1 y2 y3 W
  unfold ar at hcp
  have HCP := Lib.hid hcp
  clear hcp
  have hq : (p == !p) = false := by cases p <;> rfl
  go_enter Try.func22, Try.ntmps22
  go_wp2_with fail
  refine (HCP.out _).mono ?_
  rintro e w1 ⟨rfl, hb⟩
  obtain ⟨hc, hf⟩ := bcell hb
  have hz1 : w.heap.size + 1 + 1 < w1.heap.size := by
    have h9 := hb.size
    simp at h9
    omega
  have hc0 := fun o => hc w.heap.size o (by simp; try omega)
  have hc1 := fun o => hc (w.heap.size + 1) o (by simp; try omega)
  have hc2 := fun o => hc (w.heap.size + 1 + 1) o (by simp; try omega)
  have hf2 := fun o => hf (w.heap.size + 1 + 1) o (by simp; try omega)
  have HB1 := Aside0.mk hb
  clear hb hc hf
  go_wp2_with fail
  go_region_held3 (fun w' => w'.cell? ⟨w.heap.size, 0, none⟩ = some (.bool p) ∧ w'.cell? ⟨w.heap.size, 1, none⟩ = some (.int .i64 x0) ∧ w'.cell? ⟨w.heap.size, 2, none⟩ = some (.int .i64 x1) ∧ w'.cell? ⟨w.heap.size, 3, none⟩ = some (.int .i64 x2) ∧ w'.cell? ⟨w.heap.size, 4, none⟩ = some (.int .i64 x3) ∧ w'.cell? ⟨w.heap.size + 1, 0, none⟩ = some (.bool (!p)) ∧ w'.cell? ⟨w.heap.size + 1, 1, none⟩ = some (.int .i64 y0) ∧ w'.cell? ⟨w.heap.size + 1, 2, none⟩ = some (.int .i64 y1) ∧ w'.cell? ⟨w.heap.size + 1, 3, none⟩ = some (.int .i64 y2) ∧ w'.cell? ⟨w.heap.size + 1, 4, none⟩ = some (.int .i64 y3)) (go_keep)
    (first | (go_at_call 29; refine (HP.out _).mono ?_; rintro e w2 ⟨rfl, hb2⟩; obtain ⟨hd, hg⟩ := bcell hb2; have hd0 := fun o => hd w.heap.size o (by simp; try omega); have hd1 := fun o => hd (w.heap.size + 1) o (by simp; try omega); have hd2 := fun o => hd (w.heap.size + 1 + 1) o (by simp; try omega); have hg2 := fun o => hg (w.heap.size + 1 + 1) o (by simp; try omega); have HB2 := Aside0.mk hb2; clear hb2 hd hg))
  go_wp2
  refine bodyPost_ret (v := wd p z0 z1 z2 z3) ?_ rfl ⟨rfl, ?_⟩
  · simp [results, Try.results22, go_sem, wd, hd2, hc2]
    try rfl
  · have hz := HB2.out.size
    simp at hz
    repeat (first | (with_reducible refine Below.setCell ?_ (by simp; omega) _) | (with_reducible refine pw_below_drewN ?_ _))
    refine Below.trans (b := w1.drew) (Below.drew ?_) (HB2.out.mono (by show w.heap.size ≤ w1.heap.size; omega))
    refine Below.trans ?_ (HB1.out.mono (by simp; try omega))
    repeat (first | (with_reducible exact Below.refl _ _) | (with_reducible exact HB1.out) | (with_reducible refine Below.setCell ?_ (by first | (simp; done) | (simp; omega)) _) | (with_reducible refine Below.alloc ?_ (by first | (simp; done) | (simp; omega)) _) | (with_reducible refine pw_below_drewN ?_ _) | (with_reducible refine Below.drew ?_))
set_option maxRecDepth 100000 in
set_option maxHeartbeats 2000000 in
theorem sum_lt (p : Bool) (x0 x1 x2 x3 y0 y1 y2 y3 z0 z1 z2 z3 : Int) (w : World) (hcm : cmpV x0 x1 x2 x3 y0 y1 y2 y3 < 0) (hp : ∀ W, Calls Try.prog 29 #[ar y0 y1 y2 y3, ar x0 x1 x2 x3] W fun e w' => e = .returned (ar z0 z1 z2 z3) ∧ Below W.heap.size W w') :
    Calls Try.prog 22 #[wd p x0 x1 x2 x3, wd (!p) y0 y1 y2 y3] w fun e w' => e = .returned (wd (!p) z0 z1 z2 z3) ∧ Below w.heap.size w w' := by
  unfold wd
  unfold ar at hp
  have HP := Lib.hid hp
  clear hp
  have hcp := fun W => cmp_calls x0 x1 x2 x3 y0 y1 y2 y3 W
  unfold ar at hcp
  have HCP := Lib.hid hcp
  clear hcp
  have hq : (p == !p) = false := by cases p <;> rfl
  go_enter Try.func22, Try.ntmps22
  go_wp2_with fail
  refine (HCP.out _).mono ?_
  rintro e w1 ⟨rfl, hb⟩
  obtain ⟨hc, hf⟩ := bcell hb
  have hz1 : w.heap.size + 1 + 1 < w1.heap.size := by
    have h9 := hb.size
    simp at h9
    omega
  have hc0 := fun o => hc w.heap.size o (by simp; try omega)
  have hc1 := fun o => hc (w.heap.size + 1) o (by simp; try omega)
  have hc2 := fun o => hc (w.heap.size + 1 + 1) o (by simp; try omega)
  have hf2 := fun o => hf (w.heap.size + 1 + 1) o (by simp; try omega)
  have HB1 := Aside0.mk hb
  clear hb hc hf
  go_wp2_with fail
  go_region_held3 (fun w' => w'.cell? ⟨w.heap.size, 0, none⟩ = some (.bool p) ∧ w'.cell? ⟨w.heap.size, 1, none⟩ = some (.int .i64 x0) ∧ w'.cell? ⟨w.heap.size, 2, none⟩ = some (.int .i64 x1) ∧ w'.cell? ⟨w.heap.size, 3, none⟩ = some (.int .i64 x2) ∧ w'.cell? ⟨w.heap.size, 4, none⟩ = some (.int .i64 x3) ∧ w'.cell? ⟨w.heap.size + 1, 0, none⟩ = some (.bool (!p)) ∧ w'.cell? ⟨w.heap.size + 1, 1, none⟩ = some (.int .i64 y0) ∧ w'.cell? ⟨w.heap.size + 1, 2, none⟩ = some (.int .i64 y1) ∧ w'.cell? ⟨w.heap.size + 1, 3, none⟩ = some (.int .i64 y2) ∧ w'.cell? ⟨w.heap.size + 1, 4, none⟩ = some (.int .i64 y3)) (go_keep)
    (first | (go_at_call 29; refine (HP.out _).mono ?_; rintro e w2 ⟨rfl, hb2⟩; obtain ⟨hd, hg⟩ := bcell hb2; have hd0 := fun o => hd w.heap.size o (by simp; try omega); have hd1 := fun o => hd (w.heap.size + 1) o (by simp; try omega); have hd2 := fun o => hd (w.heap.size + 1 + 1) o (by simp; try omega); have hg2 := fun o => hg (w.heap.size + 1 + 1) o (by simp; try omega); have HB2 := Aside0.mk hb2; clear hb2 hd hg))
  go_wp2
  refine bodyPost_ret (v := wd (!p) z0 z1 z2 z3) ?_ rfl ⟨rfl, ?_⟩
  · simp [results, Try.results22, go_sem, wd, hd2, hc2]
    try rfl
  · have hz := HB2.out.size
    simp at hz
    repeat (first | (with_reducible refine Below.setCell ?_ (by simp; omega) _) | (with_reducible refine pw_below_drewN ?_ _))
    refine Below.trans (b := w1.drew) (Below.drew ?_) (HB2.out.mono (by show w.heap.size ≤ w1.heap.size; omega))
    refine Below.trans ?_ (HB1.out.mono (by simp; try omega))
    repeat (first | (with_reducible exact Below.refl _ _) | (with_reducible exact HB1.out) | (with_reducible refine Below.setCell ?_ (by first | (simp; done) | (simp; omega)) _) | (with_reducible refine Below.alloc ?_ (by first | (simp; done) | (simp; omega)) _) | (with_reducible refine pw_below_drewN ?_ _) | (with_reducible refine Below.drew ?_))
end Go.Proofs.Ytbmiobkjkhechaa.Hand
