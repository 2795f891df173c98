/-
  Contracts of functions that a statement of this seat reaches (joined texts: H27).
-/
import Derived.Test.YtagifiakjniedaaME
section
namespace Go.Proofs.Ytagifiakjniedaa.PTab
open Go.RowKit Go.Proofs.YtagifiakjniedaaW.PrintWords Go.Proofs.YtagifiakjniedaaW.PrintLast
set_option linter.unusedVariables false
set_option linter.unusedSimpArgs false
theorem Loadref_calls (L : List S28) (hs : ∀ x ∈ L, Short x) (A0 : Option Addr) (c0 : Nat) (w : World) (hr : Kd.C k28 w A0 L.length L) (hc : L.length ≤ c0) :
    Calls Try.prog 28 #[.slice A0 L.length c0] w fun e w' => e = .returned (.int .i64 (loadV L)) ∧ Below w.heap.size w w' := by
  obtain ⟨K, hK⟩ := Load_tells L hs
  exact sojournref16_Load.calls K A0 c0 L _ w hr hc (hK K (Nat.le_refl _))
theorem good_of_load {L : List S28} (h : loadV L = 0) : Good L := by
  unfold loadV at h
  split at h
  · cases h
  · exact ⟨by omega, firstE_ok.1 h⟩
theorem B28.short {x : S28} (h : B28 x) : Short x := ⟨h.1, h.2.1, h.2.2.1⟩
set_option maxRecDepth 100000 in
set_option maxHeartbeats 2000000 in
theorem tableLoads_walk (A0 : Option Addr) (c0 : Nat) (l0 : List S28) (A1 : Option Addr) (c1 : Nat) (l1 : List S44) (W : World) (hr0 : Kd.C k28 W A0 l0.length l0) (hc0 : l0.length ≤ c0) (b0 : l0.length * Try.prog.bytesOf 28 ≤ 140737488351232 ∧ ∀ y ∈ l0, B28 y) (hr1 : Kd.C k44 W A1 l1.length l1) (hc1 : l1.length ≤ c1) (b1 : l1.length * Try.prog.bytesOf 44 ≤ 140737488351232 ∧ ∀ y ∈ l1, B44 y) : Calls Try.prog 8 #[.slice A0 l0.length c0, .slice A1 l1.length c1] W fun e W' => e = .returned (.bool true) ∧ Below W.heap.size W W' := by
  have hsh : ∀ x ∈ l0, Short x := fun x hx => (b0.2 x hx).short
  have HL := Lib.hid (fun w (hb : Below W.heap.size W w) => load_calls A0 c0 l0 w (Kd.C_below hr0 hb) hc0 hsh (fun h => (good_of_load h).fits))
  have HR := Lib.hid (fun w (hb : Below W.heap.size W w) => Loadref_calls l0 hsh A0 c0 w (Kd.C_below hr0 hb) hc0)
  have HV := Lib.hid (fun w (hb : Below W.heap.size W w) => (show Kd.V k28 28 w 0 (fun k => k < W.heap.size) (.slice A0 l0.length c0) l0 from Kd.V_below (Kd.V_mk hc0 (Kd.C_F heap_k28 hr0)) hb))
  have HC1 := Lib.hid hr1
  have HB1 := Lib.hid b1.2
  clear hr0 b0 hr1 b1 hsh
  by_cases hl : loadV l0 = 0
  · have HG := Lib.hid (good_of_load hl)
    rw [hl] at HR
    have HLZ := Lib.hid hl
    clear hl
    go_enter Try.func8, Try.ntmps8
    go_wp2_with fail
    refine (begun_calls W).mono ?_
    rintro e w1 ⟨g0, rfl, hT, hb⟩
    have HB := Lib.hid hb
    clear hT hb
    go_wp2_with fail
    refine (HL.out w1 HB.out).mono ?_
    rintro e w2 ⟨hb, ⟨_, g, rfl, hT⟩ | ⟨hne, _⟩⟩
    · have HB2 := Lib.hid (Below.trans HB.out (hb.mono HB.out.size))
      have HT := Lib.hid hT
      clear hb hT
      go_wp2_with fail
      refine (HR.out w2 HB2.out).mono ?_
      rintro e w3 ⟨rfl, hb⟩
      have HBB : Hid (Both W w3 (fun k => w1.heap.size ≤ k) w3 g (.slice A0 l0.length c0) l0) := Lib.hid ⟨_, _, Tb_below HT.out hb, HV.out w3 (Below.trans HB2.out (hb.mono HB2.out.size)), fun k hk h => by have := HB.out.size; omega, fun k hk => .inl hk, fun k hk => Nat.le_trans HB.out.size hk, HG.out, Below.trans HB2.out (hb.mono HB2.out.size), Kp.refl _ _⟩
      clear hb
      go_wp2_with fail
      refine (run_calls W w3 _ g A0 c0 l0 HBB.out A1 c1 l1 HC1.out hc1 HB1.out).mono ?_
      rintro e w4 ⟨rfl, hb, hk⟩
      have HE := Lib.hid hb
      clear hb hk
      go_wp2
      go_ret
      exact ⟨rfl, HE.out⟩
    · exact absurd HLZ.out hne
  · have hev : (loadV l0 == 0) = false := beq_eq_false_iff_ne.2 hl
    have hnv : (loadV l0 != 0) = true := bne_iff_ne.2 hl
    have HLZ := Lib.hid hl
    generalize hx : loadV l0 = ev at *
    clear hl hx
    go_enter Try.func8, Try.ntmps8
    go_wp2_with fail
    refine (begun_calls W).mono ?_
    rintro e w1 ⟨g0, rfl, hT, hb⟩
    have HB := Lib.hid hb
    clear hT hb
    go_wp2_with fail
    refine (HL.out w1 HB.out).mono ?_
    rintro e w2 ⟨hb, ⟨h0, g, rfl, hT⟩ | ⟨hne, rfl⟩⟩
    · exact absurd h0 HLZ.out
    · have HB2 := Lib.hid (Below.trans HB.out (hb.mono HB.out.size))
      clear hb hne
      go_wp2_with fail
      refine (HR.out w2 HB2.out).mono ?_
      rintro e w3 ⟨rfl, hb⟩
      have HB3 := Lib.hid (Below.trans HB2.out (hb.mono HB2.out.size))
      clear hb
      go_wp2
      go_ret
      exact ⟨rfl, HB3.out⟩
end Go.Proofs.Ytagifiakjniedaa.PTab
end
