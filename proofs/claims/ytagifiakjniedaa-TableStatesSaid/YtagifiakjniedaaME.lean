/-
  Contracts of functions that a statement of this seat reaches (joined texts: H22, H23, H24, H25, H26).
-/
import Derived.Test.YtagifiakjniedaaMD
import Derived.Deep.RegionWith
section
namespace Go.Proofs.Ytagifiakjniedaa.PTab
open Go.RowKit Go.Proofs.YtagifiakjniedaaW.PrintWords Go.Proofs.YtagifiakjniedaaW.PrintLast
set_option linter.unusedVariables false
set_option linter.unusedSimpArgs false
/-- The table and the reference's list, both at L', apart from each other. -/
def Stepped (w : World) (g : Nat) (okt okl : Nat → Prop) (L' : List S28) (v : Value) (w' : World) : Prop :=
  ∃ T R : Nat → Prop, Tb w' g T L' ∧ Kd.V k28 28 w' 0 R v L' ∧ (∀ k, T k → ¬ R k) ∧ (∀ k, T k → okt k ∨ w.heap.size ≤ k) ∧ (∀ k, R k → okl k ∨ w.heap.size ≤ k) ∧ Kp okt w w'
def StepPost (w : World) (g : Nat) (okt okl : Nat → Prop) (L' : List S28) (e : Ending) (w' : World) : Prop := ∃ v, e = .returned (.tuple #[v, .bool true]) ∧ Stepped w g okt okl L' v w'
/-- A call that changes nothing. -/
theorem Stepped.same {w w' : World} {g : Nat} {okt okl : Nat → Prop} {L : List S28} {v : Value} (hT : Tb w g okt L) (hV : Kd.V k28 28 w 0 okl v L) (hd : ∀ k, okt k → ¬ okl k) (hb : Below w.heap.size w w') : Stepped w g okt okl L v w' :=
  ⟨okt, okl, Tb_below hT hb, Kd.V_below hV hb, hd, fun k hk => .inl hk, fun k hk => .inl hk, Kp.of_below hb okt⟩
noncomputable def stepL (L : List S28) (o : S44) : List S28 := if o.f0 = 0 then (requestV L o.f3 o.f4 o.f5).1 else if 1 ≤ o.f0 ∧ o.f0 ≤ 5 then (leadO L o).1 else L
theorem Good.step {L : List S28} (h : Good L) (o : S44) : Good (stepL L o) := by
  unfold stepL
  split
  · exact h.request _ _ _
  · split
    · exact h.lead o ‹_›
    · exact h
theorem Requestref_calls (L : List S28) (hL : L.length ≤ 64) (s o p : ByteArray) (hs : s.size ≤ 140737488351232) (ho : o.size ≤ 140737488351232) (hp : p.size ≤ 140737488351232) (ok : Nat → Prop) (A0 : Option Addr) (c0 : Nat) (w : World) (hV : Kd.V k28 28 w 0 ok (.slice A0 L.length c0) L) :
    Calls Try.prog 41 #[.slice A0 L.length c0, .string s, .string o, .string p] w fun e w' => ∃ v, e = .returned (.tuple #[v, .int .i64 (requestV L s o p).2.1, .int .i64 (requestV L s o p).2.2]) ∧ Kd.V k28 28 w' 0 (fun k => ok k ∨ w.heap.size ≤ k) v (requestV L s o p).1 ∧ Below w.heap.size w w' := by
  obtain ⟨K, hK⟩ := Request_tells L hL s o p hs ho hp
  exact sojournref16_Request.calls K ok A0 c0 L s o p _ _ _ w hV (hK K (Nat.le_refl _))
theorem kp_cell {S : Nat → Prop} {w w1 : World} (h : Kp S w w1) {b : Nat} (hb : b < w.heap.size) (hS : ¬ S b) (o : Nat) : w1.cell? ⟨b, o, none⟩ = w.cell? ⟨b, o, none⟩ := by
  simp only [World.cell?, h.block b hb hS]
theorem kp_free {S : Nat → Prop} {w w1 : World} (h : Kp S w w1) {b : Nat} (hb : b < w.heap.size) (hS : ¬ S b) (o : Nat) : w1.frozen? ⟨b, o, none⟩ = w.frozen? ⟨b, o, none⟩ := by
  simp only [World.frozen?, h.block b hb hS]
set_option maxRecDepth 100000 in
set_option maxHeartbeats 1000000 in
theorem step_request (g : Nat) (okt okl : Nat → Prop) (L : List S28) (o : S44) (A0 : Option Addr) (c0 : Nat) (A : Option Addr) (c : Nat) (w : World) (hT : Tb w g okt L) (hV : Kd.V k28 28 w 0 okl (.slice A0 L.length c0) L) (hdis : ∀ k, okt k → ¬ okl k) (hG : Good L) (hB : B44 o) (hr : Kd.C k71 w A o.f6.length o.f6) (hc : o.f6.length ≤ c) (h0 : o.f0 = 0) :
    Calls Try.prog 25 #[.pointer (some ⟨g, 0, none⟩), .slice A0 L.length c0, .agg #[.int .i64 o.f0, .int .i64 o.f1, .int .i64 o.f2, .string o.f3, .string o.f4, .string o.f5, .slice A o.f6.length c]] w (StepPost w g okt okl (requestV L o.f3 o.f4 o.f5).1) := by
  have H1 := request_calls g (fun k => okt k ∧ k < w.heap.size) L o.f3 o.f4 o.f5 (w.alloc (.cells #[.int .i64 o.f0, .int .i64 o.f1, .int .i64 o.f2, .string o.f3, .string o.f4, .string o.f5, .slice A o.f6.length c] 44)) (Tb_below (Tb_bound hT) (below_alloc (Below.refl _ _) _)) hG.fits hB.2.2.2.1 hB.2.2.2.2.1 hB.2.2.2.2.2.1
  have H2 := fun W hW => Requestref_calls L hG.1 o.f3 o.f4 o.f5 hB.2.2.2.1 hB.2.2.2.2.1 hB.2.2.2.2.2.1 (fun k => okl k ∧ k < w.heap.size) A0 c0 W hW
  have HV := Lib.hid (Kd.V_bound hV)
  have HD := Lib.hid hdis
  have e0 : (o.f0 == 0) = true := beq_iff_eq.2 h0
  generalize requestV L o.f3 o.f4 o.f5 = Q at *
  obtain ⟨L1, a, b⟩ := Q
  have H1 := Lib.hid H1
  have H2 := Lib.hid H2
  clear hT hV hdis hG hB hr hc h0
  go_enter Try.func25, Try.ntmps25
  go_wp2_with fail
  refine (H1.out).mono ?_
  rintro e w1 ⟨rfl, hT1, hk1⟩
  have hd := fun o => kp_cell hk1 (b := w.heap.size) (by simp) (fun h => by have := h.2; omega) o
  have HT1 := Lib.hid hT1
  have HK1 := Lib.hid hk1
  clear hT1 hk1
  go_wp2_with fail
  refine (H2.out _ (Kd.V_kept (Kd.V_alloc HV.out _) HK1.out.kept (fun k hk h => HD.out k h.1 hk.1))).mono ?_
  rintro e w2 ⟨v, rfl, hV2, hb⟩
  have HV2 := Lib.hid hV2
  have HB2 := Lib.hid hb
  clear hV2 hb
  go_wp2
  go_ret2
  have hs1 := HK1.out.size
  simp at hs1
  refine ⟨v, rfl, fun k => (okt k ∧ k < w.heap.size) ∨ (w.heap.size ≤ k ∧ k < w1.heap.size), _, ?_, HV2.out, fun k hk hR => ?_, fun k hk => hk.elim (fun h => .inl h.1) (fun h => .inr h.1), fun k hk => hk.elim (fun h => .inl h.1) (fun h => .inr (by omega)), ?_⟩
  · refine Tb_below (Tb_mono (Tb_bound HT1.out) (fun k hk => ?_)) HB2.out
    rcases hk with ⟨hk | hk, hlt⟩
    · exact .inl hk
    · simp at hk
      exact .inr ⟨by omega, hlt⟩
  · rcases hk with hk | hk
    · exact hR.elim (fun h => HD.out k hk.1 h.1) (fun h => by omega)
    · exact hR.elim (fun h => by have := h.2; omega) (fun h => by omega)
  · exact (Kp.after_below (below_alloc (Below.refl _ _) _) (Kp.mono HK1.out (fun k hk => hk.1))).then_below HB2.out
set_option maxRecDepth 100000 in
set_option maxHeartbeats 1000000 in
theorem step_lead (g : Nat) (okt okl : Nat → Prop) (L : List S28) (o : S44) (A0 : Option Addr) (c0 : Nat) (A : Option Addr) (c : Nat) (w : World) (hT : Tb w g okt L) (hV : Kd.V k28 28 w 0 okl (.slice A0 L.length c0) L) (hdis : ∀ k, okt k → ¬ okl k) (hG : Good L) (hB : B44 o) (hr : Kd.C k71 w A o.f6.length o.f6) (hc : o.f6.length ≤ c) (hcl : 1 ≤ o.f0 ∧ o.f0 ≤ 5) :
    Calls Try.prog 25 #[.pointer (some ⟨g, 0, none⟩), .slice A0 L.length c0, .agg #[.int .i64 o.f0, .int .i64 o.f1, .int .i64 o.f2, .string o.f3, .string o.f4, .string o.f5, .slice A o.f6.length c]] w (StepPost w g okt okl (leadO L o).1) := by
  have hn : o.f6.length * 16 ≤ 140737488351232 := hB.2.2.2.2.2.2.1
  have hbx : Below w.heap.size w (w.alloc (.cells #[.int .i64 o.f0, .int .i64 o.f1, .int .i64 o.f2, .string o.f3, .string o.f4, .string o.f5, .slice A o.f6.length c] 44)) := below_alloc (Below.refl _ _) _
  have H2 := reflead L (fun k => okl k ∧ k < w.heap.size) o A0 c0 A c (w.alloc (.cells #[.int .i64 o.f0, .int .i64 o.f1, .int .i64 o.f2, .string o.f3, .string o.f4, .string o.f5, .slice A o.f6.length c] 44)) (Kd.V_below (Kd.V_bound hV) hbx) hG (Kd.C_below hr hbx) hc hn hcl
  have H1 := fun W (hW : Below w.heap.size w W) => lawlead g (fun k => okt k ∧ k < w.heap.size) L o A c W (Tb_below (Tb_bound hT) hW) hG.fits (Kd.C_below hr hW) hc
  have HD := Lib.hid hdis
  have e0 : (o.f0 == 0) = false := beq_eq_false_iff_ne.2 (by omega)
  have e1 : decide (1 ≤ o.f0) = true := decide_eq_true hcl.1
  have e5 : decide (o.f0 ≤ 5) = true := decide_eq_true hcl.2
  generalize leadO L o = Q at *
  obtain ⟨L1, a⟩ := Q
  have H1 := Lib.hid H1
  have H2 := Lib.hid H2
  have HBX := Lib.hid hbx
  clear hT hV hdis hG hB hr hc hcl hbx
  go_enter Try.func25, Try.ntmps25
  go_wp2_with fail
  refine (H2.out).mono ?_
  rintro e w1 ⟨v, rfl, hV1, hb⟩
  obtain ⟨hcc, hff⟩ := bcell hb
  have hd := fun o => hcc w.heap.size o (by simp)
  have HV1 := Lib.hid hV1
  have HB1 := Lib.hid (below_step HBX.out hb)
  have HS1 := Lib.hid hb.size
  clear hV1 hb hcc hff
  go_wp2_with fail
  refine (H1.out w1 HB1.out).mono ?_
  rintro e w2 ⟨rfl, hT2, hk2⟩
  have HT2 := Lib.hid hT2
  have HK2 := Lib.hid hk2
  clear hT2 hk2
  go_wp2
  go_ret2
  have hs1 := HS1.out
  simp at hs1
  refine ⟨v, rfl, _, fun k => (okl k ∧ k < w.heap.size) ∨ (w.heap.size ≤ k ∧ k < w1.heap.size), HT2.out, ?_, fun k hk hR => ?_, fun k hk => hk.elim (fun h => .inl h.1) (fun h => .inr (by omega)), fun k hk => hk.elim (fun h => .inl h.1) (fun h => .inr h.1), ?_⟩
  · refine Kd.V_kept (S := fun k => okt k ∧ k < w.heap.size) (Kd.V_mono (Kd.V_bound HV1.out) (fun k hk => ?_)) HK2.out.kept (fun k hk h => ?_)
    · rcases hk with ⟨hk | hk, hlt⟩
      · exact .inl hk
      · simp at hk
        exact .inr ⟨by omega, hlt⟩
    · exact hk.elim (fun h2 => HD.out k h.1 h2.1) (fun h2 => by have := h.2; omega)
  · rcases hk with hk | hk
    · exact hR.elim (fun h => HD.out k hk.1 h.1) (fun h => by have := hk.2; omega)
    · exact hR.elim (fun h => by have := h.2; omega) (fun h => by omega)
  · exact (Kp.after_below HB1.out (Kp.mono HK2.out (fun k hk => hk.1)))
end Go.Proofs.Ytagifiakjniedaa.PTab
end
section
namespace Go.Proofs.Ytagifiakjniedaa.PTab
open Go.RowKit Go.Proofs.YtagifiakjniedaaW.PrintWords Go.Proofs.YtagifiakjniedaaW.PrintLast
set_option linter.unusedVariables false
set_option linter.unusedSimpArgs false
theorem Alike_calls (x : S28) (hx : x.f6.length ≤ 4) (A c A' c') (w : World) (h1 : Kd.C k71 w A x.f6.length x.f6) (c1 : x.f6.length ≤ c) (h2 : Kd.C k71 w A' x.f6.length x.f6) (c2 : x.f6.length ≤ c') :
    Calls Try.prog 18 #[.agg #[.string x.f0, .string x.f1, .string x.f2, .int .i64 x.f3, .int .i64 x.f4, .int .i64 x.f5, .slice A x.f6.length c], .agg #[.string x.f0, .string x.f1, .string x.f2, .int .i64 x.f3, .int .i64 x.f4, .int .i64 x.f5, .slice A' x.f6.length c']] w fun e w' => e = .returned (.bool true) ∧ Below w.heap.size w w' :=
  sojournref16_Alike.calls 6 x.f0 x.f1 x.f2 x.f3 x.f4 x.f5 A c x.f6 x.f0 x.f1 x.f2 x.f3 x.f4 x.f5 A' c' x.f6 true w h1 c1 h2 c2 (alike_self x (by omega) 6 (by omega))
theorem Same_calls (L : List S28) (hF : Fits L) (A c A' c') (w : World) (h1 : Kd.C k28 w A L.length L) (c1 : L.length ≤ c) (h2 : Kd.C k28 w A' L.length L) (c2 : L.length ≤ c') :
    Calls Try.prog 19 #[.slice A L.length c, .slice A' L.length c'] w fun e w' => e = .returned (.bool true) ∧ Below w.heap.size w w' :=
  sojournref16_Same.calls 100 A c L A' c' L true w h1 c1 h2 c2 (same_self L hF)
theorem in2_calls (g : Nat) (ok : Nat → Prop) (L : List S28) (st : Int) (w : World) (hT : Tb w g ok L) (hL : L.length ≤ 64) :
    Calls Try.prog 22 #[.pointer (some ⟨g, 0, none⟩), .int .i64 st] w fun e w' => ∃ A c, e = .returned (.slice A (inK L st L.length).length c) ∧ (inK L st L.length).length ≤ c ∧ Kd.C (Kd.int .i64) w' A (inK L st L.length).length (inK L st L.length) ∧ Below w.heap.size w w' :=
  (in_calls g ok L st w hT hL).mono (fun e w' h => by
    obtain ⟨v, he, hR, hb⟩ := h
    obtain ⟨A, c, rfl, h1, h2⟩ := Kd.R_reads hR
    exact ⟨A, c, he, h1, h2, hb⟩)
theorem refin_calls (L : List S28) (hL : L.length ≤ 64) (st : Int) (A0 : Option Addr) (c0 : Nat) (w : World) (hr : Kd.C k28 w A0 L.length L) (hc : L.length ≤ c0) :
    Calls Try.prog 44 #[.slice A0 L.length c0, .int .i64 st] w fun e w' => ∃ A c, e = .returned (.slice A (inK L st L.length).length c) ∧ (inK L st L.length).length ≤ c ∧ Kd.C (Kd.int .i64) w' A (inK L st L.length).length (inK L st L.length) ∧ Below w.heap.size w w' :=
  (sojournref16_In.calls 65 A0 c0 L st _ w hr hc (In_tells L hL st 65 (Nat.le_refl _))).mono (fun e w' h => by
    obtain ⟨v, he, hR, hb⟩ := h
    obtain ⟨A, c, rfl, h1, h2⟩ := Kd.R_reads hR
    exact ⟨A, c, he, h1, h2, hb⟩)
theorem ids_calls (l : List Int) (hl : l.length ≤ 64) (A c A' c') (w : World) (h1 : Kd.C (Kd.int .i64) w A l.length l) (c1 : l.length ≤ c) (h2 : Kd.C (Kd.int .i64) w A' l.length l) (c2 : l.length ≤ c') :
    Calls Try.prog 43 #[.slice A l.length c, .slice A' l.length c'] w fun e w' => e = .returned (.bool true) ∧ Below w.heap.size w w' :=
  (sojournlaw16_ids.calls (l.length + 1) A c l A' c' l true w h1 c1 h2 c2 (ids_self l (by omega))).mono (fun e w' h => ⟨h.1, h.2.below⟩)
set_option maxRecDepth 100000 in
set_option maxHeartbeats 1000000 in
theorem step_len (g : Nat) (okt okl : Nat → Prop) (L : List S28) (o : S44) (A0 : Option Addr) (c0 : Nat) (A : Option Addr) (c : Nat) (w : World) (hT : Tb w g okt L) (hV : Kd.V k28 28 w 0 okl (.slice A0 L.length c0) L) (hdis : ∀ k, okt k → ¬ okl k) (hG : Good L) (h8 : o.f0 = 8) :
    Calls Try.prog 25 #[.pointer (some ⟨g, 0, none⟩), .slice A0 L.length c0, .agg #[.int .i64 o.f0, .int .i64 o.f1, .int .i64 o.f2, .string o.f3, .string o.f4, .string o.f5, .slice A o.f6.length c]] w (StepPost w g okt okl L) := by
  have H1 := Lib.hid (len_calls g okt L (w.alloc (.cells #[.int .i64 o.f0, .int .i64 o.f1, .int .i64 o.f2, .string o.f3, .string o.f4, .string o.f5, .slice A o.f6.length c] 44)) (Tb_below hT (below_alloc (Below.refl _ _) _)))
  have HS := Lib.hid (fun w' (hb : Below w.heap.size w w') => Stepped.same hT hV hdis hb)
  have hl := hG.1
  have e0 : (o.f0 == 0) = false := beq_eq_false_iff_ne.2 (by omega)
  have e1 : decide (1 ≤ o.f0) = true := decide_eq_true (by omega)
  have e5 : decide (o.f0 ≤ 5) = false := decide_eq_false (by omega)
  have e6 : (o.f0 == 6) = false := beq_eq_false_iff_ne.2 (by omega)
  have e7 : (o.f0 == 7) = false := beq_eq_false_iff_ne.2 (by omega)
  have e8 : (o.f0 == 8) = true := beq_iff_eq.2 h8
  clear hT hV hdis hG h8
  go_enter Try.func25, Try.ntmps25
  go_wp2_with fail
  refine (H1.out).mono ?_
  rintro e w1 ⟨rfl, rfl⟩
  go_wp2
  go_ret2
  exact ⟨_, rfl, HS.out _ (below_alloc (Below.refl _ _) _)⟩
set_option maxRecDepth 100000 in
set_option maxHeartbeats 1000000 in
theorem step_list (g : Nat) (okt okl : Nat → Prop) (L : List S28) (o : S44) (A0 : Option Addr) (c0 : Nat) (A : Option Addr) (c : Nat) (w : World) (hT : Tb w g okt L) (hV : Kd.V k28 28 w 0 okl (.slice A0 L.length c0) L) (hdis : ∀ k, okt k → ¬ okl k) (hG : Good L) (h0 : ¬ (0 ≤ o.f0 ∧ o.f0 ≤ 8)) :
    Calls Try.prog 25 #[.pointer (some ⟨g, 0, none⟩), .slice A0 L.length c0, .agg #[.int .i64 o.f0, .int .i64 o.f1, .int .i64 o.f2, .string o.f3, .string o.f4, .string o.f5, .slice A o.f6.length c]] w (StepPost w g okt okl L) := by
  have H1 := Lib.hid (list_calls g okt L (w.alloc (.cells #[.int .i64 o.f0, .int .i64 o.f1, .int .i64 o.f2, .string o.f3, .string o.f4, .string o.f5, .slice A o.f6.length c] 44)) (Tb_below hT (below_alloc (Below.refl _ _) _)) hG.fits)
  have HS := Lib.hid (fun w' (hb : Below w.heap.size w w') => Stepped.same hT hV hdis hb)
  have HC := Lib.hid (fun W (hb : Below w.heap.size w W) => (Kd.V_reads' (Kd.V_below hV hb)).2.2)
  have hcl := (Kd.V_reads' hV).2.1
  have HG := Lib.hid hG.fits
  have hl := hG.1
  have e0 : (o.f0 == 0) = false := beq_eq_false_iff_ne.2 (by omega)
  have e6 : (o.f0 == 6) = false := beq_eq_false_iff_ne.2 (by omega)
  have e7 : (o.f0 == 7) = false := beq_eq_false_iff_ne.2 (by omega)
  have e8 : (o.f0 == 8) = false := beq_eq_false_iff_ne.2 (by omega)
  clear hT hV hdis hG
  rcases (show o.f0 < 1 ∨ (1 ≤ o.f0 ∧ ¬ o.f0 ≤ 5) by omega) with h1 | ⟨h1, h5⟩
  · have e1 : decide (1 ≤ o.f0) = false := decide_eq_false (by omega)
    clear h0 h1
    go_enter Try.func25, Try.ntmps25
    go_wp2_with fail
    refine (H1.out).mono ?_
    rintro e w1 ⟨A', rfl, hN, hb⟩
    have HN := Lib.hid hN
    have HB := Lib.hid (below_step (w := w) (below_alloc (Below.refl _ _) _) hb)
    clear hN hb
    go_wp2_with fail
    refine (Same_calls L HG.out A' L.length A0 c0 _ (Kd.NJ_C HN.out) (Nat.le_refl _) (HC.out _ HB.out) hcl).mono ?_
    rintro e w2 ⟨rfl, hb⟩
    have HB2 := Lib.hid (below_step HB.out hb)
    clear hb
    go_wp2
    go_ret2
    exact ⟨_, rfl, HS.out _ HB2.out⟩
  · have e1 : decide (1 ≤ o.f0) = true := decide_eq_true h1
    have e5 : decide (o.f0 ≤ 5) = false := decide_eq_false h5
    clear h0 h1 h5
    go_enter Try.func25, Try.ntmps25
    go_wp2_with fail
    refine (H1.out).mono ?_
    rintro e w1 ⟨A', rfl, hN, hb⟩
    have HN := Lib.hid hN
    have HB := Lib.hid (below_step (w := w) (below_alloc (Below.refl _ _) _) hb)
    clear hN hb
    go_wp2_with fail
    refine (Same_calls L HG.out A' L.length A0 c0 _ (Kd.NJ_C HN.out) (Nat.le_refl _) (HC.out _ HB.out) hcl).mono ?_
    rintro e w2 ⟨rfl, hb⟩
    have HB2 := Lib.hid (below_step HB.out hb)
    clear hb
    go_wp2
    go_ret2
    exact ⟨_, rfl, HS.out _ HB2.out⟩
set_option maxRecDepth 100000 in
set_option maxHeartbeats 1000000 in
theorem step_in (g : Nat) (okt okl : Nat → Prop) (L : List S28) (o : S44) (A0 : Option Addr) (c0 : Nat) (A : Option Addr) (c : Nat) (w : World) (hT : Tb w g okt L) (hV : Kd.V k28 28 w 0 okl (.slice A0 L.length c0) L) (hdis : ∀ k, okt k → ¬ okl k) (hG : Good L) (h7 : o.f0 = 7) :
    Calls Try.prog 25 #[.pointer (some ⟨g, 0, none⟩), .slice A0 L.length c0, .agg #[.int .i64 o.f0, .int .i64 o.f1, .int .i64 o.f2, .string o.f3, .string o.f4, .string o.f5, .slice A o.f6.length c]] w (StepPost w g okt okl L) := by
  have H1 := Lib.hid (fun W (hb : Below w.heap.size w W) => in2_calls g okt L o.f2 W (Tb_below hT hb) hG.1)
  have H2 := Lib.hid (fun W (hb : Below w.heap.size w W) => refin_calls L hG.1 o.f2 A0 c0 W (Kd.V_reads' (Kd.V_below hV hb)).2.2 (Kd.V_reads' hV).2.1)
  have HS := Lib.hid (fun w' (hb : Below w.heap.size w w') => Stepped.same hT hV hdis hb)
  have H3 := Lib.hid (ids_calls (inK L o.f2 L.length) (by have := inK_len L o.f2 L.length; have := hG.1; omega))
  have hl := hG.1
  have e0 : (o.f0 == 0) = false := beq_eq_false_iff_ne.2 (by omega)
  have e1 : decide (1 ≤ o.f0) = true := decide_eq_true (by omega)
  have e5 : decide (o.f0 ≤ 5) = false := decide_eq_false (by omega)
  have e6 : (o.f0 == 6) = false := beq_eq_false_iff_ne.2 (by omega)
  have e7 : (o.f0 == 7) = true := beq_iff_eq.2 h7
  generalize inK L o.f2 L.length = q at *
  clear hT hV hdis hG h7
  go_enter Try.func25, Try.ntmps25
  go_wp2_with fail
  go_region_with (first | (go_at_call 22; refine (H1.out _ (by repeat (first | exact Below.refl _ _ | apply pw_below_drewN | apply below_drew1 | apply below_alloc))).mono ?_; rintro e w1 ⟨A1, c1, rfl, hc1, hC1, hb⟩; obtain ⟨hcc, hff⟩ := bcell hb; have hd := fun o => hcc w.heap.size o (by simp); have HC1 := Lib.hid hC1; have HB1 := Lib.hid (below_step (w := w) (by repeat (first | exact Below.refl _ _ | apply pw_below_drewN | apply below_drew1 | apply below_alloc)) hb); clear hC1 hb hcc hff) | (go_at_call 44; refine (H2.out _ HB1.out).mono ?_; rintro e w2 ⟨A2, c2, rfl, hc2, hC2, hb⟩; have HC2 := Lib.hid hC2; have HC3 := Lib.hid (Kd.C_below HC1.out hb); have HB2 := Lib.hid (below_step HB1.out hb); clear hC2 hb) | (go_at_call 43; refine (H3.out A1 c1 A2 c2 _ HC3.out hc1 HC2.out hc2).mono ?_; rintro e w3 ⟨rfl, hb⟩; have HB3 := Lib.hid (below_step HB2.out hb); clear hb))
  all_goals (go_wp2; go_ret2; exact ⟨_, rfl, HS.out _ HB3.out⟩)
end Go.Proofs.Ytagifiakjniedaa.PTab
end
section
namespace Go.Proofs.Ytagifiakjniedaa.PTab
open Go.RowKit Go.Proofs.YtagifiakjniedaaW.PrintWords Go.Proofs.YtagifiakjniedaaW.PrintLast
set_option linter.unusedVariables false
set_option linter.unusedSimpArgs false
theorem get_out (g : Nat) (ok : Nat → Prop) (L : List S28) (id : Int) (w : World) (hT : Tb w g ok L) (h : ¬ (1 ≤ id ∧ id ≤ L.length)) :
    Calls Try.prog 16 #[.pointer (some ⟨g, 0, none⟩), .int .i64 id] w fun e w' => e = .returned (.tuple #[.agg #[.string ⟨#[]⟩, .string ⟨#[]⟩, .string ⟨#[]⟩, .int .i64 0, .int .i64 0, .int .i64 0, .slice none 0 0], .bool false]) ∧ Below w.heap.size w w' := by
  by_cases h1 : id < 1
  · exact get_low g ok L id w h1
  · exact get_high g ok L id w hT (by omega) (by omega)
set_option maxRecDepth 100000 in
set_option maxHeartbeats 1000000 in
theorem step_get_out (g : Nat) (okt okl : Nat → Prop) (L : List S28) (o : S44) (A0 : Option Addr) (c0 : Nat) (A : Option Addr) (c : Nat) (w : World) (hT : Tb w g okt L) (hV : Kd.V k28 28 w 0 okl (.slice A0 L.length c0) L) (hdis : ∀ k, okt k → ¬ okl k) (hG : Good L) (h6 : o.f0 = 6) (hid : ¬ (1 ≤ o.f1 ∧ o.f1 ≤ L.length)) :
    Calls Try.prog 25 #[.pointer (some ⟨g, 0, none⟩), .slice A0 L.length c0, .agg #[.int .i64 o.f0, .int .i64 o.f1, .int .i64 o.f2, .string o.f3, .string o.f4, .string o.f5, .slice A o.f6.length c]] w (StepPost w g okt okl L) := by
  have H1 := Lib.hid (get_out g okt L o.f1 (w.alloc (.cells #[.int .i64 o.f0, .int .i64 o.f1, .int .i64 o.f2, .string o.f3, .string o.f4, .string o.f5, .slice A o.f6.length c] 44)) (Tb_below hT (below_alloc (Below.refl _ _) _)) hid)
  have HS := Lib.hid (fun w' (hb : Below w.heap.size w w') => Stepped.same hT hV hdis hb)
  have H3 := Lib.hid (fun W => Alike_calls z28 (by decide) none 0 none 0 W (Kd.C_nil _ _) (Nat.le_refl _) (Kd.C_nil _ _) (Nat.le_refl _))
  have hl := hG.1
  have e0 : (o.f0 == 0) = false := beq_eq_false_iff_ne.2 (by omega)
  have e1 : decide (1 ≤ o.f0) = true := decide_eq_true (by omega)
  have e5 : decide (o.f0 ≤ 5) = false := decide_eq_false (by omega)
  have e6 : (o.f0 == 6) = true := beq_iff_eq.2 h6
  clear hT hV hdis hG h6
  by_cases hlow : o.f1 < 1
  · have d1 : decide (o.f1 < 1) = true := decide_eq_true hlow
    clear hid hlow
    go_enter Try.func25, Try.ntmps25
    go_wp2_with fail
    refine (H1.out).mono ?_
    rintro e w1 ⟨rfl, hb⟩
    obtain ⟨hcc, hff⟩ := bcell hb
    have hd := fun o => hcc w.heap.size o (by simp)
    have hz : w.heap.size < w1.heap.size := by have := hb.size; simp at this; omega
    have HB1 := Lib.hid (below_step (w := w) (below_alloc (Below.refl _ _) _) hb)
    clear hb hcc hff
    go_wp2_with fail
    refine (H3.out _).mono ?_
    rintro e w2 ⟨rfl, hb⟩
    have HB2 := Lib.hid (below_step (w := w) (below_alloc HB1.out _) hb)
    clear hb
    go_wp2
    go_ret2
    exact ⟨_, rfl, HS.out _ HB2.out⟩
  · have d1 : decide (o.f1 < 1) = false := decide_eq_false hlow
    have d2 : decide ((L.length : Int) < o.f1) = true := decide_eq_true (by omega)
    clear hid hlow
    go_enter Try.func25, Try.ntmps25
    go_wp2_with fail
    refine (H1.out).mono ?_
    rintro e w1 ⟨rfl, hb⟩
    obtain ⟨hcc, hff⟩ := bcell hb
    have hd := fun o => hcc w.heap.size o (by simp)
    have hz : w.heap.size < w1.heap.size := by have := hb.size; simp at this; omega
    have HB1 := Lib.hid (below_step (w := w) (below_alloc (Below.refl _ _) _) hb)
    clear hb hcc hff
    go_wp2_with fail
    refine (H3.out _).mono ?_
    rintro e w2 ⟨rfl, hb⟩
    have HB2 := Lib.hid (below_step (w := w) (below_alloc HB1.out _) hb)
    clear hb
    go_wp2
    go_ret2
    exact ⟨_, rfl, HS.out _ HB2.out⟩
set_option maxRecDepth 100000 in
set_option maxHeartbeats 1000000 in
theorem step_get_in (g : Nat) (okt okl : Nat → Prop) (L : List S28) (o : S44) (A0 : Option Addr) (c0 : Nat) (A : Option Addr) (c : Nat) (w : World) (hT : Tb w g okt L) (hV : Kd.V k28 28 w 0 okl (.slice A0 L.length c0) L) (hdis : ∀ k, okt k → ¬ okl k) (hG : Good L) (h6 : o.f0 = 6) (i : Nat) (hi : i < L.length) (hid : o.f1 = (i : Int) + 1) :
    Calls Try.prog 25 #[.pointer (some ⟨g, 0, none⟩), .slice A0 L.length c0, .agg #[.int .i64 o.f0, .int .i64 ((i : Int) + 1), .int .i64 o.f2, .string o.f3, .string o.f4, .string o.f5, .slice A o.f6.length c]] w (StepPost w g okt okl L) := by
  have H1 := get_in g okt L i (w.alloc (.cells #[.int .i64 o.f0, .int .i64 ((i : Int) + 1), .int .i64 o.f2, .string o.f3, .string o.f4, .string o.f5, .slice A o.f6.length c] 44)) (Tb_below hT (below_alloc (Below.refl _ _) _)) hi hG.fits
  have HS := Lib.hid (fun w' (hb : Below w.heap.size w w') => Stepped.same hT hV hdis hb)
  have hx4 := hG.fits.2 _ (List.getElem_mem hi)
  obtain ⟨ad, A6, c6, rfl, ⟨k0, k1, k2, k3, k4, k5, k6⟩, l6, g6⟩ := V_elem hV i hi
  have hadl := World.block_lt_of_cell? w _ k1
  have H3 := fun (A' : Option Addr) (W : World) (h1 : Kd.C k71 W A' L[i].f6.length L[i].f6) (h2 : Kd.C k71 W A6 L[i].f6.length L[i].f6) => Alike_calls L[i] hx4 A' L[i].f6.length A6 c6 W h1 (Nat.le_refl _) h2 l6
  have HG6 := Lib.hid g6
  have H3 := Lib.hid H3
  have H1 := Lib.hid H1
  have hl := hG.1
  have e0 : (o.f0 == 0) = false := beq_eq_false_iff_ne.2 (by omega)
  have e1 : decide (1 ≤ o.f0) = true := decide_eq_true (by omega)
  have e5 : decide (o.f0 ≤ 5) = false := decide_eq_false (by omega)
  have e6 : (o.f0 == 6) = true := beq_iff_eq.2 h6
  have d1 : decide ((i : Int) + 1 < 1) = false := decide_eq_false (by omega)
  have d2 : decide ((L.length : Int) < (i : Int) + 1) = false := decide_eq_false (by omega)
  generalize L[i] = x at *
  clear hT hV hdis hG h6 hid hx4 l6 g6
  go_enter Try.func25, Try.ntmps25
  go_wp2_with fail
  refine (H1.out).mono ?_
  rintro e w1 ⟨A7, rfl, hF, hb⟩
  have hb2 := below_step (w := w) (below_alloc (Below.refl _ _) _) hb
  replace k0 := pw_cell_below hb2 k0
  replace k1 := pw_cell_below hb2 k1
  replace k2 := pw_cell_below hb2 k2
  replace k3 := pw_cell_below hb2 k3
  replace k4 := pw_cell_below hb2 k4
  replace k5 := pw_cell_below hb2 k5
  replace k6 := pw_cell_below hb2 k6
  obtain ⟨hcc, hff⟩ := bcell hb
  have hd := fun o => hcc w.heap.size o (by simp)
  have hz : w.heap.size < w1.heap.size := by have := hb.size; simp at this; omega
  have hadl1 : (ad.add (i * 7)).block < w1.heap.size := Nat.lt_of_lt_of_le hadl hb2.size
  have HF := Lib.hid hF
  have HB1 := Lib.hid hb2
  clear hb hb2 hF hcc hff hadl
  go_wp2_with fail
  have hw1 : IntKind.i64.wrap ((i : Int) + 1 - 1) = (i : Int) := by rw [show (i : Int) + 1 - 1 = (i : Int) by omega]; exact IntWalk.i64_in _ (by omega)
  have hw2 : IntKind.i64.wrap (i : Int) = (i : Int) := IntWalk.i64_in _ (by omega)
  have hi0 : (0 : Int) ≤ (i : Int) := by omega
  have hi1 : (i : Int) < (L.length : Int) := by omega
  go_region_with (go_at_call 18; refine (H3.out A7 _ (Kd.F_now (by repeat (first | (with_reducible exact HF.out) | (with_reducible apply Kd.F_drewN) | (with_reducible apply Kd.F_drew) | (with_reducible apply Kd.F_alloc)))) (Kd.C_below (Kd.F_now HG6.out) (by repeat (first | (with_reducible exact HB1.out) | (with_reducible apply pw_below_drewN) | (with_reducible apply below_drew1) | (with_reducible apply below_alloc))))).mono ?_; rintro e w2 ⟨rfl, hb⟩; have HB2 := Lib.hid (below_step (w := w) (by repeat (first | (with_reducible exact HB1.out) | (with_reducible apply pw_below_drewN) | (with_reducible apply below_drew1) | (with_reducible apply below_alloc))) hb); clear hb)
  all_goals (go_wp2; go_ret2; exact ⟨_, rfl, HS.out _ HB2.out⟩)
/-- The law's step, whatever the call. -/
theorem step_calls (g : Nat) (okt okl : Nat → Prop) (L : List S28) (o : S44) (A0 : Option Addr) (c0 : Nat) (A : Option Addr) (c : Nat) (w : World) (hT : Tb w g okt L) (hV : Kd.V k28 28 w 0 okl (.slice A0 L.length c0) L) (hdis : ∀ k, okt k → ¬ okl k) (hG : Good L) (hB : B44 o) (hr : Kd.C k71 w A o.f6.length o.f6) (hc : o.f6.length ≤ c) :
    Calls Try.prog 25 #[.pointer (some ⟨g, 0, none⟩), .slice A0 L.length c0, .agg #[.int .i64 o.f0, .int .i64 o.f1, .int .i64 o.f2, .string o.f3, .string o.f4, .string o.f5, .slice A o.f6.length c]] w (StepPost w g okt okl (stepL L o)) := by
  unfold stepL
  by_cases h0 : o.f0 = 0
  · rw [if_pos h0]
    exact step_request g okt okl L o A0 c0 A c w hT hV hdis hG hB hr hc h0
  rw [if_neg h0]
  by_cases hcl : 1 ≤ o.f0 ∧ o.f0 ≤ 5
  · rw [if_pos hcl]
    exact step_lead g okt okl L o A0 c0 A c w hT hV hdis hG hB hr hc hcl
  rw [if_neg hcl]
  by_cases h6 : o.f0 = 6
  · rcases id_cases L o.f1 with h1 | ⟨h1, h2⟩ | ⟨i, hi, he⟩
    · exact step_get_out g okt okl L o A0 c0 A c w hT hV hdis hG h6 (by omega)
    · exact step_get_out g okt okl L o A0 c0 A c w hT hV hdis hG h6 (by omega)
    · have := step_get_in g okt okl L o A0 c0 A c w hT hV hdis hG h6 i hi he
      rwa [← he] at this
  by_cases h7 : o.f0 = 7
  · exact step_in g okt okl L o A0 c0 A c w hT hV hdis hG h7
  by_cases h8 : o.f0 = 8
  · exact step_len g okt okl L o A0 c0 A c w hT hV hdis hG h8
  exact step_list g okt okl L o A0 c0 A c w hT hV hdis hG (by omega)
end Go.Proofs.Ytagifiakjniedaa.PTab
end
section
namespace Go.Proofs.Ytagifiakjniedaa.PTab
open Go.RowKit Go.Proofs.YtagifiakjniedaaW.PrintWords Go.Proofs.YtagifiakjniedaaW.PrintLast
set_option linter.unusedVariables false
set_option linter.unusedSimpArgs false
theorem name_of (s : ByteArray) (hs : s.size ≤ 140737488351232) (h : value_Name.f (s.size + 3) s = some true) : nameB s = true := by
  have h2 := value_Name_from s hs (s.size + 3) (Nat.le_refl _)
  rw [h2] at h
  exact Option.some.inj h
def sAnn : ByteArray := ⟨#[97, 110, 110]⟩
def sFile : ByteArray := ⟨#[102, 105, 108, 101]⟩
def sP : ByteArray := ⟨#[112]⟩
theorem name_ann : nameB sAnn = true := name_of _ (by decide) (by decide +kernel)
theorem name_file : nameB sFile = true := name_of _ (by decide) (by decide +kernel)
theorem name_p : nameB sP = true := name_of _ (by decide) (by decide +kernel)
theorem request_ann : requestV [] sAnn sFile sP = ([fresh sAnn sFile sP], 1, 0) := by
  unfold requestV
  rw [name_ann, name_file, name_p]
  rfl
theorem start_ann : leadG [fresh sAnn sFile sP] 1 1 (fun _ => startB 3 ([] : List S71).length) (fun s => { s with f3 := 3, f4 := 3, f6 := [] }) = ([{ fresh sAnn sFile sP with f3 := 3, f4 := 3, f6 := [] }], 0) := rfl
theorem fits_ann : Fits [fresh sAnn sFile sP] := ⟨by decide, fun x hx => by rw [List.mem_singleton] at hx; subst hx; decide⟩
set_option maxRecDepth 100000 in
set_option maxHeartbeats 2000000 in
theorem begun_calls (w : World) : Calls Try.prog 10 #[] w fun e w' => ∃ g, e = .returned (.tuple #[.pointer (some ⟨g, 0, none⟩), .bool true]) ∧ Tb w' g (fun k => w.heap.size ≤ k) [] ∧ Below w.heap.size w w' := by
  have HR := Lib.hid (fun g W hT => request_ann ▸ request_calls g (fun k => w.heap.size ≤ k) [] sAnn sFile sP W hT ⟨by decide, fun x hx => by cases hx⟩ (by decide) (by decide) (by decide))
  have HGT : Hid (∀ (g : Nat) (W : World), Tb W g (fun k => w.heap.size ≤ k) [fresh sAnn sFile sP] → Calls Try.prog 16 #[.pointer (some ⟨g, 0, none⟩), .int .i64 1] W fun e w' => ∃ A', e = .returned (.tuple #[.agg #[.string sAnn, .string sFile, .string sP, .int .i64 1, .int .i64 0, .int .i64 0, .slice A' 0 0], .bool true]) ∧ Below W.heap.size W w') :=
    Lib.hid (fun g W hT => (get_in g (fun k => w.heap.size ≤ k) [fresh sAnn sFile sP] 0 W hT (by decide) fits_ann).mono (fun e w' h => by obtain ⟨A', he, _, hb⟩ := h; exact ⟨A', he, hb⟩))
  have HST := Lib.hid (fun g ok W (hT : Tb W g ok [fresh sAnn sFile sP]) => start_ann ▸ start_calls g ok [fresh sAnn sFile sP] 1 3 none 0 [] W hT fits_ann (Kd.C_nil _ _) (Nat.le_refl _))
  go_enter Try.func10, Try.ntmps10
  go_wp2_with fail
  refine (new_calls w).mono ?_
  rintro e w1 ⟨g, rfl, hT, hb⟩
  have HT := Lib.hid hT
  have HB := Lib.hid hb
  clear hT hb
  go_wp2_with fail
  refine (HR.out g w1 HT.out).mono ?_
  rintro e w2 ⟨rfl, hT2, hk2⟩
  have HT2 := Lib.hid (Tb_mono hT2 (ok' := fun k => w.heap.size ≤ k) (fun k hk => hk.elim id (fun h => Nat.le_trans HB.out.size h)))
  have HB2 := Lib.hid (Below.trans HB.out (hk2.below HB.out.size (fun k hk => hk)))
  clear hT2 hk2
  go_wp2_with fail
  refine (HGT.out g w2 HT2.out).mono ?_
  rintro e w3 ⟨A3, rfl, hb3⟩
  have HT3 := Lib.hid (Tb_below HT2.out hb3)
  have HB3 := Lib.hid (Below.trans HB2.out (hb3.mono HB2.out.size))
  clear hb3
  go_wp2_with fail
  refine (new_calls _).mono ?_
  rintro e w4 ⟨g2, rfl, hT, hb⟩
  obtain ⟨hcc, hff⟩ := bcell hb
  have hd := fun o => hcc w3.heap.size o (by simp)
  have hz : w3.heap.size < w4.heap.size := by have := hb.size; simp at this; omega
  have HN := Lib.hid (Tb_mono (Tb_bound hT) (ok' := fun k => w3.heap.size + 1 ≤ k ∧ k < w4.heap.size) (fun k hk => ⟨by have := hk.1; simp at this; omega, hk.2⟩))
  have hb4 := below_step (w := w3) (below_alloc (Below.refl _ _) _) hb
  have HT4 := Lib.hid (Tb_mono (Tb_below (Tb_bound HT3.out) hb4) (ok' := fun k => w.heap.size ≤ k ∧ k < w3.heap.size) (fun k hk => hk))
  have HB4 := Lib.hid (Below.trans HB3.out (hb4.mono HB3.out.size))
  clear hT hb hb4 hcc hff
  go_wp2_with fail
  refine (HST.out g _ w4 HT4.out).mono ?_
  rintro e w5 ⟨rfl, hT5, hk5⟩
  have HT5 := Lib.hid hT5
  have HN5 := Lib.hid (Tb_kp HN.out hk5 (fun k hk _ h => by omega))
  have HB5 := Lib.hid (Below.trans HB4.out ((hk5.below (B := w.heap.size) HB4.out.size (fun k hk => hk.1))))
  clear hT5 hk5
  go_wp2_with fail
  refine (len_calls g _ _ w5 HT5.out).mono ?_
  rintro e w6 ⟨rfl, rfl⟩
  go_wp2
  go_ret2
  have h3 := HB3.out.size
  exact ⟨g2, rfl, Tb_mono HN5.out (fun k hk => by omega), HB5.out⟩
end Go.Proofs.Ytagifiakjniedaa.PTab
end
section
namespace Go.Proofs.Ytagifiakjniedaa.PTab
open Go.RowKit Go.Proofs.YtagifiakjniedaaW.PrintWords Go.Proofs.YtagifiakjniedaaW.PrintLast
set_option linter.unusedVariables false
set_option linter.unusedSimpArgs false
theorem k44_open {w : World} {x : S44} {cs : List Value} (h : k44.K w x cs) : ∃ A6 c6, cs = [.int .i64 x.f0, .int .i64 x.f1, .int .i64 x.f2, .string x.f3, .string x.f4, .string x.f5, .slice A6 x.f6.length c6] ∧ x.f6.length ≤ c6 ∧ k71.C w A6 x.f6.length x.f6 := by
  obtain ⟨_, _, rfl, rfl, ⟨_, _, rfl, rfl, ⟨_, _, rfl, rfl, ⟨_, _, rfl, rfl, ⟨_, _, rfl, rfl, ⟨_, _, rfl, rfl, ⟨A6, c6, rfl, l6, g6⟩⟩⟩⟩⟩⟩⟩ := h
  exact ⟨A6, c6, rfl, l6, g6⟩
def z44 : S44 := ⟨0, 0, 0, ⟨#[]⟩, ⟨#[]⟩, ⟨#[]⟩, []⟩
theorem C_elem44 {l : List S44} {w : World} {A : Option Addr} (hC : Kd.C k44 w A l.length l) (k : Nat) (hk : k < l.length) : ∃ ad A6 c6, A = some ad ∧ (w.cell? (ad.add (k * 7)) = some (.int .i64 l[k].f0) ∧ w.cell? ⟨(ad.add (k * 7)).block, (ad.add (k * 7)).off + 1, none⟩ = some (.int .i64 l[k].f1) ∧ w.cell? ⟨(ad.add (k * 7)).block, (ad.add (k * 7)).off + 2, none⟩ = some (.int .i64 l[k].f2) ∧ w.cell? ⟨(ad.add (k * 7)).block, (ad.add (k * 7)).off + 3, none⟩ = some (.string l[k].f3) ∧ w.cell? ⟨(ad.add (k * 7)).block, (ad.add (k * 7)).off + 4, none⟩ = some (.string l[k].f4) ∧ w.cell? ⟨(ad.add (k * 7)).block, (ad.add (k * 7)).off + 5, none⟩ = some (.string l[k].f5) ∧ w.cell? ⟨(ad.add (k * 7)).block, (ad.add (k * 7)).off + 6, none⟩ = some (.slice A6 l[k].f6.length c6)) ∧ l[k].f6.length ≤ c6 ∧ Kd.C k71 w A6 l[k].f6.length l[k].f6 := by
  obtain ⟨ad, cs, he, hcl, hK, hcc⟩ := Kd.C_get hC z44 (k : Int) (by omega) (by omega)
  rw [Int.toNat_natCast, List.getD_eq_getElem?_getD, List.getElem?_eq_getElem hk] at hK
  obtain ⟨A6, c6, rfl, l6, g6⟩ := k44_open (show k44.K w l[k] cs from hK)
  simp only [Int.toNat_natCast] at hcc
  have hc7 : ∀ j u, ([Value.int .i64 l[k].f0, .int .i64 l[k].f1, .int .i64 l[k].f2, .string l[k].f3, .string l[k].f4, .string l[k].f5, .slice A6 l[k].f6.length c6])[j]? = some u → w.cell? (ad.add (k * 7 + j)) = some u := hcc
  exact ⟨ad, A6, c6, he, ⟨hc7 0 _ rfl, by rw [← add_field _ _ 1 (by omega)]; exact hc7 1 _ rfl, by rw [← add_field _ _ 2 (by omega)]; exact hc7 2 _ rfl, by rw [← add_field _ _ 3 (by omega)]; exact hc7 3 _ rfl, by rw [← add_field _ _ 4 (by omega)]; exact hc7 4 _ rfl, by rw [← add_field _ _ 5 (by omega)]; exact hc7 5 _ rfl, by rw [← add_field _ _ 6 (by omega)]; exact hc7 6 _ rfl⟩, l6, g6⟩
/-- A table and the reference's list, both at L, apart; of the world at w0 nothing was touched, of that at w only the table's blocks. -/
structure Both (w0 w : World) (okt : Nat → Prop) (wr : World) (g : Nat) (v : Value) (L : List S28) : Prop where
  out : ∃ T R : Nat → Prop, Tb wr g T L ∧ Kd.V k28 28 wr 0 R v L ∧ (∀ k, T k → ¬ R k) ∧ (∀ k, T k → okt k ∨ w.heap.size ≤ k) ∧ (∀ k, T k → w0.heap.size ≤ k) ∧ Good L ∧ Below w0.heap.size w0 wr ∧ Kp okt w wr
theorem Both.step {w0 w wr w' : World} {okt : Nat → Prop} {g : Nat} {v : Value} {L L' : List S28} {v' : Value} {T R : Nat → Prop} (h : ∃ R0 : Nat → Prop, Kd.V k28 28 wr 0 R0 v L) (hG : Good L') (hb : Below w0.heap.size w0 wr) (hk : Kp okt w wr) (hT : ∀ k, T k → okt k ∨ w.heap.size ≤ k) (hT0 : ∀ k, T k → w0.heap.size ≤ k) (hS : Stepped wr g T R L' v' w') : Both w0 w okt w' g v' L' := by
  obtain ⟨T2, R2, h1, h2, h3, h4, h5, h6⟩ := hS
  exact ⟨T2, R2, h1, h2, h3, fun k hk2 => (h4 k hk2).elim (hT k) (fun h => .inr (Nat.le_trans hk.size h)), fun k hk2 => (h4 k hk2).elim (hT0 k) (fun h => Nat.le_trans hb.size h), hG,
    Below.trans hb (h6.below hb.size hT0), hk.trans h6 hT⟩
theorem Both.below {w0 w wr w' : World} {okt : Nat → Prop} {g : Nat} {v : Value} {L : List S28} (h : Both w0 w okt wr g v L) (hb : Below wr.heap.size wr w') : Both w0 w okt w' g v L := by
  obtain ⟨T, R, h1, h2, h3, h4, h5, h6, h7, h8⟩ := h
  exact ⟨T, R, Tb_below h1 hb, Kd.V_below h2 hb, h3, h4, h5, h6, Below.trans h7 (hb.mono h7.size), h8.then_below hb⟩
theorem Both.clone {w0 w wr w' : World} {okt : Nat → Prop} {g g' : Nat} {v : Value} {L : List S28} (h : Both w0 w okt wr g v L) (hT : Tb w' g' (fun k => wr.heap.size ≤ k) L) (hb : Below wr.heap.size wr w') : Both w0 w okt w' g' v L := by
  obtain ⟨T, R, h1, h2, h3, h4, h5, h6, h7, h8⟩ := h
  exact ⟨_, fun k => R k ∧ k < wr.heap.size, hT, Kd.V_below (Kd.V_bound h2) hb, fun k hk hr => by have := hr.2; omega, fun k hk => .inr (Nat.le_trans h8.size hk), fun k hk => Nat.le_trans h7.size hk, h6, Below.trans h7 (hb.mono h7.size), h8.then_below hb⟩
set_option maxRecDepth 100000 in
set_option maxHeartbeats 2000000 in
theorem run_calls (w0 w : World) (okt : Nat → Prop) (g : Nat) (A0 : Option Addr) (c0 : Nat) (L : List S28) (hB : Both w0 w okt w g (.slice A0 L.length c0) L) (As : Option Addr) (cs : Nat) (script : List S44) (hs : Kd.C k44 w0 As script.length script) (hcs : script.length ≤ cs) (hBs : ∀ y ∈ script, B44 y) :
    Calls Try.prog 24 #[.pointer (some ⟨g, 0, none⟩), .slice A0 L.length c0, .slice As script.length cs] w fun e w' => e = .returned (.bool true) ∧ Below w0.heap.size w0 w' ∧ Kp okt w w' := by
  have HB := Lib.hid hB
  have HS := Lib.hid hs
  have HBS := Lib.hid hBs
  have hm := Kd.C_max hs
  clear hB hs hBs
  go_enter Try.func24, Try.ntmps24
  go_wp2_with fail
  go_loopw [0, 1, 13] (fun t l x wr => ∃ k : Nat, k ≤ script.length ∧ x = .int .i64 k ∧ ∃ (g1 : Nat) (A1 : Option Addr) (c1 : Nat) (L1 : List S28), t = .pointer (some ⟨g1, 0, none⟩) ∧ l = .slice A1 L1.length c1 ∧ Hid (Both w0 w okt wr g1 (.slice A1 L1.length c1) L1)) (fun _ _ x _ => script.length - (intOf x).toNat)
  case atStart => exact ⟨0, Nat.zero_le _, rfl, g, A0, c0, L, rfl, rfl, HB⟩
  case round =>
    clear HB
    obtain ⟨k, hk, rfl, g1, A1, c1, L1, rfl, rfl, HREL⟩ := hrel
    obtain ⟨T, R, h1, h2, h3, h4, h5, h6, h7, h8⟩ := HREL.out
    by_cases hlt : k < script.length
    · have hCr := Kd.C_below HS.out h7
      obtain ⟨ad, A6, c6, rfl, ⟨k0, k1, k2, k3, k4, k5, k6⟩, l6, g6⟩ := C_elem44 hCr k hlt
      have hBo := HBS.out script[k] (List.getElem_mem hlt)
      generalize script[k] = o at *
      have hbx : Below wr.heap.size wr (wr.alloc (.cells #[.int .i64 o.f0, .int .i64 o.f1, .int .i64 o.f2, .string o.f3, .string o.f4, .string o.f5, .slice A6 o.f6.length c6] 44)) := below_alloc (Below.refl _ _) _
      by_cases h10 : o.f0 = 10
      · have e10 : (o.f0 == 10) = true := beq_iff_eq.2 h10
        have H := Lib.hid (clone_calls g1 T L1 _ (Tb_below h1 hbx) h6.fits)
        have HRX := Lib.hid (HREL.out.below hbx)
        clear h1 h2 h3 h4 h5 h6 h7 h8 hCr l6 g6 hBo h10 hbx
        go_wp2_with fail
        refine (H.out).mono ?_
        rintro e w1 ⟨g2, rfl, hT, hb⟩
        have HN := Lib.hid (HRX.out.clone hT hb)
        clear hT hb
        go_wp2
        go_roundw
        case rel => exact ⟨k + 1, by omega, by go_num, g2, A1, c1, L1, rfl, rfl, HN⟩
        case measure => simp [intOf]; omega
      · have e10 : (o.f0 == 10) = false := beq_eq_false_iff_ne.2 h10
        have H := Lib.hid (step_calls g1 T R L1 o A1 c1 A6 c6 _ (Tb_below h1 hbx) (Kd.V_below h2 hbx) h3 h6 hBo (Kd.C_below g6 hbx) l6)
        have HX := Lib.hid (show Below w0.heap.size w0 _ ∧ Kp okt w _ from ⟨Below.trans h7 (hbx.mono h7.size), h8.then_below hbx⟩)
        have HT := Lib.hid (show (∀ k, T k → okt k ∨ w.heap.size ≤ k) ∧ (∀ k, T k → w0.heap.size ≤ k) ∧ Good L1 from ⟨h4, h5, h6⟩)
        have HV := Lib.hid (Kd.V_below h2 hbx)
        clear h1 h2 h3 h4 h5 h6 h7 h8 hCr l6 g6 hBo h10 hbx
        go_wp2_with fail
        refine (H.out).mono ?_
        rintro e w1 ⟨v, rfl, hS⟩
        have hN := Both.step ⟨R, HV.out⟩ (HT.out.2.2.step o) HX.out.1 HX.out.2 HT.out.1 HT.out.2.1 hS
        obtain ⟨T2, R2, _, hV2, _⟩ := hN.out
        obtain ⟨A2, c2, rfl⟩ := Kd.V_slice hV2
        have HN := Lib.hid hN
        clear hS hN hV2
        go_wp2
        go_roundw
        case rel => exact ⟨k + 1, by omega, by go_num, g1, A2, c2, stepL L1 o, rfl, rfl, HN⟩
        case measure => simp [intOf]; omega
    · obtain rfl : k = script.length := by omega
      have H1 := Lib.hid (len_calls g1 T L1 wr h1)
      have H2 := Lib.hid (list_calls g1 T L1 wr h1 h6.fits)
      have HC := Lib.hid (fun W (hb : Below wr.heap.size wr W) => (Kd.V_reads' (Kd.V_below h2 hb)).2.2)
      have hcl := (Kd.V_reads' h2).2.1
      have HG := Lib.hid h6.fits
      have HE := Lib.hid (show Below w0.heap.size w0 wr ∧ Kp okt w wr from ⟨h7, h8⟩)
      have hl := h6.1
      clear h1 h2 h3 h4 h5 h6 h7 h8
      go_wp2_with fail
      refine (H1.out).mono ?_
      rintro e w1 ⟨rfl, rfl⟩
      go_wp2_with fail
      refine (H2.out).mono ?_
      rintro e w1 ⟨A', rfl, hN, hb⟩
      have HN := Lib.hid hN
      have HB := Lib.hid hb
      clear hN hb
      go_wp2_with fail
      refine (Same_calls L1 HG.out A' L1.length A1 c1 _ (Kd.NJ_C HN.out) (Nat.le_refl _) (HC.out _ HB.out) hcl).mono ?_
      rintro e w2 ⟨rfl, hb⟩
      have HB2 := Lib.hid (below_step HB.out hb)
      clear hb
      go_wp2
      go_ret
      exact ⟨rfl, Below.trans HE.out.1 (HB2.out.mono HE.out.1.size), HE.out.2.then_below HB2.out⟩
set_option maxRecDepth 100000 in
set_option maxHeartbeats 2000000 in
theorem tableAll_walk (A0 : Option Addr) (c0 : Nat) (l0 : List S44) (W : World) (hr0 : Kd.C k44 W A0 l0.length l0) (hc0 : l0.length ≤ c0) (b0 : l0.length * Try.prog.bytesOf 44 ≤ 140737488351232 ∧ ∀ y ∈ l0, B44 y) : Calls Try.prog 6 #[.slice A0 l0.length c0] W fun e W' => e = .returned (.bool true) ∧ Below W.heap.size W W' := by
  have HR := Lib.hid hr0
  have HB := Lib.hid b0.2
  clear hr0 b0
  go_enter Try.func6, Try.ntmps6
  go_wp2_with fail
  refine (begun_calls W).mono ?_
  rintro e w1 ⟨g, rfl, hT, hb⟩
  have HBB : Hid (Both W w1 (fun k => W.heap.size ≤ k) w1 g (.slice none ([] : List S28).length 0) []) := Lib.hid ⟨_, fun _ => False, hT, Kd.V_nil _ _ _ _ _, fun k _ h => h, fun k hk => .inl hk, fun k hk => hk, ⟨by decide, fun x hx => by cases hx⟩, hb, Kp.refl _ _⟩
  clear hT hb
  go_wp2_with fail
  refine (run_calls W w1 _ g none 0 [] HBB.out A0 c0 l0 HR.out hc0 HB.out).mono ?_
  rintro e w2 ⟨rfl, hb, hk⟩
  have HE := Lib.hid hb
  clear hb hk
  go_wp2
  go_ret
  exact ⟨rfl, HE.out⟩
end Go.Proofs.Ytagifiakjniedaa.PTab
end
