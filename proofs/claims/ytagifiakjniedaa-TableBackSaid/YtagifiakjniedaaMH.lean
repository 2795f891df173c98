/-
  Contracts of functions that a statement of this seat reaches (joined texts: H29, H30).
-/
import Derived.Test.YtagifiakjniedaaMF
section
namespace Go.Proofs.Ytagifiakjniedaa.PTab
open Go.RowKit Go.Proofs.YtagifiakjniedaaW.PrintWords Go.Proofs.YtagifiakjniedaaW.PrintLast
set_option linter.unusedVariables false
set_option linter.unusedSimpArgs false
/-- A step beside an empty list of the reference: the table goes on, the answer is any. -/
def Loose (w : World) (g : Nat) (okt : Nat → Prop) (L' : List S28) (e : Ending) (w' : World) : Prop := ∃ (v : Value) (b : Bool), e = .returned (.tuple #[v, .bool b]) ∧ Tb w' g (fun k => okt k ∨ w.heap.size ≤ k) L' ∧ Kp okt w w'
theorem Loose.same {w w' : World} {g : Nat} {okt : Nat → Prop} {L : List S28} {v : Value} {b : Bool} (hT : Tb w g okt L) (hb : Below w.heap.size w w') : Loose w g okt L (.returned (.tuple #[v, .bool b])) w' :=
  ⟨v, b, rfl, Tb_mono (Tb_below hT hb) (fun k hk => .inl hk), Kp.of_below hb okt⟩
theorem Samenil_calls (L : List S28) (A c) (w : World) (h1 : Kd.C k28 w A L.length L) (c1 : L.length ≤ c) :
    Calls Try.prog 19 #[.slice A L.length c, .slice none 0 0] w fun e w' => ∃ b, e = .returned (.bool b) ∧ Below w.heap.size w w' := by
  by_cases h : L = []
  · subst h
    exact (sojournref16_Same.calls 1 A c [] none 0 [] true w h1 c1 (Kd.C_nil _ _) (Nat.le_refl _) (by unfold sojournref16_Same.f; rw [if_pos rfl]; simp [sojournref16_Same.l0])).mono (fun e w' h => ⟨true, h.1, h.2⟩)
  · have hl : L.length ≠ 0 := fun h0 => h (List.eq_nil_of_length_eq_zero h0)
    exact (sojournref16_Same.calls 1 A c L none 0 [] false w h1 c1 (Kd.C_nil _ _) (Nat.le_refl _) (by unfold sojournref16_Same.f; rw [if_neg (by simp only [List.length_nil]; omega)])).mono (fun e w' h => ⟨false, h.1, h.2⟩)
theorem idsnil_calls (l : List Int) (A c A' c') (w : World) (h1 : Kd.C (Kd.int .i64) w A l.length l) (c1 : l.length ≤ c) (h2 : Kd.C (Kd.int .i64) w A' ([] : List Int).length []) :
    Calls Try.prog 43 #[.slice A l.length c, .slice A' ([] : List Int).length c'] w fun e w' => ∃ b, e = .returned (.bool b) ∧ Below w.heap.size w w' := by
  by_cases h : l = []
  · subst h
    exact (sojournlaw16_ids.calls 1 A c [] A' c' [] true w h1 c1 h2 (Nat.zero_le _) (by unfold sojournlaw16_ids.f; rw [if_pos rfl]; simp [sojournlaw16_ids.l0])).mono (fun e w' h => ⟨true, h.1, h.2.below⟩)
  · have hl : l.length ≠ 0 := fun h0 => h (List.eq_nil_of_length_eq_zero h0)
    exact (sojournlaw16_ids.calls 1 A c l A' c' [] false w h1 c1 h2 (Nat.zero_le _) (by unfold sojournlaw16_ids.f; rw [if_neg (by simp only [List.length_nil]; omega)])).mono (fun e w' h => ⟨false, h.1, h.2.below⟩)
set_option maxRecDepth 100000 in
set_option maxHeartbeats 1000000 in
theorem loose_request (g : Nat) (okt : Nat → Prop) (L : List S28) (o : S44) (A : Option Addr) (c : Nat) (w : World) (hT : Tb w g okt L) (hG : Good L) (hB : B44 o) (hr : Kd.C k71 w A o.f6.length o.f6) (hc : o.f6.length ≤ c) (h0 : o.f0 = 0) :
    Calls Try.prog 25 #[.pointer (some ⟨g, 0, none⟩), .slice none 0 0, .agg #[.int .i64 o.f0, .int .i64 o.f1, .int .i64 o.f2, .string o.f3, .string o.f4, .string o.f5, .slice A o.f6.length c]] w (Loose w g okt (requestV L o.f3 o.f4 o.f5).1) := by
  have hbx : Below w.heap.size w (w.alloc (.cells #[.int .i64 o.f0, .int .i64 o.f1, .int .i64 o.f2, .string o.f3, .string o.f4, .string o.f5, .slice A o.f6.length c] 44)) := below_alloc (Below.refl _ _) _
  have H1 := request_calls g (fun k => okt k ∧ k < w.heap.size) L o.f3 o.f4 o.f5 (w.alloc (.cells #[.int .i64 o.f0, .int .i64 o.f1, .int .i64 o.f2, .string o.f3, .string o.f4, .string o.f5, .slice A o.f6.length c] 44)) (Tb_below (Tb_bound hT) hbx) hG.fits hB.2.2.2.1 hB.2.2.2.2.1 hB.2.2.2.2.2.1
  have H2 := fun W => Requestref_calls [] (by decide) o.f3 o.f4 o.f5 hB.2.2.2.1 hB.2.2.2.2.1 hB.2.2.2.2.2.1 (fun k => False) none 0 W (Kd.V_nil _ _ _ _ _)
  have e0 : (o.f0 == 0) = true := beq_iff_eq.2 h0
  generalize requestV L o.f3 o.f4 o.f5 = Q at *
  generalize requestV [] o.f3 o.f4 o.f5 = Q2 at *
  obtain ⟨L1, a, b⟩ := Q
  obtain ⟨L2, a2, b2⟩ := Q2
  have H1 := Lib.hid H1
  have H2 := Lib.hid H2
  have HBX := Lib.hid hbx
  clear hT hG hB hr hc h0 hbx
  by_cases ha : a = a2
  · have ha1 : (a == a2) = true := beq_iff_eq.2 ha
    clear ha
    go_enter Try.func25, Try.ntmps25
    go_wp2_with fail
    refine (H1.out).mono ?_
    rintro e w1 ⟨rfl, hT1, hk1⟩
    have hd := fun o => kp_cell hk1 (b := w.heap.size) (by simp) (fun h => by have := h.2; omega) o
    have HT1 := Lib.hid hT1
    have HK1 := Lib.hid hk1
    clear hT1 hk1
    go_wp2_with fail
    refine (H2.out _).mono ?_
    rintro e w2 ⟨v, rfl, hV2, hb⟩
    have HB2 := Lib.hid hb
    clear hV2 hb
    go_wp2
    go_ret2
    exact ⟨v, _, rfl, Tb_mono (Tb_below HT1.out HB2.out) (fun k hk => hk.elim (fun h => .inl h.1) (fun h => .inr (Nat.le_trans HBX.out.size h))), (Kp.after_below HBX.out (Kp.mono HK1.out (fun k hk => hk.1))).then_below HB2.out⟩
  · have ha1 : (a == a2) = false := beq_eq_false_iff_ne.2 ha
    clear ha
    go_enter Try.func25, Try.ntmps25
    go_wp2_with fail
    refine (H1.out).mono ?_
    rintro e w1 ⟨rfl, hT1, hk1⟩
    have hd := fun o => kp_cell hk1 (b := w.heap.size) (by simp) (fun h => by have := h.2; omega) o
    have HT1 := Lib.hid hT1
    have HK1 := Lib.hid hk1
    clear hT1 hk1
    go_wp2_with fail
    refine (H2.out _).mono ?_
    rintro e w2 ⟨v, rfl, hV2, hb⟩
    have HB2 := Lib.hid hb
    clear hV2 hb
    go_wp2
    go_ret2
    exact ⟨v, _, rfl, Tb_mono (Tb_below HT1.out HB2.out) (fun k hk => hk.elim (fun h => .inl h.1) (fun h => .inr (Nat.le_trans HBX.out.size h))), (Kp.after_below HBX.out (Kp.mono HK1.out (fun k hk => hk.1))).then_below HB2.out⟩
set_option maxRecDepth 100000 in
set_option maxHeartbeats 1000000 in
theorem loose_lead (g : Nat) (okt : Nat → Prop) (L : List S28) (o : S44) (A : Option Addr) (c : Nat) (w : World) (hT : Tb w g okt L) (hG : Good L) (hB : B44 o) (hr : Kd.C k71 w A o.f6.length o.f6) (hc : o.f6.length ≤ c) (hcl : 1 ≤ o.f0 ∧ o.f0 ≤ 5) :
    Calls Try.prog 25 #[.pointer (some ⟨g, 0, none⟩), .slice none 0 0, .agg #[.int .i64 o.f0, .int .i64 o.f1, .int .i64 o.f2, .string o.f3, .string o.f4, .string o.f5, .slice A o.f6.length c]] w (Loose w g okt (leadO L o).1) := by
  have hbx : Below w.heap.size w (w.alloc (.cells #[.int .i64 o.f0, .int .i64 o.f1, .int .i64 o.f2, .string o.f3, .string o.f4, .string o.f5, .slice A o.f6.length c] 44)) := below_alloc (Below.refl _ _) _
  have H2 := rlead_out o.f0 [] (fun _ => False) o.f1 o.f2 none 0 (.slice A o.f6.length c) (w.alloc (.cells #[.int .i64 o.f0, .int .i64 o.f1, .int .i64 o.f2, .string o.f3, .string o.f4, .string o.f5, .slice A o.f6.length c] 44)) (Kd.V_nil _ _ _ _ _) (by decide) (by simp only [List.length_nil]; omega)
  have H1 := fun W (hW : Below w.heap.size w W) => lawlead g (fun k => okt k ∧ k < w.heap.size) L o A c W (Tb_below (Tb_bound hT) hW) hG.fits (Kd.C_below hr hW) hc
  have e0 : (o.f0 == 0) = false := beq_eq_false_iff_ne.2 (by omega)
  have e1 : decide (1 ≤ o.f0) = true := decide_eq_true hcl.1
  have e5 : decide (o.f0 ≤ 5) = true := decide_eq_true hcl.2
  generalize leadO L o = Q at *
  obtain ⟨L1, a⟩ := Q
  have H1 := Lib.hid H1
  have H2 := Lib.hid H2
  have HBX := Lib.hid hbx
  clear hT hG hB hr hc hcl hbx
  go_enter Try.func25, Try.ntmps25
  go_wp2_with fail
  refine (H2.out).mono ?_
  rintro e w1 ⟨v, rfl, hV1, hb⟩
  obtain ⟨hcc, hff⟩ := bcell hb
  have hd := fun o => hcc w.heap.size o (by simp)
  have HB1 := Lib.hid (below_step HBX.out hb)
  clear hV1 hb hcc hff
  go_wp2_with fail
  refine (H1.out w1 HB1.out).mono ?_
  rintro e w2 ⟨rfl, hT2, hk2⟩
  have HT2 := Lib.hid hT2
  have HK2 := Lib.hid hk2
  clear hT2 hk2
  go_wp2
  go_ret2
  exact ⟨v, _, rfl, Tb_mono HT2.out (fun k hk => hk.elim (fun h => .inl h.1) (fun h => .inr (Nat.le_trans HB1.out.size h))), Kp.after_below HB1.out (Kp.mono HK2.out (fun k hk => hk.1))⟩
set_option maxRecDepth 100000 in
set_option maxHeartbeats 1000000 in
theorem loose_len (g : Nat) (okt : Nat → Prop) (L : List S28) (o : S44) (A : Option Addr) (c : Nat) (w : World) (hT : Tb w g okt L) (hG : Good L) (hB : B44 o) (hr : Kd.C k71 w A o.f6.length o.f6) (hc : o.f6.length ≤ c) (h8 : o.f0 = 8) :
    Calls Try.prog 25 #[.pointer (some ⟨g, 0, none⟩), .slice none 0 0, .agg #[.int .i64 o.f0, .int .i64 o.f1, .int .i64 o.f2, .string o.f3, .string o.f4, .string o.f5, .slice A o.f6.length c]] w (Loose w g okt L) := by
  have H1 := Lib.hid (len_calls g okt L (w.alloc (.cells #[.int .i64 o.f0, .int .i64 o.f1, .int .i64 o.f2, .string o.f3, .string o.f4, .string o.f5, .slice A o.f6.length c] 44)) (Tb_below hT (below_alloc (Below.refl _ _) _)))
  have HT := Lib.hid hT
  have e0 : (o.f0 == 0) = false := beq_eq_false_iff_ne.2 (by omega)
  have e1 : decide (1 ≤ o.f0) = true := decide_eq_true (by omega)
  have e5 : decide (o.f0 ≤ 5) = false := decide_eq_false (by omega)
  have e6 : (o.f0 == 6) = false := beq_eq_false_iff_ne.2 (by omega)
  have e7 : (o.f0 == 7) = false := beq_eq_false_iff_ne.2 (by omega)
  have e8 : (o.f0 == 8) = true := beq_iff_eq.2 h8
  have hl := hG.1
  clear hT hG hB hr hc h8
  go_enter Try.func25, Try.ntmps25
  go_wp2_with fail
  refine (H1.out).mono ?_
  rintro e w1 ⟨rfl, rfl⟩
  go_wp2
  go_ret2
  exact Loose.same HT.out (below_alloc (Below.refl _ _) _)
set_option maxRecDepth 100000 in
set_option maxHeartbeats 1000000 in
theorem loose_list (g : Nat) (okt : Nat → Prop) (L : List S28) (o : S44) (A : Option Addr) (c : Nat) (w : World) (hT : Tb w g okt L) (hG : Good L) (hB : B44 o) (hr : Kd.C k71 w A o.f6.length o.f6) (hc : o.f6.length ≤ c) (h0 : ¬ (0 ≤ o.f0 ∧ o.f0 ≤ 8)) :
    Calls Try.prog 25 #[.pointer (some ⟨g, 0, none⟩), .slice none 0 0, .agg #[.int .i64 o.f0, .int .i64 o.f1, .int .i64 o.f2, .string o.f3, .string o.f4, .string o.f5, .slice A o.f6.length c]] w (Loose w g okt L) := by
  have H1 := Lib.hid (list_calls g okt L (w.alloc (.cells #[.int .i64 o.f0, .int .i64 o.f1, .int .i64 o.f2, .string o.f3, .string o.f4, .string o.f5, .slice A o.f6.length c] 44)) (Tb_below hT (below_alloc (Below.refl _ _) _)) hG.fits)
  have HT := Lib.hid hT
  have e0 : (o.f0 == 0) = false := beq_eq_false_iff_ne.2 (by omega)
  have e6 : (o.f0 == 6) = false := beq_eq_false_iff_ne.2 (by omega)
  have e7 : (o.f0 == 7) = false := beq_eq_false_iff_ne.2 (by omega)
  have e8 : (o.f0 == 8) = false := beq_eq_false_iff_ne.2 (by omega)
  clear hT hG hB hr hc
  rcases (show o.f0 < 1 ∨ (1 ≤ o.f0 ∧ ¬ o.f0 ≤ 5) by omega) with h1 | ⟨h1, h5⟩
  · have e1 : decide (1 ≤ o.f0) = false := decide_eq_false (by omega)
    clear h0 h1
    go_enter Try.func25, Try.ntmps25
    go_wp2_with fail
    refine (H1.out).mono ?_
    rintro e w1 ⟨A', rfl, hN, hb⟩
    have HN := Lib.hid hN
    have HB := Lib.hid (below_step (w := w) (below_alloc (Below.refl _ _) _) hb)
    clear hN hb
    go_wp2_with fail
    refine (Samenil_calls L A' L.length _ (Kd.NJ_C HN.out) (Nat.le_refl _)).mono ?_
    rintro e w2 ⟨b, rfl, hb⟩
    have HB2 := Lib.hid (below_step HB.out hb)
    clear hb
    go_wp2
    go_ret2
    exact Loose.same HT.out HB2.out
  · have e1 : decide (1 ≤ o.f0) = true := decide_eq_true h1
    have e5 : decide (o.f0 ≤ 5) = false := decide_eq_false h5
    clear h0 h1 h5
    go_enter Try.func25, Try.ntmps25
    go_wp2_with fail
    refine (H1.out).mono ?_
    rintro e w1 ⟨A', rfl, hN, hb⟩
    have HN := Lib.hid hN
    have HB := Lib.hid (below_step (w := w) (below_alloc (Below.refl _ _) _) hb)
    clear hN hb
    go_wp2_with fail
    refine (Samenil_calls L A' L.length _ (Kd.NJ_C HN.out) (Nat.le_refl _)).mono ?_
    rintro e w2 ⟨b, rfl, hb⟩
    have HB2 := Lib.hid (below_step HB.out hb)
    clear hb
    go_wp2
    go_ret2
    exact Loose.same HT.out HB2.out
set_option maxRecDepth 100000 in
set_option maxHeartbeats 1000000 in
theorem loose_in (g : Nat) (okt : Nat → Prop) (L : List S28) (o : S44) (A : Option Addr) (c : Nat) (w : World) (hT : Tb w g okt L) (hG : Good L) (hB : B44 o) (hr : Kd.C k71 w A o.f6.length o.f6) (hc : o.f6.length ≤ c) (h7 : o.f0 = 7) :
    Calls Try.prog 25 #[.pointer (some ⟨g, 0, none⟩), .slice none 0 0, .agg #[.int .i64 o.f0, .int .i64 o.f1, .int .i64 o.f2, .string o.f3, .string o.f4, .string o.f5, .slice A o.f6.length c]] w (Loose w g okt L) := by
  have H1 := Lib.hid (fun W (hb : Below w.heap.size w W) => in2_calls g okt L o.f2 W (Tb_below hT hb) hG.1)
  have H2 := Lib.hid (fun W => refin_calls [] (by decide) o.f2 none 0 W (Kd.C_nil _ _) (Nat.le_refl _))
  have H3 := Lib.hid (idsnil_calls (inK L o.f2 L.length))
  have HT := Lib.hid hT
  have e0 : (o.f0 == 0) = false := beq_eq_false_iff_ne.2 (by omega)
  have e1 : decide (1 ≤ o.f0) = true := decide_eq_true (by omega)
  have e5 : decide (o.f0 ≤ 5) = false := decide_eq_false (by omega)
  have e6 : (o.f0 == 6) = false := beq_eq_false_iff_ne.2 (by omega)
  have e7 : (o.f0 == 7) = true := beq_iff_eq.2 h7
  generalize inK L o.f2 L.length = q at *
  clear hT hG hB hr hc h7
  go_enter Try.func25, Try.ntmps25
  go_wp2_with fail
  go_region_with (first | (go_at_call 22; refine (H1.out _ (by repeat (first | exact Below.refl _ _ | apply pw_below_drewN | apply below_drew1 | apply below_alloc))).mono ?_; rintro e w1 ⟨A1, c1, rfl, hc1, hC1, hb⟩; obtain ⟨hcc, hff⟩ := bcell hb; have hd := fun o => hcc w.heap.size o (by simp); have HC1 := Lib.hid hC1; have HB1 := Lib.hid (below_step (w := w) (by repeat (first | exact Below.refl _ _ | apply pw_below_drewN | apply below_drew1 | apply below_alloc)) hb); clear hC1 hb hcc hff) | (go_at_call 44; refine (H2.out _).mono ?_; rintro e w2 ⟨A2, c2, rfl, hc2, hC2, hb⟩; have HC2 := Lib.hid hC2; have HC3 := Lib.hid (Kd.C_below HC1.out hb); have HB2 := Lib.hid (below_step HB1.out hb); clear hC2 hb) | (go_at_call 43; refine (H3.out A1 c1 A2 c2 _ HC3.out hc1 HC2.out).mono ?_; rintro e w3 ⟨b, rfl, hb⟩; have HB3 := Lib.hid (below_step HB2.out hb); clear hb))
  all_goals (go_wp2; go_ret2; exact Loose.same HT.out HB3.out)
set_option maxRecDepth 100000 in
set_option maxHeartbeats 1000000 in
theorem loose_get_out (g : Nat) (okt : Nat → Prop) (L : List S28) (o : S44) (A : Option Addr) (c : Nat) (w : World) (hT : Tb w g okt L) (hG : Good L) (hB : B44 o) (hr : Kd.C k71 w A o.f6.length o.f6) (hc : o.f6.length ≤ c) (h6 : o.f0 = 6) (hid : ¬ (1 ≤ o.f1 ∧ o.f1 ≤ L.length)) :
    Calls Try.prog 25 #[.pointer (some ⟨g, 0, none⟩), .slice none 0 0, .agg #[.int .i64 o.f0, .int .i64 o.f1, .int .i64 o.f2, .string o.f3, .string o.f4, .string o.f5, .slice A o.f6.length c]] w (Loose w g okt L) := by
  have H1 := Lib.hid (get_out g okt L o.f1 (w.alloc (.cells #[.int .i64 o.f0, .int .i64 o.f1, .int .i64 o.f2, .string o.f3, .string o.f4, .string o.f5, .slice A o.f6.length c] 44)) (Tb_below hT (below_alloc (Below.refl _ _) _)) hid)
  have H3 := Lib.hid (fun W => Alike_calls z28 (by decide) none 0 none 0 W (Kd.C_nil _ _) (Nat.le_refl _) (Kd.C_nil _ _) (Nat.le_refl _))
  have HT := Lib.hid hT
  have e0 : (o.f0 == 0) = false := beq_eq_false_iff_ne.2 (by omega)
  have e1 : decide (1 ≤ o.f0) = true := decide_eq_true (by omega)
  have e5 : decide (o.f0 ≤ 5) = false := decide_eq_false (by omega)
  have e6 : (o.f0 == 6) = true := beq_iff_eq.2 h6
  clear hT hG hB hr hc h6
  by_cases hlow : o.f1 < 1
  · have d1 : decide (o.f1 < 1) = true := decide_eq_true hlow
    clear hid hlow
    go_enter Try.func25, Try.ntmps25
    go_wp2_with fail
    refine (H1.out).mono ?_
    rintro e w1 ⟨rfl, hb⟩
    obtain ⟨hcc, hff⟩ := bcell hb
    have hd := fun o => hcc w.heap.size o (by simp)
    have hz : w.heap.size < w1.heap.size := by have := hb.size; simp at this; omega
    have HB1 := Lib.hid (below_step (w := w) (below_alloc (Below.refl _ _) _) hb)
    clear hb hcc hff
    go_wp2_with fail
    refine (H3.out _).mono ?_
    rintro e w2 ⟨rfl, hb⟩
    have HB2 := Lib.hid (below_step (w := w) (below_alloc HB1.out _) hb)
    clear hb
    go_wp2
    go_ret2
    exact Loose.same HT.out HB2.out
  · have d1 : decide (o.f1 < 1) = false := decide_eq_false hlow
    have d2 : decide ((0 : Int) < o.f1) = true := decide_eq_true (by omega)
    clear hid hlow
    go_enter Try.func25, Try.ntmps25
    go_wp2_with fail
    refine (H1.out).mono ?_
    rintro e w1 ⟨rfl, hb⟩
    obtain ⟨hcc, hff⟩ := bcell hb
    have hd := fun o => hcc w.heap.size o (by simp)
    have hz : w.heap.size < w1.heap.size := by have := hb.size; simp at this; omega
    have HB1 := Lib.hid (below_step (w := w) (below_alloc (Below.refl _ _) _) hb)
    clear hb hcc hff
    go_wp2_with fail
    refine (H3.out _).mono ?_
    rintro e w2 ⟨rfl, hb⟩
    have HB2 := Lib.hid (below_step (w := w) (below_alloc HB1.out _) hb)
    clear hb
    go_wp2
    go_ret2
    exact Loose.same HT.out HB2.out
set_option maxRecDepth 100000 in
set_option maxHeartbeats 1000000 in
theorem loose_get_in (g : Nat) (okt : Nat → Prop) (L : List S28) (o : S44) (A : Option Addr) (c : Nat) (w : World) (hT : Tb w g okt L) (hG : Good L) (hB : B44 o) (hr : Kd.C k71 w A o.f6.length o.f6) (hc : o.f6.length ≤ c) (h6 : o.f0 = 6) (i : Nat) (hi : i < L.length) (hid : o.f1 = (i : Int) + 1) :
    Calls Try.prog 25 #[.pointer (some ⟨g, 0, none⟩), .slice none 0 0, .agg #[.int .i64 o.f0, .int .i64 ((i : Int) + 1), .int .i64 o.f2, .string o.f3, .string o.f4, .string o.f5, .slice A o.f6.length c]] w (Loose w g okt L) := by
  have H1 := get_in g okt L i (w.alloc (.cells #[.int .i64 o.f0, .int .i64 ((i : Int) + 1), .int .i64 o.f2, .string o.f3, .string o.f4, .string o.f5, .slice A o.f6.length c] 44)) (Tb_below hT (below_alloc (Below.refl _ _) _)) hi hG.fits
  have HT := Lib.hid hT
  have H1 := Lib.hid H1
  have e0 : (o.f0 == 0) = false := beq_eq_false_iff_ne.2 (by omega)
  have e1 : decide (1 ≤ o.f0) = true := decide_eq_true (by omega)
  have e5 : decide (o.f0 ≤ 5) = false := decide_eq_false (by omega)
  have e6 : (o.f0 == 6) = true := beq_iff_eq.2 h6
  have d1 : decide ((i : Int) + 1 < 1) = false := decide_eq_false (by omega)
  have d2 : decide ((0 : Int) < (i : Int) + 1) = true := decide_eq_true (by omega)
  generalize L[i] = x at *
  clear hT hG hB hr hc h6 hid
  go_enter Try.func25, Try.ntmps25
  go_wp2_with fail
  refine (H1.out).mono ?_
  rintro e w1 ⟨A7, rfl, hF, hb⟩
  have hb2 := below_step (w := w) (below_alloc (Below.refl _ _) _) hb
  obtain ⟨hcc, hff⟩ := bcell hb
  have hd := fun o => hcc w.heap.size o (by simp)
  have hz : w.heap.size < w1.heap.size := by have := hb.size; simp at this; omega
  have HB1 := Lib.hid hb2
  clear hb hb2 hF hcc hff
  go_wp2
  go_ret2
  exact Loose.same HT.out (below_alloc HB1.out _)
/-- The law's step beside an empty list. -/
theorem loose_calls (g : Nat) (okt : Nat → Prop) (L : List S28) (o : S44) (A : Option Addr) (c : Nat) (w : World) (hT : Tb w g okt L) (hG : Good L) (hB : B44 o) (hr : Kd.C k71 w A o.f6.length o.f6) (hc : o.f6.length ≤ c) :
    Calls Try.prog 25 #[.pointer (some ⟨g, 0, none⟩), .slice none 0 0, .agg #[.int .i64 o.f0, .int .i64 o.f1, .int .i64 o.f2, .string o.f3, .string o.f4, .string o.f5, .slice A o.f6.length c]] w (Loose w g okt (stepL L o)) := by
  unfold stepL
  by_cases h0 : o.f0 = 0
  · rw [if_pos h0]
    exact loose_request g okt L o A c w hT hG hB hr hc h0
  rw [if_neg h0]
  by_cases hcl : 1 ≤ o.f0 ∧ o.f0 ≤ 5
  · rw [if_pos hcl]
    exact loose_lead g okt L o A c w hT hG hB hr hc hcl
  rw [if_neg hcl]
  by_cases h6 : o.f0 = 6
  · rcases id_cases L o.f1 with h1 | ⟨h1, h2⟩ | ⟨i, hi, he⟩
    · exact loose_get_out g okt L o A c w hT hG hB hr hc h6 (by omega)
    · exact loose_get_out g okt L o A c w hT hG hB hr hc h6 (by omega)
    · have := loose_get_in g okt L o A c w hT hG hB hr hc h6 i hi he
      rwa [← he] at this
  by_cases h7 : o.f0 = 7
  · exact loose_in g okt L o A c w hT hG hB hr hc h7
  by_cases h8 : o.f0 = 8
  · exact loose_len g okt L o A c w hT hG hB hr hc h8
  exact loose_list g okt L o A c w hT hG hB hr hc (by omega)
end Go.Proofs.Ytagifiakjniedaa.PTab
end
section
namespace Go.Proofs.Ytagifiakjniedaa.PTab
open Go.RowKit Go.Proofs.YtagifiakjniedaaW.PrintWords Go.Proofs.YtagifiakjniedaaW.PrintLast
set_option linter.unusedVariables false
set_option linter.unusedSimpArgs false
theorem Good.load {L : List S28} (h : Good L) : loadV L = 0 := by
  unfold loadV
  rw [if_neg (by have := h.1; omega)]
  exact firstE_ok.2 h.2
theorem Good.short {L : List S28} (h : Good L) : ∀ x ∈ L, Short x := by
  intro x hx
  have e := (errV_zero (h.2 x hx)).1
  rw [Bool.and_eq_true, Bool.and_eq_true] at e
  exact ⟨name_short e.1, name_short e.2.1, name_short e.2.2⟩
set_option maxRecDepth 100000 in
set_option maxHeartbeats 2000000 in
theorem tableBack_walk (A0 : Option Addr) (c0 : Nat) (l0 : List S44) (A1 : Option Addr) (c1 : Nat) (l1 : List S44) (W : World) (hr0 : Kd.C k44 W A0 l0.length l0) (hc0 : l0.length ≤ c0) (b0 : l0.length * Try.prog.bytesOf 44 ≤ 140737488351232 ∧ ∀ y ∈ l0, B44 y) (hr1 : Kd.C k44 W A1 l1.length l1) (hc1 : l1.length ≤ c1) (b1 : l1.length * Try.prog.bytesOf 44 ≤ 140737488351232 ∧ ∀ y ∈ l1, B44 y) : Calls Try.prog 9 #[.slice A0 l0.length c0, .slice A1 l1.length c1] W fun e W' => e = .returned (.bool true) ∧ Below W.heap.size W W' := by
  have HC0 := Lib.hid hr0
  have HB0 := Lib.hid b0.2
  have HC1 := Lib.hid hr1
  have HB1 := Lib.hid b1.2
  have hm := Kd.C_max hr0
  clear hr0 b0 hr1 b1
  go_enter Try.func9, Try.ntmps9
  go_wp2_with fail
  refine (begun_calls W).mono ?_
  rintro e w1 ⟨g, rfl, hT, hb⟩
  have HBB : Hid (Tb w1 g (fun k => W.heap.size ≤ k) [] ∧ Good [] ∧ Below W.heap.size W w1) := Lib.hid ⟨hT, ⟨by decide, fun x hx => by cases hx⟩, hb⟩
  clear hT hb
  go_wp2_with fail
  go_loopw [20] (fun x wr => ∃ k : Nat, k ≤ l0.length ∧ x = .int .i64 k ∧ ∃ L : List S28, Hid (Tb wr g (fun k => W.heap.size ≤ k) L ∧ Good L ∧ Below W.heap.size W wr)) (fun x _ => l0.length - (intOf x).toNat)
  case atStart => exact ⟨0, Nat.zero_le _, rfl, [], HBB⟩
  case round =>
    clear HBB
    obtain ⟨k, hk, rfl, L, HREL⟩ := hrel
    obtain ⟨hT, hG, hb⟩ := HREL.out
    by_cases hlt : k < l0.length
    · have hCr := Kd.C_below HC0.out hb
      obtain ⟨ad, A6, c6, rfl, ⟨k0, k1, k2, k3, k4, k5, k6⟩, l6, g6⟩ := C_elem44 hCr k hlt
      have hBo := HB0.out l0[k] (List.getElem_mem hlt)
      generalize l0[k] = o at *
      have hbx : Below wr.heap.size wr (wr.alloc (.cells #[.int .i64 o.f0, .int .i64 o.f1, .int .i64 o.f2, .string o.f3, .string o.f4, .string o.f5, .slice A6 o.f6.length c6] 44)) := below_alloc (Below.refl _ _) _
      have H := Lib.hid (loose_calls g _ L o A6 c6 _ (Tb_below hT hbx) hG hBo (Kd.C_below g6 hbx) l6)
      have HX := Lib.hid (show Below W.heap.size W _ ∧ Good (stepL L o) from ⟨Below.trans hb (hbx.mono hb.size), hG.step o⟩)
      clear hT hG hb hCr l6 g6 hBo hbx
      go_wp2_with fail
      refine (H.out).mono ?_
      rintro e w2 ⟨v, b, rfl, hT2, hk2⟩
      have HN : Hid (Tb w2 g (fun k => W.heap.size ≤ k) (stepL L o) ∧ Good (stepL L o) ∧ Below W.heap.size W w2) := Lib.hid ⟨Tb_mono hT2 (fun k hk => hk.elim id (fun h => Nat.le_trans HX.out.1.size h)), HX.out.2, Below.trans HX.out.1 (hk2.below HX.out.1.size (fun k hk => hk))⟩
      clear hT2 hk2
      go_wp2
      go_roundw
      case rel => exact ⟨k + 1, by omega, by go_num, _, HN⟩
      case measure => simp [intOf]; omega
    · obtain rfl : k = l0.length := by omega
      have H2 := Lib.hid (list_calls g _ L wr hT hG.fits)
      have HTT := Lib.hid (Tb_bound hT)
      have HG := Lib.hid hG
      have HB := Lib.hid hb
      have hl := hG.1
      clear hT hG hb
      go_wp2_with fail
      refine (H2.out).mono ?_
      rintro e w2 ⟨A', rfl, hN, hb⟩
      have HN := Lib.hid (Kd.NJ_bound hN)
      have HB2 := Lib.hid hb
      clear hN hb
      go_wp2_with fail
      refine (load_calls A' L.length L w2 (Kd.NJ_C HN.out) (Nat.le_refl _) HG.out.short (fun _ => HG.out.fits)).mono ?_
      rintro e w3 ⟨hb, ⟨_, g2, rfl, hT2⟩ | ⟨hne, _⟩⟩
      · have HB3 := Lib.hid hb
        have HT3 := Lib.hid (Tb_bound hT2)
        have HT4 := Lib.hid (Tb_below (Tb_below HTT.out HB2.out) hb)
        clear hb hT2
        go_wp2_with fail
        refine (len_calls g _ L w3 HT4.out).mono ?_
        rintro e w4 ⟨rfl, rfl⟩
        go_wp2_with fail
        have HBB : Hid (Both W w3 (fun k => W.heap.size ≤ k ∧ k < wr.heap.size) w3 g (.slice A' L.length L.length) L) := Lib.hid ⟨_, fun k => wr.heap.size ≤ k ∧ k < w2.heap.size, HT4.out, Kd.V_below (Kd.NJ_V HN.out (fun k hk => hk) (fun j k _ hk => hk)) HB3.out, fun k hk h => by have := hk.2; have := h.1; omega, fun k hk => .inl hk, fun k hk => hk.1, HG.out, Below.trans HB.out (Below.trans (HB2.out.mono HB.out.size) (HB3.out.mono (Nat.le_trans HB.out.size HB2.out.size))), Kp.refl _ _⟩
        refine (run_calls W w3 _ g A' L.length L HBB.out A1 c1 l1 HC1.out hc1 HB1.out).mono ?_
        rintro e w4 ⟨rfl, hb, hk⟩
        have HB4 := Lib.hid hb
        have HBC : Hid (Both W w4 (fun k => w2.heap.size ≤ k ∧ k < w3.heap.size) w4 g2 (.slice A' L.length L.length) L) := Lib.hid ⟨_, fun k => wr.heap.size ≤ k ∧ k < w2.heap.size, Tb_kp HT3.out hk (fun k hk _ h => by have := hk.1; have := h.2; have := HB2.out.size; omega),
          Kd.V_kept (Kd.V_below (Kd.NJ_V HN.out (fun k hk => hk) (fun j k _ hk => hk)) HB3.out) hk.kept (fun k hk h => by have := hk.2; have := h.1; omega), fun k hk h => by have := hk.1; have := h.2; omega, fun k hk => .inl hk, fun k hk => Nat.le_trans (Nat.le_trans HB.out.size HB2.out.size) hk.1, HG.out, hb, Kp.refl _ _⟩
        clear hb hk HBB
        go_wp2_with fail
        refine (run_calls W w4 _ g2 A' L.length L HBC.out A1 c1 l1 HC1.out hc1 HB1.out).mono ?_
        rintro e w5 ⟨rfl, hb, hk⟩
        have HE := Lib.hid hb
        clear hb hk HBC
        go_wp2
        go_ret
        exact ⟨rfl, HE.out⟩
      · exact absurd HG.out.load hne
end Go.Proofs.Ytagifiakjniedaa.PTab
end
