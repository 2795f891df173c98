/-
  Contracts of functions that a statement of this seat reaches (joined texts: H9, H10, H11, H12, H13, H14).
-/
import Derived.Test.YtagifiakjniedaaMA
import Derived.RegionTactic
import Derived.ChangeAlike
import Derived.Deep.RegionWith
section
namespace Go.Proofs.Ytagifiakjniedaa.PTab
open Go.RowKit Go.Proofs.YtagifiakjniedaaW.PrintWords Go.Proofs.YtagifiakjniedaaW.PrintLast
set_option linter.unusedVariables false
set_option linter.unusedSimpArgs false
/-- The numbers of those in a state, among the first k. -/
def inK (L : List S28) (st : Int) (k : Nat) : List Int := ((List.range k).filter (fun i : Nat => decide ((L.getD i z28).f3 = st))).map (fun i : Nat => ((i : Int) + 1))
theorem inK_zero (L : List S28) (st : Int) : inK L st 0 = [] := rfl
theorem inK_yes {L : List S28} {st : Int} {k : Nat} (h : (L.getD k z28).f3 = st) : inK L st (k + 1) = inK L st k ++ [(k : Int) + 1] := by
  unfold inK
  rw [List.range_succ, List.filter_append, List.map_append]
  have h2 : decide ((L.getD k z28).f3 = st) = true := decide_eq_true h
  simp only [List.filter_cons, h2, List.filter_nil, List.map_cons, List.map_nil, if_true]
theorem inK_no {L : List S28} {st : Int} {k : Nat} (h : (L.getD k z28).f3 ≠ st) : inK L st (k + 1) = inK L st k := by
  unfold inK
  rw [List.range_succ, List.filter_append, List.map_append]
  have h2 : decide ((L.getD k z28).f3 = st) = false := decide_eq_false h
  simp only [List.filter_cons, h2, List.filter_nil, List.map_nil, List.append_nil, Bool.false_eq_true, if_false]
theorem inK_len (L : List S28) (st : Int) (k : Nat) : (inK L st k).length ≤ k := by
  unfold inK
  rw [List.length_map]
  have := List.length_filter_le (fun i : Nat => decide ((L.getD i z28).f3 = st)) (List.range k)
  simpa using this
def InRel (w : World) (g : Nat) (ok : Nat → Prop) (L : List S28) (st : Int) (k : Nat) (v : Value) (wr : World) : Prop :=
  Kd.R (Kd.int .i64) 3 wr w.heap.size (fun _ => True) v (inK L st k) ∧ Below w.heap.size w wr
set_option maxRecDepth 100000 in
set_option maxHeartbeats 1000000 in
theorem in_calls (g : Nat) (ok : Nat → Prop) (L : List S28) (st : Int) (w : World) (hT : Tb w g ok L) (hL : L.length ≤ 64) :
    Calls Try.prog 22 #[.pointer (some ⟨g, 0, none⟩), .int .i64 st] w fun e w' => ∃ v, e = .returned v ∧ Kd.R (Kd.int .i64) 3 w' w.heap.size (fun _ => True) v (inK L st L.length) ∧ Below w.heap.size w w' := by
  obtain ⟨A, c, hg, hlc, hC⟩ := Tb_C hT
  obtain ⟨h0, h1⟩ := Tb_cell hg
  have HT := Lib.hid hT
  have HG := Lib.hid hg
  clear hg hT hC
  go_enter Try.func22, Try.ntmps22
  go_wp2_with fail
  go_loopw [5, 13] (fun v x wr => ∃ k : Nat, k ≤ L.length ∧ x = .int .i64 k ∧ Hid (InRel w g ok L st k v wr)) (fun v x wr => L.length - (intOf x).toNat)
  case atStart => exact ⟨0, Nat.zero_le _, rfl, Lib.hid ⟨Kd.R_nil _ _ _ _ _, Below.refl _ _⟩⟩
  case round =>
    obtain ⟨k, hk, rfl, HREL⟩ := hrel
    clear h0 h1
    by_cases hlt : k < L.length
    · have hTr := Tb_below HT.out HREL.out.2
      obtain ⟨b, c2, A6, c6, hg2, hob, hbg, hbl, hlc2, ⟨k0, k1, k2, k3, k4, k5, k6⟩, l6, g6, hfr⟩ := Tb_at hTr k hlt
      have hg3 := (HREL.out.2.block g (blk_lt HG.out)).trans HG.out
      rw [hg2] at hg3
      obtain ⟨rfl, rfl⟩ : some (⟨b, 0, none⟩ : Addr) = A ∧ c2 = c := by
        injection hg3 with hg3
        injection hg3 with hg3
        have := congrArg (fun a => a[0]?) hg3
        simp at this
        exact this
      have hx : L.getD k z28 = L[k] := by rw [List.getD_eq_getElem?_getD, List.getElem?_eq_getElem hlt]; rfl
      have HX := Lib.hid hx
      have hlen := inK_len L st k
      clear hx hTr hg2 hg3 l6 g6 hfr hob
      by_cases he : L[k].f3 = st
      · have e1 : (L[k].f3 == st) = true := beq_iff_eq.2 he
        have HE := Lib.hid he
        clear he
        generalize L[k] = x at *
        go_wp2_with ((with_reducible refine gate_builtin (b := .append) (xs := #[.tmp 22, .tmp 25]) rfl ?_); at_builtin; refine Kd.R_append (Kd.int .i64) (w0 := w) w.heap.size rfl (.tmp 22) (.tmp 25) 48 3 (.int .i64 0) 8 rfl Try.underlying48 info3 rfl (by decide) (by omega) u5 (inK L st k) ((k : Int) + 1) [.int .i64 ((k : Int) + 1)] (fun _ => True) (fun _ => False) rfl ?aX ?aP (fun _ hk => hk.elim) ?aF ?aO ?aB ?aS ?aL ?_; (case aX => show Value.slice (some ⟨wr.heap.size + 1, 0, none⟩) 1 1 = _; simp); (case aP => exact rfl); (case aB => exact below_alloc HREL.out.2 _); (case aF => exact (fun _ _ => trivial)); (case aO => exact Kd.R_alloc HREL.out.1 _); (case aS => have := HREL.out.2.size; simp; omega); (case aL => omega); intro v164 w7 ho hb hg hat; have HN := Lib.hid (show InRel w g ok L st (k + 1) v164 w7 from ⟨by rw [inK_yes (by rw [HX.out]; exact HE.out)]; exact ho, hb⟩); clear ho hb hg hat)
        go_roundw
        case rel => exact ⟨k + 1, by omega, by go_num, HN⟩
        case measure => simp [intOf]; omega
      · have e1 : (L[k].f3 == st) = false := beq_eq_false_iff_ne.2 he
        have HE := Lib.hid he
        clear he
        generalize L[k] = x at *
        go_wp2
        go_roundw
        case rel => exact ⟨k + 1, by omega, by go_num, Lib.hid ⟨by rw [inK_no (by rw [HX.out]; exact HE.out)]; exact Kd.R_alloc HREL.out.1 _, below_alloc HREL.out.2 _⟩⟩
        case measure => simp [intOf]; omega
    · obtain rfl : k = L.length := by omega
      go_wp2
      go_ret
      exact ⟨_, rfl, HREL.out⟩
end Go.Proofs.Ytagifiakjniedaa.PTab
end
section
namespace Go.Proofs.Ytagifiakjniedaa.PTab
open Go.RowKit Go.Proofs.YtagifiakjniedaaW.PrintWords Go.Proofs.YtagifiakjniedaaW.PrintLast
set_option linter.unusedVariables false
set_option linter.unusedSimpArgs false
set_option maxRecDepth 100000 in
set_option maxHeartbeats 1000000 in
theorem lead_low (g : Nat) (id from_ : Int) (f1 f2 : Value) (w : World) (hid : id < 1) :
    Calls Try.prog 31 #[.pointer (some ⟨g, 0, none⟩), .int .i64 id, .int .i64 from_, f1, f2] w fun e w' => e = .returned (.int .i64 162) ∧ Below w.heap.size w w' := by
  have hd1 : decide (id < 1) = true := by simp; omega
  go_enter Try.func31, Try.ntmps31
  go_wp2
  go_ret
  exact ⟨rfl, Below.refl _ _⟩
set_option maxRecDepth 100000 in
set_option maxHeartbeats 1000000 in
theorem lead_high (g : Nat) (ok : Nat → Prop) (L : List S28) (id from_ : Int) (f1 f2 : Value) (w : World) (hT : Tb w g ok L) (hid : 1 ≤ id) (hid2 : L.length < id) :
    Calls Try.prog 31 #[.pointer (some ⟨g, 0, none⟩), .int .i64 id, .int .i64 from_, f1, f2] w fun e w' => e = .returned (.int .i64 162) ∧ Below w.heap.size w w' := by
  obtain ⟨A, c, hg, hlc, hC⟩ := Tb_C hT
  obtain ⟨k0, k1⟩ := Tb_cell hg
  have hd1 : decide (id < 1) = false := by simp; omega
  have hd2 : decide ((L.length : Int) < id) = true := by simp; omega
  clear hC hg hT hlc
  go_enter Try.func31, Try.ntmps31
  go_wp2
  go_ret
  exact ⟨rfl, Below.refl _ _⟩
set_option maxRecDepth 100000 in
set_option maxHeartbeats 1000000 in
theorem lead_state (g : Nat) (ok : Nat → Prop) (L : List S28) (i : Nat) (from_ : Int) (f1 f2 : Value) (w : World) (hT : Tb w g ok L) (hi : i < L.length) (hL : L.length ≤ 64) (hs : L[i].f3 ≠ from_) :
    Calls Try.prog 31 #[.pointer (some ⟨g, 0, none⟩), .int .i64 ((i : Int) + 1), .int .i64 from_, f1, f2] w fun e w' => e = .returned (.int .i64 163) ∧ Below w.heap.size w w' := by
  obtain ⟨b, c, A6, c6, hg, hob, hbg, hbl, hlc, ⟨k0, k1, k2, k3, k4, k5, k6⟩, l6, g6, hfr⟩ := Tb_at hT i hi
  obtain ⟨h0, h1⟩ := Tb_cell hg
  have hd1 : decide ((i : Int) + 1 < 1) = false := by simp; omega
  have hd2 : decide ((L.length : Int) < (i : Int) + 1) = false := by simp; omega
  have hb : (L[i].f3 != from_) = true := bne_iff_ne.2 hs
  clear hg hT g6
  generalize L[i] = x at *
  go_enter Try.func31, Try.ntmps31
  go_wp2
  go_ret
  exact ⟨rfl, Below.refl _ _⟩
theorem Tb_put3 {w : World} {g b c : Nat} {ok : Nat → Prop} {L : List S28} (hT : Tb w g ok L) (hg : w.heap[g]? = some (.cells #[.slice (some ⟨b, 0, none⟩) L.length c] 65 (0, 0))) (i : Nat) (hi : i < L.length) (u : Int) :
    Tb (w.setCell ⟨b, i * 7 + 3, none⟩ (.int .i64 u)) g ok (L.set i { L[i] with f3 := u }) ∧ (w.setCell ⟨b, i * 7 + 3, none⟩ (.int .i64 u)).heap[g]? = some (.cells #[.slice (some ⟨b, 0, none⟩) L.length c] 65 (0, 0)) := by
  obtain ⟨A, c2, hg2, ho, hN⟩ := hT
  have he := hg
  rw [hg2] at he
  obtain ⟨rfl, rfl⟩ : A = some (⟨b, 0, none⟩ : Addr) ∧ c2 = c := by
    injection he with he
    injection he with he
    have := congrArg (fun a => a[0]?) he
    simp at this
    exact this
  obtain ⟨b2, cs, hA, hb, hcl, hF, hcc, hfr⟩ := Kd.NJ_elem hN i L[i] (List.getElem?_eq_getElem hi)
  obtain rfl : b = b2 := by injection hA with hA; injection hA
  obtain ⟨A6, c6, rfl, l6, g6⟩ := k28_openF hF
  have h3 := Kd.NJ_seg hN i hi (seg := [.int .i64 u]) (j := 3) hcl hcc (by show 3 + 1 ≤ 7; omega) (x' := { L[i] with f3 := u }) (okp := fun k => (ok k ∧ k ≠ g) ∧ k ≠ b) (k28_mkF w _ { L[i] with f3 := u } l6 g6) (fun k hk => hk.2)
  have hg4 : (w.setCell ⟨b, i * 7 + 3, none⟩ (.int .i64 u)).heap[g]? = some (.cells #[.slice (some ⟨b, 0, none⟩) L.length c2] 65 (0, 0)) := (Below.heap_setCell w ⟨b, i * 7 + 3, none⟩ _ g (Ne.symm hb.2)).trans hg
  refine ⟨⟨_, c2, ?_, ho, Kd.NJ_mono h3 (fun k hk => hk) (fun j k hj hk => ?_)⟩, hg4⟩
  · rw [List.length_set]
    exact hg4
  · by_cases hji : j = i
    · rw [if_pos hji] at hk
      exact hk.1
    · rw [if_neg hji] at hk
      exact hk
theorem Tb_put4 {w : World} {g b c : Nat} {ok : Nat → Prop} {L : List S28} (hT : Tb w g ok L) (hg : w.heap[g]? = some (.cells #[.slice (some ⟨b, 0, none⟩) L.length c] 65 (0, 0))) (i : Nat) (hi : i < L.length) (u : Int) :
    Tb (w.setCell ⟨b, i * 7 + 4, none⟩ (.int .i64 u)) g ok (L.set i { L[i] with f4 := u }) ∧ (w.setCell ⟨b, i * 7 + 4, none⟩ (.int .i64 u)).heap[g]? = some (.cells #[.slice (some ⟨b, 0, none⟩) L.length c] 65 (0, 0)) := by
  obtain ⟨A, c2, hg2, ho, hN⟩ := hT
  have he := hg
  rw [hg2] at he
  obtain ⟨rfl, rfl⟩ : A = some (⟨b, 0, none⟩ : Addr) ∧ c2 = c := by
    injection he with he
    injection he with he
    have := congrArg (fun a => a[0]?) he
    simp at this
    exact this
  obtain ⟨b2, cs, hA, hb, hcl, hF, hcc, hfr⟩ := Kd.NJ_elem hN i L[i] (List.getElem?_eq_getElem hi)
  obtain rfl : b = b2 := by injection hA with hA; injection hA
  obtain ⟨A6, c6, rfl, l6, g6⟩ := k28_openF hF
  have h3 := Kd.NJ_seg hN i hi (seg := [.int .i64 u]) (j := 4) hcl hcc (by show 4 + 1 ≤ 7; omega) (x' := { L[i] with f4 := u }) (okp := fun k => (ok k ∧ k ≠ g) ∧ k ≠ b) (k28_mkF w _ { L[i] with f4 := u } l6 g6) (fun k hk => hk.2)
  have hg4 : (w.setCell ⟨b, i * 7 + 4, none⟩ (.int .i64 u)).heap[g]? = some (.cells #[.slice (some ⟨b, 0, none⟩) L.length c2] 65 (0, 0)) := (Below.heap_setCell w ⟨b, i * 7 + 4, none⟩ _ g (Ne.symm hb.2)).trans hg
  refine ⟨⟨_, c2, ?_, ho, Kd.NJ_mono h3 (fun k hk => hk) (fun j k hj hk => ?_)⟩, hg4⟩
  · rw [List.length_set]
    exact hg4
  · by_cases hji : j = i
    · rw [if_pos hji] at hk
      exact hk.1
    · rw [if_neg hji] at hk
      exact hk
theorem Tb_put5 {w : World} {g b c : Nat} {ok : Nat → Prop} {L : List S28} (hT : Tb w g ok L) (hg : w.heap[g]? = some (.cells #[.slice (some ⟨b, 0, none⟩) L.length c] 65 (0, 0))) (i : Nat) (hi : i < L.length) (u : Int) :
    Tb (w.setCell ⟨b, i * 7 + 5, none⟩ (.int .i64 u)) g ok (L.set i { L[i] with f5 := u }) ∧ (w.setCell ⟨b, i * 7 + 5, none⟩ (.int .i64 u)).heap[g]? = some (.cells #[.slice (some ⟨b, 0, none⟩) L.length c] 65 (0, 0)) := by
  obtain ⟨A, c2, hg2, ho, hN⟩ := hT
  have he := hg
  rw [hg2] at he
  obtain ⟨rfl, rfl⟩ : A = some (⟨b, 0, none⟩ : Addr) ∧ c2 = c := by
    injection he with he
    injection he with he
    have := congrArg (fun a => a[0]?) he
    simp at this
    exact this
  obtain ⟨b2, cs, hA, hb, hcl, hF, hcc, hfr⟩ := Kd.NJ_elem hN i L[i] (List.getElem?_eq_getElem hi)
  obtain rfl : b = b2 := by injection hA with hA; injection hA
  obtain ⟨A6, c6, rfl, l6, g6⟩ := k28_openF hF
  have h3 := Kd.NJ_seg hN i hi (seg := [.int .i64 u]) (j := 5) hcl hcc (by show 5 + 1 ≤ 7; omega) (x' := { L[i] with f5 := u }) (okp := fun k => (ok k ∧ k ≠ g) ∧ k ≠ b) (k28_mkF w _ { L[i] with f5 := u } l6 g6) (fun k hk => hk.2)
  have hg4 : (w.setCell ⟨b, i * 7 + 5, none⟩ (.int .i64 u)).heap[g]? = some (.cells #[.slice (some ⟨b, 0, none⟩) L.length c2] 65 (0, 0)) := (Below.heap_setCell w ⟨b, i * 7 + 5, none⟩ _ g (Ne.symm hb.2)).trans hg
  refine ⟨⟨_, c2, ?_, ho, Kd.NJ_mono h3 (fun k hk => hk) (fun j k hj hk => ?_)⟩, hg4⟩
  · rw [List.length_set]
    exact hg4
  · by_cases hji : j = i
    · rw [if_pos hji] at hk
      exact hk.1
    · rw [if_neg hji] at hk
      exact hk
theorem Tb_put6 {w : World} {g b c : Nat} {ok S : Nat → Prop} {L : List S28} (hT : Tb w g ok L) (hg : w.heap[g]? = some (.cells #[.slice (some ⟨b, 0, none⟩) L.length c] 65 (0, 0))) (i : Nat) (hi : i < L.length) {A7 : Option Addr} {l : List S71} (hF7 : Kd.F k71 w S A7 l.length l) (hS : ∀ k, S k → k ≠ b ∧ k ≠ g) :
    Tb (w.setCell ⟨b, i * 7 + 6, none⟩ (.slice A7 l.length l.length)) g (fun k => ok k ∨ S k) (L.set i { L[i] with f6 := l }) ∧ (w.setCell ⟨b, i * 7 + 6, none⟩ (.slice A7 l.length l.length)).heap[g]? = some (.cells #[.slice (some ⟨b, 0, none⟩) L.length c] 65 (0, 0)) := by
  obtain ⟨A, c2, hg2, ho, hN⟩ := hT
  have he := hg
  rw [hg2] at he
  obtain ⟨rfl, rfl⟩ : A = some (⟨b, 0, none⟩ : Addr) ∧ c2 = c := by
    injection he with he
    injection he with he
    have := congrArg (fun a => a[0]?) he
    simp at this
    exact this
  obtain ⟨b2, cs, hA, hb, hcl, hF, hcc, hfr⟩ := Kd.NJ_elem hN i L[i] (List.getElem?_eq_getElem hi)
  obtain rfl : b = b2 := by injection hA with hA; injection hA
  obtain ⟨A6, c6, rfl, l6, g6⟩ := k28_openF hF
  have h3 := Kd.NJ_seg hN i hi (seg := [.slice A7 l.length l.length]) (j := 6) hcl hcc (by show 6 + 1 ≤ 7; omega) (x' := { L[i] with f6 := l }) (okp := S) (k28_mkF w _ { L[i] with f6 := l } (Nat.le_refl _) hF7) (fun k hk => (hS k hk).1)
  have hg4 : (w.setCell ⟨b, i * 7 + 6, none⟩ (.slice A7 l.length l.length)).heap[g]? = some (.cells #[.slice (some ⟨b, 0, none⟩) L.length c2] 65 (0, 0)) := (Below.heap_setCell w ⟨b, i * 7 + 6, none⟩ _ g (Ne.symm hb.2)).trans hg
  refine ⟨⟨_, c2, ?_, .inl ho, Kd.NJ_mono h3 (fun k hk => ⟨.inl hk.1, hk.2⟩) (fun j k hj hk => ?_)⟩, hg4⟩
  · rw [List.length_set]
    exact hg4
  · by_cases hji : j = i
    · rw [if_pos hji] at hk
      exact ⟨.inr hk, (hS k hk).2⟩
    · rw [if_neg hji] at hk
      exact ⟨.inl hk.1, hk.2⟩
end Go.Proofs.Ytagifiakjniedaa.PTab
end
section
namespace Go.Proofs.Ytagifiakjniedaa.PTab
open Go.RowKit Go.Proofs.YtagifiakjniedaaW.PrintWords Go.Proofs.YtagifiakjniedaaW.PrintLast
set_option linter.unusedVariables false
set_option linter.unusedSimpArgs false
def whyB (n : Int) : Bool := decide (1 ≤ n) && decide (n ≤ 9)
theorem because_tells (n : Int) : table_because.f n = some (whyB n) := by
  unfold table_because.f whyB
  by_cases h : n ≥ 1
  · rw [if_pos h]; simp [h]
  · rw [if_neg h]; simp; omega
theorem because_calls (n : Int) (w : World) : Calls Try.prog 53 #[.int .i64 n] w fun e w' => e = .returned (.bool (whyB n)) ∧ Below w.heap.size w w' :=
  (table_because.calls n (whyB n) w (because_tells n)).mono (fun e w' h => ⟨h.1, h.2.below⟩)
set_option maxRecDepth 100000 in
theorem deny1 (s : Value) (q : Nat) (n : Int) (w : World) (hq : w.cell? ⟨q, 0, none⟩ = some (.int .i64 n)) : Calls Try.prog 52 #[s, .pointer (some ⟨q, 0, none⟩)] w fun e w' => e = .returned (.bool (whyB n)) ∧ Below w.heap.size w w' := by
  have H := fun W => because_calls n W
  generalize whyB n = x at *
  have H := Lib.hid H
  go_enter Try.func52, Try.ntmps52
  go_wp2_with fail
  refine (H.out _).mono ?_
  rintro e w1 ⟨rfl, hb⟩
  have HB := Lib.hid hb
  clear hb
  go_wp2
  go_ret
  exact ⟨rfl, HB.out⟩
set_option maxRecDepth 100000 in
theorem revoke1 (s : Value) (q : Nat) (n : Int) (w : World) (hq : w.cell? ⟨q, 0, none⟩ = some (.int .i64 n)) : Calls Try.prog 55 #[s, .pointer (some ⟨q, 0, none⟩)] w fun e w' => e = .returned (.bool (whyB n)) ∧ Below w.heap.size w w' := by
  have H := fun W => because_calls n W
  generalize whyB n = x at *
  have H := Lib.hid H
  go_enter Try.func55, Try.ntmps55
  go_wp2_with fail
  refine (H.out _).mono ?_
  rintro e w1 ⟨rfl, hb⟩
  have HB := Lib.hid hb
  clear hb
  go_wp2
  go_ret
  exact ⟨rfl, HB.out⟩
set_option maxRecDepth 100000 in
set_option maxHeartbeats 1000000 in
theorem deny2 (b o q : Nat) (n : Int) (x3 x5 : Value) (w : World) (hq : w.cell? ⟨q, 0, none⟩ = some (.int .i64 n)) (k3 : w.cell? ⟨b, o + 3, none⟩ = some x3) (k5 : w.cell? ⟨b, o + 5, none⟩ = some x5) (f3 : w.frozen? ⟨b, o + 3, none⟩ = false) (f5 : w.frozen? ⟨b, o + 5, none⟩ = false) (hqb : (q = b) ↔ False) (hqb2 : (b = q) ↔ False) :
    Calls Try.prog 54 #[.pointer (some ⟨b, o, none⟩), .pointer (some ⟨q, 0, none⟩)] w fun e w' => e = .returned (.tuple #[]) ∧ w' = ((w.setCell ⟨b, o + 3, none⟩ (.int .i64 2)).setCell ⟨b, o + 5, none⟩ (.int .i64 n)).drew := by
  go_enter Try.func54, Try.ntmps54
  go_wp2
  go_region
  go_end0
  exact ⟨rfl, rfl⟩
set_option maxRecDepth 100000 in
set_option maxHeartbeats 1000000 in
theorem revoke2 (b o q : Nat) (n : Int) (x3 x5 : Value) (w : World) (hq : w.cell? ⟨q, 0, none⟩ = some (.int .i64 n)) (k3 : w.cell? ⟨b, o + 3, none⟩ = some x3) (k5 : w.cell? ⟨b, o + 5, none⟩ = some x5) (f3 : w.frozen? ⟨b, o + 3, none⟩ = false) (f5 : w.frozen? ⟨b, o + 5, none⟩ = false) (hqb : (q = b) ↔ False) (hqb2 : (b = q) ↔ False) :
    Calls Try.prog 56 #[.pointer (some ⟨b, o, none⟩), .pointer (some ⟨q, 0, none⟩)] w fun e w' => e = .returned (.tuple #[]) ∧ w' = ((w.setCell ⟨b, o + 3, none⟩ (.int .i64 4)).setCell ⟨b, o + 5, none⟩ (.int .i64 n)).drew := by
  go_enter Try.func56, Try.ntmps56
  go_wp2
  go_region
  go_end0
  exact ⟨rfl, rfl⟩
set_option maxRecDepth 100000 in
theorem end1 (s : Value) (w : World) : Calls Try.prog 57 #[s] w fun e w' => e = .returned (.bool true) ∧ w = w' := by
  go_enter Try.func57, Try.ntmps57
  go_wp2
  go_ret
  exact ⟨rfl, rfl⟩
set_option maxRecDepth 100000 in
theorem end2 (b o : Nat) (x3 : Value) (w : World) (k3 : w.cell? ⟨b, o + 3, none⟩ = some x3) (f3 : w.frozen? ⟨b, o + 3, none⟩ = false) :
    Calls Try.prog 58 #[.pointer (some ⟨b, o, none⟩)] w fun e w' => e = .returned (.tuple #[]) ∧ w' = w.setCell ⟨b, o + 3, none⟩ (.int .i64 5) := by
  go_enter Try.func58, Try.ntmps58
  go_wp2
  go_end0
  exact ⟨rfl, rfl⟩
theorem ret_bool {a b : Bool} (h : a = b) : Ending.returned (.bool a) = .returned (.bool b) := by rw [h]
def startB (n : Int) (m : Nat) : Bool := decide (0 ≤ n) && decide (m ≤ 4)
set_option maxRecDepth 100000 in
theorem start1 (s : Value) (q1 q2 : Nat) (n : Int) (A : Option Addr) (m c : Nat) (w : World) (hq1 : w.cell? ⟨q1, 0, none⟩ = some (.int .i64 n)) (hq2 : w.cell? ⟨q2, 0, none⟩ = some (.slice A m c)) (hm : m ≤ 9223372036854775807) :
    Calls Try.prog 32 #[s, .pointer (some ⟨q1, 0, none⟩), .pointer (some ⟨q2, 0, none⟩)] w fun e w' => e = .returned (.bool (startB n m)) ∧ Below w.heap.size w w' := by
  unfold startB
  by_cases h : 0 ≤ n
  · have h1 : decide (0 ≤ n) = true := decide_eq_true h
    go_enter Try.func32, Try.ntmps32
    go_wp2
    go_ret
    exact ⟨ret_bool (by rw [h1, Bool.true_and]; exact decide_eq_decide.2 (by omega)), Below.refl _ _⟩
  · have h1 : decide (0 ≤ n) = false := decide_eq_false h
    go_enter Try.func32, Try.ntmps32
    go_wp2
    go_ret
    exact ⟨rfl, Below.refl _ _⟩
set_option maxRecDepth 100000 in
set_option maxHeartbeats 1000000 in
theorem start2 (b o q1 q2 : Nat) (n : Int) (x3 x4 x6 : Value) (A : Option Addr) (c : Nat) (l : List S71) (w : World) (hr : Kd.C k71 w A l.length l) (hc : l.length ≤ c) (hn : l.length * 16 ≤ 140737488355328) (hq1 : w.cell? ⟨q1, 0, none⟩ = some (.int .i64 n)) (hq2 : w.cell? ⟨q2, 0, none⟩ = some (.slice A l.length c))
    (k3 : w.cell? ⟨b, o + 3, none⟩ = some x3) (k4 : w.cell? ⟨b, o + 4, none⟩ = some x4) (k6 : w.cell? ⟨b, o + 6, none⟩ = some x6) (f3 : w.frozen? ⟨b, o + 3, none⟩ = false) (f4 : w.frozen? ⟨b, o + 4, none⟩ = false) (f6 : w.frozen? ⟨b, o + 6, none⟩ = false) (hqb : (q1 = b) ↔ False) (hqb2 : (b = q1) ↔ False) (hqb3 : (q2 = b) ↔ False) (hqb4 : (b = q2) ↔ False) :
    Calls Try.prog 33 #[.pointer (some ⟨b, o, none⟩), .pointer (some ⟨q1, 0, none⟩), .pointer (some ⟨q2, 0, none⟩)] w fun e w' => e = .returned (.tuple #[]) ∧ ∃ A' w1, Kd.F k71 w1 (fun k => w.heap.size ≤ k) A' l.length l ∧ Below w.heap.size w w1 ∧ w' = (((w1.setCell ⟨b, o + 3, none⟩ (.int .i64 3)).setCell ⟨b, o + 4, none⟩ (.int .i64 n)).setCell ⟨b, o + 6, none⟩ (.slice A' l.length l.length)) := by
  have H := fun W (hW : Below w.heap.size w W) => own_calls A c l W (Kd.C_below hr hW) hc hn
  have H := Lib.hid H
  clear hr hc
  have hbl := World.block_lt_of_cell? w _ k3
  have hq1l := World.block_lt_of_cell? w _ hq1
  go_enter Try.func33, Try.ntmps33
  go_wp2
  go_region_with (go_at_call 34; refine (H.out _ (below_drew (Below.refl _ _))).mono ?_; rintro e w1 ⟨A', rfl, hF, hb⟩; obtain ⟨hc1, hf1⟩ := bcell hb; have gq := (hc1 q1 0 hq1l).trans hq1; have g3 := (hc1 b (o + 3) hbl).trans k3; have g4 := (hc1 b (o + 4) hbl).trans k4; have g6 := (hc1 b (o + 6) hbl).trans k6; have e3 := (hf1 b (o + 3) hbl).trans f3; have e4 := (hf1 b (o + 4) hbl).trans f4; have e6 := (hf1 b (o + 6) hbl).trans f6; have HF := Lib.hid hF; have HB := Lib.hid hb; clear hF hb hc1 hf1)
  all_goals (go_end0; exact ⟨rfl, A', w1, HF.out, Below.trans (below_drew (Below.refl _ _)) HB.out, rfl⟩)
set_option maxRecDepth 100000 in
theorem stand1 (b o q : Nat) (A : Option Addr) (m c : Nat) (A6 : Option Addr) (m6 c6 : Nat) (w : World) (hq : w.cell? ⟨q, 0, none⟩ = some (.slice A m c)) (k6 : w.cell? ⟨b, o + 6, none⟩ = some (.slice A6 m6 c6)) :
    Calls Try.prog 35 #[.pointer (some ⟨b, o, none⟩), .pointer (some ⟨q, 0, none⟩)] w fun e w' => e = .returned (.bool (decide (m = m6))) ∧ Below w.heap.size w w' := by
  by_cases h : m = m6
  · subst h
    go_enter Try.func35, Try.ntmps35
    go_wp2
    go_quiet (fail)
    go_wp2
    go_ret
    exact ⟨by simp, by first | exact Below.refl _ _ | exact pw_below_drewN (Below.refl _ _) _⟩
  · have h1 : ((m : Int) == (m6 : Int)) = false := by rw [beq_eq_false_iff_ne]; omega
    have h2 : decide (m = m6) = false := decide_eq_false h
    go_enter Try.func35, Try.ntmps35
    go_wp2
    go_quiet (fail)
    go_wp2
    go_ret
    exact ⟨by simp [h], by first | exact Below.refl _ _ | exact pw_below_drewN (Below.refl _ _) _⟩
set_option maxRecDepth 100000 in
set_option maxHeartbeats 1000000 in
theorem stand2 (b o q : Nat) (x6 : Value) (A : Option Addr) (c : Nat) (l : List S71) (w : World) (hr : Kd.C k71 w A l.length l) (hc : l.length ≤ c) (hn : l.length * 16 ≤ 140737488355328) (hq : w.cell? ⟨q, 0, none⟩ = some (.slice A l.length c))
    (k6 : w.cell? ⟨b, o + 6, none⟩ = some x6) (f6 : w.frozen? ⟨b, o + 6, none⟩ = false) :
    Calls Try.prog 36 #[.pointer (some ⟨b, o, none⟩), .pointer (some ⟨q, 0, none⟩)] w fun e w' => e = .returned (.tuple #[]) ∧ ∃ A' w1, Kd.F k71 w1 (fun k => w.heap.size ≤ k) A' l.length l ∧ Below w.heap.size w w1 ∧ w' = w1.setCell ⟨b, o + 6, none⟩ (.slice A' l.length l.length) := by
  have H := Lib.hid (own_calls A c l w hr hc hn)
  clear hr hc
  have hbl := World.block_lt_of_cell? w _ k6
  go_enter Try.func36, Try.ntmps36
  go_wp2_with fail
  refine (H.out).mono ?_
  rintro e w1 ⟨A', rfl, hF, hb⟩
  obtain ⟨hc1, hf1⟩ := bcell hb
  replace k6 := (hc1 b (o + 6) hbl).trans k6
  replace f6 := (hf1 b (o + 6) hbl).trans f6
  have HF := Lib.hid hF
  have HB := Lib.hid hb
  clear hF hb hc1 hf1
  go_wp2
  go_end0
  exact ⟨rfl, A', w1, HF.out, HB.out, rfl⟩
end Go.Proofs.Ytagifiakjniedaa.PTab
end
section
namespace Go.Proofs.Ytagifiakjniedaa.PTab
open Go.RowKit Go.Proofs.YtagifiakjniedaaW.PrintWords Go.Proofs.YtagifiakjniedaaW.PrintLast
set_option linter.unusedVariables false
set_option linter.unusedSimpArgs false
theorem set_again {L : List S28} {i : Nat} (hi : i < L.length) (x : S28) (f : S28 → S28) : (L.set i x).set i (f ((L.set i x)[i]'(by rw [List.length_set]; exact hi))) = L.set i (f x) := by
  rw [List.getElem_set_self, List.set_set]
/-- Behind a call that leads on: the answer, the table. -/
def Led (w : World) (g : Nat) (ok : Nat → Prop) (L' : List S28) (r : Int) (e : Ending) (w' : World) : Prop := e = .returned (.int .i64 r) ∧ Tb w' g (fun k => ok k ∨ w.heap.size ≤ k) L' ∧ Kp ok w w'
theorem Led.same {w w' : World} {g : Nat} {ok : Nat → Prop} {L : List S28} {r : Int} {e : Ending} (hT : Tb w g ok L) (he : e = .returned (.int .i64 r)) (hb : Below w.heap.size w w') : Led w g ok L r e w' :=
  ⟨he, Tb_mono (Tb_below hT hb) (fun k hk => .inl hk), Kp.of_below hb ok⟩
/-- From a world with new boxes back to the one before. -/
theorem Led.before {w w1 w' : World} {g : Nat} {ok : Nat → Prop} {L : List S28} {r : Int} {e : Ending} (hb : Below w.heap.size w w1) (h : Led w1 g ok L r e w') : Led w g ok L r e w' :=
  ⟨h.1, Tb_mono h.2.1 (fun k hk => hk.elim .inl (fun h2 => .inr (Nat.le_trans hb.size h2))), Kp.after_below hb h.2.2⟩
theorem why_tb {w : World} {g b c i : Nat} {ok : Nat → Prop} {L : List S28} (st n : Int) (hT : Tb w g ok L) (hg : w.heap[g]? = some (.cells #[.slice (some ⟨b, 0, none⟩) L.length c] 65 (0, 0))) (hi : i < L.length) :
    Tb ((w.setCell ⟨b, i * 7 + 3, none⟩ (.int .i64 st)).setCell ⟨b, i * 7 + 5, none⟩ (.int .i64 n)).drew g ok (L.set i { L[i] with f3 := st, f5 := n }) := by
  obtain ⟨h1, h2⟩ := Tb_put3 hT hg i hi st
  have hl : (L.set i { L[i] with f3 := st }).length = L.length := List.length_set
  obtain ⟨h3, h4⟩ := Tb_put5 h1 (by rw [hl]; exact h2) i (by rw [hl]; exact hi) n
  rw [set_again hi _ (fun x => { x with f5 := n })] at h3
  exact Tb_below h3 (below_drew (Below.refl _ _))
theorem start_tb {w : World} {g b c i : Nat} {ok S : Nat → Prop} {L : List S28} (n : Int) {A7 : Option Addr} {l : List S71} (hT : Tb w g ok L) (hg : w.heap[g]? = some (.cells #[.slice (some ⟨b, 0, none⟩) L.length c] 65 (0, 0))) (hi : i < L.length) (hF7 : Kd.F k71 w S A7 l.length l) (hS : ∀ k, S k → k ≠ b ∧ k ≠ g) :
    Tb (((w.setCell ⟨b, i * 7 + 3, none⟩ (.int .i64 3)).setCell ⟨b, i * 7 + 4, none⟩ (.int .i64 n)).setCell ⟨b, i * 7 + 6, none⟩ (.slice A7 l.length l.length)) g (fun k => ok k ∨ S k) (L.set i { L[i] with f3 := 3, f4 := n, f6 := l }) := by
  obtain ⟨h1, h2⟩ := Tb_put3 hT hg i hi 3
  have hl : (L.set i { L[i] with f3 := 3 }).length = L.length := List.length_set
  obtain ⟨h3, h4⟩ := Tb_put4 h1 (by rw [hl]; exact h2) i (by rw [hl]; exact hi) n
  rw [hl] at h4
  rw [set_again hi _ (fun x => { x with f4 := n })] at h3
  have hl2 : (L.set i { L[i] with f3 := 3, f4 := n }).length = L.length := List.length_set
  have hF8 := Kd.F_far (p := ⟨b, i * 7 + 4, none⟩) (Kd.F_far (p := ⟨b, i * 7 + 3, none⟩) hF7 (fun k hk => (hS k hk).1) (.int .i64 3)) (fun k hk => (hS k hk).1) (.int .i64 n)
  obtain ⟨h5, h6⟩ := Tb_put6 h3 (by rw [hl2]; exact h4) i (by rw [hl2]; exact hi) hF8 hS
  rw [set_again hi _ (fun x => { x with f6 := l })] at h5
  exact h5
theorem kp_three {w w1 : World} {ok : Nat → Prop} {b : Nat} (hb : Below w.heap.size w w1) (ho : ok b) (o1 o2 o3 : Nat) (u1 u2 u3 : Value) : Kp ok w (((w1.setCell ⟨b, o1, none⟩ u1).setCell ⟨b, o2, none⟩ u2).setCell ⟨b, o3, none⟩ u3) :=
  (((Kp.of_below hb ok).setCell (.inl ho) _).setCell (.inl ho) _).setCell (.inl ho) _
set_option maxRecDepth 100000 in
set_option maxHeartbeats 1000000 in
theorem lead_deny_no (g : Nat) (ok : Nat → Prop) (L : List S28) (i : Nat) (q : Nat) (n : Int) (w : World) (hT : Tb w g ok L) (hi : i < L.length) (hL : L.length ≤ 64) (hs : L[i].f3 = 1) (hq : w.cell? ⟨q, 0, none⟩ = some (.int .i64 n)) (hqk : ¬ ok q) (hk : (whyB n) = false) : Calls Try.prog 31 #[.pointer (some ⟨g, 0, none⟩), .int .i64 ((i : Int) + 1), .int .i64 1, .func (.func 52) #[] #[.pointer (some ⟨q, 0, none⟩)], .func (.func 54) #[] #[.pointer (some ⟨q, 0, none⟩)]] w fun e w' => e = .returned (.int .i64 1) ∧ Below w.heap.size w w' := by
  obtain ⟨b, c0, A6, c6, hg, hob, hbg, hbl, hlc, ⟨k0, k1, k2, k3, k4, k5, k6⟩, l6, g6, hfr⟩ := Tb_at hT i hi
  obtain ⟨h0, h1⟩ := Tb_cell hg
  have hd1 : decide ((i : Int) + 1 < 1) = false := by simp; omega
  have hd2 : decide ((L.length : Int) < (i : Int) + 1) = false := by simp; omega
  have hbq : (L[i].f3 != 1) = false := bne_eq_false_iff_eq.2 hs
  have H := Lib.hid (deny1 (.pointer (some ⟨b, i * 7, none⟩)) q n w hq)
  rw [hk] at H
  clear hg hT g6 hk hq hqk
  generalize L[i] = x at *
  clear hs
  go_enter Try.func31, Try.ntmps31
  go_wp2_with fail
  refine (H.out).mono ?_
  rintro e w1 ⟨rfl, hb⟩
  have HB := Lib.hid hb
  clear hb
  go_wp2
  go_ret
  exact ⟨rfl, HB.out⟩
set_option maxRecDepth 100000 in
set_option maxHeartbeats 1000000 in
theorem lead_deny_yes (g : Nat) (ok : Nat → Prop) (L : List S28) (i : Nat) (q : Nat) (n : Int) (w : World) (hT : Tb w g ok L) (hi : i < L.length) (hL : L.length ≤ 64) (hs : L[i].f3 = 1) (hq : w.cell? ⟨q, 0, none⟩ = some (.int .i64 n)) (hqk : ¬ ok q) (hk : (whyB n) = true) : Calls Try.prog 31 #[.pointer (some ⟨g, 0, none⟩), .int .i64 ((i : Int) + 1), .int .i64 1, .func (.func 52) #[] #[.pointer (some ⟨q, 0, none⟩)], .func (.func 54) #[] #[.pointer (some ⟨q, 0, none⟩)]] w (Led w g ok (L.set i { L[i] with f3 := 2, f5 := n }) 0) := by
  obtain ⟨b, c0, A6, c6, hg, hob, hbg, hbl, hlc, ⟨k0, k1, k2, k3, k4, k5, k6⟩, l6, g6, hfr⟩ := Tb_at hT i hi
  obtain ⟨h0, h1⟩ := Tb_cell hg
  have hd1 : decide ((i : Int) + 1 < 1) = false := by simp; omega
  have hd2 : decide ((L.length : Int) < (i : Int) + 1) = false := by simp; omega
  have hbq : (L[i].f3 != 1) = false := bne_eq_false_iff_eq.2 hs
  have H := Lib.hid (deny1 (.pointer (some ⟨b, i * 7, none⟩)) q n w hq)
  rw [hk] at H
  clear g6
  have HT0 := Lib.hid hT
  have HG0 := Lib.hid hg
  have HO := Lib.hid hob
  have hqb : (q = b) ↔ False := iff_false_intro (fun h => hqk (h ▸ hob))
  have hqb2 : (b = q) ↔ False := iff_false_intro (fun h => hqk (h ▸ hob))
  clear hT hg
  go_enter Try.func31, Try.ntmps31
  go_wp2_with fail
  refine (H.out).mono ?_
  rintro e w1 ⟨rfl, hb⟩
  replace hq := cell_on hb hq
  replace h0 := cell_on hb h0
  replace k0 := cell_on hb k0
  replace k1 := cell_on hb k1
  replace k2 := cell_on hb k2
  replace k3 := cell_on hb k3
  replace k4 := cell_on hb k4
  replace k5 := cell_on hb k5
  replace k6 := cell_on hb k6
  obtain ⟨hcw, hfw⟩ := bcell hb
  have f3 : w1.frozen? ⟨b, i * 7 + 3, none⟩ = false := (hfw b (i * 7 + 3) hbl).trans (hfr 3)
  have f4 : w1.frozen? ⟨b, i * 7 + 4, none⟩ = false := (hfw b (i * 7 + 4) hbl).trans (hfr 4)
  have f5 : w1.frozen? ⟨b, i * 7 + 5, none⟩ = false := (hfw b (i * 7 + 5) hbl).trans (hfr 5)
  have f6 : w1.frozen? ⟨b, i * 7 + 6, none⟩ = false := (hfw b (i * 7 + 6) hbl).trans (hfr 6)
  have HT := Lib.hid (Tb_below HT0.out hb)
  have HG := Lib.hid ((hb.block g (blk_lt HG0.out)).trans HG0.out)
  have HB := Lib.hid hb
  clear hb hcw hfw HT0 HG0 H
  go_wp2_with fail
  refine (deny2 b (i * 7) q n _ _ _ hq k3 k5 f3 f5 hqb hqb2).mono ?_
  rintro e w2 ⟨rfl, rfl⟩
  go_wp2
  go_ret
  exact ⟨rfl, Tb_mono (why_tb 2 n HT.out HG.out hi) (fun k hk => .inl hk), (((Kp.of_below HB.out ok).setCell (.inl HO.out) _).setCell (.inl HO.out) _).drew⟩
set_option maxRecDepth 100000 in
set_option maxHeartbeats 1000000 in
theorem lead_revoke_no (g : Nat) (ok : Nat → Prop) (L : List S28) (i : Nat) (q : Nat) (n : Int) (w : World) (hT : Tb w g ok L) (hi : i < L.length) (hL : L.length ≤ 64) (hs : L[i].f3 = 3) (hq : w.cell? ⟨q, 0, none⟩ = some (.int .i64 n)) (hqk : ¬ ok q) (hk : (whyB n) = false) : Calls Try.prog 31 #[.pointer (some ⟨g, 0, none⟩), .int .i64 ((i : Int) + 1), .int .i64 3, .func (.func 55) #[] #[.pointer (some ⟨q, 0, none⟩)], .func (.func 56) #[] #[.pointer (some ⟨q, 0, none⟩)]] w fun e w' => e = .returned (.int .i64 1) ∧ Below w.heap.size w w' := by
  obtain ⟨b, c0, A6, c6, hg, hob, hbg, hbl, hlc, ⟨k0, k1, k2, k3, k4, k5, k6⟩, l6, g6, hfr⟩ := Tb_at hT i hi
  obtain ⟨h0, h1⟩ := Tb_cell hg
  have hd1 : decide ((i : Int) + 1 < 1) = false := by simp; omega
  have hd2 : decide ((L.length : Int) < (i : Int) + 1) = false := by simp; omega
  have hbq : (L[i].f3 != 3) = false := bne_eq_false_iff_eq.2 hs
  have H := Lib.hid (revoke1 (.pointer (some ⟨b, i * 7, none⟩)) q n w hq)
  rw [hk] at H
  clear hg hT g6 hk hq hqk
  generalize L[i] = x at *
  clear hs
  go_enter Try.func31, Try.ntmps31
  go_wp2_with fail
  refine (H.out).mono ?_
  rintro e w1 ⟨rfl, hb⟩
  have HB := Lib.hid hb
  clear hb
  go_wp2
  go_ret
  exact ⟨rfl, HB.out⟩
set_option maxRecDepth 100000 in
set_option maxHeartbeats 1000000 in
theorem lead_revoke_yes (g : Nat) (ok : Nat → Prop) (L : List S28) (i : Nat) (q : Nat) (n : Int) (w : World) (hT : Tb w g ok L) (hi : i < L.length) (hL : L.length ≤ 64) (hs : L[i].f3 = 3) (hq : w.cell? ⟨q, 0, none⟩ = some (.int .i64 n)) (hqk : ¬ ok q) (hk : (whyB n) = true) : Calls Try.prog 31 #[.pointer (some ⟨g, 0, none⟩), .int .i64 ((i : Int) + 1), .int .i64 3, .func (.func 55) #[] #[.pointer (some ⟨q, 0, none⟩)], .func (.func 56) #[] #[.pointer (some ⟨q, 0, none⟩)]] w (Led w g ok (L.set i { L[i] with f3 := 4, f5 := n }) 0) := by
  obtain ⟨b, c0, A6, c6, hg, hob, hbg, hbl, hlc, ⟨k0, k1, k2, k3, k4, k5, k6⟩, l6, g6, hfr⟩ := Tb_at hT i hi
  obtain ⟨h0, h1⟩ := Tb_cell hg
  have hd1 : decide ((i : Int) + 1 < 1) = false := by simp; omega
  have hd2 : decide ((L.length : Int) < (i : Int) + 1) = false := by simp; omega
  have hbq : (L[i].f3 != 3) = false := bne_eq_false_iff_eq.2 hs
  have H := Lib.hid (revoke1 (.pointer (some ⟨b, i * 7, none⟩)) q n w hq)
  rw [hk] at H
  clear g6
  have HT0 := Lib.hid hT
  have HG0 := Lib.hid hg
  have HO := Lib.hid hob
  have hqb : (q = b) ↔ False := iff_false_intro (fun h => hqk (h ▸ hob))
  have hqb2 : (b = q) ↔ False := iff_false_intro (fun h => hqk (h ▸ hob))
  clear hT hg
  go_enter Try.func31, Try.ntmps31
  go_wp2_with fail
  refine (H.out).mono ?_
  rintro e w1 ⟨rfl, hb⟩
  replace hq := cell_on hb hq
  replace h0 := cell_on hb h0
  replace k0 := cell_on hb k0
  replace k1 := cell_on hb k1
  replace k2 := cell_on hb k2
  replace k3 := cell_on hb k3
  replace k4 := cell_on hb k4
  replace k5 := cell_on hb k5
  replace k6 := cell_on hb k6
  obtain ⟨hcw, hfw⟩ := bcell hb
  have f3 : w1.frozen? ⟨b, i * 7 + 3, none⟩ = false := (hfw b (i * 7 + 3) hbl).trans (hfr 3)
  have f4 : w1.frozen? ⟨b, i * 7 + 4, none⟩ = false := (hfw b (i * 7 + 4) hbl).trans (hfr 4)
  have f5 : w1.frozen? ⟨b, i * 7 + 5, none⟩ = false := (hfw b (i * 7 + 5) hbl).trans (hfr 5)
  have f6 : w1.frozen? ⟨b, i * 7 + 6, none⟩ = false := (hfw b (i * 7 + 6) hbl).trans (hfr 6)
  have HT := Lib.hid (Tb_below HT0.out hb)
  have HG := Lib.hid ((hb.block g (blk_lt HG0.out)).trans HG0.out)
  have HB := Lib.hid hb
  clear hb hcw hfw HT0 HG0 H
  go_wp2_with fail
  refine (revoke2 b (i * 7) q n _ _ _ hq k3 k5 f3 f5 hqb hqb2).mono ?_
  rintro e w2 ⟨rfl, rfl⟩
  go_wp2
  go_ret
  exact ⟨rfl, Tb_mono (why_tb 4 n HT.out HG.out hi) (fun k hk => .inl hk), (((Kp.of_below HB.out ok).setCell (.inl HO.out) _).setCell (.inl HO.out) _).drew⟩
set_option maxRecDepth 100000 in
set_option maxHeartbeats 1000000 in
theorem lead_end_yes (g : Nat) (ok : Nat → Prop) (L : List S28) (i : Nat)  (w : World) (hT : Tb w g ok L) (hi : i < L.length) (hL : L.length ≤ 64) (hs : L[i].f3 = 3)  : Calls Try.prog 31 #[.pointer (some ⟨g, 0, none⟩), .int .i64 ((i : Int) + 1), .int .i64 3, .func (.func 57) #[] #[], .func (.func 58) #[] #[]] w (Led w g ok (L.set i { L[i] with f3 := 5 }) 0) := by
  obtain ⟨b, c0, A6, c6, hg, hob, hbg, hbl, hlc, ⟨k0, k1, k2, k3, k4, k5, k6⟩, l6, g6, hfr⟩ := Tb_at hT i hi
  obtain ⟨h0, h1⟩ := Tb_cell hg
  have hd1 : decide ((i : Int) + 1 < 1) = false := by simp; omega
  have hd2 : decide ((L.length : Int) < (i : Int) + 1) = false := by simp; omega
  have hbq : (L[i].f3 != 3) = false := bne_eq_false_iff_eq.2 hs
  have H := Lib.hid (end1 (.pointer (some ⟨b, i * 7, none⟩)) w)
  clear g6
  have HT0 := Lib.hid hT
  have HG0 := Lib.hid hg
  have HO := Lib.hid hob
  clear hT hg
  go_enter Try.func31, Try.ntmps31
  go_wp2_with fail
  refine (H.out).mono ?_
  rintro e w1 ⟨rfl, rfl⟩
  have hb := Below.refl w.heap.size w
  replace h0 := cell_on hb h0
  replace k0 := cell_on hb k0
  replace k1 := cell_on hb k1
  replace k2 := cell_on hb k2
  replace k3 := cell_on hb k3
  replace k4 := cell_on hb k4
  replace k5 := cell_on hb k5
  replace k6 := cell_on hb k6
  obtain ⟨hcw, hfw⟩ := bcell hb
  have f3 : w.frozen? ⟨b, i * 7 + 3, none⟩ = false := (hfw b (i * 7 + 3) hbl).trans (hfr 3)
  have f4 : w.frozen? ⟨b, i * 7 + 4, none⟩ = false := (hfw b (i * 7 + 4) hbl).trans (hfr 4)
  have f5 : w.frozen? ⟨b, i * 7 + 5, none⟩ = false := (hfw b (i * 7 + 5) hbl).trans (hfr 5)
  have f6 : w.frozen? ⟨b, i * 7 + 6, none⟩ = false := (hfw b (i * 7 + 6) hbl).trans (hfr 6)
  have HT := Lib.hid (Tb_below HT0.out hb)
  have HG := Lib.hid ((hb.block g (blk_lt HG0.out)).trans HG0.out)
  have HB := Lib.hid hb
  clear hb hcw hfw HT0 HG0 H
  go_wp2_with fail
  refine (end2 b (i * 7) _ _ k3 f3).mono ?_
  rintro e w2 ⟨rfl, rfl⟩
  go_wp2
  go_ret
  exact ⟨rfl, Tb_mono (Tb_put3 HT.out HG.out i hi 5).1 (fun k hk => .inl hk), ((Kp.refl ok w).setCell (.inl HO.out) _)⟩
set_option maxRecDepth 100000 in
set_option maxHeartbeats 1000000 in
theorem lead_start_no (g : Nat) (ok : Nat → Prop) (L : List S28) (i : Nat) (q1 q2 : Nat) (n : Int) (A : Option Addr) (c : Nat) (l : List S71) (w : World) (hT : Tb w g ok L) (hi : i < L.length) (hL : L.length ≤ 64) (hs : L[i].f3 = 1) (hr : Kd.C k71 w A l.length l) (hc : l.length ≤ c) (hq1 : w.cell? ⟨q1, 0, none⟩ = some (.int .i64 n)) (hqk1 : ¬ ok q1) (hq2 : w.cell? ⟨q2, 0, none⟩ = some (.slice A l.length c)) (hqk2 : ¬ ok q2) (hk : (startB n l.length) = false) : Calls Try.prog 31 #[.pointer (some ⟨g, 0, none⟩), .int .i64 ((i : Int) + 1), .int .i64 1, .func (.func 32) #[] #[.pointer (some ⟨q1, 0, none⟩), .pointer (some ⟨q2, 0, none⟩)], .func (.func 33) #[] #[.pointer (some ⟨q1, 0, none⟩), .pointer (some ⟨q2, 0, none⟩)]] w fun e w' => e = .returned (.int .i64 1) ∧ Below w.heap.size w w' := by
  obtain ⟨b, c0, A6, c6, hg, hob, hbg, hbl, hlc, ⟨k0, k1, k2, k3, k4, k5, k6⟩, l6, g6, hfr⟩ := Tb_at hT i hi
  obtain ⟨h0, h1⟩ := Tb_cell hg
  have hd1 : decide ((i : Int) + 1 < 1) = false := by simp; omega
  have hd2 : decide ((L.length : Int) < (i : Int) + 1) = false := by simp; omega
  have hbq : (L[i].f3 != 1) = false := bne_eq_false_iff_eq.2 hs
  have H := Lib.hid (start1 (.pointer (some ⟨b, i * 7, none⟩)) q1 q2 n A l.length c w hq1 hq2 (Kd.C_max hr))
  rw [hk] at H
  clear hg hT g6 hk hq1 hq2 hqk1 hqk2 hr hc
  generalize L[i] = x at *
  clear hs
  go_enter Try.func31, Try.ntmps31
  go_wp2_with fail
  refine (H.out).mono ?_
  rintro e w1 ⟨rfl, hb⟩
  have HB := Lib.hid hb
  clear hb
  go_wp2
  go_ret
  exact ⟨rfl, HB.out⟩
set_option maxRecDepth 100000 in
set_option maxHeartbeats 1000000 in
theorem lead_start_yes (g : Nat) (ok : Nat → Prop) (L : List S28) (i : Nat) (q1 q2 : Nat) (n : Int) (A : Option Addr) (c : Nat) (l : List S71) (w : World) (hT : Tb w g ok L) (hi : i < L.length) (hL : L.length ≤ 64) (hs : L[i].f3 = 1) (hr : Kd.C k71 w A l.length l) (hc : l.length ≤ c) (hq1 : w.cell? ⟨q1, 0, none⟩ = some (.int .i64 n)) (hqk1 : ¬ ok q1) (hq2 : w.cell? ⟨q2, 0, none⟩ = some (.slice A l.length c)) (hqk2 : ¬ ok q2) (hk : (startB n l.length) = true) (hn : l.length ≤ 4) : Calls Try.prog 31 #[.pointer (some ⟨g, 0, none⟩), .int .i64 ((i : Int) + 1), .int .i64 1, .func (.func 32) #[] #[.pointer (some ⟨q1, 0, none⟩), .pointer (some ⟨q2, 0, none⟩)], .func (.func 33) #[] #[.pointer (some ⟨q1, 0, none⟩), .pointer (some ⟨q2, 0, none⟩)]] w (Led w g ok (L.set i { L[i] with f3 := 3, f4 := n, f6 := l }) 0) := by
  obtain ⟨b, c0, A6, c6, hg, hob, hbg, hbl, hlc, ⟨k0, k1, k2, k3, k4, k5, k6⟩, l6, g6, hfr⟩ := Tb_at hT i hi
  obtain ⟨h0, h1⟩ := Tb_cell hg
  have hd1 : decide ((i : Int) + 1 < 1) = false := by simp; omega
  have hd2 : decide ((L.length : Int) < (i : Int) + 1) = false := by simp; omega
  have hbq : (L[i].f3 != 1) = false := bne_eq_false_iff_eq.2 hs
  have H := Lib.hid (start1 (.pointer (some ⟨b, i * 7, none⟩)) q1 q2 n A l.length c w hq1 hq2 (Kd.C_max hr))
  rw [hk] at H
  clear g6
  have HT0 := Lib.hid hT
  have HG0 := Lib.hid hg
  have HO := Lib.hid hob
  have hqb : (q1 = b) ↔ False := iff_false_intro (fun h => hqk1 (h ▸ hob))
  have hqb2 : (b = q1) ↔ False := iff_false_intro (fun h => hqk1 (h ▸ hob))
  have hqb3 : (q2 = b) ↔ False := iff_false_intro (fun h => hqk2 (h ▸ hob))
  have hqb4 : (b = q2) ↔ False := iff_false_intro (fun h => hqk2 (h ▸ hob))
  clear hT hg
  go_enter Try.func31, Try.ntmps31
  go_wp2_with fail
  refine (H.out).mono ?_
  rintro e w1 ⟨rfl, hb⟩
  replace hq1 := cell_on hb hq1
  replace hq2 := cell_on hb hq2
  replace hr := Kd.C_below hr hb
  replace h0 := cell_on hb h0
  replace k0 := cell_on hb k0
  replace k1 := cell_on hb k1
  replace k2 := cell_on hb k2
  replace k3 := cell_on hb k3
  replace k4 := cell_on hb k4
  replace k5 := cell_on hb k5
  replace k6 := cell_on hb k6
  obtain ⟨hcw, hfw⟩ := bcell hb
  have f3 : w1.frozen? ⟨b, i * 7 + 3, none⟩ = false := (hfw b (i * 7 + 3) hbl).trans (hfr 3)
  have f4 : w1.frozen? ⟨b, i * 7 + 4, none⟩ = false := (hfw b (i * 7 + 4) hbl).trans (hfr 4)
  have f5 : w1.frozen? ⟨b, i * 7 + 5, none⟩ = false := (hfw b (i * 7 + 5) hbl).trans (hfr 5)
  have f6 : w1.frozen? ⟨b, i * 7 + 6, none⟩ = false := (hfw b (i * 7 + 6) hbl).trans (hfr 6)
  have HT := Lib.hid (Tb_below HT0.out hb)
  have HG := Lib.hid ((hb.block g (blk_lt HG0.out)).trans HG0.out)
  have HB := Lib.hid hb
  clear hb hcw hfw HT0 HG0 H
  go_wp2_with fail
  refine (start2 b (i * 7) q1 q2 n _ _ _ A c l _ hr hc (by omega) hq1 hq2 k3 k4 k6 f3 f4 f6 hqb hqb2 hqb3 hqb4).mono ?_
  rintro e w3 ⟨rfl, A7, w2, hF, hb2, rfl⟩
  have HF := Lib.hid hF
  have HB2 := Lib.hid hb2
  clear hF hb2
  go_wp2
  go_ret
  have hgl : g < w1.heap.size := blk_lt HG.out
  have hbl1 : b < w1.heap.size := Nat.lt_of_lt_of_le hbl HB.out.size
  have hsz := HB.out.size
  exact ⟨rfl, Tb_mono (start_tb n (Tb_below HT.out HB2.out) ((HB2.out.block g hgl).trans HG.out) hi HF.out (fun k hk => ⟨by omega, by omega⟩)) (fun k hk => hk.elim .inl (fun h2 => .inr (Nat.le_trans HB.out.size h2))), kp_three (Below.trans HB.out (HB2.out.mono HB.out.size)) HO.out _ _ _ _ _ _⟩
set_option maxRecDepth 100000 in
set_option maxHeartbeats 1000000 in
theorem lead_stand_no (g : Nat) (ok : Nat → Prop) (L : List S28) (i : Nat) (q : Nat) (A : Option Addr) (c : Nat) (l : List S71) (w : World) (hT : Tb w g ok L) (hi : i < L.length) (hL : L.length ≤ 64) (hs : L[i].f3 = 3) (hr : Kd.C k71 w A l.length l) (hc : l.length ≤ c) (hq : w.cell? ⟨q, 0, none⟩ = some (.slice A l.length c)) (hqk : ¬ ok q) (hk : (decide (l.length = L[i].f6.length)) = false) : Calls Try.prog 31 #[.pointer (some ⟨g, 0, none⟩), .int .i64 ((i : Int) + 1), .int .i64 3, .func (.func 35) #[] #[.pointer (some ⟨q, 0, none⟩)], .func (.func 36) #[] #[.pointer (some ⟨q, 0, none⟩)]] w fun e w' => e = .returned (.int .i64 1) ∧ Below w.heap.size w w' := by
  obtain ⟨b, c0, A6, c6, hg, hob, hbg, hbl, hlc, ⟨k0, k1, k2, k3, k4, k5, k6⟩, l6, g6, hfr⟩ := Tb_at hT i hi
  obtain ⟨h0, h1⟩ := Tb_cell hg
  have hd1 : decide ((i : Int) + 1 < 1) = false := by simp; omega
  have hd2 : decide ((L.length : Int) < (i : Int) + 1) = false := by simp; omega
  have hbq : (L[i].f3 != 3) = false := bne_eq_false_iff_eq.2 hs
  have H := Lib.hid (stand1 b (i * 7) q A l.length c A6 L[i].f6.length c6 w hq k6)
  rw [hk] at H
  clear hg hT g6 hk hq hqk hr hc
  generalize L[i] = x at *
  clear hs
  go_enter Try.func31, Try.ntmps31
  go_wp2_with fail
  refine (H.out).mono ?_
  rintro e w1 ⟨rfl, hb⟩
  have HB := Lib.hid hb
  clear hb
  go_wp2
  go_ret
  exact ⟨rfl, HB.out⟩
set_option maxRecDepth 100000 in
set_option maxHeartbeats 1000000 in
theorem lead_stand_yes (g : Nat) (ok : Nat → Prop) (L : List S28) (i : Nat) (q : Nat) (A : Option Addr) (c : Nat) (l : List S71) (w : World) (hT : Tb w g ok L) (hi : i < L.length) (hL : L.length ≤ 64) (hs : L[i].f3 = 3) (hr : Kd.C k71 w A l.length l) (hc : l.length ≤ c) (hq : w.cell? ⟨q, 0, none⟩ = some (.slice A l.length c)) (hqk : ¬ ok q) (hk : (decide (l.length = L[i].f6.length)) = true) (hn : l.length ≤ 4) : Calls Try.prog 31 #[.pointer (some ⟨g, 0, none⟩), .int .i64 ((i : Int) + 1), .int .i64 3, .func (.func 35) #[] #[.pointer (some ⟨q, 0, none⟩)], .func (.func 36) #[] #[.pointer (some ⟨q, 0, none⟩)]] w (Led w g ok (L.set i { L[i] with f6 := l }) 0) := by
  obtain ⟨b, c0, A6, c6, hg, hob, hbg, hbl, hlc, ⟨k0, k1, k2, k3, k4, k5, k6⟩, l6, g6, hfr⟩ := Tb_at hT i hi
  obtain ⟨h0, h1⟩ := Tb_cell hg
  have hd1 : decide ((i : Int) + 1 < 1) = false := by simp; omega
  have hd2 : decide ((L.length : Int) < (i : Int) + 1) = false := by simp; omega
  have hbq : (L[i].f3 != 3) = false := bne_eq_false_iff_eq.2 hs
  have H := Lib.hid (stand1 b (i * 7) q A l.length c A6 L[i].f6.length c6 w hq k6)
  rw [hk] at H
  clear g6
  have HT0 := Lib.hid hT
  have HG0 := Lib.hid hg
  have HO := Lib.hid hob
  clear hT hg
  go_enter Try.func31, Try.ntmps31
  go_wp2_with fail
  refine (H.out).mono ?_
  rintro e w1 ⟨rfl, hb⟩
  replace hq := cell_on hb hq
  replace hr := Kd.C_below hr hb
  replace h0 := cell_on hb h0
  replace k0 := cell_on hb k0
  replace k1 := cell_on hb k1
  replace k2 := cell_on hb k2
  replace k3 := cell_on hb k3
  replace k4 := cell_on hb k4
  replace k5 := cell_on hb k5
  replace k6 := cell_on hb k6
  obtain ⟨hcw, hfw⟩ := bcell hb
  have f3 : w1.frozen? ⟨b, i * 7 + 3, none⟩ = false := (hfw b (i * 7 + 3) hbl).trans (hfr 3)
  have f4 : w1.frozen? ⟨b, i * 7 + 4, none⟩ = false := (hfw b (i * 7 + 4) hbl).trans (hfr 4)
  have f5 : w1.frozen? ⟨b, i * 7 + 5, none⟩ = false := (hfw b (i * 7 + 5) hbl).trans (hfr 5)
  have f6 : w1.frozen? ⟨b, i * 7 + 6, none⟩ = false := (hfw b (i * 7 + 6) hbl).trans (hfr 6)
  have HT := Lib.hid (Tb_below HT0.out hb)
  have HG := Lib.hid ((hb.block g (blk_lt HG0.out)).trans HG0.out)
  have HB := Lib.hid hb
  clear hb hcw hfw HT0 HG0 H
  go_wp2_with fail
  refine (stand2 b (i * 7) q _ A c l _ hr hc (by omega) hq k6 f6).mono ?_
  rintro e w3 ⟨rfl, A7, w2, hF, hb2, rfl⟩
  have HF := Lib.hid hF
  have HB2 := Lib.hid hb2
  clear hF hb2
  go_wp2
  go_ret
  have hgl : g < w1.heap.size := blk_lt HG.out
  have hbl1 : b < w1.heap.size := Nat.lt_of_lt_of_le hbl HB.out.size
  have hsz := HB.out.size
  exact ⟨rfl, Tb_mono (Tb_put6 (Tb_below HT.out HB2.out) ((HB2.out.block g hgl).trans HG.out) i hi HF.out (fun k hk => ⟨by omega, by omega⟩)).1 (fun k hk => hk.elim .inl (fun h2 => .inr (Nat.le_trans HB.out.size h2))), (Kp.of_below (Below.trans HB.out (HB2.out.mono HB.out.size)) ok).setCell (.inl HO.out) _⟩
end Go.Proofs.Ytagifiakjniedaa.PTab
end
section
namespace Go.Proofs.Ytagifiakjniedaa.PTab
open Go.RowKit Go.Proofs.YtagifiakjniedaaW.PrintWords Go.Proofs.YtagifiakjniedaaW.PrintLast
set_option linter.unusedVariables false
set_option linter.unusedSimpArgs false
/-- A call that leads on: the sessions behind it, the error. -/
def leadG (L : List S28) (id from_ : Int) (okf : S28 → Bool) (dof : S28 → S28) : List S28 × Int :=
  if 1 ≤ id ∧ id ≤ L.length then (if (L.getD (id - 1).toNat z28).f3 = from_ then (if okf (L.getD (id - 1).toNat z28) = true then (L.set (id - 1).toNat (dof (L.getD (id - 1).toNat z28)), 0) else (L, 1)) else (L, 163)) else (L, 162)
theorem leadG_out {L : List S28} {id from_ : Int} {okf : S28 → Bool} {dof : S28 → S28} (h : ¬ (1 ≤ id ∧ id ≤ L.length)) : leadG L id from_ okf dof = (L, 162) := if_neg h
theorem leadG_at {L : List S28} {i : Nat} (hi : i < L.length) (from_ : Int) (okf : S28 → Bool) (dof : S28 → S28) : leadG L ((i : Int) + 1) from_ okf dof = if L[i].f3 = from_ then (if okf L[i] = true then (L.set i (dof L[i]), 0) else (L, 1)) else (L, 163) := by
  unfold leadG
  have h1 : ((i : Int) + 1 - 1).toNat = i := by omega
  have h2 : L.getD i z28 = L[i] := by rw [List.getD_eq_getElem?_getD, List.getElem?_eq_getElem hi]; rfl
  rw [if_pos ⟨by omega, by omega⟩, h1, h2]
theorem id_cases (L : List S28) (id : Int) : id < 1 ∨ (1 ≤ id ∧ (L.length : Int) < id) ∨ ∃ i : Nat, i < L.length ∧ id = (i : Int) + 1 := by
  by_cases h : id < 1
  · exact .inl h
  · by_cases h2 : (L.length : Int) < id
    · exact .inr (.inl ⟨by omega, h2⟩)
    · exact .inr (.inr ⟨(id - 1).toNat, by omega, by omega⟩)
theorem lead_deny (g : Nat) (ok : Nat → Prop) (L : List S28) (id : Int) (q : Nat) (n : Int) (w : World) (hT : Tb w g ok L) (hF : Fits L) (hq : w.cell? ⟨q, 0, none⟩ = some (.int .i64 n)) (hqk : ¬ ok q) :
    Calls Try.prog 31 #[.pointer (some ⟨g, 0, none⟩), .int .i64 id, .int .i64 1, .func (.func 52) #[] #[.pointer (some ⟨q, 0, none⟩)], .func (.func 54) #[] #[.pointer (some ⟨q, 0, none⟩)]] w (Led w g ok (leadG L id 1 (fun s => whyB n) (fun s => { s with f3 := 2, f5 := n })).1 (leadG L id 1 (fun s => whyB n) (fun s => { s with f3 := 2, f5 := n })).2) := by
  have hL := hF.1
  rcases id_cases L id with h | ⟨h, h2⟩ | ⟨i, hi, rfl⟩
  · rw [leadG_out (by omega)]
    exact (lead_low g id 1 _ _ w h).mono (fun e w' h => Led.same hT h.1 h.2)
  · rw [leadG_out (by omega)]
    exact (lead_high g ok L id 1 _ _ w hT h h2).mono (fun e w' h => Led.same hT h.1 h.2)
  · rw [leadG_at hi]
    by_cases hs : L[i].f3 = 1
    · rw [if_pos hs]
      by_cases hk : (whyB n) = true
      · rw [if_pos hk]
        exact (lead_deny_yes g ok L i q n w hT hi hL hs hq hqk hk)
      · rw [if_neg hk]
        exact (lead_deny_no g ok L i q n w hT hi hL hs hq hqk (Bool.eq_false_iff.2 hk)).mono (fun e w' h => Led.same hT h.1 h.2)
    · rw [if_neg hs]
      exact (lead_state g ok L i 1 _ _ w hT hi hL hs).mono (fun e w' h => Led.same hT h.1 h.2)
set_option maxRecDepth 100000 in
set_option maxHeartbeats 1000000 in
theorem deny_calls (g : Nat) (ok : Nat → Prop) (L : List S28) (id : Int) (n : Int) (w : World) (hT : Tb w g ok L) (hF : Fits L) :
    Calls Try.prog 38 #[.pointer (some ⟨g, 0, none⟩), .int .i64 id, .int .i64 n] w (Led w g ok (leadG L id 1 (fun s => whyB n) (fun s => { s with f3 := 2, f5 := n })).1 (leadG L id 1 (fun s => whyB n) (fun s => { s with f3 := 2, f5 := n })).2) := by
  have H := lead_deny g (fun k => ok k ∧ k < w.heap.size) L id w.heap.size n (w.alloc (.cells #[.int .i64 n] 3)) (Tb_below (Tb_bound hT) (below_alloc (Below.refl _ _) _)) hF (by simp [go_sem]) (fun hk => by have := hk.2; omega)
  have H := Lib.hid (H.mono (fun e w' h => Led.before (w := w) (below_alloc (Below.refl _ _) _) h))
  generalize (leadG L id 1 (fun s => whyB n) (fun s => { s with f3 := 2, f5 := n })).1 = L2 at *
  generalize (leadG L id 1 (fun s => whyB n) (fun s => { s with f3 := 2, f5 := n })).2 = r2 at *
  clear hT
  go_enter Try.func38, Try.ntmps38
  go_wp2_with fail
  refine (H.out).mono ?_
  rintro e w1 ⟨rfl, h2, h3⟩
  have H2 := Lib.hid h2
  have H3 := Lib.hid h3
  clear h2 h3
  go_wp2
  go_ret
  exact ⟨rfl, Tb_mono H2.out (fun k hk => hk.elim (fun h => .inl h.1) .inr), Kp.mono H3.out (fun k hk => hk.1)⟩
theorem lead_revoke (g : Nat) (ok : Nat → Prop) (L : List S28) (id : Int) (q : Nat) (n : Int) (w : World) (hT : Tb w g ok L) (hF : Fits L) (hq : w.cell? ⟨q, 0, none⟩ = some (.int .i64 n)) (hqk : ¬ ok q) :
    Calls Try.prog 31 #[.pointer (some ⟨g, 0, none⟩), .int .i64 id, .int .i64 3, .func (.func 55) #[] #[.pointer (some ⟨q, 0, none⟩)], .func (.func 56) #[] #[.pointer (some ⟨q, 0, none⟩)]] w (Led w g ok (leadG L id 3 (fun s => whyB n) (fun s => { s with f3 := 4, f5 := n })).1 (leadG L id 3 (fun s => whyB n) (fun s => { s with f3 := 4, f5 := n })).2) := by
  have hL := hF.1
  rcases id_cases L id with h | ⟨h, h2⟩ | ⟨i, hi, rfl⟩
  · rw [leadG_out (by omega)]
    exact (lead_low g id 3 _ _ w h).mono (fun e w' h => Led.same hT h.1 h.2)
  · rw [leadG_out (by omega)]
    exact (lead_high g ok L id 3 _ _ w hT h h2).mono (fun e w' h => Led.same hT h.1 h.2)
  · rw [leadG_at hi]
    by_cases hs : L[i].f3 = 3
    · rw [if_pos hs]
      by_cases hk : (whyB n) = true
      · rw [if_pos hk]
        exact (lead_revoke_yes g ok L i q n w hT hi hL hs hq hqk hk)
      · rw [if_neg hk]
        exact (lead_revoke_no g ok L i q n w hT hi hL hs hq hqk (Bool.eq_false_iff.2 hk)).mono (fun e w' h => Led.same hT h.1 h.2)
    · rw [if_neg hs]
      exact (lead_state g ok L i 3 _ _ w hT hi hL hs).mono (fun e w' h => Led.same hT h.1 h.2)
set_option maxRecDepth 100000 in
set_option maxHeartbeats 1000000 in
theorem revoke_calls (g : Nat) (ok : Nat → Prop) (L : List S28) (id : Int) (n : Int) (w : World) (hT : Tb w g ok L) (hF : Fits L) :
    Calls Try.prog 39 #[.pointer (some ⟨g, 0, none⟩), .int .i64 id, .int .i64 n] w (Led w g ok (leadG L id 3 (fun s => whyB n) (fun s => { s with f3 := 4, f5 := n })).1 (leadG L id 3 (fun s => whyB n) (fun s => { s with f3 := 4, f5 := n })).2) := by
  have H := lead_revoke g (fun k => ok k ∧ k < w.heap.size) L id w.heap.size n (w.alloc (.cells #[.int .i64 n] 3)) (Tb_below (Tb_bound hT) (below_alloc (Below.refl _ _) _)) hF (by simp [go_sem]) (fun hk => by have := hk.2; omega)
  have H := Lib.hid (H.mono (fun e w' h => Led.before (w := w) (below_alloc (Below.refl _ _) _) h))
  generalize (leadG L id 3 (fun s => whyB n) (fun s => { s with f3 := 4, f5 := n })).1 = L2 at *
  generalize (leadG L id 3 (fun s => whyB n) (fun s => { s with f3 := 4, f5 := n })).2 = r2 at *
  clear hT
  go_enter Try.func39, Try.ntmps39
  go_wp2_with fail
  refine (H.out).mono ?_
  rintro e w1 ⟨rfl, h2, h3⟩
  have H2 := Lib.hid h2
  have H3 := Lib.hid h3
  clear h2 h3
  go_wp2
  go_ret
  exact ⟨rfl, Tb_mono H2.out (fun k hk => hk.elim (fun h => .inl h.1) .inr), Kp.mono H3.out (fun k hk => hk.1)⟩
theorem lead_end (g : Nat) (ok : Nat → Prop) (L : List S28) (id : Int)  (w : World) (hT : Tb w g ok L) (hF : Fits L)  :
    Calls Try.prog 31 #[.pointer (some ⟨g, 0, none⟩), .int .i64 id, .int .i64 3, .func (.func 57) #[] #[], .func (.func 58) #[] #[]] w (Led w g ok (leadG L id 3 (fun s => true) (fun s => { s with f3 := 5 })).1 (leadG L id 3 (fun s => true) (fun s => { s with f3 := 5 })).2) := by
  have hL := hF.1
  rcases id_cases L id with h | ⟨h, h2⟩ | ⟨i, hi, rfl⟩
  · rw [leadG_out (by omega)]
    exact (lead_low g id 3 _ _ w h).mono (fun e w' h => Led.same hT h.1 h.2)
  · rw [leadG_out (by omega)]
    exact (lead_high g ok L id 3 _ _ w hT h h2).mono (fun e w' h => Led.same hT h.1 h.2)
  · rw [leadG_at hi]
    by_cases hs : L[i].f3 = 3
    · rw [if_pos hs]
      rw [if_pos rfl]
      exact (lead_end_yes g ok L i  w hT hi hL hs  )
    · rw [if_neg hs]
      exact (lead_state g ok L i 3 _ _ w hT hi hL hs).mono (fun e w' h => Led.same hT h.1 h.2)
set_option maxRecDepth 100000 in
set_option maxHeartbeats 1000000 in
theorem end_calls (g : Nat) (ok : Nat → Prop) (L : List S28) (id : Int)  (w : World) (hT : Tb w g ok L) (hF : Fits L) :
    Calls Try.prog 40 #[.pointer (some ⟨g, 0, none⟩), .int .i64 id] w (Led w g ok (leadG L id 3 (fun s => true) (fun s => { s with f3 := 5 })).1 (leadG L id 3 (fun s => true) (fun s => { s with f3 := 5 })).2) := by
  have H := lead_end g (fun k => ok k ∧ k < w.heap.size) L id   w (Tb_below (Tb_bound hT) (Below.refl _ _)) hF 
  have H := Lib.hid (H.mono (fun e w' h => Led.before (w := w) (Below.refl _ _) h))
  generalize (leadG L id 3 (fun s => true) (fun s => { s with f3 := 5 })).1 = L2 at *
  generalize (leadG L id 3 (fun s => true) (fun s => { s with f3 := 5 })).2 = r2 at *
  clear hT
  go_enter Try.func40, Try.ntmps40
  go_wp2_with fail
  refine (H.out).mono ?_
  rintro e w1 ⟨rfl, h2, h3⟩
  have H2 := Lib.hid h2
  have H3 := Lib.hid h3
  clear h2 h3
  go_wp2
  go_ret
  exact ⟨rfl, Tb_mono H2.out (fun k hk => hk.elim (fun h => .inl h.1) .inr), Kp.mono H3.out (fun k hk => hk.1)⟩
theorem lead_start (g : Nat) (ok : Nat → Prop) (L : List S28) (id : Int) (q1 q2 : Nat) (n : Int) (A : Option Addr) (c : Nat) (l : List S71) (w : World) (hT : Tb w g ok L) (hF : Fits L) (hr : Kd.C k71 w A l.length l) (hc : l.length ≤ c) (hq1 : w.cell? ⟨q1, 0, none⟩ = some (.int .i64 n)) (hqk1 : ¬ ok q1) (hq2 : w.cell? ⟨q2, 0, none⟩ = some (.slice A l.length c)) (hqk2 : ¬ ok q2) :
    Calls Try.prog 31 #[.pointer (some ⟨g, 0, none⟩), .int .i64 id, .int .i64 1, .func (.func 32) #[] #[.pointer (some ⟨q1, 0, none⟩), .pointer (some ⟨q2, 0, none⟩)], .func (.func 33) #[] #[.pointer (some ⟨q1, 0, none⟩), .pointer (some ⟨q2, 0, none⟩)]] w (Led w g ok (leadG L id 1 (fun s => startB n l.length) (fun s => { s with f3 := 3, f4 := n, f6 := l })).1 (leadG L id 1 (fun s => startB n l.length) (fun s => { s with f3 := 3, f4 := n, f6 := l })).2) := by
  have hL := hF.1
  rcases id_cases L id with h | ⟨h, h2⟩ | ⟨i, hi, rfl⟩
  · rw [leadG_out (by omega)]
    exact (lead_low g id 1 _ _ w h).mono (fun e w' h => Led.same hT h.1 h.2)
  · rw [leadG_out (by omega)]
    exact (lead_high g ok L id 1 _ _ w hT h h2).mono (fun e w' h => Led.same hT h.1 h.2)
  · rw [leadG_at hi]
    by_cases hs : L[i].f3 = 1
    · rw [if_pos hs]
      by_cases hk : (startB n l.length) = true
      · rw [if_pos hk]
        exact (lead_start_yes g ok L i q1 q2 n A c l w hT hi hL hs hr hc hq1 hqk1 hq2 hqk2 hk (by unfold startB at hk; simp at hk; exact hk.2))
      · rw [if_neg hk]
        exact (lead_start_no g ok L i q1 q2 n A c l w hT hi hL hs hr hc hq1 hqk1 hq2 hqk2 (Bool.eq_false_iff.2 hk)).mono (fun e w' h => Led.same hT h.1 h.2)
    · rw [if_neg hs]
      exact (lead_state g ok L i 1 _ _ w hT hi hL hs).mono (fun e w' h => Led.same hT h.1 h.2)
set_option maxRecDepth 100000 in
set_option maxHeartbeats 1000000 in
theorem start_calls (g : Nat) (ok : Nat → Prop) (L : List S28) (id : Int) (n : Int) (A : Option Addr) (c : Nat) (l : List S71) (w : World) (hT : Tb w g ok L) (hF : Fits L) (hr : Kd.C k71 w A l.length l) (hc : l.length ≤ c) :
    Calls Try.prog 13 #[.pointer (some ⟨g, 0, none⟩), .int .i64 id, .int .i64 n, .slice A l.length c] w (Led w g ok (leadG L id 1 (fun s => startB n l.length) (fun s => { s with f3 := 3, f4 := n, f6 := l })).1 (leadG L id 1 (fun s => startB n l.length) (fun s => { s with f3 := 3, f4 := n, f6 := l })).2) := by
  have H := lead_start g (fun k => ok k ∧ k < w.heap.size) L id w.heap.size (w.heap.size + 1) n A c l ((w.alloc (.cells #[.int .i64 n] 3)).alloc (.cells #[.slice A l.length c] 22)) (Tb_below (Tb_bound hT) (below_alloc (below_alloc (Below.refl _ _) _) _)) hF (Kd.C_alloc (Kd.C_alloc hr _) _) hc (by simp [go_sem]) (fun hk => by have := hk.2; omega) (by simp [go_sem]) (fun hk => by have := hk.2; omega)
  have H := Lib.hid (H.mono (fun e w' h => Led.before (w := w) (below_alloc (below_alloc (Below.refl _ _) _) _) h))
  generalize (leadG L id 1 (fun s => startB n l.length) (fun s => { s with f3 := 3, f4 := n, f6 := l })).1 = L2 at *
  generalize (leadG L id 1 (fun s => startB n l.length) (fun s => { s with f3 := 3, f4 := n, f6 := l })).2 = r2 at *
  clear hT hr hc
  go_enter Try.func13, Try.ntmps13
  go_wp2_with fail
  refine (H.out).mono ?_
  rintro e w1 ⟨rfl, h2, h3⟩
  have H2 := Lib.hid h2
  have H3 := Lib.hid h3
  clear h2 h3
  go_wp2
  go_ret
  exact ⟨rfl, Tb_mono H2.out (fun k hk => hk.elim (fun h => .inl h.1) .inr), Kp.mono H3.out (fun k hk => hk.1)⟩
theorem lead_stand (g : Nat) (ok : Nat → Prop) (L : List S28) (id : Int) (q : Nat) (A : Option Addr) (c : Nat) (l : List S71) (w : World) (hT : Tb w g ok L) (hF : Fits L) (hr : Kd.C k71 w A l.length l) (hc : l.length ≤ c) (hq : w.cell? ⟨q, 0, none⟩ = some (.slice A l.length c)) (hqk : ¬ ok q) :
    Calls Try.prog 31 #[.pointer (some ⟨g, 0, none⟩), .int .i64 id, .int .i64 3, .func (.func 35) #[] #[.pointer (some ⟨q, 0, none⟩)], .func (.func 36) #[] #[.pointer (some ⟨q, 0, none⟩)]] w (Led w g ok (leadG L id 3 (fun s => decide (l.length = s.f6.length)) (fun s => { s with f6 := l })).1 (leadG L id 3 (fun s => decide (l.length = s.f6.length)) (fun s => { s with f6 := l })).2) := by
  have hL := hF.1
  rcases id_cases L id with h | ⟨h, h2⟩ | ⟨i, hi, rfl⟩
  · rw [leadG_out (by omega)]
    exact (lead_low g id 3 _ _ w h).mono (fun e w' h => Led.same hT h.1 h.2)
  · rw [leadG_out (by omega)]
    exact (lead_high g ok L id 3 _ _ w hT h h2).mono (fun e w' h => Led.same hT h.1 h.2)
  · rw [leadG_at hi]
    by_cases hs : L[i].f3 = 3
    · rw [if_pos hs]
      by_cases hk : (decide (l.length = L[i].f6.length)) = true
      · rw [if_pos hk]
        exact (lead_stand_yes g ok L i q A c l w hT hi hL hs hr hc hq hqk hk (by have := hF.2 L[i] (List.getElem_mem hi); simp at hk; omega))
      · rw [if_neg hk]
        exact (lead_stand_no g ok L i q A c l w hT hi hL hs hr hc hq hqk (Bool.eq_false_iff.2 hk)).mono (fun e w' h => Led.same hT h.1 h.2)
    · rw [if_neg hs]
      exact (lead_state g ok L i 3 _ _ w hT hi hL hs).mono (fun e w' h => Led.same hT h.1 h.2)
set_option maxRecDepth 100000 in
set_option maxHeartbeats 1000000 in
theorem stand_calls (g : Nat) (ok : Nat → Prop) (L : List S28) (id : Int) (A : Option Addr) (c : Nat) (l : List S71) (w : World) (hT : Tb w g ok L) (hF : Fits L) (hr : Kd.C k71 w A l.length l) (hc : l.length ≤ c) :
    Calls Try.prog 14 #[.pointer (some ⟨g, 0, none⟩), .int .i64 id, .slice A l.length c] w (Led w g ok (leadG L id 3 (fun s => decide (l.length = s.f6.length)) (fun s => { s with f6 := l })).1 (leadG L id 3 (fun s => decide (l.length = s.f6.length)) (fun s => { s with f6 := l })).2) := by
  have H := lead_stand g (fun k => ok k ∧ k < w.heap.size) L id w.heap.size A c l (w.alloc (.cells #[.slice A l.length c] 22)) (Tb_below (Tb_bound hT) (below_alloc (Below.refl _ _) _)) hF (Kd.C_alloc hr _) hc (by simp [go_sem]) (fun hk => by have := hk.2; omega)
  have H := Lib.hid (H.mono (fun e w' h => Led.before (w := w) (below_alloc (Below.refl _ _) _) h))
  generalize (leadG L id 3 (fun s => decide (l.length = s.f6.length)) (fun s => { s with f6 := l })).1 = L2 at *
  generalize (leadG L id 3 (fun s => decide (l.length = s.f6.length)) (fun s => { s with f6 := l })).2 = r2 at *
  clear hT hr hc
  go_enter Try.func14, Try.ntmps14
  go_wp2_with fail
  refine (H.out).mono ?_
  rintro e w1 ⟨rfl, h2, h3⟩
  have H2 := Lib.hid h2
  have H3 := Lib.hid h3
  clear h2 h3
  go_wp2
  go_ret
  exact ⟨rfl, Tb_mono H2.out (fun k hk => hk.elim (fun h => .inl h.1) .inr), Kp.mono H3.out (fun k hk => hk.1)⟩
end Go.Proofs.Ytagifiakjniedaa.PTab
end
section
namespace Go.Proofs.Ytagifiakjniedaa.PTab
open Go.RowKit Go.Proofs.YtagifiakjniedaaW.PrintWords Go.Proofs.YtagifiakjniedaaW.PrintLast
set_option linter.unusedVariables false
set_option linter.unusedSimpArgs false
def fresh (s o p : ByteArray) : S28 := ⟨s, o, p, 1, 0, 0, []⟩
open Classical in
noncomputable def requestV (L : List S28) (s o p : ByteArray) : List S28 × Int × Int :=
  if (nameB s && (nameB o && nameB p)) = true then (if 64 ≤ L.length then (L, 0, 161) else (L ++ [fresh s o p], (L.length : Int) + 1, 0)) else (L, 0, 160)
def Reqd (w : World) (g : Nat) (ok : Nat → Prop) (L' : List S28) (r1 r2 : Int) (e : Ending) (w' : World) : Prop := e = .returned (.tuple #[.int .i64 r1, .int .i64 r2]) ∧ Tb w' g (fun k => ok k ∨ w.heap.size ≤ k) L' ∧ Kp ok w w'
theorem Tb_slot {w0 w1 w2 : World} {g : Nat} {ok : Nat → Prop} {L L' : List S28} {A A1 : Option Addr} {c c1 : Nat} (hb : w0.heap.size ≤ w1.heap.size) (hg : w1.heap[g]? = some (.cells #[.slice A L.length c] 65 (0, 0))) (ho : ok g)
    (hN : Kd.NJ k28 28 w2 (fun k => (ok k ∧ k ≠ g) ∨ w1.heap.size ≤ k) (fun j k => (ok k ∧ k ≠ g) ∨ w1.heap.size ≤ k) A1 c1 L') (hk : Kp (fun k => ok k ∧ k ≠ g) w1 w2) :
    Tb (w2.setCell ⟨g, 0, none⟩ (.slice A1 L'.length c1)) g (fun k => ok k ∨ w0.heap.size ≤ k) L' := by
  have hgl := blk_lt hg
  have h2 := (hk.block g hgl (fun h => h.2 rfl)).trans hg
  refine ⟨A1, c1, blk_put h2 0 _ rfl, .inl ho, ?_⟩
  refine Kd.NJ_mono (Kd.NJ_step hN (fun k hk2 _ => Below.heap_setCell w2 ⟨g, 0, none⟩ _ k ?_) (fun j k _ hk2 _ => Below.heap_setCell w2 ⟨g, 0, none⟩ _ k ?_)) (fun k hk2 => ?_) (fun j k _ hk2 => ?_)
  · exact hk2.elim (fun h => h.2) (fun h => by show k ≠ g; omega)
  · exact hk2.elim (fun h => h.2) (fun h => by show k ≠ g; omega)
  · exact hk2.elim (fun h => ⟨.inl h.1, h.2⟩) (fun h => ⟨.inr (Nat.le_trans hb h), by omega⟩)
  · exact hk2.elim (fun h => ⟨.inl h.1, h.2⟩) (fun h => ⟨.inr (Nat.le_trans hb h), by omega⟩)
/-- append(t.l, session), behind 'at_builtin'. -/
theorem append28 {ops : Array Oper} {rest : List Oper} {o : Oper} {a : Act} {Q : Exit → Act → World → Prop} {W : World} (hgd : o.guard = none) (s x : Operand) (ho : o.op = .call { callee := .builtin .append, args := #[s, x], argTypes := #[37, 37] })
    {ok : Nat → Prop} {A : Option Addr} {c : Nat} (L : List S28) (s1 o1 p1 : ByteArray) (hs : a.eval s = .slice A L.length c) (hx : a.eval x = .slice (some ⟨W.heap.size, 0, none⟩) 1 1)
    (HO : Kd.NJ k28 28 W ok (fun _ => ok) A c L) (hl : L.length ≤ 64)
    (h : ∀ A1 c1 w1, Kd.NJ k28 28 w1 (fun k => ok k ∨ W.heap.size ≤ k) (fun _ k => ok k ∨ W.heap.size ≤ k) A1 c1 (L ++ [fresh s1 o1 p1]) → Kp ok W w1 → wpList Try.prog ops Q rest (a.put o.dst (.slice A1 (L.length + 1) c1)) w1) :
    wpList Try.prog ops Q (o :: rest) a (W.alloc (.cells #[.string s1, .string o1, .string p1, .int .i64 1, .int .i64 0, .int .i64 0, .slice none 0 0] 28)) :=
  Kd.NJ_append k28 (W := W) hgd s x 37 28 (.agg #[(.string ⟨#[]⟩), (.string ⟨#[]⟩), (.string ⟨#[]⟩), (.int .i64 0), (.int .i64 0), (.int .i64 0), (.slice none 0 0)]) 96 ho Try.underlying37 info28 rfl (by decide) (okp := fun _ => False) L (fresh s1 o1 p1) [.string s1, .string o1, .string p1, .int .i64 1, .int .i64 0, .int .i64 0, .slice none 0 0] hs hx HO
    (k28_mkF W _ (fresh s1 o1 p1) (Nat.le_refl _) (Kd.F_nil _ _ _)) (fun _ h => h.elim) (by simp only [maxLen]; omega) (by omega)
    (fun A1 c1 w1 h1 h2 => h A1 c1 w1 (Kd.NJ_mono h1 (fun _ hk => hk) (fun j k _ hk => hk.elim (fun h => h.2.elim) (fun h => .inl h.2))) h2)
set_option maxRecDepth 100000 in
set_option maxHeartbeats 1000000 in
theorem request_calls (g : Nat) (ok : Nat → Prop) (L : List S28) (s o p : ByteArray) (w : World) (hT : Tb w g ok L) (hF : Fits L) (hs : s.size ≤ 140737488351232) (ho : o.size ≤ 140737488351232) (hp : p.size ≤ 140737488351232) :
    Calls Try.prog 12 #[.pointer (some ⟨g, 0, none⟩), .string s, .string o, .string p] w (Reqd w g ok (requestV L s o p).1 (requestV L s o p).2.1 (requestV L s o p).2.2) := by
  unfold requestV
  have HN := fun W => named_calls s o p w.heap.size 0 3 W hs ho hp
  by_cases hn : (nameB s && (nameB o && nameB p)) = true
  · rw [if_pos hn]
    rw [hn] at HN
    have HN := Lib.hid HN
    clear hn
    obtain ⟨A, c, hg, hog, hNJ⟩ := hT
    have hgl := blk_lt hg
    have HG0 := Lib.hid hg
    have HO := Lib.hid hog
    have HJ := Lib.hid hNJ
    have hlc := Kd.NJ_len hNJ
    have hl64 := hF.1
    clear hg hog hNJ hs ho hp hF
    by_cases h64 : 64 ≤ L.length
    · rw [if_pos h64]
      have hd : decide ((64 : Int) ≤ (L.length : Int)) = true := by simp; omega
      go_enter Try.func12, Try.ntmps12
      go_wp2_with fail
      refine (HN.out _ (by simp [go_sem]) (by simp [go_sem]) (by simp [go_sem])).mono ?_
      rintro e w1 ⟨rfl, hb⟩
      have hb2 := below_step (below_alloc (Below.refl _ _) _) hb
      obtain ⟨k0, f0⟩ := Tb_cell ((hb2.block g hgl).trans HG0.out)
      have HB := Lib.hid hb2
      clear hb hb2
      go_wp2
      go_ret2
      exact ⟨rfl, Tb_mono (Tb_below ⟨A, c, HG0.out, HO.out, HJ.out⟩ HB.out) (fun k hk => .inl hk), Kp.of_below HB.out ok⟩
    · rw [if_neg h64]
      have hd : decide ((64 : Int) ≤ (L.length : Int)) = false := by simp; omega
      go_enter Try.func12, Try.ntmps12
      go_wp2_with fail
      refine (HN.out _ (by simp [go_sem]) (by simp [go_sem]) (by simp [go_sem])).mono ?_
      rintro e w1 ⟨rfl, hb⟩
      have hb2 := below_step (below_alloc (Below.refl _ _) _) hb
      have hg1 := (hb2.block g hgl).trans HG0.out
      obtain ⟨k0, f0⟩ := Tb_cell hg1
      have HB := Lib.hid hb2
      have HG1 := Lib.hid hg1
      have hgl1 := blk_lt hg1
      clear hb hb2 hg1
      go_wp2_with ((with_reducible refine gate_builtin (b := .append) (xs := #[.tmp 28, .tmp 33]) rfl ?_); at_builtin; refine append28 (W := w1) rfl (.tmp 28) (.tmp 33) rfl L s o p rfl rfl (Kd.NJ_below HJ.out HB.out) hl64 ?_; intro A1 c1 w2 hN2 hk2; have h3 := (hk2.block g hgl1 (fun h => h.2 rfl)).trans HG1.out; obtain ⟨k0, f0⟩ := Tb_cell h3; have HN2 := Lib.hid hN2; have HK2 := Lib.hid hk2; clear hN2 hk2 h3)
      go_ret2
      have h5 := Tb_slot HB.out.size HG1.out HO.out HN2.out HK2.out
      have hl5 : (L ++ [fresh s o p]).length = L.length + 1 := by simp
      rw [hl5] at h5
      exact ⟨rfl, h5, ((Kp.of_below HB.out ok).trans HK2.out (fun k hk => .inl hk.1)).setCell (.inl HO.out) _⟩
  · rw [if_neg hn]
    rw [Bool.eq_false_iff.2 hn] at HN
    have HN := Lib.hid HN
    have HT := Lib.hid hT
    clear hn hs ho hp hT
    go_enter Try.func12, Try.ntmps12
    go_wp2_with fail
    refine (HN.out _ (by simp [go_sem]) (by simp [go_sem]) (by simp [go_sem])).mono ?_
    rintro e w1 ⟨rfl, hb⟩
    have hb2 := below_step (below_alloc (Below.refl _ _) _) hb
    have HB := Lib.hid hb2
    clear hb hb2
    go_wp2
    go_ret2
    exact ⟨rfl, Tb_mono (Tb_below HT.out HB.out) (fun k hk => .inl hk), Kp.of_below HB.out ok⟩
end Go.Proofs.Ytagifiakjniedaa.PTab
end
