/-
  Contracts of functions that a statement of this seat reaches (joined texts: H1, H2, H3, H4, H5, H6, H7).
-/
import Derived.Test.YtagifiakjniedaaPTabx2
import Derived.Test.YtagifiakjniedaaTabNames
import Derived.Test.YtagifiakjniedaaNJ
import Derived.Test.YtagifiakjniedaaPTabx7
import Derived.WalkSpells
section
namespace Go.Proofs.Ytagifiakjniedaa.PTab
open Go.RowKit Go.Proofs.YtagifiakjniedaaW.PrintWords Go.Proofs.YtagifiakjniedaaW.PrintLast
set_option linter.unusedVariables false
set_option linter.unusedSimpArgs false
/-- A word is a name: any word of a length that fits. -/
theorem name_calls (s : ByteArray) (w : World) (hs : s.size ≤ 140737488351232) : Calls Try.prog 49 #[.string s] w fun e w' => e = .returned (.bool (nameB s)) ∧ Below w.heap.size w w' := by
  obtain ⟨k, hk⟩ := value_Name_tells s hs
  exact (value_Name.calls k s (nameB s) w (hk k (Nat.le_refl _))).mono (fun e w' h => ⟨h.1, by first | exact h.2 | exact h.2.below⟩)
theorem named1_calls (s : ByteArray) (w : World) (hs : s.size ≤ 140737488351232) : Calls Try.prog 48 #[.string s] w fun e w' => e = .returned (.bool (!nameB s)) ∧ Below w.heap.size w w' := by
  have HN := fun W => name_calls s W hs
  generalize nameB s = b at *
  have HN := Lib.hid HN
  go_enter Try.func48, Try.ntmps48
  go_wp2_with fail
  refine (HN.out _).mono ?_
  rintro e w1 ⟨rfl, hb⟩
  have HB := Lib.hid hb
  clear hb
  go_wp2
  go_ret
  exact ⟨rfl, HB.out⟩
set_option maxRecDepth 100000 in
set_option maxHeartbeats 1000000 in
theorem index_0 (s o p : ByteArray) (b o0 c : Nat) (w : World) (c0 : w.cell? ⟨b, o0, none⟩ = some (.string s)) (c1 : w.cell? ⟨b, o0 + 1, none⟩ = some (.string o)) (c2 : w.cell? ⟨b, o0 + 2, none⟩ = some (.string p))
    (h0 : ∀ W, Calls Try.prog 48 #[.string s] W fun e w' => e = .returned (.bool true) ∧ Below W.heap.size W w')
    : Calls Try.prog 63 #[.slice (some ⟨b, o0, none⟩) 3 c, .func (.func 48) #[] #[]] w fun e w' => e = .returned (.int .i64 (0)) ∧ Below w.heap.size w w' := by
  have H0 := Lib.hid h0
  clear h0
  go_enter Try.func63, Try.ntmps63
  go_wp2_with fail
  refine wp_loop_rounds 4 ?_
  rw [rounds_succ]
  go_wp2_with fail
  refine (H0.out _).mono ?_
  rintro e w1 ⟨rfl, hb⟩
  replace c0 := cell_on hb c0
  replace c1 := cell_on hb c1
  replace c2 := cell_on hb c2
  have HB1 := Lib.hid hb
  clear hb
  go_wp2
  go_ret
  exact ⟨rfl, HB1.out⟩
set_option maxRecDepth 100000 in
set_option maxHeartbeats 1000000 in
theorem index_1 (s o p : ByteArray) (b o0 c : Nat) (w : World) (c0 : w.cell? ⟨b, o0, none⟩ = some (.string s)) (c1 : w.cell? ⟨b, o0 + 1, none⟩ = some (.string o)) (c2 : w.cell? ⟨b, o0 + 2, none⟩ = some (.string p))
    (h0 : ∀ W, Calls Try.prog 48 #[.string s] W fun e w' => e = .returned (.bool false) ∧ Below W.heap.size W w')
    (h1 : ∀ W, Calls Try.prog 48 #[.string o] W fun e w' => e = .returned (.bool true) ∧ Below W.heap.size W w')
    : Calls Try.prog 63 #[.slice (some ⟨b, o0, none⟩) 3 c, .func (.func 48) #[] #[]] w fun e w' => e = .returned (.int .i64 (1)) ∧ Below w.heap.size w w' := by
  have H0 := Lib.hid h0
  clear h0
  have H1 := Lib.hid h1
  clear h1
  go_enter Try.func63, Try.ntmps63
  go_wp2_with fail
  refine wp_loop_rounds 4 ?_
  rw [rounds_succ]
  go_wp2_with fail
  refine (H0.out _).mono ?_
  rintro e w1 ⟨rfl, hb⟩
  replace c0 := cell_on hb c0
  replace c1 := cell_on hb c1
  replace c2 := cell_on hb c2
  have HB1 := Lib.hid hb
  clear hb
  go_wp2_with fail
  rw [rounds_succ]
  go_wp2_with fail
  refine (H1.out _).mono ?_
  rintro e w2 ⟨rfl, hb⟩
  replace c0 := cell_on hb c0
  replace c1 := cell_on hb c1
  replace c2 := cell_on hb c2
  have HB2 := Lib.hid (below_step HB1.out hb)
  clear hb
  go_wp2
  go_ret
  exact ⟨rfl, HB2.out⟩
set_option maxRecDepth 100000 in
set_option maxHeartbeats 1000000 in
theorem index_2 (s o p : ByteArray) (b o0 c : Nat) (w : World) (c0 : w.cell? ⟨b, o0, none⟩ = some (.string s)) (c1 : w.cell? ⟨b, o0 + 1, none⟩ = some (.string o)) (c2 : w.cell? ⟨b, o0 + 2, none⟩ = some (.string p))
    (h0 : ∀ W, Calls Try.prog 48 #[.string s] W fun e w' => e = .returned (.bool false) ∧ Below W.heap.size W w')
    (h1 : ∀ W, Calls Try.prog 48 #[.string o] W fun e w' => e = .returned (.bool false) ∧ Below W.heap.size W w')
    (h2 : ∀ W, Calls Try.prog 48 #[.string p] W fun e w' => e = .returned (.bool true) ∧ Below W.heap.size W w')
    : Calls Try.prog 63 #[.slice (some ⟨b, o0, none⟩) 3 c, .func (.func 48) #[] #[]] w fun e w' => e = .returned (.int .i64 (2)) ∧ Below w.heap.size w w' := by
  have H0 := Lib.hid h0
  clear h0
  have H1 := Lib.hid h1
  clear h1
  have H2 := Lib.hid h2
  clear h2
  go_enter Try.func63, Try.ntmps63
  go_wp2_with fail
  refine wp_loop_rounds 4 ?_
  rw [rounds_succ]
  go_wp2_with fail
  refine (H0.out _).mono ?_
  rintro e w1 ⟨rfl, hb⟩
  replace c0 := cell_on hb c0
  replace c1 := cell_on hb c1
  replace c2 := cell_on hb c2
  have HB1 := Lib.hid hb
  clear hb
  go_wp2_with fail
  rw [rounds_succ]
  go_wp2_with fail
  refine (H1.out _).mono ?_
  rintro e w2 ⟨rfl, hb⟩
  replace c0 := cell_on hb c0
  replace c1 := cell_on hb c1
  replace c2 := cell_on hb c2
  have HB2 := Lib.hid (below_step HB1.out hb)
  clear hb
  go_wp2_with fail
  rw [rounds_succ]
  go_wp2_with fail
  refine (H2.out _).mono ?_
  rintro e w3 ⟨rfl, hb⟩
  replace c0 := cell_on hb c0
  replace c1 := cell_on hb c1
  replace c2 := cell_on hb c2
  have HB3 := Lib.hid (below_step HB2.out hb)
  clear hb
  go_wp2
  go_ret
  exact ⟨rfl, HB3.out⟩
set_option maxRecDepth 100000 in
set_option maxHeartbeats 1000000 in
theorem index_3 (s o p : ByteArray) (b o0 c : Nat) (w : World) (c0 : w.cell? ⟨b, o0, none⟩ = some (.string s)) (c1 : w.cell? ⟨b, o0 + 1, none⟩ = some (.string o)) (c2 : w.cell? ⟨b, o0 + 2, none⟩ = some (.string p))
    (h0 : ∀ W, Calls Try.prog 48 #[.string s] W fun e w' => e = .returned (.bool false) ∧ Below W.heap.size W w')
    (h1 : ∀ W, Calls Try.prog 48 #[.string o] W fun e w' => e = .returned (.bool false) ∧ Below W.heap.size W w')
    (h2 : ∀ W, Calls Try.prog 48 #[.string p] W fun e w' => e = .returned (.bool false) ∧ Below W.heap.size W w')
    : Calls Try.prog 63 #[.slice (some ⟨b, o0, none⟩) 3 c, .func (.func 48) #[] #[]] w fun e w' => e = .returned (.int .i64 (-1)) ∧ Below w.heap.size w w' := by
  have H0 := Lib.hid h0
  clear h0
  have H1 := Lib.hid h1
  clear h1
  have H2 := Lib.hid h2
  clear h2
  go_enter Try.func63, Try.ntmps63
  go_wp2_with fail
  refine wp_loop_rounds 4 ?_
  rw [rounds_succ]
  go_wp2_with fail
  refine (H0.out _).mono ?_
  rintro e w1 ⟨rfl, hb⟩
  replace c0 := cell_on hb c0
  replace c1 := cell_on hb c1
  replace c2 := cell_on hb c2
  have HB1 := Lib.hid hb
  clear hb
  go_wp2_with fail
  rw [rounds_succ]
  go_wp2_with fail
  refine (H1.out _).mono ?_
  rintro e w2 ⟨rfl, hb⟩
  replace c0 := cell_on hb c0
  replace c1 := cell_on hb c1
  replace c2 := cell_on hb c2
  have HB2 := Lib.hid (below_step HB1.out hb)
  clear hb
  go_wp2_with fail
  rw [rounds_succ]
  go_wp2_with fail
  refine (H2.out _).mono ?_
  rintro e w3 ⟨rfl, hb⟩
  replace c0 := cell_on hb c0
  replace c1 := cell_on hb c1
  replace c2 := cell_on hb c2
  have HB3 := Lib.hid (below_step HB2.out hb)
  clear hb
  go_wp2_with fail
  rw [rounds_succ]
  go_wp2
  go_ret
  exact ⟨rfl, HB3.out⟩
/-- slices.IndexFunc over three words and 'is no name'. -/
theorem index_calls (s o p : ByteArray) (b o0 c : Nat) (w : World) (hs : s.size ≤ 140737488351232) (ho : o.size ≤ 140737488351232) (hp : p.size ≤ 140737488351232)
    (c0 : w.cell? ⟨b, o0, none⟩ = some (.string s)) (c1 : w.cell? ⟨b, o0 + 1, none⟩ = some (.string o)) (c2 : w.cell? ⟨b, o0 + 2, none⟩ = some (.string p)) :
    Calls Try.prog 63 #[.slice (some ⟨b, o0, none⟩) 3 c, .func (.func 48) #[] #[]] w fun e w' => ∃ r : Int, e = .returned (.int .i64 r) ∧ (decide (r ≥ 0) = !(nameB s && (nameB o && nameB p))) ∧ Below w.heap.size w w' := by
  have h0 := fun W => named1_calls s W hs
  have h1 := fun W => named1_calls o W ho
  have h2 := fun W => named1_calls p W hp
  generalize nameB s = x at *
  generalize nameB o = y at *
  generalize nameB p = z at *
  cases x with
  | false => exact (index_0 s o p b o0 c w c0 c1 c2 h0).mono (fun e w' h => ⟨0, h.1, rfl, h.2⟩)
  | true =>
    cases y with
    | false => exact (index_1 s o p b o0 c w c0 c1 c2 h0 h1).mono (fun e w' h => ⟨1, h.1, rfl, h.2⟩)
    | true =>
      cases z with
      | false => exact (index_2 s o p b o0 c w c0 c1 c2 h0 h1 h2).mono (fun e w' h => ⟨2, h.1, rfl, h.2⟩)
      | true => exact (index_3 s o p b o0 c w c0 c1 c2 h0 h1 h2).mono (fun e w' h => ⟨-1, h.1, rfl, h.2⟩)
set_option maxRecDepth 100000 in
set_option maxHeartbeats 1000000 in
theorem contains_calls (s o p : ByteArray) (b o0 c : Nat) (w : World) (hs : s.size ≤ 140737488351232) (ho : o.size ≤ 140737488351232) (hp : p.size ≤ 140737488351232)
    (c0 : w.cell? ⟨b, o0, none⟩ = some (.string s)) (c1 : w.cell? ⟨b, o0 + 1, none⟩ = some (.string o)) (c2 : w.cell? ⟨b, o0 + 2, none⟩ = some (.string p)) :
    Calls Try.prog 47 #[.slice (some ⟨b, o0, none⟩) 3 c, .func (.func 48) #[] #[]] w fun e w' => e = .returned (.bool (!(nameB s && (nameB o && nameB p)))) ∧ Below w.heap.size w w' := by
  have H := Lib.hid (index_calls s o p b o0 c w hs ho hp c0 c1 c2)
  generalize (nameB s && (nameB o && nameB p)) = x at *
  clear c0 c1 c2
  go_enter Try.func47, Try.ntmps47
  go_wp2_with fail
  refine (H.out).mono ?_
  rintro e w1 ⟨r, rfl, hr, hb⟩
  have HB := Lib.hid hb
  have HR := Lib.hid hr
  clear hb hr
  go_wp2
  go_ret
  exact ⟨by rw [← HR.out]; rfl, HB.out⟩
set_option maxRecDepth 100000 in
set_option maxHeartbeats 1000000 in
theorem named_calls (s o p : ByteArray) (b o0 c : Nat) (w : World) (hs : s.size ≤ 140737488351232) (ho : o.size ≤ 140737488351232) (hp : p.size ≤ 140737488351232)
    (c0 : w.cell? ⟨b, o0, none⟩ = some (.string s)) (c1 : w.cell? ⟨b, o0 + 1, none⟩ = some (.string o)) (c2 : w.cell? ⟨b, o0 + 2, none⟩ = some (.string p)) :
    Calls Try.prog 30 #[.slice (some ⟨b, o0, none⟩) 3 c] w fun e w' => e = .returned (.bool (nameB s && (nameB o && nameB p))) ∧ Below w.heap.size w w' := by
  have H := Lib.hid (contains_calls s o p b o0 c w hs ho hp c0 c1 c2)
  generalize (nameB s && (nameB o && nameB p)) = x at *
  clear c0 c1 c2
  go_enter Try.func30, Try.ntmps30
  go_wp2_with fail
  refine (H.out).mono ?_
  rintro e w1 ⟨rfl, hb⟩
  have HB := Lib.hid hb
  clear hb
  go_wp2
  go_ret
  exact ⟨rfl, HB.out⟩
end Go.Proofs.Ytagifiakjniedaa.PTab
end
section
namespace Go.Proofs.Ytagifiakjniedaa.PTab
open Go.RowKit Go.Proofs.YtagifiakjniedaaW.PrintWords Go.Proofs.YtagifiakjniedaaW.PrintLast
set_option linter.unusedVariables false
set_option linter.unusedSimpArgs false
set_option maxRecDepth 100000 in
set_option maxHeartbeats 1000000 in
theorem clone50_nil (c : Nat) (w : World) :
    Calls Try.prog 50 #[.slice none 0 c] w fun e w' => e = .returned (.slice none 0 0) ∧ w = w' := by
  have hu := Try.underlying22
  have he := Lib.run_eql_slice_nil w 22 71 none 0 c 0 0 hu
  go_enter Try.func50, Try.ntmps50
  go_wp2
  go_ret
  exact ⟨rfl, rfl⟩
set_option maxRecDepth 100000 in
set_option maxHeartbeats 1000000 in
theorem clone50_some (ad : Addr) (c : Nat) (l : List S71) (w : World) (hr : Kd.C k71 w (some ad) l.length l) (hc : l.length ≤ c) (hn : l.length * 16 ≤ 140737488355328) :
    Calls Try.prog 50 #[.slice (some ad) l.length c] w fun e w' => ∃ v : Value, e = .returned v ∧ Kd.R k71 71 w' w.heap.size (fun _ => True) v l ∧ Below w.heap.size w w' := by
  have HR := Lib.hid hr
  have HN := Lib.hid hn
  clear hr hn
  have hu := Try.underlying22
  have he := Lib.run_eql_slice_nil w 22 71 (some ad) l.length c 0 0 hu
  go_enter Try.func50, Try.ntmps50
  go_wp2_with ((with_reducible refine gate_builtin (b := .append) (xs := #[.tmp 5, .tmp 6]) rfl ?_); at_builtin; refine Kd.R_append_rows k71 (w0 := w) w.heap.size rfl (.tmp 5) (.tmp 6) 22 71 (.agg #[(.int .i64 0), (.bool false)]) 16 rfl Try.underlying22 info71 rfl (by decide) (by omega) (.slice (some ⟨w.heap.size, 0, none⟩) 0 0) ([] : List S71) l _ _ _ (fun _ => True) (fun _ => False) rfl rfl ?aO ?aR (fun _ _ h => h) (fun _ h => h.elim) ?aF ?aB ?aS ?aL ?_; (case aO => exact Kd.R_empty _ _ _ _ 0 trivial); (case aR => exact Kd.C_alloc HR.out _); (case aF => exact (fun _ _ => trivial)); (case aB => exact below_alloc (Below.refl _ _) _); (case aS => simp); (case aL => have := HN.out; simpa using this); intro v1 w3 ho hb hg hat; have HO1 := Lib.hid ho; have HB1 := Lib.hid hb; clear ho hb hg hat)
  go_ret
  exact ⟨_, rfl, HO1.out, HB1.out⟩
end Go.Proofs.Ytagifiakjniedaa.PTab
end
section
namespace Go.Proofs.Ytagifiakjniedaa.PTab
open Go.RowKit Go.Proofs.YtagifiakjniedaaW.PrintWords Go.Proofs.YtagifiakjniedaaW.PrintLast
set_option linter.unusedVariables false
set_option linter.unusedSimpArgs false
/-- slices.Clone of duties. -/
theorem clone50 (A : Option Addr) (c : Nat) (l : List S71) (w : World) (hr : Kd.C k71 w A l.length l) (hc : l.length ≤ c) (hn : l.length * 16 ≤ 140737488355328) :
    Calls Try.prog 50 #[.slice A l.length c] w fun e w' => ∃ A' c', e = .returned (.slice A' l.length c') ∧ l.length ≤ c' ∧ Kd.F k71 w' (fun k => w.heap.size ≤ k) A' l.length l ∧ Below w.heap.size w w' := by
  cases A with
  | none =>
    have h0 : l = [] := by
      rcases l with _ | ⟨x, r⟩
      · rfl
      · obtain ⟨ad, he, _⟩ := hr.2.2 (by simp)
        cases he
    subst h0
    exact (clone50_nil c w).mono (fun e w' h => ⟨none, 0, h.1, Nat.le_refl _, Kd.F_nil _ _ _, h.2 ▸ Below.refl _ _⟩)
  | some ad =>
    refine (clone50_some ad c l w hr hc hn).mono ?_
    rintro e w' ⟨v, rfl, hR, hb⟩
    obtain ⟨A', c', rfl, hc', hF⟩ := Kd.R_V (base' := 0) (Kd.R_mono (Kd.R_bound hR) (ok' := fun k => w.heap.size ≤ k) (fun k hk => hk.2.1))
    exact ⟨A', c', rfl, hc', hF, hb⟩
set_option maxRecDepth 100000 in
set_option maxHeartbeats 1000000 in
/-- Duties in memory of their own. -/
theorem own_calls (A : Option Addr) (c : Nat) (l : List S71) (w : World) (hr : Kd.C k71 w A l.length l) (hc : l.length ≤ c) (hn : l.length * 16 ≤ 140737488355328) :
    Calls Try.prog 34 #[.slice A l.length c] w fun e w' => ∃ A', e = .returned (.slice A' l.length l.length) ∧ Kd.F k71 w' (fun k => w.heap.size ≤ k) A' l.length l ∧ Below w.heap.size w w' := by
  have H := Lib.hid (clone50 A c l w hr hc hn)
  have HN := Lib.hid hn
  clear hr hc hn
  go_enter Try.func34, Try.ntmps34
  go_wp2_with fail
  refine (H.out).mono ?_
  rintro e w1 ⟨A1, c1, rfl, hc1, hF, hb⟩
  have HF := Lib.hid hF
  have HB := Lib.hid hb
  clear hF hb
  have hl : l.length ≤ 140737488355328 := by have := HN.out; omega
  go_wp2
  go_ret
  exact ⟨A1, rfl, HF.out, HB.out⟩
end Go.Proofs.Ytagifiakjniedaa.PTab
end
section
namespace Go.Proofs.Ytagifiakjniedaa.PTab
open Go.RowKit Go.Proofs.YtagifiakjniedaaW.PrintWords Go.Proofs.YtagifiakjniedaaW.PrintLast
set_option linter.unusedVariables false
set_option linter.unusedSimpArgs false
theorem heap_k71 : Kd.Heap k71 := Kd.heap_iso _ (Kd.heap_pair (Kd.heap_int _) Kd.heap_bool)
theorem heap_k28 : Kd.Heap k28 := Kd.heap_iso _ (Kd.heap_pair Kd.heap_string (Kd.heap_pair Kd.heap_string (Kd.heap_pair Kd.heap_string (Kd.heap_pair (Kd.heap_int _) (Kd.heap_pair (Kd.heap_int _) (Kd.heap_pair (Kd.heap_int _) (Kd.heap_slice 71 heap_k71)))))))
set_option maxRecDepth 100000 in
set_option maxHeartbeats 1000000 in
theorem clone51_nil (c : Nat) (w : World) :
    Calls Try.prog 51 #[.slice none 0 c] w fun e w' => e = .returned (.slice none 0 0) ∧ w = w' := by
  have hu := Try.underlying37
  have he := Lib.run_eql_slice_nil w 37 28 none 0 c 0 0 hu
  go_enter Try.func51, Try.ntmps51
  go_wp2
  go_ret
  exact ⟨rfl, rfl⟩
set_option maxRecDepth 100000 in
set_option maxHeartbeats 1000000 in
theorem clone51_some (ad : Addr) (c : Nat) (l : List S28) (w : World) (hr : Kd.C k28 w (some ad) l.length l) (hc : l.length ≤ c) (hn : l.length * 96 ≤ 140737488355328) :
    Calls Try.prog 51 #[.slice (some ad) l.length c] w fun e w' => ∃ v : Value, e = .returned v ∧ Kd.N k28 28 w' w.heap.size (fun _ => True) v l ∧ Below w.heap.size w w' := by
  have HR := Lib.hid (Kd.C_F heap_k28 hr)
  have HN := Lib.hid hn
  clear hr hn
  have hu := Try.underlying37
  have he := Lib.run_eql_slice_nil w 37 28 (some ad) l.length c 0 0 hu
  go_enter Try.func51, Try.ntmps51
  go_wp2_with ((with_reducible refine gate_builtin (b := .append) (xs := #[.tmp 5, .tmp 6]) rfl ?_); at_builtin; refine Kd.N_append_rows k28 (w0 := w) w.heap.size rfl (.tmp 5) (.tmp 6) 37 28 (.agg #[(.string ⟨#[]⟩), (.string ⟨#[]⟩), (.string ⟨#[]⟩), (.int .i64 0), (.int .i64 0), (.int .i64 0), (.slice none 0 0)]) 96 rfl Try.underlying37 info28 rfl (by decide) (by omega) (.slice (some ⟨w.heap.size, 0, none⟩) 0 0) ([] : List S28) l _ _ _ (fun _ => True) (fun k => k < w.heap.size) rfl rfl ?aO ?aR ?aP ?aF ?aB ?aS ?aL ?_; (case aO => exact Kd.R_N (Kd.R_empty _ _ _ _ 0 trivial)); (case aR => exact Kd.F_alloc HR.out _); (case aP => exact (fun k hk => ⟨trivial, fun he => by simp [Value.ownBlock] at he; omega⟩)); (case aF => exact (fun _ _ => trivial)); (case aB => exact below_alloc (Below.refl _ _) _); (case aS => simp); (case aL => have := HN.out; simpa using this); intro v1 w3 ho hb hg hat; have HO1 := Lib.hid ho; have HB1 := Lib.hid hb; clear ho hb hg hat)
  go_ret
  exact ⟨_, rfl, HO1.out, HB1.out⟩
/-- slices.Clone of sessions: a row of its own; the elements' duties are shared. -/
theorem clone51 (A : Option Addr) (c : Nat) (l : List S28) (w : World) (hr : Kd.C k28 w A l.length l) (hc : l.length ≤ c) (hn : l.length * 96 ≤ 140737488355328) :
    Calls Try.prog 51 #[.slice A l.length c] w fun e w' => ∃ A' c', e = .returned (.slice A' l.length c') ∧ Kd.NJ k28 28 w' (fun k => w.heap.size ≤ k) (fun _ _ => True) A' c' l ∧ Below w.heap.size w w' := by
  cases A with
  | none =>
    have h0 : l = [] := by
      rcases l with _ | ⟨x, r⟩
      · rfl
      · obtain ⟨ad, he, _⟩ := hr.2.2 (by simp)
        cases he
    subst h0
    exact (clone51_nil c w).mono (fun e w' h => ⟨none, 0, h.1, Kd.NJ_nil _ _ _ _ _, h.2 ▸ Below.refl _ _⟩)
  | some ad =>
    refine (clone51_some ad c l w hr hc hn).mono ?_
    rintro e w' ⟨v, rfl, hR, hb⟩
    have hbase := Kd.N_base hR
    obtain ⟨A', c', rfl⟩ := Kd.N_slice hR
    refine ⟨A', c', rfl, ?_, hb⟩
    have h2 := Kd.NJ_of_N hR
    obtain ⟨c2, h3, h4, hA, r⟩ := h2
    exact ⟨c2, h3, h4, fun a ha => hbase _ (by rw [ha]; rfl), r⟩
end Go.Proofs.Ytagifiakjniedaa.PTab
end
section
namespace Go.Proofs.Ytagifiakjniedaa.PTab
open Go.RowKit Go.Proofs.YtagifiakjniedaaW.PrintWords Go.Proofs.YtagifiakjniedaaW.PrintLast
set_option linter.unusedVariables false
set_option linter.unusedSimpArgs false
/-- After k rounds of all. -/
def AllRel (w : World) (A : Option Addr) (c : Nat) (l : List S28) (k : Nat) (wr : World) : Prop :=
  Kd.NJ k28 28 wr (fun b => w.heap.size ≤ b) (fun j b => k ≤ j ∨ w.heap.size ≤ b) A c l ∧ Below w.heap.size w wr
theorem all_done {w wr : World} {A : Option Addr} {c : Nat} {l : List S28} (h : AllRel w A c l l.length wr) : Kd.NJ k28 28 wr (fun k => w.heap.size ≤ k) (fun _ k => w.heap.size ≤ k) A l.length l ∧ Below w.heap.size w wr :=
  ⟨Kd.NJ_clip (Kd.NJ_mono h.1 (fun _ hk => hk) (fun j k hj hk => hk.elim (fun h2 => by omega) id)) (Nat.le_refl _) (Kd.NJ_len h.1), h.2⟩
theorem all_round {w wr w2 : World} {g : Nat} {A7 : Option Addr} {c : Nat} {l : List S28} {k : Nat} (hk : k < l.length) (h : AllRel w (some ⟨g, 0, none⟩) c l k wr) (hb : Below wr.heap.size wr w2)
    (hF : Kd.F k71 w2 (fun b => wr.heap.size ≤ b) A7 l[k].f6.length l[k].f6) : AllRel w (some ⟨g, 0, none⟩) c l (k + 1) (w2.setCell ⟨g, k * 7 + 6, none⟩ (.slice A7 l[k].f6.length l[k].f6.length)) := by
  obtain ⟨hN, hb0⟩ := h
  have hgl : g < wr.heap.size := Kd.NJ_lt hN _ rfl
  have hN2 := Kd.NJ_below hN hb
  obtain ⟨g', cs, hA, hg, hcl, hFK, hcc, hfr⟩ := Kd.NJ_elem hN2 k l[k] (List.getElem?_eq_getElem hk)
  obtain rfl : g = g' := by injection hA with hA; injection hA
  obtain ⟨A6, c6, rfl, l6, g6⟩ := k28_openF hFK
  have h3 := Kd.NJ_seg hN2 k hk (seg := [.slice A7 l[k].f6.length l[k].f6.length]) (j := 6) hcl hcc (Nat.le_refl _) (x' := l[k]) (okp := fun b => wr.heap.size ≤ b) (k28_mkF w2 _ l[k] (Nat.le_refl _) hF) (fun b hb' he => by omega)
  rw [List.set_getElem_self] at h3
  refine ⟨Kd.NJ_mono h3 (fun _ h => h) (fun j b hj hjb => ?_), ?_⟩
  · by_cases hjk : j = k
    · rw [if_pos hjk] at hjb
      exact .inr (Nat.le_trans hb0.size hjb)
    · rw [if_neg hjk] at hjb
      exact hjb.elim (fun h2 => .inl (by omega)) .inr
  · exact (Below.trans hb0 (hb.mono hb0.size)).setCell hg _
set_option maxRecDepth 100000 in
set_option maxHeartbeats 1000000 in
theorem all_calls (A : Option Addr) (c : Nat) (l : List S28) (w : World) (hr : Kd.C k28 w A l.length l) (hc : l.length ≤ c) (hn : l.length ≤ 64) (hd : ∀ x ∈ l, x.f6.length ≤ 4) :
    Calls Try.prog 37 #[.slice A l.length c] w fun e w' => ∃ A', e = .returned (.slice A' l.length l.length) ∧ Kd.NJ k28 28 w' (fun k => w.heap.size ≤ k) (fun _ k => w.heap.size ≤ k) A' l.length l ∧ Below w.heap.size w w' := by
  have H := Lib.hid (clone51 A c l w hr hc (by omega))
  have HD := Lib.hid hd
  clear hr hc hd
  go_enter Try.func37, Try.ntmps37
  go_wp2_with fail
  refine (H.out).mono ?_
  rintro e w1 ⟨A1, c1, rfl, hN, hb⟩
  have hlc := Kd.NJ_len hN
  have HREL : Hid (AllRel w A1 c1 l 0 w1) := Lib.hid ⟨Kd.NJ_mono hN (fun _ h => h) (fun j k _ _ => .inl (Nat.zero_le _)), hb⟩
  clear hN hb H
  go_wp2_with fail
  go_loopw [9] (fun v wr => ∃ k : Nat, k ≤ l.length ∧ v = .int .i64 k ∧ Hid (AllRel w A1 c1 l k wr)) (fun v wr => l.length - (intOf v).toNat)
  case atStart => exact ⟨0, Nat.zero_le _, rfl, HREL⟩
  case round =>
    clear HREL
    obtain ⟨k, hk, rfl, HREL⟩ := hrel
    by_cases hlt : k < l.length
    · obtain ⟨hN, hb⟩ := HREL.out
      obtain ⟨g, cs, hA, hg, hcl, hF, hcc, hfr⟩ := Kd.NJ_elem hN k l[k] (List.getElem?_eq_getElem hlt)
      obtain ⟨A6, c6, rfl, l6, g6⟩ := k28_openF hF
      subst hA
      have h6 := hcc 6 _ rfl
      have f6 := hfr 6
      change wr.cell? ⟨g, k * 7 + 6, none⟩ = _ at h6
      change wr.frozen? ⟨g, k * 7 + 6, none⟩ = _ at f6
      have HCC := Lib.hid hcc
      have HG := Lib.hid hg
      have HF := Lib.hid hF
      have L6 := Lib.hid l6
      have G6 := Lib.hid g6
      clear hN hb hcc hfr hF hg l6 g6
      have hgl : g < wr.heap.size := World.block_lt_of_cell? wr _ h6
      go_wp2_with fail
      refine (own_calls A6 c6 l[k].f6 _ (Kd.F_now G6.out) L6.out (by have := HD.out l[k] (List.getElem_mem hlt); omega)).mono ?_
      rintro e w2 ⟨A7, rfl, hF2, hb2⟩
      obtain ⟨hc2, hf2⟩ := bcell hb2
      replace h6 := (hc2 g (k * 7 + 6) hgl).trans h6
      replace f6 := (hf2 g (k * 7 + 6) hgl).trans f6
      have HF2 := Lib.hid hF2
      have HB2 := Lib.hid hb2
      clear hF2 hb2 hc2 hf2
      go_wp2
      go_roundw
      case rel => exact ⟨k + 1, by omega, by go_num, Lib.hid (all_round hlt HREL.out HB2.out HF2.out)⟩
      case measure => simp [intOf]; omega
    · obtain rfl : k = l.length := by omega
      go_wp2
      go_ret
      exact ⟨A1, rfl, all_done HREL.out⟩
end Go.Proofs.Ytagifiakjniedaa.PTab
end
section
namespace Go.Proofs.Ytagifiakjniedaa.PTab
open Go.RowKit Go.Proofs.YtagifiakjniedaaW.PrintWords Go.Proofs.YtagifiakjniedaaW.PrintLast
set_option linter.unusedVariables false
set_option linter.unusedSimpArgs false
/-- A table at block g: its sessions; all that it leads to lies in ok. -/
def Tb (W : World) (g : Nat) (ok : Nat → Prop) (L : List S28) : Prop :=
  ∃ A c, W.heap[g]? = some (.cells #[.slice A L.length c] 65 (0, 0)) ∧ ok g ∧ Kd.NJ k28 28 W (fun k => ok k ∧ k ≠ g) (fun _ k => ok k ∧ k ≠ g) A c L
section
variable {W W1 : World} {g : Nat} {ok ok' S : Nat → Prop} {L : List S28}
theorem Tb_step (h : Tb W g ok L) (hm : ∀ k, ok k → k < W.heap.size → W1.heap[k]? = W.heap[k]?) : Tb W1 g ok L := by
  obtain ⟨A, c, hg, ho, hN⟩ := h
  exact ⟨A, c, (hm g ho (blk_lt hg)).trans hg, ho, Kd.NJ_step hN (fun k hk hlt => hm k hk.1 hlt) (fun j k _ hk hlt => hm k hk.1 hlt)⟩
theorem Tb_mono (h : Tb W g ok L) (hm : ∀ k, ok k → ok' k) : Tb W g ok' L := by
  obtain ⟨A, c, hg, ho, hN⟩ := h
  exact ⟨A, c, hg, hm g ho, Kd.NJ_mono hN (fun k hk => ⟨hm k hk.1, hk.2⟩) (fun j k _ hk => ⟨hm k hk.1, hk.2⟩)⟩
theorem Tb_bound (h : Tb W g ok L) : Tb W g (fun k => ok k ∧ k < W.heap.size) L := by
  obtain ⟨A, c, hg, ho, hN⟩ := h
  exact ⟨A, c, hg, ⟨ho, blk_lt hg⟩, Kd.NJ_mono (Kd.NJ_bound hN) (fun k hk => ⟨⟨hk.1.1, hk.2⟩, hk.1.2⟩) (fun j k _ hk => ⟨⟨hk.1.1, hk.2⟩, hk.1.2⟩)⟩
theorem Tb_below (h : Tb W g ok L) (hb : Below W.heap.size W W1) : Tb W1 g ok L := Tb_step h (fun k _ hk => hb.block k hk)
theorem Tb_kp (h : Tb W g ok L) (hk : Kp S W W1) (hn : ∀ k, ok k → k < W.heap.size → ¬ S k) : Tb W1 g ok L := Tb_step h (fun k ho hlt => hk.block k hlt (hn k ho hlt))
theorem Tb_C (h : Tb W g ok L) : ∃ A c, W.heap[g]? = some (.cells #[.slice A L.length c] 65 (0, 0)) ∧ L.length ≤ c ∧ Kd.C k28 W A L.length L := by
  obtain ⟨A, c, hg, ho, hN⟩ := h
  exact ⟨A, c, hg, Kd.NJ_len hN, Kd.NJ_C hN⟩
theorem Tb_cell {A : Option Addr} {c : Nat} (hg : W.heap[g]? = some (.cells #[.slice A L.length c] 65 (0, 0))) : W.cell? ⟨g, 0, none⟩ = some (.slice A L.length c) ∧ W.frozen? ⟨g, 0, none⟩ = false := by
  rw [cell_of_heap hg, free_of_heap hg]
  exact ⟨rfl, rfl⟩
end
/-- A table just made. -/
theorem Tb_made {B : Nat} {A : Option Addr} {c : Nat} {W : World} {L : List S28} (hN : Kd.NJ k28 28 W (fun k => B ≤ k) (fun _ k => B ≤ k) A c L) (hB : B ≤ W.heap.size) : Tb (W.alloc (.cells #[.slice A L.length c] 65)) W.heap.size (fun k => B ≤ k) L :=
  ⟨A, c, heap_alloc_at _ _, hB, Kd.NJ_mono (Kd.NJ_below (Kd.NJ_bound hN) (below_alloc (Below.refl _ _) _)) (fun k hk => ⟨hk.1, by have := hk.2; omega⟩) (fun j k _ hk => ⟨hk.1, by have := hk.2; omega⟩)⟩
/-- How many and how long. -/
def Fits (L : List S28) : Prop := L.length ≤ 64 ∧ ∀ x ∈ L, x.f6.length ≤ 4
set_option maxRecDepth 100000 in
theorem len_calls (g : Nat) (ok : Nat → Prop) (L : List S28) (w : World) (hT : Tb w g ok L) : Calls Try.prog 23 #[.pointer (some ⟨g, 0, none⟩)] w fun e w' => e = .returned (.int .i64 L.length) ∧ w = w' := by
  obtain ⟨A, c, hg, hlc, hC⟩ := Tb_C hT
  obtain ⟨h0, h1⟩ := Tb_cell hg
  have hm := hC.2.1
  clear hC hg hT
  go_enter Try.func23, Try.ntmps23
  go_wp2
  go_ret
  exact ⟨rfl, rfl⟩
set_option maxRecDepth 100000 in
theorem list_calls (g : Nat) (ok : Nat → Prop) (L : List S28) (w : World) (hT : Tb w g ok L) (hL : Fits L) : Calls Try.prog 17 #[.pointer (some ⟨g, 0, none⟩)] w fun e w' =>
    ∃ A', e = .returned (.slice A' L.length L.length) ∧ Kd.NJ k28 28 w' (fun k => w.heap.size ≤ k) (fun _ k => w.heap.size ≤ k) A' L.length L ∧ Below w.heap.size w w' := by
  obtain ⟨A, c, hg, hlc, hC⟩ := Tb_C hT
  obtain ⟨h0, h1⟩ := Tb_cell hg
  have H := Lib.hid (all_calls A c L w hC hlc hL.1 hL.2)
  clear hC hg hT hL hlc
  go_enter Try.func17, Try.ntmps17
  go_wp2_with fail
  refine (H.out).mono ?_
  rintro e w1 ⟨A', rfl, hN, hb⟩
  have HN := Lib.hid hN
  have HB := Lib.hid hb
  clear hN hb
  go_wp2
  go_ret
  exact ⟨A', rfl, HN.out, HB.out⟩
set_option maxRecDepth 100000 in
theorem clone_calls (g : Nat) (ok : Nat → Prop) (L : List S28) (w : World) (hT : Tb w g ok L) (hL : Fits L) : Calls Try.prog 26 #[.pointer (some ⟨g, 0, none⟩)] w fun e w' =>
    ∃ g', e = .returned (.pointer (some ⟨g', 0, none⟩)) ∧ Tb w' g' (fun k => w.heap.size ≤ k) L ∧ Below w.heap.size w w' := by
  obtain ⟨A, c, hg, hlc, hC⟩ := Tb_C hT
  obtain ⟨h0, h1⟩ := Tb_cell hg
  have H := Lib.hid (all_calls A c L w hC hlc hL.1 hL.2)
  clear hC hg hT hL hlc
  go_enter Try.func26, Try.ntmps26
  go_wp2_with fail
  refine (H.out).mono ?_
  rintro e w1 ⟨A', rfl, hN, hb⟩
  have HN := Lib.hid hN
  have HB := Lib.hid hb
  clear hN hb
  go_wp2
  go_ret
  exact ⟨_, rfl, Tb_made HN.out HB.out.size, below_alloc HB.out _⟩
set_option maxRecDepth 100000 in
theorem new_calls (w : World) : Calls Try.prog 29 #[] w fun e w' =>
    ∃ g', e = .returned (.pointer (some ⟨g', 0, none⟩)) ∧ Tb w' g' (fun k => w.heap.size ≤ k) [] ∧ Below w.heap.size w w' := by
  go_enter Try.func29, Try.ntmps29
  go_wp2
  go_ret
  exact ⟨_, rfl, Tb_made (L := []) (Kd.NJ_nil _ _ _ _ _) (Nat.le_refl _), below_alloc (Below.refl _ _) _⟩
end Go.Proofs.Ytagifiakjniedaa.PTab
end
section
namespace Go.Proofs.Ytagifiakjniedaa.PTab
open Go.RowKit Go.Proofs.YtagifiakjniedaaW.PrintWords Go.Proofs.YtagifiakjniedaaW.PrintLast
set_option linter.unusedVariables false
set_option linter.unusedSimpArgs false
/-- Element i of a table, its cells. -/
theorem Tb_at {w : World} {g : Nat} {ok : Nat → Prop} {L : List S28} (hT : Tb w g ok L) (i : Nat) (hi : i < L.length) :
    ∃ b c A6 c6, w.heap[g]? = some (.cells #[.slice (some ⟨b, 0, none⟩) L.length c] 65 (0, 0)) ∧ ok b ∧ b ≠ g ∧ b < w.heap.size ∧ L.length ≤ c ∧
      (w.cell? ⟨b, i * 7, none⟩ = some (.string L[i].f0) ∧ w.cell? ⟨b, i * 7 + 1, none⟩ = some (.string L[i].f1) ∧ w.cell? ⟨b, i * 7 + 2, none⟩ = some (.string L[i].f2) ∧ w.cell? ⟨b, i * 7 + 3, none⟩ = some (.int .i64 L[i].f3) ∧ w.cell? ⟨b, i * 7 + 4, none⟩ = some (.int .i64 L[i].f4) ∧ w.cell? ⟨b, i * 7 + 5, none⟩ = some (.int .i64 L[i].f5) ∧ w.cell? ⟨b, i * 7 + 6, none⟩ = some (.slice A6 L[i].f6.length c6)) ∧
      L[i].f6.length ≤ c6 ∧ Kd.F k71 w (fun k => ok k ∧ k ≠ g ∧ k ≠ b) A6 L[i].f6.length L[i].f6 ∧ ∀ j, w.frozen? ⟨b, i * 7 + j, none⟩ = false := by
  obtain ⟨A, c, hg, ho, hN⟩ := hT
  have hlt := Kd.NJ_lt hN
  have hlc := Kd.NJ_len hN
  obtain ⟨b, cs, rfl, hb, hcl, hF, hcc, hfr⟩ := Kd.NJ_elem hN i L[i] (List.getElem?_eq_getElem hi)
  obtain ⟨A6, c6, rfl, l6, g6⟩ := k28_openF hF
  exact ⟨b, c, A6, c6, hg, hb.1, hb.2, hlt _ rfl, hlc, ⟨hcc 0 _ rfl, hcc 1 _ rfl, hcc 2 _ rfl, hcc 3 _ rfl, hcc 4 _ rfl, hcc 5 _ rfl, hcc 6 _ rfl⟩, l6, Kd.F_mono g6 (fun k hk => ⟨hk.1.1, hk.1.2, hk.2⟩), hfr⟩
set_option maxRecDepth 100000 in
set_option maxHeartbeats 1000000 in
theorem get_low (g : Nat) (ok : Nat → Prop) (L : List S28) (id : Int) (w : World) (hid : id < 1) :
    Calls Try.prog 16 #[.pointer (some ⟨g, 0, none⟩), .int .i64 id] w fun e w' => e = .returned (.tuple #[.agg #[.string ⟨#[]⟩, .string ⟨#[]⟩, .string ⟨#[]⟩, .int .i64 0, .int .i64 0, .int .i64 0, .slice none 0 0], .bool false]) ∧ Below w.heap.size w w' := by
  go_enter Try.func16, Try.ntmps16
  go_wp2
  exact bodyPost_ret (v := .tuple #[.agg #[.string ⟨#[]⟩, .string ⟨#[]⟩, .string ⟨#[]⟩, .int .i64 0, .int .i64 0, .int .i64 0, .slice none 0 0], .bool false]) (by simp [results, Try.results16, go_sem]; try rfl) rfl ⟨rfl, below_alloc (Below.refl _ _) _⟩
set_option maxRecDepth 100000 in
set_option maxHeartbeats 1000000 in
theorem get_high (g : Nat) (ok : Nat → Prop) (L : List S28) (id : Int) (w : World) (hT : Tb w g ok L) (h0 : 1 ≤ id) (hid : L.length < id) :
    Calls Try.prog 16 #[.pointer (some ⟨g, 0, none⟩), .int .i64 id] w fun e w' => e = .returned (.tuple #[.agg #[.string ⟨#[]⟩, .string ⟨#[]⟩, .string ⟨#[]⟩, .int .i64 0, .int .i64 0, .int .i64 0, .slice none 0 0], .bool false]) ∧ Below w.heap.size w w' := by
  obtain ⟨A, c, hg, hlc, hC⟩ := Tb_C hT
  obtain ⟨k0, k1⟩ := Tb_cell hg
  have hgl : g < w.heap.size := blk_lt hg
  have hd1 : decide (id < 1) = false := by simp; omega
  have hd2 : decide ((L.length : Int) < id) = true := by simp; omega
  clear hC hg hT hlc
  go_enter Try.func16, Try.ntmps16
  go_wp2
  exact bodyPost_ret (v := .tuple #[.agg #[.string ⟨#[]⟩, .string ⟨#[]⟩, .string ⟨#[]⟩, .int .i64 0, .int .i64 0, .int .i64 0, .slice none 0 0], .bool false]) (by simp [results, Try.results16, go_sem]; try rfl) rfl ⟨rfl, below_alloc (Below.refl _ _) _⟩
set_option maxRecDepth 100000 in
set_option maxHeartbeats 1000000 in
theorem get_in (g : Nat) (ok : Nat → Prop) (L : List S28) (i : Nat) (w : World) (hT : Tb w g ok L) (hi : i < L.length) (hL : Fits L) :
    Calls Try.prog 16 #[.pointer (some ⟨g, 0, none⟩), .int .i64 ((i : Int) + 1)] w fun e w' => ∃ A', e = .returned (.tuple #[.agg #[.string L[i].f0, .string L[i].f1, .string L[i].f2, .int .i64 L[i].f3, .int .i64 L[i].f4, .int .i64 L[i].f5, .slice A' L[i].f6.length L[i].f6.length], .bool true]) ∧ Kd.F k71 w' (fun k => w.heap.size ≤ k) A' L[i].f6.length L[i].f6 ∧ Below w.heap.size w w' := by
  obtain ⟨b, c, A6, c6, hg, hob, hbg, hbl, hlc, ⟨k0, k1, k2, k3, k4, k5, k6⟩, l6, g6, hfr⟩ := Tb_at hT i hi
  obtain ⟨h0, h1⟩ := Tb_cell hg
  have hd1 : decide ((i : Int) + 1 < 1) = false := by simp; omega
  have hd2 : decide ((L.length : Int) < (i : Int) + 1) = false := by simp; omega
  have hn := hL.1
  have hgl : g < w.heap.size := blk_lt hg
  have H := fun W (hW : Below w.heap.size w W) => own_calls A6 c6 L[i].f6 W (Kd.F_now (Kd.F_below g6 hW)) l6 (by have := hL.2 L[i] (List.getElem_mem hi); omega)
  have H := Lib.hid H
  clear hg hT g6 hL
  generalize L[i] = x at *
  go_enter Try.func16, Try.ntmps16
  go_wp2_with fail
  refine (H.out _ (below_alloc (below_alloc (Below.refl _ _) _) _)).mono ?_
  rintro e w2 ⟨A', rfl, hF, hb⟩
  obtain ⟨hc, hf⟩ := bcell hb
  have hd := fun o => hc (w.heap.size + 1) o (by simp)
  have he := fun o => hf (w.heap.size + 1) o (by simp)
  have hd0 := fun o => hc w.heap.size o (by simp; omega)
  have he0 := fun o => hf w.heap.size o (by simp; omega)
  have hz : w.heap.size + 1 < w2.heap.size := by have := hb.size; simp at this; omega
  have hs := hb.size
  simp at hs
  have HF := Lib.hid (Kd.F_mono hF (ok' := fun k => w.heap.size + 2 ≤ k) (fun k hk => by simp at hk; omega))
  have HB := Lib.hid (below_step (below_alloc (below_alloc (Below.refl _ _) _) _) hb)
  clear hF hb hc hf
  go_wp2
  refine bodyPost_ret (v := .tuple #[.agg #[.string x.f0, .string x.f1, .string x.f2, .int .i64 x.f3, .int .i64 x.f4, .int .i64 x.f5, .slice A' x.f6.length x.f6.length], .bool true]) (by simp [results, Try.results16, go_sem, hd, hd0]; try rfl) rfl ⟨A', rfl, ?_, ?_⟩
  · refine Kd.F_mono (ok := fun k => w.heap.size + 2 ≤ k) ?_ (fun k hk => by omega)
    repeat (first | (with_reducible exact HF.out) | (with_reducible refine Kd.F_far ?_ (fun k hk he => by simp at he; omega) _))
  · repeat (first | (with_reducible exact HB.out) | (with_reducible refine Below.setCell ?_ (by simp) _))
end Go.Proofs.Ytagifiakjniedaa.PTab
end
