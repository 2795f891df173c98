/-
  Rows that are owned, element by element, and the frame of a call. No program in sight.
-/
import Derived.Test.YtagifiakjniedaaWNEv
import Derived.Test.YtagifiakjniedaaWMore
import Derived.Lib.Hide
namespace Go.Proofs.YtagifiakjniedaaW.PrintWords
open Go.RowKit
set_option linter.unusedVariables false
set_option linter.unusedSimpArgs false
/-- What a call keeps: all but the blocks of S and what is new. -/
structure Kp (S : Nat → Prop) (w w' : World) : Prop where
  os : w'.os = w.os
  tape : w'.tape = w.tape
  output : w'.output = w.output
  size : w.heap.size ≤ w'.heap.size
  block : ∀ i, i < w.heap.size → ¬ S i → w'.heap[i]? = w.heap[i]?
namespace Kp
variable {S S1 S2 : Nat → Prop} {w w1 w2 : World}
theorem refl (S : Nat → Prop) (w : World) : Kp S w w := ⟨rfl, rfl, rfl, Nat.le_refl _, fun _ _ _ => rfl⟩
theorem of_below (h : Below w.heap.size w w1) (S : Nat → Prop) : Kp S w w1 := ⟨h.os, h.tape, h.output, h.size, fun i hi _ => h.block i hi⟩
theorem mono (h : Kp S w w1) (hs : ∀ k, S k → S1 k) : Kp S1 w w1 := ⟨h.os, h.tape, h.output, h.size, fun i hi hn => h.block i hi (fun hk => hn (hs i hk))⟩
theorem trans (h : Kp S w w1) (k : Kp S1 w1 w2) (hs : ∀ k, S1 k → S k ∨ w.heap.size ≤ k) : Kp S w w2 :=
  ⟨k.os.trans h.os, k.tape.trans h.tape, k.output.trans h.output, Nat.le_trans h.size k.size, fun i hi hn => (k.block i (Nat.lt_of_lt_of_le hi h.size) (fun h2 => (hs i h2).elim hn (fun h3 => by omega))).trans (h.block i hi hn)⟩
theorem then_below (h : Kp S w w1) (k : Below w1.heap.size w1 w2) : Kp S w w2 := h.trans (of_below k (fun _ => False)) (fun _ hk => hk.elim)
theorem after_below (h : Below w.heap.size w w1) (k : Kp S w1 w2) : Kp S w w2 := (of_below h S).trans k (fun _ hk => .inl hk)
theorem setCell (h : Kp S w w1) {p : Addr} (hp : S p.block ∨ w.heap.size ≤ p.block) (u : Value) : Kp S w (w1.setCell p u) :=
  h.trans (S1 := fun k => k = p.block) ⟨rfl, rfl, rfl, by simp [World.setCell], fun i _ hn => Below.heap_setCell w1 p u i hn⟩ (fun k hk => by rw [hk]; exact hp)
theorem alloc (h : Kp S w w1) (o : Obj) : Kp S w (w1.alloc o) := h.then_below (below_alloc (Below.refl _ _) o)
theorem drewN (h : Kp S w w1) (m : Nat) : Kp S w (w1.drewN m) := ⟨h.os, h.tape, h.output, h.size, h.block⟩
theorem drew (h : Kp S w w1) : Kp S w w1.drew := ⟨h.os, h.tape, h.output, h.size, h.block⟩
theorem grown {row : Option Nat} (h : Kp S w w1) (hg : w1.grownBy w2 row) (hr : ∀ k, row = some k → S k ∨ w.heap.size ≤ k) : Kp S w w2 :=
  h.trans (S1 := fun k => row = some k) ⟨hg.os, hg.tape, hg.output, hg.size, fun i hi hn => hg.block i hi (fun he => hn he.symm)⟩ hr
theorem below {B : Nat} (h : Kp S w w1) (hB : B ≤ w.heap.size) (hS : ∀ k, S k → B ≤ k) : Below B w w1 :=
  ⟨h.os, h.tape, h.output, h.size, fun i hi => h.block i (Nat.lt_of_lt_of_le hi hB) (fun hk => by have := hS i hk; omega)⟩
theorem kept (h : Kp S w w1) : Kept w w1 S := ⟨h.size, h.block⟩
end Kp
theorem bcell {W w1 : World} (hb : Below W.heap.size W w1) : (∀ b o, b < W.heap.size → w1.cell? ⟨b, o, none⟩ = W.cell? ⟨b, o, none⟩) ∧ (∀ b o, b < W.heap.size → w1.frozen? ⟨b, o, none⟩ = W.frozen? ⟨b, o, none⟩) :=
  ⟨fun b o h => hb.cell (p := ⟨b, o, none⟩) h, fun b o h => hb.frozen (p := ⟨b, o, none⟩) h⟩
theorem cell_on {w w1 : World} {a : Addr} {v : Value} (hb : Below w.heap.size w w1) (h : w.cell? a = some v) : w1.cell? a = some v := pw_cell_below hb h
theorem heap_alloc_at (w : World) (o : Obj) : (w.alloc o).heap[w.heap.size]? = some o := by
  show (w.heap.push o)[w.heap.size]? = some o
  simp
theorem cell_of_heap {w : World} {g : Nat} {cs : Array Value} {e : TypeId} {z : Nat × Nat} (h : w.heap[g]? = some (.cells cs e z)) (i : Nat) : w.cell? ⟨g, i, none⟩ = cs[i]? := by
  simp [World.cell?, h]
theorem free_of_heap {w : World} {g : Nat} {cs : Array Value} {e : TypeId} (h : w.heap[g]? = some (.cells cs e (0, 0))) (i : Nat) : w.frozen? ⟨g, i, none⟩ = false := by
  simp [World.frozen?, h]
theorem setCells_one (w : World) (g o : Nat) (u : Value) : w.setCells g o [u] = w.setCell ⟨g, o, none⟩ u := rfl
namespace Kd
/-- An empty row that is not nil, just made. -/
theorem R_empty {α : Type} (d : Kd α) (e : Nat) (w : World) (ok : Nat → Prop) (c0 : Nat) (h : ok w.heap.size) : d.R e (w.alloc (.cells #[] e)) w.heap.size ok (.slice (some ⟨w.heap.size, 0, none⟩) 0 0) [] := by
  refine ⟨fun k hk => ?_, [], ⟨by simp, .inr ⟨w.heap.size, 0, #[], rfl, Nat.le_refl _, ?_, Nat.le_refl _, by simp, by simp, by simp⟩⟩, by simp, fun j p hj => by simp at hj⟩
  · have : w.heap.size = k := by simpa [Value.ownBlock] using hk
    exact this ▸ h
  · exact heap_alloc_at _ _
/-- A row of elements of one's own (its capacity told perhaps too small); each element leads to blocks of its own telling (okj). -/
def NJ {α : Type} (d : Kd α) (e : Nat) (w : World) (ok : Nat → Prop) (okj : Nat → Nat → Prop) (A : Option Addr) (c : Nat) (xs : List α) : Prop :=
  ∃ c', xs.length ≤ c ∧ c ≤ c' ∧ (∀ a, A = some a → ok a.block) ∧ ∃ rows : List (List Value), rows.length = xs.length ∧ (raw d.sz).R e w 0 (fun _ => True) (.slice A xs.length c') rows ∧
    ∀ (j : Nat) (x : α) (cs : List Value), xs[j]? = some x → rows[j]? = some cs → FK d w (fun k => okj j k ∧ ∀ a, A = some a → k ≠ a.block) x cs
section
variable {α : Type} {d : Kd α} {e : Nat} {w w1 : World} {ok ok' okp : Nat → Prop} {okj okj' : Nat → Nat → Prop} {A : Option Addr} {c : Nat} {xs : List α} {v : Value}
theorem NJ_of_N {n : Nat} {base : Nat} (h : N d e w base ok (.slice A n c) xs) : NJ d e w ok (fun _ => ok) A c xs := by
  obtain ⟨hn, hc, _⟩ := N_reads' h
  subst hn
  obtain ⟨h0, rows, hl, hR, hf⟩ := h
  refine ⟨c, hc, Nat.le_refl _, fun a ha => h0 _ (by rw [ha]; rfl), rows, hl, R_mono (R_lower hR (Nat.zero_le _)) (fun _ _ => trivial), fun j x cs hx hcs => FK_mono (hf j x cs hx hcs) (fun k hk => ⟨hk.1, fun a ha he => hk.2 ?_⟩)⟩
  rw [ha, he]; rfl
theorem NJ_nil (d : Kd α) (e : Nat) (w : World) (ok : Nat → Prop) (okj : Nat → Nat → Prop) : NJ d e w ok okj none 0 [] :=
  ⟨0, Nat.le_refl _, Nat.le_refl _, (fun a ha => by cases ha), [], rfl, R_nil _ _ _ _ _, (fun j x cs hx => by simp at hx)⟩
theorem NJ_clip {c1 : Nat} (h : NJ d e w ok okj A c xs) (h0 : xs.length ≤ c1) (h1 : c1 ≤ c) : NJ d e w ok okj A c1 xs := by
  obtain ⟨c', _, hc, r⟩ := h
  exact ⟨c', h0, Nat.le_trans h1 hc, r⟩
theorem NJ_mono (h : NJ d e w ok okj A c xs) (h0 : ∀ k, ok k → ok' k) (hj : ∀ j k, j < xs.length → okj j k → okj' j k) : NJ d e w ok' okj' A c xs := by
  obtain ⟨c', hc0, hc, hA, rows, hl, hR, hf⟩ := h
  exact ⟨c', hc0, hc, fun a ha => h0 _ (hA a ha), rows, hl, hR, fun j x cs hx hcs => FK_mono (hf j x cs hx hcs) (fun k hk => ⟨hj j k (List.getElem?_eq_some_iff.1 hx).1 hk.1, hk.2⟩)⟩
theorem NJ_lt (h : NJ d e w ok okj A c xs) : ∀ a, A = some a → a.block < w.heap.size := by
  obtain ⟨c', _, _, _, rows, _, hR, _⟩ := h
  intro a ha
  exact R_lt hR a.block (by rw [ha]; rfl)
theorem NJ_bound (h : NJ d e w ok okj A c xs) : NJ d e w (fun k => ok k ∧ k < w.heap.size) (fun j k => okj j k ∧ k < w.heap.size) A c xs := by
  have hlt := NJ_lt h
  obtain ⟨c', hc0, hc, hA, rows, hl, hR, hf⟩ := h
  exact ⟨c', hc0, hc, fun a ha => ⟨hA a ha, hlt a ha⟩, rows, hl, hR, fun j x cs hx hcs => FK_mono (FK_bound (hf j x cs hx hcs)) (fun k hk => ⟨⟨hk.1.1, hk.2⟩, hk.1.2⟩)⟩
theorem NJ_step (h : NJ d e w ok okj A c xs) (hm : ∀ k, ok k → k < w.heap.size → w1.heap[k]? = w.heap[k]?) (hj : ∀ j k, j < xs.length → okj j k → k < w.heap.size → w1.heap[k]? = w.heap[k]?) : NJ d e w1 ok okj A c xs := by
  obtain ⟨c', hc0, hc, hA, rows, hl, hR, hf⟩ := h
  refine ⟨c', hc0, hc, hA, rows, hl, ?_, fun j x cs hx hcs => FK_step (hf j x cs hx hcs) (fun k hk hlt => hj j k (List.getElem?_eq_some_iff.1 hx).1 hk.1 hlt)⟩
  have h2 := R_tight rfl hR
  refine R_mono (R_step h2 (fun k hk hlt => hm k ?_ hlt)) (fun _ _ => trivial)
  rcases A with _ | a
  · cases hk
  · obtain rfl : k = a.block := by injection hk
    exact hA a rfl
theorem NJ_below (h : NJ d e w ok okj A c xs) (hb : Below w.heap.size w w1) : NJ d e w1 ok okj A c xs := NJ_step h (fun k _ hk => hb.block k hk) (fun _ k _ _ hk => hb.block k hk)
theorem NJ_kp {S : Nat → Prop} (h : NJ d e w ok okj A c xs) (hk : Kp S w w1) (h0 : ∀ k, ok k → ¬ S k) (hj : ∀ j k, j < xs.length → okj j k → ¬ S k) : NJ d e w1 ok okj A c xs :=
  NJ_step h (fun k ho hlt => hk.block k hlt (h0 k ho)) (fun j k hx ho hlt => hk.block k hlt (hj j k hx ho))
theorem NJ_len (h : NJ d e w ok okj A c xs) : xs.length ≤ c := by
  obtain ⟨c', hc0, _⟩ := h
  exact hc0
/-- Its cells' reading. -/
theorem NJ_C (h : NJ d e w ok okj A c xs) : d.C w A xs.length xs := by
  obtain ⟨c', hc0, hc, hA, rows, hl, hR, hf⟩ := h
  obtain ⟨hn, _, hC⟩ := R_reads' hR
  rw [hl] at hC
  refine ⟨rfl, hC.2.1, fun hp => ?_⟩
  obtain ⟨ad, he, hcell⟩ := hC.2.2 hp
  refine ⟨ad, he, fun j p hj => ?_⟩
  have hjl : j < rows.length := by have := (List.getElem?_eq_some_iff.1 hj).1; omega
  obtain ⟨cs, hcl, hK, hcc⟩ := hcell j _ (List.getElem?_eq_getElem hjl)
  have hk := FK_now (hf j p _ hj (List.getElem?_eq_getElem hjl))
  refine ⟨cs, hcl, ?_, hcc⟩
  rw [show cs = rows[j] from hK.1]
  exact hk
theorem NJ_F (h : NJ d e w ok okj A c xs) (h0 : ∀ k, ok k → okp k) (hj : ∀ j k, j < xs.length → okj j k → okp k) : F d w okp A xs.length xs := fun W' hW =>
  NJ_C (NJ_step h (fun k hk hlt => hW k (h0 k hk) hlt) (fun j k hx hk hlt => hW k (hj j k hx hk) hlt))
theorem NJ_V {base : Nat} (h : NJ d e w ok okj A c xs) (h0 : ∀ k, ok k → okp k) (hj : ∀ j k, j < xs.length → okj j k → okp k) : V d e w base okp (.slice A xs.length c) xs := ⟨A, c, rfl, NJ_len h, NJ_F h h0 hj⟩
/-- One element. -/
theorem NJ_elem (h : NJ d e w ok okj A c xs) (i : Nat) (x : α) (hi : xs[i]? = some x) :
    ∃ g cs, A = some ⟨g, 0, none⟩ ∧ ok g ∧ cs.length = d.sz ∧ FK d w (fun k => okj i k ∧ k ≠ g) x cs ∧ (∀ j u, cs[j]? = some u → w.cell? ⟨g, i * d.sz + j, none⟩ = some u) ∧ ∀ j, w.frozen? ⟨g, i * d.sz + j, none⟩ = false := by
  obtain ⟨c', hc0, hc, hA, rows, hl, hR, hf⟩ := h
  obtain ⟨hil, _⟩ := List.getElem?_eq_some_iff.1 hi
  obtain ⟨ad, rfl⟩ : ∃ ad, A = some ad := by
    obtain ⟨_, _, hC⟩ := R_reads' hR
    obtain ⟨ad, he, _⟩ := hC.2.2 (by omega)
    exact ⟨ad, he⟩
  obtain ⟨g, rfl⟩ := R_head hR
  obtain ⟨cs, hcl, hM, hcc, hfr⟩ := R_elem hR [] (i : Int) (by omega) (by omega)
  simp only [Int.toNat_natCast] at hM hcc hfr
  have hir : i < rows.length := by omega
  have he : cs = rows[i] := by
    have h2 := hM.1
    rwa [List.getD_eq_getElem?_getD, List.getElem?_eq_getElem hir] at h2
  refine ⟨g, cs, rfl, hA _ rfl, hcl, ?_, hcc, hfr⟩
  exact FK_mono (hf i x cs hi (by rw [he]; exact List.getElem?_eq_getElem hir)) (fun k hk => ⟨hk.1, hk.2 _ rfl⟩)
open Classical in
/-- Cells of element i are written. -/
theorem NJ_seg {g : Nat} (h : NJ d e w ok okj (some ⟨g, 0, none⟩) c xs) (i : Nat) (hi : i < xs.length) {cs seg : List Value} {j : Nat} (hcl : cs.length = d.sz) (hcc : ∀ j u, cs[j]? = some u → w.cell? ⟨g, i * d.sz + j, none⟩ = some u)
    (hj : j + seg.length ≤ d.sz) {x' : α} (hM : FK d w okp x' (cs.take j ++ seg ++ cs.drop (j + seg.length))) (hokp : ∀ k, okp k → k ≠ g) :
    NJ d e (w.setCells g (i * d.sz + j) seg) ok (fun j' k => if j' = i then okp k else okj j' k) (some ⟨g, 0, none⟩) c (xs.set i x') := by
  obtain ⟨c', hc0, hc, hA, rows, hl, hR, hf⟩ := h
  obtain ⟨h2, h3⟩ := R_seg hR (i : Int) (by omega) (by omega) (c := cs) (seg := seg) (j := j) (x' := cs.take j ++ seg ++ cs.drop (j + seg.length)) (okp := fun _ => False) hcl (by rw [Int.toNat_natCast]; exact hcc) hj ⟨rfl, d.K_len (FK_now hM), d.K_one (FK_now hM)⟩ (fun _ hk => hk.elim)
  simp only [Int.toNat_natCast] at h2 h3
  have hrl : (rows.set i (cs.take j ++ seg ++ cs.drop (j + seg.length))).length = (xs.set i x').length := by rw [List.length_set, List.length_set, hl]
  refine ⟨c', by rw [List.length_set]; exact hc0, hc, hA, rows.set i (cs.take j ++ seg ++ cs.drop (j + seg.length)), hrl, by rw [List.length_set]; exact h2, fun j' x cs' hx hcs => ?_⟩
  have hjl : j' < xs.length := by have := (List.getElem?_eq_some_iff.1 hx).1; rwa [List.length_set] at this
  by_cases hji : j' = i
  · subst hji
    rw [List.getElem?_set_self hjl] at hx
    rw [List.getElem?_set_self (by omega)] at hcs
    injection hx with hx
    injection hcs with hcs
    rw [← hx, ← hcs]
    refine FK_mono (FK_step hM (fun k hk hlt => h3.block k hlt (fun he => hokp k hk (by injection he)))) (fun k hk => ⟨?_, fun a ha he => hokp k hk (by injection ha with ha; rw [he, ← ha])⟩)
    show if j' = j' then okp k else okj j' k
    rw [if_pos rfl]
    exact hk
  · rw [List.getElem?_set_ne (Ne.symm hji)] at hx hcs
    refine FK_mono (FK_step (hf j' x cs' hx hcs) (fun k hk hlt => h3.block k hlt (fun he => hk.2 _ rfl (by injection he)))) (fun k hk => ⟨?_, hk.2⟩)
    show if j' = i then okp k else okj j' k
    rw [if_neg hji]
    exact hk.1
end
section
variable {α : Type} {d : Kd α} {e : Nat} {W : World} {ok okp : Nat → Prop} {okj : Nat → Nat → Prop} {A : Option Addr} {c : Nat} {xs : List α} {P : Program}
/-- A row that is fresh, out of rows of cells. -/
theorem NJ_fresh {w1 : World} {v1 : Value} {n : Nat} {rows : List (List Value)} {cs : List Value} {p : α} {okq : Nat → Nat → Prop} (hlen : xs.length = n) (hl : rows.length = n) (hR : (raw d.sz).R e w1 0 (fun _ => True) v1 (rows ++ [cs]))
    (hfresh : ∀ k, v1.ownBlock = some k → W.heap.size ≤ k) (hf : ∀ (j : Nat) (x : α) (cc : List Value), xs[j]? = some x → rows[j]? = some cc → FK d W (okq j) x cc) (hp : FK d W okp p cs) (hb : ∀ k, k < W.heap.size → w1.heap[k]? = W.heap[k]?) :
    ∃ A1 c1, v1 = .slice A1 (n + 1) c1 ∧ NJ d e w1 (fun k => W.heap.size ≤ k) (fun j k => (j = n ∧ okp k) ∨ (j < n ∧ okq j k)) A1 c1 (xs ++ [p]) := by
  obtain ⟨A1, c1, rfl, hc1, _⟩ := R_reads hR
  have hn1 : (rows ++ [cs]).length = n + 1 := by rw [List.length_append, hl]; rfl
  have hn2 : (xs ++ [p]).length = n + 1 := by rw [List.length_append, hlen]; rfl
  rw [hn1] at hR hc1 hfresh
  refine ⟨A1, c1, by rw [hn1], c1, by rw [hn2]; exact hc1, Nat.le_refl _, fun a ha => hfresh _ (by rw [ha]; rfl), rows ++ [cs], by rw [hn1, hn2], by rw [hn2]; exact hR, fun j x cc hx hcc => ?_⟩
  have hjl : j < n + 1 := by have := (List.getElem?_eq_some_iff.1 hx).1; omega
  have hfr : ∀ k, k < W.heap.size → ∀ a, A1 = some a → k ≠ a.block := fun k hk a ha he => by
    have h1 := hfresh a.block (by rw [ha]; rfl)
    omega
  by_cases hj : j = n
  · subst hj
    rw [List.getElem?_append_right (by omega), hlen, Nat.sub_self] at hx
    rw [List.getElem?_append_right (by omega), hl, Nat.sub_self] at hcc
    simp only [List.getElem?_cons_zero, Option.some.injEq] at hx hcc
    rw [← hx, ← hcc]
    exact FK_mono (FK_step (FK_bound hp) (fun k hk _ => hb k hk.2)) (fun k hk => ⟨.inl ⟨rfl, hk.1⟩, hfr k hk.2⟩)
  · rw [List.getElem?_append_left (by omega)] at hx hcc
    exact FK_mono (FK_step (FK_bound (hf j x cc hx hcc)) (fun k hk _ => hb k hk.2)) (fun k hk => ⟨.inr ⟨by omega, hk.1⟩, hfr k hk.2⟩)
theorem NJ_append_run (hN : NJ d e W ok okj A c xs) (t ty : TypeId) (i : TypeInfo) (z : Value) (bytes : Nat) (ht : P.underlying t = some (.slice e)) (hi : P.info? e = some i) (hz : i.zero = some z) (hsize : i.size = d.sz) (hby : i.bytes = bytes) (hzs : z.cells.size = d.sz) (hsz : 0 < d.sz)
    {p : α} {cs : List Value} (hp : FK d W okp p cs) (hokp : ∀ k, okp k → ∀ a, A = some a → k ≠ a.block) (h63 : xs.length + 1 ≤ maxLen) (hl : (xs.length + 1) * bytes ≤ 140737488355328) :
    ∃ A1 c1 w1, (Builtin.append_ #[t, t] ty #[.slice A xs.length c, .slice (some ⟨W.heap.size, 0, none⟩) 1 1]).run P (W.alloc (.cells cs.toArray e)) = .ok (.slice A1 (xs.length + 1) c1) w1 ∧
      NJ d e w1 (fun k => ok k ∨ W.heap.size ≤ k) (fun j k => (j = xs.length ∧ okp k) ∨ (j < xs.length ∧ okj j k)) A1 c1 (xs ++ [p]) ∧ Kp ok W w1 := by
  have hcl : cs.length = d.sz := d.K_len (FK_now hp)
  have hone := d.K_one (FK_now hp)
  have hnews : ∀ j u, cs[j]? = some u → (W.alloc (.cells cs.toArray e)).cell? ((⟨W.heap.size, 0, none⟩ : Addr).add j) = some u := by
    intro j u hu
    rw [add_plain, cell_of_heap (heap_alloc_at _ _)]
    simpa using hu
  have hbW : Below W.heap.size W (W.alloc (.cells cs.toArray e)) := below_alloc (Below.refl _ _) _
  obtain ⟨c', hc0, hc, hA, rows, hrl, hR, hf⟩ := hN
  have hR' := R_alloc hR (.cells cs.toArray e)
  obtain ⟨_, inner, ho, hr⟩ := hR'
  rw [hrl] at ho
  have hin : inner.length = xs.length * d.sz := by have := hr.1; rw [hrl] at this; exact this
  by_cases hroom : xs.length < c
  · -- there is room
    rcases ho.2 with ⟨hv, h0⟩ | ⟨g, cap, cur, hv, _, hh, hnc, hcm, hcs, htake⟩
    · injection hv with _ _ hcc
      omega
    · injection hv with hA' _ hcc
      subst hA'
      subst hcc
      have hlt : xs.length * d.sz + d.sz ≤ cur.size := by
        rw [hcs, ← Nat.succ_mul]
        exact Nat.mul_le_mul_right _ (by omega)
      have hglt : g < W.heap.size := R_lt hR g rfl
      have hcell : ∀ j, j < cs.length → ((W.alloc (.cells cs.toArray e)).cell? ⟨g, 0 + xs.length * i.size + j, none⟩).isSome = true := by
        intro j hj
        rw [cell_of_heap hh, hsize]
        rw [Array.getElem?_eq_getElem (by omega)]
        rfl
      have hfree : ∀ j, j < cs.length → (W.alloc (.cells cs.toArray e)).frozen? ⟨g, 0 + xs.length * i.size + j, none⟩ = false := fun j _ => free_of_heap hh _
      have r1 := run_append_room_cells (P := P) (W.alloc (.cells cs.toArray e)) t ty e i ht hi g 0 xs.length c ⟨W.heap.size, 0, none⟩ 1 1 cs (by rw [hcl, hsize, Nat.one_mul]) hnews hone (by omega) hcell hfree
      have r2 := run_append_room_cells (P := P) (W.alloc (.cells cs.toArray e)) t ty e i ht hi g 0 xs.length c' ⟨W.heap.size, 0, none⟩ 1 1 cs (by rw [hcl, hsize, Nat.one_mul]) hnews hone (by omega) hcell hfree
      obtain ⟨v1, w1, r3, hown1, hg1, _, _⟩ := run_append_own_at (P := P) (W.alloc (.cells cs.toArray e)) 0 t ty e i z d.sz bytes ht hi hz hsize hby hzs hsz (.slice (some ⟨g, 0, none⟩) xs.length c') xs.length inner ho ⟨W.heap.size, 0, none⟩ 1 1 cs (by rw [hcl, Nat.one_mul]) hnews hone h63 hl (Nat.zero_le _)
      rw [r2] at r3
      injection r3 with hv1 hw1
      subst hv1
      have hR1 : (raw d.sz).R e w1 0 (fun _ => True) (.slice (some ⟨g, 0, none⟩) (xs.length + 1) c') (rows ++ [cs]) := by
        have := R_appended (d := raw d.sz) (e := e) (base := 0) (ok := fun _ => True) (okp := fun _ => False) (W := W.alloc (.cells cs.toArray e)) (w1 := w1) (v := .slice (some ⟨g, 0, none⟩) xs.length c') (v1 := .slice (some ⟨g, 0, none⟩) (xs.length + 1) c') (xs := rows) (p := cs) (inner := inner) (cs := cs) (fun _ _ => trivial) hr ⟨rfl, hcl, hone⟩ (fun _ hk => hk.elim) (fun _ _ => trivial) (by rw [hrl]; exact hown1) hg1 (.inl rfl)
        exact this
      have hk1 : Kp ok W w1 := (Kp.of_below hbW ok).grown hg1 (fun k hk => .inl (by have h7 : g = k := (by injection hk); exact h7 ▸ hA _ rfl))
      have hold : ∀ k, k < W.heap.size → k ≠ g → w1.heap[k]? = W.heap[k]? := fun k hk hne => (hg1.block k (by simp; omega) (fun he => hne (by injection he))).trans (hbW.block k hk)
      refine ⟨some ⟨g, 0, none⟩, c, w1, by rw [r1, ← hw1], ?_, hk1⟩
      have hn1 : (xs ++ [p]).length = xs.length + 1 := by simp
      have hn2 : (rows ++ [cs]).length = xs.length + 1 := by simp [hrl]
      refine ⟨c', by omega, hc, fun a ha => .inl (hA a ha), rows ++ [cs], by omega, by rw [hn1]; exact hR1, fun j x cc hx hcc => ?_⟩
      have hjl : j < xs.length + 1 := by have := (List.getElem?_eq_some_iff.1 hx).1; omega
      by_cases hj : j = xs.length
      · subst hj
        rw [List.getElem?_append_right (Nat.le_refl _), Nat.sub_self] at hx
        rw [List.getElem?_append_right (by omega), hrl, Nat.sub_self] at hcc
        simp only [List.getElem?_cons_zero, Option.some.injEq] at hx hcc
        rw [← hx, ← hcc]
        exact FK_mono (FK_step hp (fun k hk hlt => hold k hlt (hokp k hk _ rfl))) (fun k hk => ⟨.inl ⟨rfl, hk⟩, hokp k hk⟩)
      · rw [List.getElem?_append_left (by omega)] at hx hcc
        exact FK_mono (FK_step (hf j x cc hx hcc) (fun k hk hlt => hold k hlt (hk.2 _ rfl))) (fun k hk => ⟨.inr ⟨by omega, hk.1⟩, hk.2⟩)
  · -- there is none
    obtain rfl : c = xs.length := by omega
    have fin : ∀ (v1 : Value) (w1 : World), (Builtin.append_ #[t, t] ty #[.slice A xs.length xs.length, .slice (some ⟨W.heap.size, 0, none⟩) 1 1]).run P (W.alloc (.cells cs.toArray e)) = .ok v1 w1 → (W.alloc (.cells cs.toArray e)).grownBy w1 none → (raw d.sz).R e w1 0 (fun _ => True) v1 (rows ++ [cs]) → (∀ k, v1.ownBlock = some k → W.heap.size ≤ k) →
        ∃ A1 c1 w1, (Builtin.append_ #[t, t] ty #[.slice A xs.length xs.length, .slice (some ⟨W.heap.size, 0, none⟩) 1 1]).run P (W.alloc (.cells cs.toArray e)) = .ok (.slice A1 (xs.length + 1) c1) w1 ∧
          NJ d e w1 (fun k => ok k ∨ W.heap.size ≤ k) (fun j k => (j = xs.length ∧ okp k) ∨ (j < xs.length ∧ okj j k)) A1 c1 (xs ++ [p]) ∧ Kp ok W w1 := by
      intro v1 w1 hrun hg1 hR1 hfr
      have hold : ∀ k, k < W.heap.size → w1.heap[k]? = W.heap[k]? := fun k hk => (hg1.block k (by simp; omega) (by simp)).trans (hbW.block k hk)
      obtain ⟨A1, c1, rfl, h5⟩ := NJ_fresh (n := xs.length) (okq := fun j k => okj j k) rfl hrl hR1 hfr (fun j x cc hx hcc => FK_mono (hf j x cc hx hcc) (fun k hk => hk.1)) hp hold
      exact ⟨A1, c1, w1, hrun, NJ_mono h5 (fun k hk => .inr hk) (fun j k _ hk => hk), (Kp.of_below hbW ok).grown hg1 (fun k hk => by cases hk)⟩
    rcases ho.2 with ⟨hv, h0⟩ | ⟨g, cap, cur, hv, _, hh, hnc, hcm, hcs, htake⟩
    · injection hv with hA' _ hcc
      subst hA'
      obtain ⟨v1, w1, r3, hown1, hg1, _, hat⟩ := run_append_own_at (P := P) (W.alloc (.cells cs.toArray e)) 0 t ty e i z d.sz bytes ht hi hz hsize hby hzs hsz (.slice none xs.length xs.length) xs.length inner ⟨ho.1, .inl ⟨by rw [h0], h0⟩⟩ ⟨W.heap.size, 0, none⟩ 1 1 cs (by rw [hcl, Nat.one_mul]) hnews hone h63 hl (Nat.zero_le _)
      have hat' : v1.ownBlock = (Value.slice none xs.length xs.length).ownBlock ∨ ∃ b, v1.ownBlock = some b ∧ (W.alloc (.cells cs.toArray e)).heap.size ≤ b := hat.elim .inl (fun h => .inr ⟨_, h, Nat.le_refl _⟩)
      refine fin v1 w1 r3 hg1 ?_ (fun k hk => ?_)
      · exact R_appended (d := raw d.sz) (e := e) (base := 0) (ok := fun _ => True) (okp := fun _ => False) (W := W.alloc (.cells cs.toArray e)) (v := .slice none xs.length xs.length) (xs := rows) (p := cs) (inner := inner) (cs := cs) (fun _ _ => trivial) (hr.imp_ (fun x cc hx => hx)) ⟨rfl, hcl, hone⟩ (fun _ hk => hk.elim) (fun _ _ => trivial) (by rw [hrl]; exact hown1) hg1 hat'
      · rcases hat with hat | hat
        · rw [hat] at hk; cases hk
        · rw [hat] at hk
          injection hk with hk
          simp at hk
          omega
    · injection hv with hA' _ hcc
      subst hA'
      have hinn : ∀ j u, inner[j]? = some u → (W.alloc (.cells cs.toArray e)).cell? ((⟨g, 0, none⟩ : Addr).add j) = some u := by
        intro j u hu
        rw [add_plain, cell_of_heap hh]
        rw [← htake, List.getElem?_take] at hu
        split at hu
        · simpa using hu
        · cases hu
      obtain ⟨v1, w1, r3, hown1, hg1⟩ := run_append_arg_grows (P := P) (w := W.alloc (.cells cs.toArray e)) t ty e i z d.sz bytes ht hi hz hsize hby hzs hsz ⟨g, 0, none⟩ xs.length xs.length inner hin hinn ⟨W.heap.size, 0, none⟩ 1 1 cs (by rw [hcl, Nat.one_mul]) hnews (by omega) h63 hl
      refine fin v1 w1 r3 hg1 ?_ (fun k hk => ?_)
      · refine ⟨fun _ _ => trivial, inner ++ cs, by rw [List.length_append, hrl]; exact own_less hown1 (Nat.zero_le _), ?_⟩
        have hrr : Reps ((raw d.sz).M w1 0 (fun k => True ∧ some k ≠ v1.ownBlock)) d.sz rows inner := hr.imp_ (fun x cc hx => hx)
        exact hrr.snoc (show (raw d.sz).M w1 0 (fun k => True ∧ some k ≠ v1.ownBlock) cs cs from ⟨rfl, hcl, hone⟩) hcl
      · have := own_base hown1 k hk
        simp at this
        omega
end
section
variable {P : Program} {ops : Array Oper} {rest : List Oper} {o : Oper} {a : Act} {Q : Exit → Act → World → Prop} {α : Type}
/-- append(v, x), behind 'at_builtin': v's row is one's own, its capacity told perhaps too small. -/
theorem NJ_append (d : Kd α) {W : World} (hgd : o.guard = none) (s x : Operand) (t e : TypeId) (z : Value) (bytes : Nat)
    (ho : o.op = .call { callee := .builtin .append, args := #[s, x], argTypes := #[t, t] })
    (ht : P.underlying t = some (.slice e)) (hinfo : (P.info? e).map (fun i => (i.zero, i.size, i.bytes)) = some (some z, d.sz, bytes)) (hz : z.cells.size = d.sz) (hs0 : 0 < d.sz)
    {ok okp : Nat → Prop} {okj : Nat → Nat → Prop} {A : Option Addr} {c : Nat} (xs : List α) (p : α) (cs : List Value) (hs : a.eval s = .slice A xs.length c) (hx : a.eval x = .slice (some ⟨W.heap.size, 0, none⟩) 1 1)
    (HO : NJ d e W ok okj A c xs) (hp : FK d W okp p cs) (hokp : ∀ k, okp k → ∀ a, A = some a → k ≠ a.block) (h63 : xs.length + 1 ≤ maxLen) (hl : (xs.length + 1) * bytes ≤ 140737488355328)
    (h : ∀ A1 c1 w1, NJ d e w1 (fun k => ok k ∨ W.heap.size ≤ k) (fun j k => (j = xs.length ∧ okp k) ∨ (j < xs.length ∧ okj j k)) A1 c1 (xs ++ [p]) → Kp ok W w1 → wpList P ops Q rest (a.put o.dst (.slice A1 (xs.length + 1) c1)) w1) :
    wpList P ops Q (o :: rest) a (W.alloc (.cells cs.toArray e)) := by
  obtain ⟨i0, hi, hzz⟩ := Option.map_eq_some_iff.1 hinfo
  simp only [Prod.mk.injEq] at hzz
  obtain ⟨hz0, hz1, hz2⟩ := hzz
  obtain ⟨A1, c1, w1, hr1, h1, h2⟩ := NJ_append_run (P := P) HO t o.type i0 z bytes ht hi hz0 hz1 hz2 hz hs0 hp hokp h63 hl
  refine wpList_plain hgd fun K hK => ?_
  unfold Oper.wp execOp
  simp only [ho, resolve, invoke, builtin, Sem.run_bind, Sem.run_pure, Result.andThen_ok, List.map_toArray, List.map_cons, List.map_nil, hs, hx, hr1]
  exact hK _ _ (h A1 c1 w1 h1 h2)
end
end Kd
end Go.Proofs.YtagifiakjniedaaW.PrintWords
