/-
  An argument that reads as data, opened into what its cells say, kind by kind; with the bounds that the row's reach gives, and the reading's bulk. No condition of its own.
-/
import Derived.Test.YtagifiakjniedaaRows
import Derived.Test.YtagifiakjniedaaWWords
import Derived.ChangeArms
import Derived.Deep.Slices
import Derived.DataReads
import Derived.SizedLaws
import Derived.Lib.SmallJoins
import Derived.Carry
namespace Go.Proofs.Ytagifiakjniedaa.Op
open Go.RowKit Go.Proofs.YtagifiakjniedaaW.PrintWords Go.WideShapes Go.ChangeShapes
section
variable {P : Program}
/-- Type t's cells, read as data, are of kind k; B: bounds; μ: how much of the reading's bulk. -/
structure Opens {α : Type} (P : Program) (t : TypeId) (k : Kd α) (B : α → Prop) (μ : α → Nat) : Prop where
  open_ : ∀ {H : Type} {enc : TypeId × Value → H} {w : World} {fuel : Nat} {cs : List Value} {d : DataW H} {ps : List MemPlace},
    DataW.trod enc P w 0 (fun _ => true) true fuel t cs = some (d, ps) → (∀ n ∈ d.weights P t, n ≤ reachBytes) → ∃ x, k.K w x cs ∧ B x ∧ μ x ≤ Rows.uptoBulk d
theorem Opens.int {t : TypeId} {k : IntKind} (ht : P.underlying t = some (.int k)) : Opens P t (Kd.int k) (fun x => (Lit.int k x).wf = true) (fun _ => 1) := ⟨fun h _ => by
  obtain ⟨n, rfl, hx, hw⟩ := DataW.trod_int ht h
  simp only [Prod.mk.injEq] at hx
  obtain ⟨rfl, rfl⟩ := hx
  exact ⟨n, rfl, hw, by simp [Rows.uptoBulk]⟩⟩
theorem Opens.bool {t : TypeId} (ht : P.underlying t = some .bool) : Opens P t Kd.bool (fun _ => True) (fun _ => 1) := ⟨fun h _ => by
  obtain ⟨n, rfl, hx⟩ := DataW.trod_bool ht h
  simp only [Prod.mk.injEq] at hx
  obtain ⟨rfl, rfl⟩ := hx
  exact ⟨n, rfl, trivial, by simp [Rows.uptoBulk]⟩⟩
theorem Opens.string {t : TypeId} (ht : P.underlying t = some .string) : Opens P t Kd.string (fun x => x.size ≤ 140737488351232) (fun x => x.size + 1) := ⟨fun {_ _ _ _ _ _ _} h hw => by
  obtain ⟨s, rfl, hx, hm⟩ := DataW.trod_string ht h
  simp only [Prod.mk.injEq] at hx
  obtain ⟨rfl, rfl⟩ := hx
  have h1 := hw s.data.toList.length (by simp [DataW.weights])
  refine ⟨s, rfl, ?_, ?_⟩
  · simpa [reachBytes] using h1
  · simp [Rows.uptoBulk]⟩
/-- A float: its bits. -/
def flt : Kd Nat := Kd.scalar (fun b => Value.float .f64 b) (fun _ => rfl)
theorem Opens.float {t : TypeId} (ht : P.underlying t = some (.float .f64)) : Opens P t flt (fun b => b < 2 ^ 64) (fun _ => 1) := ⟨fun {_ _ _ fuel cs _ _} h _ => by
  cases fuel with
  | zero => simp [DataW.trod] at h
  | succ n =>
    unfold DataW.trod at h
    rw [ht] at h
    split at h <;> simp only [Option.some.injEq, reduceCtorEq, TypeDesc.float.injEq] at *
    all_goals try contradiction
    rename_i k k' b hk
    subst hk
    split at h
    · rename_i hc
      simp only [Option.some.injEq, Prod.mk.injEq] at h
      obtain ⟨rfl, rfl⟩ := h
      obtain ⟨rfl, hw⟩ := hc
      exact ⟨b, rfl, by simpa [Lit.wf] using hw, by simp [Rows.uptoBulk]⟩
    · cases h⟩
theorem list_of {α : Type} {n : Nat} {p : Nat → α → Prop} (h : ∀ i, i < n → ∃ x, p i x) : ∃ xs : List α, xs.length = n ∧ ∀ i x, xs[i]? = some x → p i x := by
  induction n with
  | zero => exact ⟨[], rfl, fun i x hx => by simp at hx⟩
  | succ n ih =>
    obtain ⟨xs, hl, hp⟩ := ih (fun i hi => h i (Nat.lt_succ_of_lt hi))
    obtain ⟨x, hx⟩ := h n (Nat.lt_succ_self n)
    refine ⟨xs ++ [x], by simp [hl], fun i y hy => ?_⟩
    by_cases hi : i < xs.length
    · rw [List.getElem?_append_left hi] at hy; exact hp i y hy
    · rw [List.getElem?_append_right (by omega)] at hy
      have : i - xs.length = 0 := by
        by_cases h0 : i - xs.length = 0
        · exact h0
        · rw [List.getElem?_eq_none (by simp; omega)] at hy; cases hy
      rw [this] at hy
      have e : i = n := by omega
      subst e
      simp at hy
      subst hy
      exact hx
theorem weightsAll_mem {H : Type} {e : TypeId} : ∀ {ds : List (DataW H)} {i : Nat} {d : DataW H}, ds[i]? = some d → ∀ n ∈ d.weights P e, n ∈ DataW.weightsAll P e ds
  | [], _, _, h, _, _ => by simp at h
  | d :: ds, 0, _, h, n, hn => by
    simp at h; subst h
    simp only [DataW.weightsAll]
    exact List.mem_append_left _ hn
  | d :: ds, i + 1, _, h, n, hn => by
    simp only [DataW.weightsAll]
    exact List.mem_append_right _ (weightsAll_mem (ds := ds) (i := i) (by simpa using h) n hn)
theorem bulk_all {H α : Type} {μ : α → Nat} : ∀ {xs : List α} {ds : List (DataW H)}, xs.length = ds.length → (∀ (i : Nat) (x : α) (d : DataW H), xs[i]? = some x → ds[i]? = some d → μ x ≤ Rows.uptoBulk d) → (xs.map μ).sum ≤ Rows.uptoBulkAll ds
  | [], [], _, _ => by simp
  | [], _ :: _, h, _ => by simp at h
  | _ :: _, [], h, _ => by simp at h
  | x :: xs, d :: ds, hl, h => by
    have h0 := h 0 x d rfl rfl
    have h1 := bulk_all (μ := μ) (xs := xs) (ds := ds) (by simpa using hl) (fun i x d hx hd => h (i + 1) x d (by simpa using hx) (by simpa using hd))
    simp only [List.map_cons, List.sum_cons, Rows.uptoBulkAll]
    omega
theorem Opens.slice {α : Type} {t e : TypeId} {k : Kd α} {B : α → Prop} {μ : α → Nat} (ht : P.underlying t = some (.slice e)) (he : Opens P e k B μ) (hs : P.cellsOf e = k.sz) :
    Opens P t (Kd.slice e k) (fun xs => xs.length * P.bytesOf e ≤ 140737488351232 ∧ ∀ x ∈ xs, B x) (fun xs => (xs.map μ).sum + 1) := ⟨fun {H enc w fuel cs d ps} h hw => by
  rcases DataW.trod_slice ht h with ⟨rfl, hx⟩ | ⟨a, len, cap, elems, rest, n, _, rfl, hx, _, hl, hm, hel, hcell, hsp, _⟩
  · simp only [Prod.mk.injEq] at hx
    obtain ⟨rfl, rfl⟩ := hx
    exact ⟨[], ⟨none, 0, rfl, Nat.le_refl _, rfl, by simp, fun h => by simp at h⟩, ⟨by simp, fun x hx => by simp at hx⟩, by simp [Rows.uptoBulk]⟩
  · simp only [Prod.mk.injEq] at hx
    obtain ⟨rfl, rfl⟩ := hx
    have hwt : DataW.weights P t (.slice (elems.map (·.1)) (rest.map (·.1))) = ((elems.map (·.1)).length + (rest.map (·.1)).length) * P.bytesOf e :: (DataW.weightsAll P e (elems.map (·.1)) ++ DataW.weightsAll P e (rest.map (·.1))) := by
      rw [DataW.weights, ht]
    rw [hwt] at hw
    have each : ∀ i, i < len → ∃ x, (∃ c : List Value, c.length = k.sz ∧ k.K w x c ∧ ∀ j u, c[j]? = some u → w.cell? (a.add (i * k.sz + j)) = some u) ∧ B x ∧ ∃ y, elems[i]? = some y ∧ μ x ≤ Rows.uptoBulk y.1 := by
      intro i hi
      have hi' : i < elems.length := by omega
      have h1 := hcell i hi
      rw [List.getElem?_eq_getElem hi'] at h1
      obtain ⟨c, hc, ht2⟩ := Option.bind_eq_some_iff.1 h1
      obtain ⟨_, hcl, hcc⟩ := World.cells?_some hc
      obtain ⟨x, hk, hb, hmu⟩ := he.open_ (d := elems[i].1) (ps := elems[i].2) ht2 (fun m hm' => hw m (List.mem_cons_of_mem _ (List.mem_append_left _ (weightsAll_mem (i := i) (by rw [List.getElem?_map, List.getElem?_eq_getElem hi']; rfl) m hm'))))
      refine ⟨x, ⟨c, k.K_len hk, hk, fun j u hu => ?_⟩, hb, _, List.getElem?_eq_getElem hi', hmu⟩
      have hj : j < c.length := (List.getElem?_eq_some_iff.1 hu).1
      have h2 := hcc j (by omega)
      rw [← hs, ← Go.Deep.add_add, h2]
      exact hu
    obtain ⟨xs, hxl, hxs⟩ := list_of each
    subst hxl
    refine ⟨xs, ⟨some a, cap, rfl, hl, rfl, ?_, fun _ => ⟨a, rfl, fun j p hp => (hxs j p hp).1⟩⟩, ⟨?_, fun x hx => ?_⟩, ?_⟩
    · unfold maxLen at hm; omega
    · have h1 := hw _ List.mem_cons_self
      simp only [List.length_map, reachBytes] at h1
      have h2 : xs.length * P.bytesOf e ≤ (elems.length + rest.length) * P.bytesOf e := Nat.mul_le_mul_right _ (by omega)
      omega
    · obtain ⟨i, hi, rfl⟩ := List.mem_iff_getElem.1 hx
      exact (hxs i _ (List.getElem?_eq_getElem hi)).2.1
    · have h1 := bulk_all (μ := μ) (xs := xs) (ds := elems.map (·.1)) (by simp; omega) (fun i x d hx hd => by
        obtain ⟨y, hy, hmu⟩ := (hxs i x hx).2.2
        rw [List.getElem?_map, hy] at hd
        cases hd
        exact hmu)
      simp only [Rows.uptoBulk]
      omega⟩
/-- The fields from number off on, of a struct of so many cells. -/
structure OpensF {α : Type} (P : Program) (fs : List Field) (off total : Nat) (k : Kd α) (B : α → Prop) (μ : α → Nat) : Prop where
  open_ : ∀ {H : Type} {enc : TypeId × Value → H} {w : World} {n : Nat} {cs : List Value} {xs : List (DataW H × List MemPlace)}, cs.length = total → xs.length = fs.length →
    (∀ (i : Nat) (f : Field), fs[i]? = some f → DataW.trod enc P w 0 (fun _ => true) true n f.type ((cs.drop f.offset).take (P.cellsOf f.type)) = xs[i]?) →
    (∀ m ∈ DataW.weightsEach P (fs.map (·.type)) (xs.map (·.1)), m ≤ reachBytes) → ∃ x, k.K w x (cs.drop off) ∧ B x ∧ μ x ≤ Rows.uptoBulkAll (xs.map (·.1))
theorem OpensF.last {α : Type} {f : Field} {off total : Nat} {k : Kd α} {B : α → Prop} {μ : α → Nat} (h : Opens P f.type k B μ) (ho : f.offset = off) (ht : total = off + P.cellsOf f.type) : OpensF P [f] off total k B μ := ⟨fun {H enc w n cs xs} hl hx hf hw => by
  match xs, hx with
  | [x], _ =>
    have h1 := hf 0 f rfl
    rw [ho, List.take_of_length_le (by simp; omega)] at h1
    simp at h1
    obtain ⟨y, hk, hb, hm⟩ := h.open_ (d := x.1) (ps := x.2) h1 (fun m hm => hw m (by simp [DataW.weightsEach, hm]))
    exact ⟨y, hk, hb, by simp [Rows.uptoBulkAll]; omega⟩⟩
theorem OpensF.cons {α β : Type} {f : Field} {fs : List Field} {off total : Nat} {k : Kd α} {k' : Kd β} {B : α → Prop} {B' : β → Prop} {μ : α → Nat} {μ' : β → Nat} (h : Opens P f.type k B μ) (ho : f.offset = off)
    (hr : OpensF P fs (off + P.cellsOf f.type) total k' B' μ') : OpensF P (f :: fs) off total (Kd.pair k k') (fun x => B x.1 ∧ B' x.2) (fun x => μ x.1 + μ' x.2) := ⟨fun {H enc w n cs xs} hl hx hf hw => by
  match xs, hx with
  | x :: xs, hx =>
    have h1 := hf 0 f rfl
    rw [ho] at h1
    simp only [List.getElem?_cons_zero] at h1
    obtain ⟨y, hk, hb, hm⟩ := h.open_ (d := x.1) (ps := x.2) h1 (fun m hm => hw m (by simp only [List.map_cons, DataW.weightsEach]; exact List.mem_append_left _ hm))
    obtain ⟨z, hk', hb', hm'⟩ := hr.open_ (xs := xs) hl (by simpa using hx) (fun i g hg => hf (i + 1) g (by simpa using hg)) (fun m hm => hw m (by simp only [List.map_cons, DataW.weightsEach]; exact List.mem_append_right _ hm))
    refine ⟨(y, z), ⟨_, _, ?_, hk, hk'⟩, ⟨hb, hb'⟩, by simp only [List.map_cons, Rows.uptoBulkAll]; omega⟩
    rw [← List.drop_drop, List.take_append_drop]⟩
theorem Opens.struct {α β : Type} {t : TypeId} {fs : Array Field} {k : Kd α} {B : α → Prop} {μ : α → Nat} (ht : P.underlying t = some (.struct fs)) {l : List Field} (hl : fs.toList = l) (h : OpensF P l 0 (P.cellsOf t) k B μ) (proj : β → α) (mk : α → β) (hp : ∀ x, proj (mk x) = x) :
    Opens P t (Kd.iso k proj) (fun x => B (proj x)) (fun x => μ (proj x)) := ⟨fun {H enc w fuel cs d ps} hd hw => by
  obtain ⟨xs, n, rfl, hx, hcl, hxl, hf⟩ := DataW.trod_struct ht hd
  simp only [Prod.mk.injEq] at hx
  obtain ⟨rfl, rfl⟩ := hx
  subst hl
  obtain ⟨y, hk, hb, hm⟩ := h.open_ hcl (by simpa using hxl) (fun i f hfi => hf i f (by simpa using hfi)) (fun m hm => hw m (by rw [DataW.weights, ht]; exact hm))
  refine ⟨mk y, ?_, by rw [hp]; exact hb, by rw [hp]; simp only [Rows.uptoBulk]; omega⟩
  show k.K w (proj (mk y)) cs
  rw [hp]
  simpa using hk⟩
end
section
variable {P : Program} {H : Type} {enc : TypeId × Value → H} {W : World}
theorem weights_of {ts : List TypeId} {ds : List (DataW H)} (hsz : (DataW.weightsEach P ts ds).all (· ≤ reachBytes) = true) {j : Nat} {t : TypeId} {d : DataW H} (ht : ts[j]? = some t) (hd : ds[j]? = some d) : ∀ n ∈ d.weights P t, n ≤ reachBytes := fun n hn => by
  have h := DataW.weights_mem_each ht hd n hn
  have h2 := List.all_eq_true.1 hsz n h
  simpa using h2
theorem Opens.at_slice {α : Type} {t e : TypeId} {k : Kd α} {B : List α → Prop} {μ : List α → Nat} (h : Opens P t (Kd.slice e k) B μ) {a : Option Addr} {len cap : Nat} {d : DataW H} {p : List MemPlace} (hd : DataW.Trod enc P W 0 (fun _ => true) true t (.slice a len cap) d p)
    (hw : ∀ n ∈ d.weights P t, n ≤ reachBytes) : ∃ xs : List α, len = xs.length ∧ k.C W a xs.length xs ∧ xs.length ≤ cap ∧ B xs ∧ μ xs ≤ Rows.uptoBulk d := by
  obtain ⟨fuel, hf⟩ := hd
  obtain ⟨xs, ⟨A, c, hcs, hc, hC⟩, hB, hm⟩ := h.open_ hf hw
  simp [Value.cells] at hcs
  obtain ⟨rfl, rfl, rfl⟩ := hcs
  exact ⟨xs, rfl, hC, hc, hB, hm⟩
theorem Opens.at_agg {α : Type} {t : TypeId} {k : Kd α} {B : α → Prop} {μ : α → Nat} (h : Opens P t k B μ) {cs : Array Value} {d : DataW H} {p : List MemPlace} (hd : DataW.Trod enc P W 0 (fun _ => true) true t (.agg cs) d p)
    (hw : ∀ n ∈ d.weights P t, n ≤ reachBytes) : ∃ x : α, k.K W x cs.toList ∧ B x ∧ μ x ≤ Rows.uptoBulk d := by
  obtain ⟨fuel, hf⟩ := hd
  exact h.open_ hf hw
theorem Opens.at_one {α : Type} {t : TypeId} {k : Kd α} {B : α → Prop} {μ : α → Nat} (h : Opens P t k B μ) {v : Value} (hv : v.cells = #[v]) {d : DataW H} {p : List MemPlace} (hd : DataW.Trod enc P W 0 (fun _ => true) true t v d p)
    (hw : ∀ n ∈ d.weights P t, n ≤ reachBytes) : ∃ x : α, k.K W x [v] ∧ B x ∧ μ x ≤ Rows.uptoBulk d := by
  obtain ⟨fuel, hf⟩ := hd
  rw [hv] at hf
  exact h.open_ hf hw
end
end Go.Proofs.Ytagifiakjniedaa.Op
