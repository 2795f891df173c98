/-
  Rows of elements that are plain cells in line: read, copied whole, one cell stored. No program in sight but for the builtin copy. No condition of its own.
-/
import Derived.Test.YtgphdeelangkfaaWWords
import Derived.Laws.CopyOwn
import Derived.OwnWalk
namespace Go.Proofs.Ytgphdeelangkfaa.Flat
open Go.RowKit Go.Proofs.YtgphdeelangkfaaW.PrintWords
section
variable {α : Type} {enc : α → List Value} {s : Nat}
theorem fl_length (hs : ∀ x, (enc x).length = s) (ys : List α) : (ys.flatMap enc).length = ys.length * s := by
  induction ys with
  | nil => simp
  | cons y ys ih => simp [List.flatMap_cons, hs, ih, Nat.add_mul, Nat.add_comm]
theorem fl_get (hs : ∀ x, (enc x).length = s) (ys : List α) (q r : Nat) (hr : r < s) : (ys.flatMap enc)[q * s + r]? = (ys[q]?).bind (fun y => (enc y)[r]?) := by
  induction ys generalizing q with
  | nil => simp
  | cons y ys ih =>
    rw [List.flatMap_cons]
    cases q with
    | zero =>
      rw [List.getElem?_append_left (by rw [hs]; omega)]
      simp
    | succ q =>
      rw [List.getElem?_append_right (by rw [hs, Nat.succ_mul]; omega), hs, show (q + 1) * s + r - s = q * s + r from by rw [Nat.succ_mul]; omega, ih]
      simp
theorem fl_take (hs : ∀ x, (enc x).length = s) (ys : List α) (q : Nat) (y : α) (hq : ys[q]? = some y) : ((ys.flatMap enc).drop (q * s)).take s = enc y := by
  induction ys generalizing q with
  | nil => simp at hq
  | cons z ys ih =>
    rw [List.flatMap_cons]
    cases q with
    | zero =>
      simp at hq
      subst hq
      simp only [Nat.zero_mul, List.drop_zero]
      rw [List.take_append_of_le_length (by rw [hs]; exact Nat.le_refl _), List.take_of_length_le (by rw [hs]; exact Nat.le_refl _)]
    | succ q =>
      rw [show (q + 1) * s = (enc z).length + q * s from by rw [hs, Nat.succ_mul]; omega, ← List.drop_drop, List.drop_left]
      exact ih q (by simpa using hq)
theorem fl_set (hs : ∀ x, (enc x).length = s) (ys : List α) (q r : Nat) (y y' : α) (u : Value) (hr : r < s) (hq : ys[q]? = some y) (he : enc y' = (enc y).set r u) : (ys.flatMap enc).set (q * s + r) u = (ys.set q y').flatMap enc := by
  induction ys generalizing q with
  | nil => simp at hq
  | cons z ys ih =>
    rw [List.flatMap_cons]
    cases q with
    | zero =>
      simp at hq
      subst hq
      rw [List.set_append_left _ _ (by rw [hs]; omega)]
      simp [he]
    | succ q =>
      rw [List.set_append_right _ _ (by rw [hs, Nat.succ_mul]; omega), hs, show (q + 1) * s + r - s = q * s + r from by rw [Nat.succ_mul]; omega, ih q (by simpa using hq)]
      simp
/-- A row that is read: its cells in line. -/
theorem C_flat {d : Kd α} (hd : d.sz = s) (hs : ∀ x, (enc x).length = s) (hK : ∀ w x cs, d.K w x cs → cs = enc x) {w : World} {ad : Addr} {n : Nat} {ys : List α} (h : d.C w (some ad) n ys) : ∀ j v, (ys.flatMap enc)[j]? = some v → w.cell? (ad.add j) = some v := by
  intro j v hj
  have hlt : j < (ys.flatMap enc).length := (List.getElem?_eq_some_iff.1 hj).1
  rw [fl_length hs] at hlt
  have hs0 : 0 < s := by
    rcases Nat.eq_zero_or_pos s with h0 | h0
    · subst h0; simp at hlt
    · exact h0
  have hq : j / s < ys.length := Nat.div_lt_of_lt_mul (by rw [Nat.mul_comm]; exact hlt)
  have hpos : 0 < ys.length := Nat.lt_of_le_of_lt (Nat.zero_le _) hq
  obtain ⟨ad', e, hc⟩ := h.2.2 (h.1 ▸ hpos)
  cases e
  obtain ⟨c, hcl, hck, hcc⟩ := hc (j / s) _ (List.getElem?_eq_getElem hq)
  have e1 : c = enc ys[j / s] := hK _ _ _ hck
  subst e1
  have hm := Nat.div_add_mod j s
  have h2 := hcc (j % s) v (by
    rw [← hj]
    conv => rhs; rw [← hm, Nat.mul_comm]
    rw [fl_get hs ys _ _ (Nat.mod_lt _ hs0), List.getElem?_eq_getElem hq]
    rfl)
  rw [hd, Nat.mul_comm, hm] at h2
  exact h2
/-- A row of the call's own whose block holds its cells. -/
theorem R_flat_of {d : Kd α} {e : Nat} (hd : d.sz = s) (hs : ∀ x, (enc x).length = s) (hM : ∀ (w : World) (b : Nat) (ok : Nat → Prop) (x : α), d.M w b ok x (enc x)) {w : World} {base g cap : Nat} {ys : List α} {more : List Value} {ok : Nat → Prop} (hg : w.heap[g]? = some (.cells ((ys.flatMap enc) ++ more).toArray e (0, 0))) (hb : base ≤ g) (hcap : ys.length ≤ cap) (hm : cap ≤ maxLen) (hl : ((ys.flatMap enc) ++ more).length = cap * s) (hok : ok g) :
    d.R e w base ok (.slice (some ⟨g, 0, none⟩) ys.length cap) ys := by
  refine ⟨fun k hk => ?_, ys.flatMap enc, ⟨?_, .inr ⟨g, cap, _, rfl, hb, hg, hcap, hm, ?_, ?_⟩⟩, ?_, ?_⟩
  · have : g = k := by simpa [Value.ownBlock] using hk
    subst this; exact hok
  · rw [fl_length hs, hd]
  · rw [hd]; simpa using hl
  · rw [hd, ← fl_length hs, List.take_left]
  · rw [fl_length hs, hd]
  · intro j p hj
    rw [hd, fl_take hs ys j p hj]
    exact hM _ _ _ _
end
/-- copy, at elements of any size: dst a row's head, as long as src at most. -/
theorem run_copy_cells {P : Program} (w : World) (dT sT ty elem : TypeId) (g o dLen dCap : Nat) (a : Addr) (sLen sCap : Nat) (cur : Array Value) (t : TypeId) (cs : List Value) (size : Nat)
    (hu : P.underlying dT = some (.slice elem)) (hs : (P.info? elem).map (·.size) = some size)
    (hg : w.heap[g]? = some (.cells cur t (0, 0))) (hn : cs.length = Nat.min sLen dLen * size)
    (hsrc : ∀ j v, cs[j]? = some v → w.cell? (a.add j) = some v) (hfit : o + cs.length ≤ cur.size) (h1 : ∀ v ∈ cs, v.oneCell' = true) :
    (Builtin.copy_ #[dT, sT] ty #[.slice (some ⟨g, o, none⟩) dLen dCap, .slice (some a) sLen sCap]).run P w =
      .ok (goInt (Nat.min sLen dLen)) (w.setRow g (cur.toList.take o ++ cs ++ cur.toList.drop (o + cs.length)).toArray) := by
  have hl := run_loadCells_list (P := P) w a cs hsrc
  have hst := run_storeCells_at P g o t cs 0 cur w hg (by simpa using hfit) h1
  rw [Nat.add_zero] at hst
  cases hq : P.info? elem with
  | none => simp [hq] at hs
  | some i =>
    have hi : i.size = size := by simpa [hq] using hs
    simp [Builtin.copy_, run_underlying hu, Builtin.lenOf, Builtin.firstCells, sizeOf, typeInfo, hq, hi, ← hn, hl, hst]
theorem wpList_copy_cells {P : Program} {w : World} {ops : Array Oper} {rest : List Oper} {o : Oper} {a : Act} {Q : Exit → Act → World → Prop} (hgd : o.guard = none) (d s : Operand) (dT sT : TypeId)
    (ho : o.op = .call { callee := .builtin .copy, args := #[d, s], argTypes := #[dT, sT] }) (elem : TypeId) (hu : P.underlying dT = some (.slice elem)) (size : Nat) (hsz : (P.info? elem).map (·.size) = some size)
    (g off dLen dCap : Nat) (ad : Addr) (sLen sCap : Nat) (hd : a.eval d = .slice (some ⟨g, off, none⟩) dLen dCap) (hs : a.eval s = .slice (some ad) sLen sCap)
    (cur : Array Value) (t : TypeId) (hg : w.heap[g]? = some (.cells cur t (0, 0))) (cs : List Value) (hn : cs.length = Nat.min sLen dLen * size)
    (hsrc : ∀ j v, cs[j]? = some v → w.cell? (ad.add j) = some v) (hfit : off + cs.length ≤ cur.size) (h1 : ∀ v ∈ cs, v.oneCell' = true)
    (h : wpList P ops Q rest (a.put o.dst (goInt (Nat.min sLen dLen))) (w.setRow g (cur.toList.take off ++ cs ++ cur.toList.drop (off + cs.length)).toArray)) : wpList P ops Q (o :: rest) a w := by
  refine wpList_plain hgd fun K hK => ?_
  have hrun := run_copy_cells (P := P) w dT sT o.type elem g off dLen dCap ad sLen sCap cur t cs size hu hsz hg hn hsrc hfit h1
  unfold Oper.wp
  simp only [execOp, ho, resolve, invoke, builtin]
  simp [hd, hs, hrun, Result.andThen]
  rw [List.append_assoc] at h
  exact hK _ _ h
/-- The whole of a row of n elements copied over a row of n elements that the call made. -/
theorem wpList_copy_flat {α : Type} {enc : α → List Value} {s : Nat} {P : Program} {w w0 : World} {ops : Array Oper} {rest : List Oper} {o : Oper} {a : Act} {Q : Exit → Act → World → Prop} (base : Nat) (hgd : o.guard = none) (d sr : Operand) (dT sT : TypeId)
    (ho : o.op = .call { callee := .builtin .copy, args := #[d, sr], argTypes := #[dT, sT] }) (e : TypeId) (hu : P.underlying dT = some (.slice e)) (hsz : (P.info? e).map (·.size) = some s)
    {k : Kd α} (hd : k.sz = s) (hs : ∀ x, (enc x).length = s) (hK : ∀ w x cs, k.K w x cs → cs = enc x) (h1 : ∀ x, ∀ v ∈ enc x, v.oneCell' = true)
    (g n dCap : Nat) (ad : Addr) (sCap : Nat) (hde : a.eval d = .slice (some ⟨g, 0, none⟩) n dCap) (hse : a.eval sr = .slice (some ad) n sCap)
    (cur : Array Value) (ys : List α) (hn : ys.length = n) (hg : w.heap[g]? = some (.cells cur e (0, 0))) (hcs : cur.size = n * s) (hsrc : k.C w (some ad) n ys) (HB : Below base w0 w) (hbase : base ≤ g)
    (h : ∀ wc, wc.heap[g]? = some (.cells (ys.flatMap enc).toArray e (0, 0)) → Below base w0 wc → wpList P ops Q rest (a.put o.dst (goInt n)) wc) : wpList P ops Q (o :: rest) a w := by
  subst hn
  have hl := fl_length hs ys
  refine wpList_copy_cells hgd d sr dT sT ho e hu s hsz g 0 ys.length dCap ad ys.length sCap hde hse cur e hg (ys.flatMap enc) (by rw [hl]; simp) (C_flat hd hs hK hsrc) (by rw [hl, hcs]; omega) (fun v hv => ?_) ?_
  · obtain ⟨y, _, hy⟩ := List.mem_flatMap.1 hv
    exact h1 y v hy
  · have e1 : (cur.toList.take 0 ++ ys.flatMap enc ++ cur.toList.drop (0 + (ys.flatMap enc).length)) = ys.flatMap enc := by
      rw [hl]
      simp [hcs]
    rw [e1]
    have h2 := h _ (setRow_heap w g cur (ys.flatMap enc).toArray e (0, 0) hg) (below_setRow HB hbase _)
    simpa [Nat.min_self] using h2
theorem own_block {w : World} {base e size g n c m : Nat} {xs : List Value} (h : w.ownsRow base e size (.slice (some ⟨g, 0, none⟩) n c) m xs) : ∃ cur : Array Value, w.heap[g]? = some (.cells cur e (0, 0)) ∧ cur.size = c * size := by
  obtain ⟨_, h⟩ := h
  rcases h with ⟨h, _⟩ | ⟨g', cap, cur, hv, _, hh, _, _, hs, _⟩
  · cases h
  · cases hv
    exact ⟨cur, hh, hs⟩
end Go.Proofs.Ytgphdeelangkfaa.Flat
