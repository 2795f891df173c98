/-
  duty.Done: what it tells of a list of duties, how they stand, a name and a tick. In the printed form; the walk by hand (the print takes no builtin copy).
-/
import Derived.Test.YtgphdeelangkfaaPDutyx4
import Derived.Test.YtgphdeelangkfaaFlat
import Derived.Lib.Hide
import Derived.Deep.DeepMust
namespace Go.Proofs.Ytgphdeelangkfaa.PDuty
open Go.RowKit Go.Proofs.YtgphdeelangkfaaW.PrintWords Go.Proofs.YtgphdeelangkfaaW.PrintLast Go.Proofs.Ytgphdeelangkfaa.Flat
set_option linter.unusedVariables false
set_option linter.unusedSimpArgs false
def e32 (x : S32) : List Value := [.int .i64 x.f0, .bool x.f1]
theorem e32_len (x : S32) : (e32 x).length = 2 := rfl
/-- What Done tells, behind find and Stand. -/
def doneTail (i : Int) (st : Bool) (l : List S51) (p : List S32) (now : Int) : Option (List S32 × Int) :=
  if st = false then some ([], 1)
  else if i < 0 then some ([], 150)
  else if i < (p.length : Int) then (if i < (l.length : Int) then
    (if p.length * 16 ≤ 140737488355328 then
      (if (rd_T32 p i).f1 = true then some ([], 151)
       else if (rd_T51 l i).f2 = false then some (p.set i.toNat ⟨(rd_T32 p i).f0, true⟩, 0)
       else (num_Add.f now (rd_T51 l i).f1).bind fun r => if r.2 = false then some ([], 152) else some (p.set i.toNat ⟨r.1, (rd_T32 p i).f1⟩, 0))
     else none) else none) else none
def duty_Done.f (k : Nat) (l : List S51) (p : List S32) (nm : ByteArray) (now : Int) : Option (List S32 × Int) :=
  (duty_find.f k l nm).bind fun i => (duty_Stand.f k l p).bind fun st => doneTail i st l p now
theorem duty_Done.mono : ∀ a0 a1 a2 a3 k, LeO (duty_Done.f k a0 a1 a2 a3) (duty_Done.f (k + 1) a0 a1 a2 a3) := by
  intro a0 a1 a2 a3 k r h
  unfold duty_Done.f at h ⊢
  obtain ⟨i, hi, h⟩ := Option.bind_eq_some_iff.1 h
  obtain ⟨st, hs, h⟩ := Option.bind_eq_some_iff.1 h
  rw [duty_find.mono a0 a2 k _ hi]
  simp only [Option.bind_some]
  rw [duty_Stand.mono a0 a1 k _ hs]
  exact h
/-- A row that is just made, and filled: what is known of its block. -/
def Blk (w : World) (g : Nat) (ys : List S32) : Prop := w.heap[g]? = some (.cells (ys.flatMap e32).toArray 32 (0, 0))
theorem Blk.cell {w : World} {g : Nat} {ys : List S32} (h : Blk w g ys) (i : Nat) (hi : i < ys.length) : w.cell? ⟨g, i * 2, none⟩ = some (.int .i64 (ys.getD i z32).f0) ∧ w.cell? ⟨g, i * 2 + 1, none⟩ = some (.bool (ys.getD i z32).f1) ∧ ∀ j, w.frozen? ⟨g, j, none⟩ = false := by
  have h' : w.heap[g]? = some (.cells (ys.flatMap e32).toArray 32 (0, 0)) := h
  refine ⟨?_, ?_, fun j => by simp [World.frozen?, h']⟩
  · have := fl_get e32_len ys i 0 (by omega)
    simp only [Nat.add_zero] at this
    simp [World.cell?, h', this, List.getElem?_eq_getElem hi, e32, List.getD]
  · have := fl_get e32_len ys i 1 (by omega)
    simp [World.cell?, h', this, List.getElem?_eq_getElem hi, e32, List.getD]
theorem Blk.set {w : World} {g : Nat} {ys : List S32} (h : Blk w g ys) (i r : Nat) (hi : i < ys.length) (hr : r < 2) (y' : S32) (u : Value) (he : e32 y' = (e32 (ys.getD i z32)).set r u) : Blk (w.setCell ⟨g, i * 2 + r, none⟩ u) g (ys.set i y') := by
  unfold Blk at *
  have e1 : ys[i]? = some (ys.getD i z32) := by simp [List.getD, List.getElem?_eq_getElem hi]
  rw [← fl_set e32_len ys i r _ y' u hr e1 he]
  simp only [World.setCell, Array.getElem?_modify, if_pos, h]
  simp
theorem Blk.R {w : World} {g base n : Nat} {ys : List S32} (h : Blk w g ys) (hb : base ≤ g) (hn : n = ys.length) (hm : ys.length ≤ 8796093022208) : Kd.R k32 32 w base (fun _ => True) (.slice (some ⟨g, 0, none⟩) n n) ys := by
  subst hn
  refine R_flat_of (enc := e32) (s := 2) (more := []) rfl e32_len (fun w b ok x => k32_mkM w b ok x) (by unfold Blk at h; simpa using h) hb (Nat.le_refl _) (by unfold maxLen; omega) (by simp [fl_length e32_len]) trivial
theorem one32 (ys : List S32) : ∀ v ∈ ys.flatMap e32, v.oneCell' = true := by
  intro v hv
  obtain ⟨y, _, hy⟩ := List.mem_flatMap.1 hv
  simp [e32] at hy
  rcases hy with rfl | rfl <;> rfl
theorem sz32 : (Try.prog.info? 32).map (·.size) = some 2 := by kernel_rfl
theorem one32' (x : S32) : ∀ v ∈ e32 x, v.oneCell' = true := by
  intro v hy
  simp [e32] at hy
  rcases hy with rfl | rfl <;> rfl
/-- The post of Done. -/
def DoneTo (r1 : List S32) (r2 : Int) (w : World) (e : Ending) (w' : World) : Prop := ∃ v0_ : Value, e = .returned (.tuple #[v0_, .int .i64 r2]) ∧ Kd.R k32 32 w' w.heap.size (fun _ => True) v0_ r1 ∧ Below w.heap.size w w'

set_option maxRecDepth 100000 in
set_option maxHeartbeats 1000000 in
theorem done_unfit (k : Nat) (A0 : Option Addr) (c0 : Nat) (l0 : List S51) (A1 : Option Addr) (c1 : Nat) (l1 : List S32) (a2 : ByteArray) (a3 : Int) (i : Int) (w : World) (hr0 : Kd.C k51 w A0 l0.length l0) (hc0 : l0.length ≤ c0) (hr1 : Kd.C k32 w A1 l1.length l1) (hc1 : l1.length ≤ c1)
    (hf : duty_find.f k l0 a2 = some i) (hs : duty_Stand.f k l0 l1 = some false) :
    Calls Try.prog 18 #[.slice A0 l0.length c0, .slice A1 l1.length c1, .string a2, .int .i64 a3] w (DoneTo [] 1 w) := by
  have HR0 := Lib.hid hr0
  have HR1 := Lib.hid hr1
  have HF := Lib.hid hf
  have HS := Lib.hid hs
  clear hr0 hr1 hf hs
  go_enter Try.func18, Try.ntmps18
  go_wp2_with fail
  refine (duty_find.calls k _ c0 l0 a2 i _ HR0.out hc0 HF.out).mono ?_
  rintro e w1 ⟨rfl, hw1⟩
  have HB1 := Lib.hid hw1
  clear hw1
  go_wp2_with fail
  refine (duty_Stand.calls k _ c0 l0 _ c1 l1 _ _ (Kd.C_below HR0.out HB1.out) hc0 (Kd.C_below HR1.out HB1.out) hc1 HS.out).mono ?_
  rintro e w2 ⟨rfl, hw2⟩
  have HB2 := Lib.hid (Below.trans HB1.out (hw2.mono HB1.out.size))
  clear hw2
  go_wp2
  go_ret2
  exact ⟨_, rfl, Kd.R_nil _ _ _ _ _, HB2.out⟩

set_option maxRecDepth 100000 in
set_option maxHeartbeats 1000000 in
theorem done_none (k : Nat) (A0 : Option Addr) (c0 : Nat) (l0 : List S51) (A1 : Option Addr) (c1 : Nat) (l1 : List S32) (a2 : ByteArray) (a3 : Int) (i : Int) (w : World) (hr0 : Kd.C k51 w A0 l0.length l0) (hc0 : l0.length ≤ c0) (hr1 : Kd.C k32 w A1 l1.length l1) (hc1 : l1.length ≤ c1)
    (hf : duty_find.f k l0 a2 = some i) (hs : duty_Stand.f k l0 l1 = some true) (hi : i < 0) :
    Calls Try.prog 18 #[.slice A0 l0.length c0, .slice A1 l1.length c1, .string a2, .int .i64 a3] w (DoneTo [] 150 w) := by
  have HR0 := Lib.hid hr0
  have HR1 := Lib.hid hr1
  have HF := Lib.hid hf
  have HS := Lib.hid hs
  clear hr0 hr1 hf hs
  go_enter Try.func18, Try.ntmps18
  go_wp2_with fail
  refine (duty_find.calls k _ c0 l0 a2 i _ HR0.out hc0 HF.out).mono ?_
  rintro e w1 ⟨rfl, hw1⟩
  have HB1 := Lib.hid hw1
  clear hw1
  go_wp2_with fail
  refine (duty_Stand.calls k _ c0 l0 _ c1 l1 _ _ (Kd.C_below HR0.out HB1.out) hc0 (Kd.C_below HR1.out HB1.out) hc1 HS.out).mono ?_
  rintro e w2 ⟨rfl, hw2⟩
  have HB2 := Lib.hid (Below.trans HB1.out (hw2.mono HB1.out.size))
  clear hw2
  go_wp2
  go_ret2
  exact ⟨_, rfl, Kd.R_nil _ _ _ _ _, HB2.out⟩

set_option maxRecDepth 100000 in
set_option maxHeartbeats 1000000 in
theorem done_done (k : Nat) (A0 : Option Addr) (c0 : Nat) (l0 : List S51) (A1 : Option Addr) (c1 : Nat) (l1 : List S32) (a2 : ByteArray) (a3 : Int) (i : Int) (w : World) (hr0 : Kd.C k51 w A0 l0.length l0) (hc0 : l0.length ≤ c0) (hr1 : Kd.C k32 w A1 l1.length l1) (hc1 : l1.length ≤ c1)
    (hf : duty_find.f k l0 a2 = some i) (hs : duty_Stand.f k l0 l1 = some true) (hi0 : 0 ≤ i) (hi1 : i < (l1.length : Int)) (hd : (rd_T32 l1 i).f1 = true) :
    Calls Try.prog 18 #[.slice A0 l0.length c0, .slice A1 l1.length c1, .string a2, .int .i64 a3] w (DoneTo [] 151 w) := by
  obtain ⟨ad1, hA1, _⟩ := at_T32 hr1 i hi0 (by omega)
  subst hA1
  have HR0 := Lib.hid hr0
  have HR1 := Lib.hid hr1
  have HF := Lib.hid hf
  have HS := Lib.hid hs
  clear hr0 hr1 hf hs
  go_enter Try.func18, Try.ntmps18
  go_wp2_with fail
  refine (duty_find.calls k _ c0 l0 a2 i _ HR0.out hc0 HF.out).mono ?_
  rintro e w1 ⟨rfl, hw1⟩
  have HB1 := Lib.hid hw1
  clear hw1
  go_wp2_with fail
  refine (duty_Stand.calls k _ c0 l0 _ c1 l1 _ _ (Kd.C_below HR0.out HB1.out) hc0 (Kd.C_below HR1.out HB1.out) hc1 HS.out).mono ?_
  rintro e w2 ⟨rfl, hw2⟩
  have HB2 := Lib.hid (Below.trans HB1.out (hw2.mono HB1.out.size))
  clear hw2
  obtain ⟨ad1', hA1, hq0, hq1⟩ := at_T32 (Kd.C_below HR1.out HB2.out) i hi0 (by omega)
  cases hA1
  rw [hd] at hq1
  go_wp2
  go_ret2
  exact ⟨_, rfl, Kd.R_nil _ _ _ _ _, HB2.out⟩

set_option maxRecDepth 100000 in
set_option maxHeartbeats 1000000 in
theorem done_once (k : Nat) (A0 : Option Addr) (c0 : Nat) (l0 : List S51) (A1 : Option Addr) (c1 : Nat) (l1 : List S32) (a2 : ByteArray) (a3 : Int) (i : Int) (w : World) (hr0 : Kd.C k51 w A0 l0.length l0) (hc0 : l0.length ≤ c0) (hr1 : Kd.C k32 w A1 l1.length l1) (hc1 : l1.length ≤ c1)
    (hf : duty_find.f k l0 a2 = some i) (hs : duty_Stand.f k l0 l1 = some true) (hi0 : 0 ≤ i) (hi1 : i < (l1.length : Int)) (hi2 : i < (l0.length : Int)) (hm : l1.length * 16 ≤ 140737488355328) (hd : (rd_T32 l1 i).f1 = false) (ha : (rd_T51 l0 i).f2 = false) :
    Calls Try.prog 18 #[.slice A0 l0.length c0, .slice A1 l1.length c1, .string a2, .int .i64 a3] w (DoneTo (l1.set i.toNat ⟨(rd_T32 l1 i).f0, true⟩) 0 w) := by
  obtain ⟨ad1, hA1, _⟩ := at_T32 hr1 i hi0 (by omega)
  subst hA1
  obtain ⟨ad0, hA0, _⟩ := at_T51 hr0 i hi0 (by omega)
  subst hA0
  have HR0 := Lib.hid hr0
  have HR1 := Lib.hid hr1
  have HF := Lib.hid hf
  have HS := Lib.hid hs
  clear hr0 hr1 hf hs
  go_enter Try.func18, Try.ntmps18
  go_wp2_with fail
  refine (duty_find.calls k _ c0 l0 a2 i _ HR0.out hc0 HF.out).mono ?_
  rintro e w1 ⟨rfl, hw1⟩
  have HB1 := Lib.hid hw1
  clear hw1
  go_wp2_with fail
  refine (duty_Stand.calls k _ c0 l0 _ c1 l1 _ _ (Kd.C_below HR0.out HB1.out) hc0 (Kd.C_below HR1.out HB1.out) hc1 HS.out).mono ?_
  rintro e w2 ⟨rfl, hw2⟩
  have HB2 := Lib.hid (Below.trans HB1.out (hw2.mono HB1.out.size))
  clear hw2
  obtain ⟨ad1', hA1, hq0, hq1⟩ := at_T32 (Kd.C_below HR1.out HB2.out) i hi0 (by omega)
  cases hA1
  obtain ⟨ad0', hA0, hp0, hp1, hp2⟩ := at_T51 (Kd.C_below HR0.out HB2.out) i hi0 (by omega)
  cases hA0
  rw [hd] at hq1
  rw [ha] at hp2
  have b2 : 16 * l1.length ≤ 281474976710656 := by omega
  have b3 : l1.length ≤ maxLen := by unfold maxLen; omega
  obtain ⟨i0, hi', hz0, hz1, hz2⟩ := info_parts info32
  have b4 : i0.bytes * l1.length ≤ 281474976710656 := by rw [hz2]; exact b2
  go_wp2_with (first | ((with_reducible refine gate_dst (N := 33) rfl ?_); refine wpList_make_full _ rfl _ _ 23 rfl w2.heap.size 32 i0 (.agg #[(.int .i64 0), (.bool false)]) 2 Try.underlying23 hi' hz0 hz1 .i64 .i64 _ _ l1.length rfl rfl rfl rfl b4 b3 (Nat.le_refl _) ?_; intro wm hown hgr; obtain ⟨cur, hcur, hcs⟩ := own_block hown; have HBm := Lib.hid (Below.trans HB2.out (Below.grown (Below.refl _ _) hgr HB2.out.size (fun _ h => by cases h))); have hsrc := Kd.C_below HR1.out HBm.out; have HSRC := Lib.hid hsrc; have HCS := Lib.hid hcs; have HCUR := Lib.hid hcur; clear hown hgr hcs hsrc hcur) | ((with_reducible refine gate_dst (N := 36) rfl ?_); refine wpList_copy_flat w.heap.size rfl _ _ 23 23 rfl 32 Try.underlying23 sz32 (k := k32) rfl e32_len (fun _ _ _ h => k32_open h) one32' w2.heap.size l1.length l1.length ad1 c1 rfl rfl cur l1 rfl HCUR.out HCS.out HSRC.out HBm.out HB2.out.size ?_; intro wc hblk hbc; have hkk := Blk.cell (show Blk wc w2.heap.size l1 from hblk) i.toNat (by omega); have HBLK := Lib.hid (show Blk wc w2.heap.size l1 from hblk); have HBc := Lib.hid hbc; clear hblk hbc; obtain ⟨hk0, hk1, hkf⟩ := hkk; have hkf0 := hkf (i.toNat * 2); have hkf1 := hkf (i.toNat * 2 + 1); clear hkf; obtain ⟨ad9, hA9, hs0, hs1, hs2⟩ := at_T51 (Kd.C_below HR0.out HBc.out) i hi0 (by omega); cases hA9; rw [ha] at hs2))
  go_ret2
  have hlen : i.toNat < l1.length := by omega
  refine ⟨_, rfl, Blk.R (Blk.set HBLK.out i.toNat 1 hlen (by omega) ⟨(rd_T32 l1 i).f0, true⟩ (.bool true) rfl) HB2.out.size (by simp) (by simp; omega), Below.setCell HBc.out HB2.out.size _⟩

set_option maxRecDepth 100000 in
set_option maxHeartbeats 1000000 in
theorem done_range (k : Nat) (A0 : Option Addr) (c0 : Nat) (l0 : List S51) (A1 : Option Addr) (c1 : Nat) (l1 : List S32) (a2 : ByteArray) (a3 : Int) (i : Int) (w : World) (hr0 : Kd.C k51 w A0 l0.length l0) (hc0 : l0.length ≤ c0) (hr1 : Kd.C k32 w A1 l1.length l1) (hc1 : l1.length ≤ c1)
    (hf : duty_find.f k l0 a2 = some i) (n : Int) (hs : duty_Stand.f k l0 l1 = some true) (hi0 : 0 ≤ i) (hi1 : i < (l1.length : Int)) (hi2 : i < (l0.length : Int)) (hm : l1.length * 16 ≤ 140737488355328) (hd : (rd_T32 l1 i).f1 = false) (ha : (rd_T51 l0 i).f2 = true) (hadd : num_Add.f a3 (rd_T51 l0 i).f1 = some (n, false)) :
    Calls Try.prog 18 #[.slice A0 l0.length c0, .slice A1 l1.length c1, .string a2, .int .i64 a3] w (DoneTo [] 152 w) := by
  obtain ⟨ad1, hA1, _⟩ := at_T32 hr1 i hi0 (by omega)
  subst hA1
  obtain ⟨ad0, hA0, _⟩ := at_T51 hr0 i hi0 (by omega)
  subst hA0
  have HADD := Lib.hid hadd
  clear hadd
  have HR0 := Lib.hid hr0
  have HR1 := Lib.hid hr1
  have HF := Lib.hid hf
  have HS := Lib.hid hs
  clear hr0 hr1 hf hs
  go_enter Try.func18, Try.ntmps18
  go_wp2_with fail
  refine (duty_find.calls k _ c0 l0 a2 i _ HR0.out hc0 HF.out).mono ?_
  rintro e w1 ⟨rfl, hw1⟩
  have HB1 := Lib.hid hw1
  clear hw1
  go_wp2_with fail
  refine (duty_Stand.calls k _ c0 l0 _ c1 l1 _ _ (Kd.C_below HR0.out HB1.out) hc0 (Kd.C_below HR1.out HB1.out) hc1 HS.out).mono ?_
  rintro e w2 ⟨rfl, hw2⟩
  have HB2 := Lib.hid (Below.trans HB1.out (hw2.mono HB1.out.size))
  clear hw2
  obtain ⟨ad1', hA1, hq0, hq1⟩ := at_T32 (Kd.C_below HR1.out HB2.out) i hi0 (by omega)
  cases hA1
  obtain ⟨ad0', hA0, hp0, hp1, hp2⟩ := at_T51 (Kd.C_below HR0.out HB2.out) i hi0 (by omega)
  cases hA0
  rw [hd] at hq1
  rw [ha] at hp2
  have b2 : 16 * l1.length ≤ 281474976710656 := by omega
  have b3 : l1.length ≤ maxLen := by unfold maxLen; omega
  obtain ⟨i0, hi', hz0, hz1, hz2⟩ := info_parts info32
  have b4 : i0.bytes * l1.length ≤ 281474976710656 := by rw [hz2]; exact b2
  go_wp2_with (first | (go_at_call 27; refine (num_Add.calls _ _ _ _ _ HADD.out).mono ?_; rintro e w9 ⟨rfl, hw9⟩; obtain ⟨n9, hw9⟩ := hw9.out; subst hw9) | ((with_reducible refine gate_dst (N := 33) rfl ?_); refine wpList_make_full _ rfl _ _ 23 rfl w2.heap.size 32 i0 (.agg #[(.int .i64 0), (.bool false)]) 2 Try.underlying23 hi' hz0 hz1 .i64 .i64 _ _ l1.length rfl rfl rfl rfl b4 b3 (Nat.le_refl _) ?_; intro wm hown hgr; obtain ⟨cur, hcur, hcs⟩ := own_block hown; have HBm := Lib.hid (Below.trans HB2.out (Below.grown (Below.refl _ _) hgr HB2.out.size (fun _ h => by cases h))); have hsrc := Kd.C_below HR1.out HBm.out; have HSRC := Lib.hid hsrc; have HCS := Lib.hid hcs; have HCUR := Lib.hid hcur; clear hown hgr hcs hsrc hcur) | ((with_reducible refine gate_dst (N := 36) rfl ?_); refine wpList_copy_flat w.heap.size rfl _ _ 23 23 rfl 32 Try.underlying23 sz32 (k := k32) rfl e32_len (fun _ _ _ h => k32_open h) one32' w2.heap.size l1.length l1.length ad1 c1 rfl rfl cur l1 rfl HCUR.out HCS.out HSRC.out HBm.out HB2.out.size ?_; intro wc hblk hbc; have hkk := Blk.cell (show Blk wc w2.heap.size l1 from hblk) i.toNat (by omega); have HBLK := Lib.hid (show Blk wc w2.heap.size l1 from hblk); have HBc := Lib.hid hbc; clear hblk hbc; obtain ⟨hk0, hk1, hkf⟩ := hkk; have hkf0 := hkf (i.toNat * 2); have hkf1 := hkf (i.toNat * 2 + 1); clear hkf; obtain ⟨ad9, hA9, hs0, hs1, hs2⟩ := at_T51 (Kd.C_below HR0.out HBc.out) i hi0 (by omega); cases hA9; rw [ha] at hs2))
  go_ret2
  exact ⟨_, rfl, Kd.R_nil _ _ _ _ _, pw_below_drewN HBc.out _⟩

set_option maxRecDepth 100000 in
set_option maxHeartbeats 1000000 in
theorem done_again (k : Nat) (A0 : Option Addr) (c0 : Nat) (l0 : List S51) (A1 : Option Addr) (c1 : Nat) (l1 : List S32) (a2 : ByteArray) (a3 : Int) (i : Int) (w : World) (hr0 : Kd.C k51 w A0 l0.length l0) (hc0 : l0.length ≤ c0) (hr1 : Kd.C k32 w A1 l1.length l1) (hc1 : l1.length ≤ c1)
    (hf : duty_find.f k l0 a2 = some i) (n : Int) (hs : duty_Stand.f k l0 l1 = some true) (hi0 : 0 ≤ i) (hi1 : i < (l1.length : Int)) (hi2 : i < (l0.length : Int)) (hm : l1.length * 16 ≤ 140737488355328) (hd : (rd_T32 l1 i).f1 = false) (ha : (rd_T51 l0 i).f2 = true) (hadd : num_Add.f a3 (rd_T51 l0 i).f1 = some (n, true)) :
    Calls Try.prog 18 #[.slice A0 l0.length c0, .slice A1 l1.length c1, .string a2, .int .i64 a3] w (DoneTo (l1.set i.toNat ⟨n, (rd_T32 l1 i).f1⟩) 0 w) := by
  obtain ⟨ad1, hA1, _⟩ := at_T32 hr1 i hi0 (by omega)
  subst hA1
  obtain ⟨ad0, hA0, _⟩ := at_T51 hr0 i hi0 (by omega)
  subst hA0
  have HADD := Lib.hid hadd
  clear hadd
  have HR0 := Lib.hid hr0
  have HR1 := Lib.hid hr1
  have HF := Lib.hid hf
  have HS := Lib.hid hs
  clear hr0 hr1 hf hs
  go_enter Try.func18, Try.ntmps18
  go_wp2_with fail
  refine (duty_find.calls k _ c0 l0 a2 i _ HR0.out hc0 HF.out).mono ?_
  rintro e w1 ⟨rfl, hw1⟩
  have HB1 := Lib.hid hw1
  clear hw1
  go_wp2_with fail
  refine (duty_Stand.calls k _ c0 l0 _ c1 l1 _ _ (Kd.C_below HR0.out HB1.out) hc0 (Kd.C_below HR1.out HB1.out) hc1 HS.out).mono ?_
  rintro e w2 ⟨rfl, hw2⟩
  have HB2 := Lib.hid (Below.trans HB1.out (hw2.mono HB1.out.size))
  clear hw2
  obtain ⟨ad1', hA1, hq0, hq1⟩ := at_T32 (Kd.C_below HR1.out HB2.out) i hi0 (by omega)
  cases hA1
  obtain ⟨ad0', hA0, hp0, hp1, hp2⟩ := at_T51 (Kd.C_below HR0.out HB2.out) i hi0 (by omega)
  cases hA0
  rw [hd] at hq1
  rw [ha] at hp2
  have b2 : 16 * l1.length ≤ 281474976710656 := by omega
  have b3 : l1.length ≤ maxLen := by unfold maxLen; omega
  obtain ⟨i0, hi', hz0, hz1, hz2⟩ := info_parts info32
  have b4 : i0.bytes * l1.length ≤ 281474976710656 := by rw [hz2]; exact b2
  go_wp2_with (first | (go_at_call 27; refine (num_Add.calls _ _ _ _ _ HADD.out).mono ?_; rintro e w9 ⟨rfl, hw9⟩; obtain ⟨n9, hw9⟩ := hw9.out; subst hw9) | ((with_reducible refine gate_dst (N := 33) rfl ?_); refine wpList_make_full _ rfl _ _ 23 rfl w2.heap.size 32 i0 (.agg #[(.int .i64 0), (.bool false)]) 2 Try.underlying23 hi' hz0 hz1 .i64 .i64 _ _ l1.length rfl rfl rfl rfl b4 b3 (Nat.le_refl _) ?_; intro wm hown hgr; obtain ⟨cur, hcur, hcs⟩ := own_block hown; have HBm := Lib.hid (Below.trans HB2.out (Below.grown (Below.refl _ _) hgr HB2.out.size (fun _ h => by cases h))); have hsrc := Kd.C_below HR1.out HBm.out; have HSRC := Lib.hid hsrc; have HCS := Lib.hid hcs; have HCUR := Lib.hid hcur; clear hown hgr hcs hsrc hcur) | ((with_reducible refine gate_dst (N := 36) rfl ?_); refine wpList_copy_flat w.heap.size rfl _ _ 23 23 rfl 32 Try.underlying23 sz32 (k := k32) rfl e32_len (fun _ _ _ h => k32_open h) one32' w2.heap.size l1.length l1.length ad1 c1 rfl rfl cur l1 rfl HCUR.out HCS.out HSRC.out HBm.out HB2.out.size ?_; intro wc hblk hbc; have hkk := Blk.cell (show Blk wc w2.heap.size l1 from hblk) i.toNat (by omega); have HBLK := Lib.hid (show Blk wc w2.heap.size l1 from hblk); have HBc := Lib.hid hbc; clear hblk hbc; obtain ⟨hk0, hk1, hkf⟩ := hkk; have hkf0 := hkf (i.toNat * 2); have hkf1 := hkf (i.toNat * 2 + 1); clear hkf; obtain ⟨ad9, hA9, hs0, hs1, hs2⟩ := at_T51 (Kd.C_below HR0.out HBc.out) i hi0 (by omega); cases hA9; rw [ha] at hs2))
  go_ret2
  have hlen : i.toNat < l1.length := by omega
  have hfin := Blk.set HBLK.out i.toNat 0 hlen (by omega) ⟨n, (rd_T32 l1 i).f1⟩ (.int .i64 n) rfl
  refine ⟨_, rfl, Blk.R (hfin : Blk _ _ _) HB2.out.size (by simp) (by simp; omega), Below.setCell (pw_below_drewN HBc.out _) HB2.out.size _⟩

theorem duty_Done.calls (k : Nat) (A0 : Option Addr) (c0 : Nat) (l0 : List S51) (A1 : Option Addr) (c1 : Nat) (l1 : List S32) (a2 : ByteArray) (a3 : Int) (r1 : List S32) (r2 : Int) (w : World) (hr0 : Kd.C k51 w A0 l0.length l0) (hc0 : l0.length ≤ c0) (hr1 : Kd.C k32 w A1 l1.length l1) (hc1 : l1.length ≤ c1) (h : duty_Done.f k l0 l1 a2 a3 = some (r1, r2)) :
    Calls Try.prog 18 #[.slice A0 l0.length c0, .slice A1 l1.length c1, .string a2, .int .i64 a3] w fun e w' => ∃ v0_ : Value, e = .returned (.tuple #[v0_, .int .i64 r2]) ∧ Kd.R k32 32 w' w.heap.size (fun _ => True) v0_ r1 ∧ Below w.heap.size w w' := by
  unfold duty_Done.f at h
  obtain ⟨i, hi, h⟩ := Option.bind_eq_some_iff.1 h
  obtain ⟨st, hs, h⟩ := Option.bind_eq_some_iff.1 h
  unfold doneTail at h
  cases st with
  | false =>
    rw [if_pos rfl] at h
    cases h
    exact done_unfit k A0 c0 l0 A1 c1 l1 a2 a3 i w hr0 hc0 hr1 hc1 hi hs
  | true =>
    rw [if_neg (by decide)] at h
    split at h
    · cases h
      exact done_none k A0 c0 l0 A1 c1 l1 a2 a3 i w hr0 hc0 hr1 hc1 hi hs ‹_›
    · have hi0 : 0 ≤ i := by omega
      split at h
      · rename_i hi1
        split at h
        · rename_i hi2
          split at h
          · rename_i hm
            split at h
            · cases h
              exact done_done k A0 c0 l0 A1 c1 l1 a2 a3 i w hr0 hc0 hr1 hc1 hi hs hi0 hi1 ‹_›
            · rename_i hd
              have hd : (rd_T32 l1 i).f1 = false := by simpa using hd
              split at h
              · rename_i ha
                cases h
                exact done_once k A0 c0 l0 A1 c1 l1 a2 a3 i w hr0 hc0 hr1 hc1 hi hs hi0 hi1 hi2 hm hd ha
              · rename_i ha
                have ha : (rd_T51 l0 i).f2 = true := by simpa using ha
                obtain ⟨⟨n, ok⟩, hadd, h⟩ := Option.bind_eq_some_iff.1 h
                cases ok
                · rw [if_pos rfl] at h
                  cases h
                  exact done_range k A0 c0 l0 A1 c1 l1 a2 a3 i w hr0 hc0 hr1 hc1 hi n hs hi0 hi1 hi2 hm hd ha hadd
                · rw [if_neg (by simp)] at h
                  cases h
                  exact done_again k A0 c0 l0 A1 c1 l1 a2 a3 i w hr0 hc0 hr1 hc1 hi n hs hi0 hi1 hi2 hm hd ha hadd
          · cases h
        · cases h
      · cases h
end Go.Proofs.Ytgphdeelangkfaa.PDuty
