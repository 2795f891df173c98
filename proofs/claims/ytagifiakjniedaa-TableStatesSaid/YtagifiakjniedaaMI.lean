/-
  Contracts of functions that a statement of this seat reaches (joined texts: H31).
-/
import Derived.Test.YtagifiakjniedaaME
import Derived.Deep.RegionWith
section
namespace Go.Proofs.Ytagifiakjniedaa.PTab
open Go.RowKit Go.Proofs.YtagifiakjniedaaW.PrintWords Go.Proofs.YtagifiakjniedaaW.PrintLast
set_option linter.unusedVariables false
set_option linter.unusedSimpArgs false
theorem request_split (L : List S28) (s o p : ByteArray) : (requestV L s o p = (L ++ [fresh s o p], (L.length : Int) + 1, 0)) ∨ ∃ r, r ≠ 0 ∧ requestV L s o p = (L, 0, r) := by
  unfold requestV
  split
  · split
    · exact .inr ⟨161, by decide, rfl⟩
    · exact .inl rfl
  · exact .inr ⟨160, by decide, rfl⟩
theorem leadO_length (L : List S28) (o : S44) : (leadO L o).1.length = L.length := by
  unfold leadO leadG
  split
  · split
    · split
      · simp
      · rfl
    · rfl
  · rfl
theorem range_getD (l : List S28) : (List.range l.length).map (fun i => l.getD i z28) = l := by
  apply List.ext_getElem
  · simp
  · intro i h1 h2
    simp at h1
    simp [List.getD_eq_getElem?_getD, List.getElem?_eq_getElem h1]
theorem inK_count (L : List S28) (st : Int) : (inK L st L.length).length = (L.filter (fun x => decide (x.f3 = st))).length := by
  have h : (L.filter (fun x => decide (x.f3 = st))) = ((List.range L.length).map (fun i => L.getD i z28)).filter (fun x => decide (x.f3 = st)) := by rw [range_getD]
  rw [h, List.filter_map]
  unfold inK
  simp only [List.length_map]
  rfl
def cnt (L : List S28) (s : Int) : Nat := (L.filter (fun x => decide (x.f3 < s))).length
theorem cnt_step (L : List S28) (s : Int) : cnt L (s + 1) = cnt L s + (inK L s L.length).length := by
  rw [inK_count]
  unfold cnt
  induction L with
  | nil => rfl
  | cons x l ih =>
    simp only [List.filter_cons]
    by_cases h1 : x.f3 < s
    · have h2 : x.f3 < s + 1 := by omega
      have h3 : ¬ x.f3 = s := by omega
      simp only [h1, h2, h3, decide_true, decide_false, if_true, List.length_cons, Bool.false_eq_true, if_false]
      omega
    · by_cases h3 : x.f3 = s
      · have h2 : x.f3 < s + 1 := by omega
        simp only [h1, h2, h3, decide_true, decide_false, if_true, List.length_cons, Bool.false_eq_true, if_false]
        have h4 : s < s + 1 := by omega
        simp only [h4, Int.lt_irrefl, decide_true, decide_false, if_true, List.length_cons, Bool.false_eq_true, if_false]
        omega
      · have h2 : ¬ x.f3 < s + 1 := by omega
        simp only [h1, h2, h3, decide_false, Bool.false_eq_true, if_false]
        exact ih
theorem cnt_one {L : List S28} (h : Good L) : cnt L 1 = 0 := by
  unfold cnt
  rw [List.length_eq_zero_iff, List.filter_eq_nil_iff]
  intro x hx
  have := (errV_zero (h.2 x hx)).2.1.1
  simp; omega
theorem cnt_six {L : List S28} (h : Good L) : cnt L 6 = L.length := by
  unfold cnt
  rw [List.filter_eq_self.2]
  intro x hx
  have := (errV_zero (h.2 x hx)).2.1.2
  simp; omega
theorem inK_none {L : List S28} (h : Good L) (st : Int) (hs : st < 1 ∨ 5 < st) : inK L st L.length = [] := by
  apply List.eq_nil_of_length_eq_zero
  rw [inK_count, List.length_eq_zero_iff, List.filter_eq_nil_iff]
  intro x hx
  have := (errV_zero (h.2 x hx)).2.1
  simp; omega
theorem inK_get (L : List S28) (st : Int) (k : Nat) (hk : k < (inK L st L.length).length) : ∃ (i : Nat) (hi : i < L.length), (inK L st L.length)[k] = (i : Int) + 1 ∧ L[i].f3 = st := by
  have hm := List.getElem_mem hk
  unfold inK at hm
  rw [List.mem_map] at hm
  obtain ⟨i, hi, he⟩ := hm
  rw [List.mem_filter, List.mem_range, decide_eq_true_iff] at hi
  refine ⟨i, hi.1, he.symm, ?_⟩
  have := hi.2
  rwa [List.getD_eq_getElem?_getD, List.getElem?_eq_getElem hi.1] at this
theorem inK_up (L : List S28) (st : Int) (k : Nat) (hk : k + 1 < (inK L st L.length).length) : (inK L st L.length)[k] < (inK L st L.length)[k + 1] := by
  have hp : (inK L st L.length).Pairwise (· < ·) := by
    unfold inK
    rw [List.pairwise_map]
    exact (List.Pairwise.filter _ List.pairwise_lt_range).imp (fun h => by omega)
  exact (List.pairwise_iff_getElem.1 hp) k (k + 1) (by omega) hk (by omega)
theorem inK_get2 {L : List S28} {st : Int} {q : List Int} (h : inK L st L.length = q) : ∀ (k : Nat) (hk : k < q.length), ∃ (i : Nat) (hi : i < L.length), q[k] = (i : Int) + 1 ∧ L[i].f3 = st := by
  subst h
  exact inK_get L st
theorem inK_up2 {L : List S28} {st : Int} {q : List Int} (h : inK L st L.length = q) : ∀ (k : Nat) (hk : k + 1 < q.length), q[k] < q[k + 1] := by
  subst h
  exact inK_up L st
/-- The table behind any calls that are not looked at. -/
structure Going (W wr : World) (g : Nat) (L : List S28) : Prop where
  out : Tb wr g (fun k => W.heap.size ≤ k) L ∧ Good L ∧ Below W.heap.size W wr
theorem Going.below {W wr w' : World} {g : Nat} {L : List S28} (h : Going W wr g L) (hb : Below wr.heap.size wr w') : Going W w' g L :=
  ⟨Tb_below h.out.1 hb, h.out.2.1, Below.trans h.out.2.2 (hb.mono h.out.2.2.size)⟩
theorem Going.kp {W wr w' : World} {g : Nat} {L' : List S28} (h : Below W.heap.size W wr) (hG : Good L') (hT : Tb w' g (fun k => W.heap.size ≤ k ∨ wr.heap.size ≤ k) L') (hk : Kp (fun k => W.heap.size ≤ k) wr w') : Going W w' g L' :=
  ⟨Tb_mono hT (fun k hk => hk.elim id (fun h2 => Nat.le_trans h.size h2)), hG, Below.trans h (hk.below h.size (fun k hk => hk))⟩
theorem C_int {w : World} {A : Option Addr} {l : List Int} (h : Kd.C (Kd.int .i64) w A l.length l) (k : Nat) (hk : k < l.length) : ∃ ad, A = some ad ∧ w.cell? (ad.add k) = some (.int .i64 l[k]) := by
  obtain ⟨ad, cs, he, hl, hK, hc⟩ := Kd.C_get h 0 (k : Int) (by omega) (by omega)
  rw [Int.toNat_natCast, List.getD_eq_getElem?_getD, List.getElem?_eq_getElem hk] at hK
  obtain rfl : cs = [.int .i64 l[k]] := hK
  have := hc 0 _ rfl
  rw [Int.toNat_natCast, show (Kd.int .i64).sz = 1 from rfl, Nat.mul_one, Nat.add_zero] at this
  exact ⟨ad, he, this⟩
set_option maxRecDepth 100000 in
set_option maxHeartbeats 4000000 in
theorem tableStates_walk (A0 : Option Addr) (c0 : Nat) (l0 : List S44) (W : World) (hr0 : Kd.C k44 W A0 l0.length l0) (hc0 : l0.length ≤ c0) (b0 : l0.length * Try.prog.bytesOf 44 ≤ 140737488351232 ∧ ∀ y ∈ l0, B44 y) : Calls Try.prog 5 #[.slice A0 l0.length c0] W fun e W' => e = .returned (.bool true) ∧ Below W.heap.size W W' := by
  have HC0 := Lib.hid hr0
  have HB0 := Lib.hid b0.2
  have hm := Kd.C_max hr0
  clear hr0 b0
  go_enter Try.func5, Try.ntmps5
  go_wp2_with fail
  refine (begun_calls W).mono ?_
  rintro e w1 ⟨g, rfl, hT, hb⟩
  have HBB : Hid (Going W w1 g []) := Lib.hid ⟨hT, ⟨by decide, fun x hx => by cases hx⟩, hb⟩
  clear hT hb
  go_wp2_with fail
  go_loopw [5, 24] (fun n x wr => ∃ k : Nat, k ≤ l0.length ∧ x = .int .i64 k ∧ ∃ L : List S28, n = .int .i64 L.length ∧ Hid (Going W wr g L)) (fun _ x _ => l0.length - (intOf x).toNat)
  case atStart => exact ⟨0, Nat.zero_le _, rfl, [], rfl, HBB⟩
  case round =>
    clear HBB
    obtain ⟨k, hk, rfl, L, rfl, HREL⟩ := hrel
    by_cases hlt : k < l0.length
    · have hCr := Kd.C_below HC0.out HREL.out.out.2.2
      obtain ⟨ad, A6, c6, rfl, ⟨k0, k1, k2, k3, k4, k5, k6⟩, l6, g6⟩ := C_elem44 hCr k hlt
      have hBo := HB0.out l0[k] (List.getElem_mem hlt)
      generalize l0[k] = o at *
      have hbx : Below wr.heap.size wr (wr.alloc (.cells #[.int .i64 o.f0, .int .i64 o.f1, .int .i64 o.f2, .string o.f3, .string o.f4, .string o.f5, .slice A6 o.f6.length c6] 44)) := below_alloc (Below.refl _ _) _
      have hGX := HREL.out.below hbx
      have hL64 := hGX.out.2.1.1
      by_cases h0 : o.f0 = 0
      · have e0 : (o.f0 == 0) = true := beq_iff_eq.2 h0
        have HG2 : Good (requestV L o.f3 o.f4 o.f5).1 := hGX.out.2.1.request _ _ _
        have H := request_calls g _ L o.f3 o.f4 o.f5 _ hGX.out.1 hGX.out.2.1.fits hBo.2.2.2.1 hBo.2.2.2.2.1 hBo.2.2.2.2.2.1
        have HX := Lib.hid hGX.out.2.2
        rcases request_split L o.f3 o.f4 o.f5 with hq | ⟨r, hr, hq⟩
        · rw [hq] at H HG2
          have H := Lib.hid H
          have HG2 := Lib.hid HG2
          have hw : IntKind.i64.wrap ((L.length : Int) + 1) = (L.length : Int) + 1 := IntWalk.i64_in _ (by omega)
          have hne : (((L.length : Int) + 1) != ((L.length : Int) + 1)) = false := by simp
          clear hCr l6 g6 hBo hbx hGX h0 hq HREL
          go_wp2_with fail
          refine (H.out).mono ?_
          rintro e w2 ⟨rfl, hT2, hk2⟩
          have HN := Lib.hid (Going.kp HX.out HG2.out hT2 hk2)
          clear hT2 hk2
          go_wp2
          go_roundw
          case rel => exact ⟨k + 1, by omega, by go_num, _, by simp, HN⟩
          case measure => simp [intOf]; omega
        · rw [hq] at H HG2
          have H := Lib.hid H
          have HG2 := Lib.hid HG2
          have hne : (r == 0) = false := beq_eq_false_iff_ne.2 hr
          clear hCr l6 g6 hBo hbx hGX h0 hq hr HREL
          go_wp2_with fail
          refine (H.out).mono ?_
          rintro e w2 ⟨rfl, hT2, hk2⟩
          have HN := Lib.hid (Going.kp HX.out HG2.out hT2 hk2)
          clear hT2 hk2
          go_wp2
          go_roundw
          case rel => exact ⟨k + 1, by omega, by go_num, L, rfl, HN⟩
          case measure => simp [intOf]; omega
      · have e0 : (o.f0 == 0) = false := beq_eq_false_iff_ne.2 h0
        by_cases hcl : 1 ≤ o.f0 ∧ o.f0 ≤ 5
        · have e5 : decide (o.f0 ≤ 5) = true := decide_eq_true hcl.2
          have e1 : decide ((0 : Int) < o.f0) = true := decide_eq_true (by omega)
          have hll := leadO_length L o
          have HG2 := Lib.hid (hGX.out.2.1.lead o hcl)
          have H := lawlead g _ L o A6 c6 _ hGX.out.1 hGX.out.2.1.fits (Kd.C_below g6 hbx) l6
          have HX := Lib.hid hGX.out.2.2
          generalize leadO L o = Q at *
          obtain ⟨L1, r⟩ := Q
          have H := Lib.hid H
          have HLL := Lib.hid hll
          clear hCr l6 g6 hBo hbx hGX h0 hcl HREL hll
          go_wp2_with fail
          refine (H.out).mono ?_
          rintro e w2 ⟨rfl, hT2, hk2⟩
          have HN := Lib.hid (Going.kp HX.out HG2.out hT2 hk2)
          clear hT2 hk2
          go_wp2
          go_roundw
          case rel => exact ⟨k + 1, by omega, by go_num, L1, by rw [show L1.length = L.length from HLL.out], HN⟩
          case measure => simp [intOf]; omega
        · have HN := Lib.hid hGX
          by_cases h5 : o.f0 ≤ 5
          · have e5 : decide (o.f0 ≤ 5) = true := decide_eq_true h5
            have e1 : decide ((0 : Int) < o.f0) = false := decide_eq_false (by omega)
            clear hCr l6 g6 hBo hbx hGX h0 hcl h5 HREL
            go_wp2
            go_roundw
            case rel => exact ⟨k + 1, by omega, by go_num, L, rfl, HN⟩
            case measure => simp [intOf]; omega
          · have e5 : decide (o.f0 ≤ 5) = false := decide_eq_false h5
            clear hCr l6 g6 hBo hbx hGX h0 hcl h5 HREL
            go_wp2
            go_roundw
            case rel => exact ⟨k + 1, by omega, by go_num, L, rfl, HN⟩
            case measure => simp [intOf]; omega
    · obtain rfl : k = l0.length := by omega
      have HS := HREL
      have hL64 := HREL.out.out.2.1.1
      clear HREL
      have hone := cnt_one HS.out.out.2.1
      obtain ⟨wa, rfl⟩ : ∃ wa, wa = wr := ⟨_, rfl⟩
      go_wp2_with fail
      go_loopw [10, 11] (fun m x wz => ∃ s : Nat, 1 ≤ s ∧ s ≤ 6 ∧ x = .int .i64 s ∧ m = .int .i64 (cnt L s : Int) ∧ Hid (Below wa.heap.size wa wz)) (fun _ x _ => 6 - (intOf x).toNat)
      case atStart => exact ⟨1, Nat.le_refl _, by omega, rfl, by rw [show ((1 : Nat) : Int) = 1 from rfl, hone]; rfl, Lib.hid (Below.refl _ _)⟩
      case round =>
        obtain ⟨s, hs1, hs6, rfl, rfl, HZ⟩ := hrel
        obtain ⟨wz, rfl⟩ : ∃ wz, wz = wr := ⟨_, rfl⟩
        clear hone
        have HSZ := Lib.hid (HS.out.below HZ.out)
        by_cases hs : s = 6
        · subst hs
          have h6 := cnt_six HS.out.out.2.1
          have q0 := inK_none HS.out.out.2.1 0 (.inl (by decide))
          have q6 := inK_none HS.out.out.2.1 6 (.inr (by decide))
          have H1 := Lib.hid (len_calls g _ L wz HSZ.out.out.1)
          have H2 := in2_calls g _ L 0 wz HSZ.out.out.1 HSZ.out.out.2.1.1
          have H3 := fun W9 (hb : Below wz.heap.size wz W9) => in2_calls g _ L 6 W9 (Tb_below HSZ.out.out.1 hb) HSZ.out.out.2.1.1
          rw [q0] at H2
          rw [q6] at H3
          rw [show (((6 : Nat) : Int)) = 6 from rfl, h6]
          have H2 := Lib.hid H2
          have H3 := Lib.hid H3
          have e64 : decide ((L.length : Int) ≤ 64) = true := decide_eq_true (by omega)
          have ee : ((L.length : Int) == (L.length : Int)) = true := beq_self_eq_true _
          clear h6 q0 q6
          go_wp2_with fail
          refine (H1.out).mono ?_
          rintro e w2 ⟨rfl, rfl⟩
          go_wp2_with fail
          refine (H2.out).mono ?_
          rintro e w2 ⟨Aa, ca, rfl, _, _, hb⟩
          have HB2 := Lib.hid hb
          clear hb
          go_wp2_with fail
          refine (H3.out _ HB2.out).mono ?_
          rintro e w3 ⟨Ab, cb, rfl, _, _, hb⟩
          have HB3 := Lib.hid (below_step HB2.out hb)
          clear hb
          go_wp2
          go_ret
          exact ⟨rfl, (HSZ.out.below HB3.out).out.2.2⟩
        · have hs5 : s < 6 := by omega
          have e5 : decide ((s : Int) ≤ 5) = true := decide_eq_true (by omega)
          have H := in2_calls g _ L s wz HSZ.out.out.1 HSZ.out.out.2.1.1
          have HCS := Lib.hid (cnt_step L s)
          have hcl := inK_len L s L.length
          have hcn : cnt L s ≤ 64 := Nat.le_trans (List.length_filter_le _ _) HSZ.out.out.2.1.1
          obtain ⟨q, hq⟩ : ∃ q, inK L s L.length = q := ⟨_, rfl⟩
          have HE := Lib.hid (inK_get2 hq)
          have HU := Lib.hid (inK_up2 hq)
          have H2 := in2_calls g (fun k => W.heap.size ≤ k) L s
          rw [hq] at H H2 HCS hcl
          generalize cnt L s = cs at *
          clear hs hq
          have H := Lib.hid H
          go_wp2_with fail
          refine (H.out).mono ?_
          rintro e w2 ⟨Aq, cq, rfl, hcq, hCq, hb⟩
          have HCQ := Lib.hid hCq
          have HB2 := Lib.hid hb
          clear hCq hb
          go_wp2_with fail
          go_loopw [10, 69] (fun m x wy => ∃ j : Nat, j ≤ q.length ∧ x = .int .i64 j ∧ m = .int .i64 ((cs + j : Nat) : Int) ∧ Hid (Below w2.heap.size w2 wy)) (fun _ x _ => q.length - (intOf x).toNat)
          case atStart => exact ⟨0, Nat.zero_le _, rfl, by rw [Nat.add_zero], Lib.hid (Below.refl _ _)⟩
          case round =>
            obtain ⟨j, hj, rfl, rfl, HY⟩ := hrel
            obtain ⟨wy, rfl⟩ : ∃ wy, wy = wr := ⟨_, rfl⟩
            by_cases hjl : j < q.length
            · obtain ⟨ad, rfl, hq1⟩ := C_int (Kd.C_below HCQ.out HY.out) j hjl
              obtain ⟨i, hi, hqi, hf3⟩ := HE.out j hjl
              rw [hqi] at hq1
              have HGY := Lib.hid (HSZ.out.below (below_step HB2.out HY.out))
              have HG := get_in g _ L i wy HGY.out.out.1 hi HGY.out.out.2.1.fits
              generalize L[i] = y at *
              have HG := Lib.hid HG
              have hnf : (y.f3 != (s : Int)) = false := by rw [hf3]; simp
              have hw : IntKind.i64.wrap (((cs + j : Nat) : Int) + 1) = ((cs + j : Nat) : Int) + 1 := IntWalk.i64_in _ (by omega)
              have H2 := H2
              have HCQ2 := Lib.hid (fun W9 (hb : Below wy.heap.size wy W9) => Kd.C_below HCQ.out (below_step HY.out hb))
              clear hf3
              by_cases hj0 : j = 0
              · have d0 : decide ((0 : Int) < (j : Int)) = false := decide_eq_false (by omega)
                have d1 : decide (0 < j) = false := decide_eq_false (by omega)
                clear H2 HCQ2 hqi HU HE hj0
                go_wp2_with fail
                refine (HG.out).mono ?_
                rintro e w3 ⟨A7, rfl, hF, hb⟩
                have HB3 := Lib.hid (below_step HY.out hb)
                clear hF hb
                go_wp2_with fail
                go_roundw
                case rel => exact ⟨j + 1, by omega, by go_num, congrArg (Value.int .i64) (by omega), Lib.hid (below_alloc HB3.out _)⟩
                case measure => simp [intOf]; omega
              · have d0 : decide ((0 : Int) < (j : Int)) = true := decide_eq_true (by omega)
                have hjw : IntKind.i64.wrap ((j : Int) - 1) = ((j - 1 : Nat) : Int) := by rw [show (j : Int) - 1 = ((j - 1 : Nat) : Int) by omega]; exact IntWalk.i64_in _ (by omega)
                have hup := HU.out (j - 1) (by omega)
                have hje : j - 1 + 1 = j := by omega
                simp only [hje] at hup
                rw [hqi] at hup
                have hle : decide ((i : Int) + 1 ≤ q[j - 1]) = false := decide_eq_false (by omega)
                have hCQ := fun W9 (Aq : Option Addr) (hC : Kd.C (Kd.int .i64) W9 Aq q.length q) => C_int hC (j - 1) (by omega)
                generalize q[j - 1] = u at *
                have HCU := Lib.hid hCQ
                have H2 := Lib.hid (fun W9 (hb : Below wy.heap.size wy W9) => H2 W9 (HGY.out.below hb).out.1 HGY.out.out.2.1.1)
                clear hqi HU HE hup hje hCQ HCQ2
                go_wp2_with fail
                refine (HG.out).mono ?_
                rintro e w3 ⟨A7, rfl, hF, hb⟩
                have HB3 := Lib.hid hb
                clear hF hb
                go_wp2_with fail
                refine (H2.out _ (below_alloc HB3.out _)).mono ?_
                rintro e w4 ⟨Aq2, cq2, rfl, _, hC2, hb⟩
                obtain ⟨ad2, rfl, hu⟩ := HCU.out _ _ hC2
                have HB4 := Lib.hid (below_step HY.out (below_step HB3.out (below_step (w := w3) (below_alloc (Below.refl _ _) _) hb)))
                obtain ⟨hcc, hff⟩ := bcell hb
                have hd := fun o => hcc w3.heap.size o (by simp)
                clear hC2 hb hcc hff
                go_wp2_with fail
                go_roundw
                case rel => exact ⟨j + 1, by omega, by go_num, congrArg (Value.int .i64) (by omega), HB4⟩
                case measure => simp [intOf]; omega
                all_goals (exfalso; omega)
            · obtain rfl : j = q.length := by omega
              have HN := Lib.hid (below_step (below_step HZ.out HB2.out) HY.out)
              go_wp2
              go_roundw
              case rel => exact ⟨s + 1, by omega, by omega, by go_num, by rw [show ((s + 1 : Nat) : Int) = (s : Int) + 1 from rfl, HCS.out], HN⟩
              case measure => simp [intOf]; omega
end Go.Proofs.Ytagifiakjniedaa.PTab
end
