/-
  Every Add and Sub is the document's. A statement over whole numbers alone; every pair or triple of 64-bit numbers: no condition.
-/
import Derived.Test.YtbmiobkjkhechaaPSumsx3
import Derived.Test.YtbmiobkjkhechaaPlain
namespace Go.Proofs.Ytbmiobkjkhechaa.Pure
open Go.RowKit Go.Proofs.Ytbmiobkjkhechaa.PSums Go.Proofs.YtbmiobkjkhechaaW.PrintWords Go.Proofs.YtbmiobkjkhechaaW.PrintLast Go.Proofs.YtbmiobkjkhechaaPlain

namespace Ads
theorem add_yes {a b : Int} (ha : In a) (hb : In b) (h : In (a + b)) : num_Add.f a b = some (a + b, true) := by
  unfold In at *
  unfold num_Add.f
  have e1 : wrap64 (a + b) = a + b := by unfold wrap64; omega
  rw [e1]
  unfold wrap64
  repeat' split
  all_goals first | rfl | omega
theorem add_no {a b : Int} (ha : In a) (hb : In b) (h : ¬ In (a + b)) : num_Add.f a b = some (0, false) := by
  unfold In at *
  unfold num_Add.f wrap64
  repeat' split
  all_goals first | rfl | omega
theorem sub_yes {a b : Int} (ha : In a) (hb : In b) (h : In (a - b)) : num_Sub.f a b = some (a - b, true) := by
  unfold In at *
  unfold num_Sub.f
  have e1 : wrap64 (a - b) = a - b := by unfold wrap64; omega
  rw [e1]
  unfold wrap64
  repeat' split
  all_goals first | rfl | omega
theorem sub_no {a b : Int} (ha : In a) (hb : In b) (h : ¬ In (a - b)) : num_Sub.f a b = some (0, false) := by
  unfold In at *
  unfold num_Sub.f wrap64
  repeat' split
  all_goals first | rfl | omega
end Ads
open Ads
open Go.Proofs.Ytbmiobkjkhechaa.Hand in
theorem NumAdds : sojournlaw01_NumAdds.Pure := by
  intro a b wa wb
  have ha := In.of_wf wa
  have hb := In.of_wf wb
  have h1 : num_Add.f a b = sojournref01_Add.f a b := by
    unfold sojournref01_Add.f
    rw [inr_in ha, inr_in hb]
    by_cases h : In (a + b)
    · rw [add_yes ha hb h, pairV_in h]
    · rw [add_no ha hb h, pairV_out h]
  have h2 : num_Sub.f a b = sojournref01_Sub.f a b := by
    unfold sojournref01_Sub.f
    rw [inr_in ha, inr_in hb]
    by_cases h : In (a - b)
    · rw [sub_yes ha hb h, pairV_in h]
    · rw [sub_no ha hb h, pairV_out h]
  have g1 : sojournref01_Add.f a b = some (pairV (a + b)) := by unfold sojournref01_Add.f; rw [inr_in ha, inr_in hb]
  have g2 : sojournref01_Sub.f a b = some (pairV (a - b)) := by unfold sojournref01_Sub.f; rw [inr_in ha, inr_in hb]
  unfold sojournlaw01_NumAdds.f
  rw [h1, h2, g1, g2]
  simp

end Go.Proofs.Ytbmiobkjkhechaa.Pure
