/-
  No cell of these rows narrows 'for every input' (looked for: loops, veiled, ifaces, maps, wideKeys, modest, calm, conditions, laid).
  DERIVED. THE GIVEN ROWS OF THIS SEAT. 6 by the template 'for every input the law returns true; each argument reads behind the call as it read before'; 0 by the template 'total and deterministic' (their statements: YtgphdeelangkfaaTotals.lean).
  GIVEN WITH THE SEED: the statements are not yours to turn. If you find one false, say at which input.
  Laid BY PROGRAM, IN A SANDBOX (cutbox-rows.mjs): the forced cells as the released guide's own fill.sh prints them over the translation 8a16f0bf59187b9a… (all of the seat's roots in one cut). By AI agents, Wed Nov 11 2026. No macro, syntax, notation, axiom, sorry.
-/
import Derived.Test.YtgphdeelangkfaaChecked
import GoSem.Claim
import GoSem.ClaimJoined
import GoSem.ClaimMapViews
import Derived.JoinedTies
import Derived.KernelRfl
namespace Go.Proofs.Ytgphdeelangkfaa
/- THE CELL 'sum', in the pinned program and in every row, IS THE sha256 OF THE DUMP (.gsa) THAT YtgphdeelangkfaaProg.lean LOADS. Nothing in Lean hashes anything: it is a label: what it is worth is what the hold of that sum in a sandbox is worth. -/
noncomputable def Try.pinned : Pinned := { name := "ytgphdeelangkfaa", sum := "8a16f0bf59187b9ac7fee047f0532d7e13642516fee9b95b5d8b33bece03a6e8", checked := Try.checked }
namespace Rows
def none {H : Type} : Left H := { results := [], args := [] }

/-- 'sojournlaw15.DutyRights': WHATEVER THE INPUT: true; the input reads as it did. -/
def dutyRightsSpec : ChangeSpec := { name := "dutyRights", fn := fun _ => fun
  | [d1, d2] => { results := [.lit (.bool true)], args := [d1, d2] }
  | _ => none }
def dutyRightsRow : OpenClaim := { program := "ytgphdeelangkfaa", sum := "8a16f0bf59187b9ac7fee047f0532d7e13642516fee9b95b5d8b33bece03a6e8", func := "sojourn/sojournlaw15.DutyRights", spec := "dutyRights", apart := false }
def DutyRightsSaid : Prop := dutyRightsRow.holds Try.pinned (OpenSpec.ofChange dutyRightsSpec)

/-- ITS FALSE NEIGHBOUR: 'it returns false'. Refute it at one input. -/
def dutyRightsWrong : ChangeSpec := { name := "dutyRights", fn := fun _ => fun
  | [d1, d2] => { results := [.lit (.bool false)], args := [d1, d2] }
  | _ => none }
def DutyRightsWrongFalsely : Prop := dutyRightsRow.holds Try.pinned (OpenSpec.ofChange dutyRightsWrong)

/-- 'sojournlaw15.DutyBegins': WHATEVER THE INPUT: true; the input reads as it did. -/
def dutyBeginsSpec : ChangeSpec := { name := "dutyBegins", fn := fun _ => fun
  | [d1, d2] => { results := [.lit (.bool true)], args := [d1, d2] }
  | _ => none }
def dutyBeginsRow : OpenClaim := { program := "ytgphdeelangkfaa", sum := "8a16f0bf59187b9ac7fee047f0532d7e13642516fee9b95b5d8b33bece03a6e8", func := "sojourn/sojournlaw15.DutyBegins", spec := "dutyBegins", apart := false }
def DutyBeginsSaid : Prop := dutyBeginsRow.holds Try.pinned (OpenSpec.ofChange dutyBeginsSpec)

/-- ITS FALSE NEIGHBOUR: 'it returns false'. Refute it at one input. -/
def dutyBeginsWrong : ChangeSpec := { name := "dutyBegins", fn := fun _ => fun
  | [d1, d2] => { results := [.lit (.bool false)], args := [d1, d2] }
  | _ => none }
def DutyBeginsWrongFalsely : Prop := dutyBeginsRow.holds Try.pinned (OpenSpec.ofChange dutyBeginsWrong)

/-- 'sojournlaw15.DutyDones': WHATEVER THE INPUT: true; the input reads as it did. -/
def dutyDonesSpec : ChangeSpec := { name := "dutyDones", fn := fun _ => fun
  | [d1, d2, d3] => { results := [.lit (.bool true)], args := [d1, d2, d3] }
  | _ => none }
def dutyDonesRow : OpenClaim := { program := "ytgphdeelangkfaa", sum := "8a16f0bf59187b9ac7fee047f0532d7e13642516fee9b95b5d8b33bece03a6e8", func := "sojourn/sojournlaw15.DutyDones", spec := "dutyDones", apart := false }
def DutyDonesSaid : Prop := dutyDonesRow.holds Try.pinned (OpenSpec.ofChange dutyDonesSpec)

/-- ITS FALSE NEIGHBOUR: 'it returns false'. Refute it at one input. -/
def dutyDonesWrong : ChangeSpec := { name := "dutyDones", fn := fun _ => fun
  | [d1, d2, d3] => { results := [.lit (.bool false)], args := [d1, d2, d3] }
  | _ => none }
def DutyDonesWrongFalsely : Prop := dutyDonesRow.holds Try.pinned (OpenSpec.ofChange dutyDonesWrong)

/-- 'sojournlaw15.DutyKept': WHATEVER THE INPUT: true; the input reads as it did. -/
def dutyKeptSpec : ChangeSpec := { name := "dutyKept", fn := fun _ => fun
  | [d1, d2, d3] => { results := [.lit (.bool true)], args := [d1, d2, d3] }
  | _ => none }
def dutyKeptRow : OpenClaim := { program := "ytgphdeelangkfaa", sum := "8a16f0bf59187b9ac7fee047f0532d7e13642516fee9b95b5d8b33bece03a6e8", func := "sojourn/sojournlaw15.DutyKept", spec := "dutyKept", apart := false }
def DutyKeptSaid : Prop := dutyKeptRow.holds Try.pinned (OpenSpec.ofChange dutyKeptSpec)

/-- ITS FALSE NEIGHBOUR: 'it returns false'. Refute it at one input. -/
def dutyKeptWrong : ChangeSpec := { name := "dutyKept", fn := fun _ => fun
  | [d1, d2, d3] => { results := [.lit (.bool false)], args := [d1, d2, d3] }
  | _ => none }
def DutyKeptWrongFalsely : Prop := dutyKeptRow.holds Try.pinned (OpenSpec.ofChange dutyKeptWrong)

/-- 'sojournlaw15.DutyLates': WHATEVER THE INPUT: true; the input reads as it did. -/
def dutyLatesSpec : ChangeSpec := { name := "dutyLates", fn := fun _ => fun
  | [d1, d2] => { results := [.lit (.bool true)], args := [d1, d2] }
  | _ => none }
def dutyLatesRow : OpenClaim := { program := "ytgphdeelangkfaa", sum := "8a16f0bf59187b9ac7fee047f0532d7e13642516fee9b95b5d8b33bece03a6e8", func := "sojourn/sojournlaw15.DutyLates", spec := "dutyLates", apart := false }
def DutyLatesSaid : Prop := dutyLatesRow.holds Try.pinned (OpenSpec.ofChange dutyLatesSpec)

/-- ITS FALSE NEIGHBOUR: 'it returns false'. Refute it at one input. -/
def dutyLatesWrong : ChangeSpec := { name := "dutyLates", fn := fun _ => fun
  | [d1, d2] => { results := [.lit (.bool false)], args := [d1, d2] }
  | _ => none }
def DutyLatesWrongFalsely : Prop := dutyLatesRow.holds Try.pinned (OpenSpec.ofChange dutyLatesWrong)

/-- 'sojournlaw15.DutyFirst': WHATEVER THE INPUT: true; the input reads as it did. -/
def dutyFirstSpec : ChangeSpec := { name := "dutyFirst", fn := fun _ => fun
  | [d1, d2] => { results := [.lit (.bool true)], args := [d1, d2] }
  | _ => none }
def dutyFirstRow : OpenClaim := { program := "ytgphdeelangkfaa", sum := "8a16f0bf59187b9ac7fee047f0532d7e13642516fee9b95b5d8b33bece03a6e8", func := "sojourn/sojournlaw15.DutyFirst", spec := "dutyFirst", apart := false }
def DutyFirstSaid : Prop := dutyFirstRow.holds Try.pinned (OpenSpec.ofChange dutyFirstSpec)

/-- ITS FALSE NEIGHBOUR: 'it returns false'. Refute it at one input. -/
def dutyFirstWrong : ChangeSpec := { name := "dutyFirst", fn := fun _ => fun
  | [d1, d2] => { results := [.lit (.bool false)], args := [d1, d2] }
  | _ => none }
def DutyFirstWrongFalsely : Prop := dutyFirstRow.holds Try.pinned (OpenSpec.ofChange dutyFirstWrong)

/- THE SECOND FORM. 'bulk': how many values and letters a reading holds, each counted each time it is reached (what is shared counts as often as it is met; a slice's spare places count too). A statement '..UptoSaid' is the law's where the arguments, and the package variables that the reading takes, are together of bulk at most 1048576: NARROWER than '..Said'. Prove '..Said' where nothing that the law and all that it calls make is longer than what came in: it says more and counts as full. Else prove '..UptoSaid'. A law counts once. -/
mutual
def uptoBulk {H : Type} : DataW H → Nat
  | .lit (.string bytes) => bytes.length + 1
  | .lit _ => 1
  | .nil => 1
  | .ptr d => uptoBulk d + 1
  | .slice elems spare => uptoBulkAll elems + uptoBulkAll spare + 1
  | .agg parts => uptoBulkAll parts + 1
  | .iface _ d => uptoBulk d + 1
  | .map entries => uptoBulkEntries entries + 1
  | .held _ => 1
def uptoBulkAll {H : Type} : List (DataW H) → Nat
  | [] => 0
  | d :: r => uptoBulk d + uptoBulkAll r
def uptoBulkEntries {H : Type} : List (Lit × DataW H) → Nat
  | [] => 0
  | x :: r => uptoBulkEntry x + uptoBulkEntries r
def uptoBulkEntry {H : Type} : Lit × DataW H → Nat
  | (.string bytes, d) => bytes.length + uptoBulk d + 1
  | (_, d) => uptoBulk d + 1
 end
def uptoSmall : (H : Type) → List (DataW H) → Bool := fun _ ds => decide (uptoBulkAll ds ≤ 1048576)
def OpenSpec.upto (s : _root_.Go.ChangeSpec) : _root_.Go.OpenSpec := { _root_.Go.OpenSpec.ofChange s with cond := some uptoSmall }

/-- 'sojournlaw15.DutyRights', WHERE WHAT IT READS IS OF BULK AT MOST 1048576: true; the input reads as it did. -/
def dutyRightsUptoRow : OpenClaim := { program := "ytgphdeelangkfaa", sum := "8a16f0bf59187b9ac7fee047f0532d7e13642516fee9b95b5d8b33bece03a6e8", func := "sojourn/sojournlaw15.DutyRights", spec := "dutyRights", apart := false, narrowed := true }
def DutyRightsUptoSaid : Prop := dutyRightsUptoRow.holds Try.pinned (OpenSpec.upto dutyRightsSpec)

/-- 'sojournlaw15.DutyBegins', WHERE WHAT IT READS IS OF BULK AT MOST 1048576: true; the input reads as it did. -/
def dutyBeginsUptoRow : OpenClaim := { program := "ytgphdeelangkfaa", sum := "8a16f0bf59187b9ac7fee047f0532d7e13642516fee9b95b5d8b33bece03a6e8", func := "sojourn/sojournlaw15.DutyBegins", spec := "dutyBegins", apart := false, narrowed := true }
def DutyBeginsUptoSaid : Prop := dutyBeginsUptoRow.holds Try.pinned (OpenSpec.upto dutyBeginsSpec)

/-- 'sojournlaw15.DutyDones', WHERE WHAT IT READS IS OF BULK AT MOST 1048576: true; the input reads as it did. -/
def dutyDonesUptoRow : OpenClaim := { program := "ytgphdeelangkfaa", sum := "8a16f0bf59187b9ac7fee047f0532d7e13642516fee9b95b5d8b33bece03a6e8", func := "sojourn/sojournlaw15.DutyDones", spec := "dutyDones", apart := false, narrowed := true }
def DutyDonesUptoSaid : Prop := dutyDonesUptoRow.holds Try.pinned (OpenSpec.upto dutyDonesSpec)

/-- 'sojournlaw15.DutyKept', WHERE WHAT IT READS IS OF BULK AT MOST 1048576: true; the input reads as it did. -/
def dutyKeptUptoRow : OpenClaim := { program := "ytgphdeelangkfaa", sum := "8a16f0bf59187b9ac7fee047f0532d7e13642516fee9b95b5d8b33bece03a6e8", func := "sojourn/sojournlaw15.DutyKept", spec := "dutyKept", apart := false, narrowed := true }
def DutyKeptUptoSaid : Prop := dutyKeptUptoRow.holds Try.pinned (OpenSpec.upto dutyKeptSpec)

/-- 'sojournlaw15.DutyLates', WHERE WHAT IT READS IS OF BULK AT MOST 1048576: true; the input reads as it did. -/
def dutyLatesUptoRow : OpenClaim := { program := "ytgphdeelangkfaa", sum := "8a16f0bf59187b9ac7fee047f0532d7e13642516fee9b95b5d8b33bece03a6e8", func := "sojourn/sojournlaw15.DutyLates", spec := "dutyLates", apart := false, narrowed := true }
def DutyLatesUptoSaid : Prop := dutyLatesUptoRow.holds Try.pinned (OpenSpec.upto dutyLatesSpec)

/-- 'sojournlaw15.DutyFirst', WHERE WHAT IT READS IS OF BULK AT MOST 1048576: true; the input reads as it did. -/
def dutyFirstUptoRow : OpenClaim := { program := "ytgphdeelangkfaa", sum := "8a16f0bf59187b9ac7fee047f0532d7e13642516fee9b95b5d8b33bece03a6e8", func := "sojourn/sojournlaw15.DutyFirst", spec := "dutyFirst", apart := false, narrowed := true }
def DutyFirstUptoSaid : Prop := dutyFirstUptoRow.holds Try.pinned (OpenSpec.upto dutyFirstSpec)

end Rows
end Go.Proofs.Ytgphdeelangkfaa
