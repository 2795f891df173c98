/-
  No cell of these rows narrows 'for every input' (looked for: loops, veiled, ifaces, maps, wideKeys, modest, calm, conditions, laid).
  DERIVED. THE GIVEN ROWS OF THIS SEAT. 6 by the template 'for every input the law returns true; each argument reads behind the call as it read before'; 0 by the template 'total and deterministic' (their statements: YtbmiobkjkhechaaTotals.lean).
  GIVEN WITH THE SEED: the statements are not yours to turn. If you find one false, say at which input.
  Laid BY PROGRAM, IN A SANDBOX (cutbox-rows.mjs): the forced cells as the released guide's own fill.sh prints them over the translation 4ed14a140d93419d… (all of the seat's roots in one cut). By AI agents, Wed Nov 11 2026. No macro, syntax, notation, axiom, sorry.
-/
import Derived.Test.YtbmiobkjkhechaaChecked
import GoSem.Claim
import GoSem.ClaimJoined
import GoSem.ClaimMapViews
import Derived.JoinedTies
import Derived.KernelRfl
namespace Go.Proofs.Ytbmiobkjkhechaa
/- THE CELL 'sum', in the pinned program and in every row, IS THE sha256 OF THE DUMP (.gsa) THAT YtbmiobkjkhechaaProg.lean LOADS. Nothing in Lean hashes anything: it is a label: what it is worth is what the hold of that sum in a sandbox is worth. -/
noncomputable def Try.pinned : Pinned := { name := "ytbmiobkjkhechaa", sum := "4ed14a140d93419db8f3dcf0bcc3ec41589afae3a8caa83c66283b2baefe42bb", checked := Try.checked }
namespace Rows
def none {H : Type} : Left H := { results := [], args := [] }

/-- 'sojournlaw01.NumAdds': WHATEVER THE INPUT: true; the input reads as it did. -/
def numAddsSpec : ChangeSpec := { name := "numAdds", fn := fun _ => fun
  | [d1, d2] => { results := [.lit (.bool true)], args := [d1, d2] }
  | _ => none }
def numAddsRow : OpenClaim := { program := "ytbmiobkjkhechaa", sum := "4ed14a140d93419db8f3dcf0bcc3ec41589afae3a8caa83c66283b2baefe42bb", func := "sojourn/sojournlaw01.NumAdds", spec := "numAdds", apart := false }
def NumAddsSaid : Prop := numAddsRow.holds Try.pinned (OpenSpec.ofChange numAddsSpec)

/-- ITS FALSE NEIGHBOUR: 'it returns false'. Refute it at one input. -/
def numAddsWrong : ChangeSpec := { name := "numAdds", fn := fun _ => fun
  | [d1, d2] => { results := [.lit (.bool false)], args := [d1, d2] }
  | _ => none }
def NumAddsWrongFalsely : Prop := numAddsRow.holds Try.pinned (OpenSpec.ofChange numAddsWrong)

/-- 'sojournlaw01.NumDivs': WHATEVER THE INPUT: true; the input reads as it did. -/
def numDivsSpec : ChangeSpec := { name := "numDivs", fn := fun _ => fun
  | [d1, d2] => { results := [.lit (.bool true)], args := [d1, d2] }
  | _ => none }
def numDivsRow : OpenClaim := { program := "ytbmiobkjkhechaa", sum := "4ed14a140d93419db8f3dcf0bcc3ec41589afae3a8caa83c66283b2baefe42bb", func := "sojourn/sojournlaw01.NumDivs", spec := "numDivs", apart := false }
def NumDivsSaid : Prop := numDivsRow.holds Try.pinned (OpenSpec.ofChange numDivsSpec)

/-- ITS FALSE NEIGHBOUR: 'it returns false'. Refute it at one input. -/
def numDivsWrong : ChangeSpec := { name := "numDivs", fn := fun _ => fun
  | [d1, d2] => { results := [.lit (.bool false)], args := [d1, d2] }
  | _ => none }
def NumDivsWrongFalsely : Prop := numDivsRow.holds Try.pinned (OpenSpec.ofChange numDivsWrong)

/-- 'sojournlaw01.NumMuls': WHATEVER THE INPUT: true; the input reads as it did. -/
def numMulsSpec : ChangeSpec := { name := "numMuls", fn := fun _ => fun
  | [d1, d2] => { results := [.lit (.bool true)], args := [d1, d2] }
  | _ => none }
def numMulsRow : OpenClaim := { program := "ytbmiobkjkhechaa", sum := "4ed14a140d93419db8f3dcf0bcc3ec41589afae3a8caa83c66283b2baefe42bb", func := "sojourn/sojournlaw01.NumMuls", spec := "numMuls", apart := false }
def NumMulsSaid : Prop := numMulsRow.holds Try.pinned (OpenSpec.ofChange numMulsSpec)

/-- ITS FALSE NEIGHBOUR: 'it returns false'. Refute it at one input. -/
def numMulsWrong : ChangeSpec := { name := "numMuls", fn := fun _ => fun
  | [d1, d2] => { results := [.lit (.bool false)], args := [d1, d2] }
  | _ => none }
def NumMulsWrongFalsely : Prop := numMulsRow.holds Try.pinned (OpenSpec.ofChange numMulsWrong)

/-- 'sojournlaw01.NumSpreads': WHATEVER THE INPUT: true; the input reads as it did. -/
def numSpreadsSpec : ChangeSpec := { name := "numSpreads", fn := fun _ => fun
  | [d1, d2, d3] => { results := [.lit (.bool true)], args := [d1, d2, d3] }
  | _ => none }
def numSpreadsRow : OpenClaim := { program := "ytbmiobkjkhechaa", sum := "4ed14a140d93419db8f3dcf0bcc3ec41589afae3a8caa83c66283b2baefe42bb", func := "sojourn/sojournlaw01.NumSpreads", spec := "numSpreads", apart := false }
def NumSpreadsSaid : Prop := numSpreadsRow.holds Try.pinned (OpenSpec.ofChange numSpreadsSpec)

/-- ITS FALSE NEIGHBOUR: 'it returns false'. Refute it at one input. -/
def numSpreadsWrong : ChangeSpec := { name := "numSpreads", fn := fun _ => fun
  | [d1, d2, d3] => { results := [.lit (.bool false)], args := [d1, d2, d3] }
  | _ => none }
def NumSpreadsWrongFalsely : Prop := numSpreadsRow.holds Try.pinned (OpenSpec.ofChange numSpreadsWrong)

/-- 'sojournlaw01.NumTakesBack': WHATEVER THE INPUT: true; the input reads as it did. -/
def numTakesBackSpec : ChangeSpec := { name := "numTakesBack", fn := fun _ => fun
  | [d1, d2] => { results := [.lit (.bool true)], args := [d1, d2] }
  | _ => none }
def numTakesBackRow : OpenClaim := { program := "ytbmiobkjkhechaa", sum := "4ed14a140d93419db8f3dcf0bcc3ec41589afae3a8caa83c66283b2baefe42bb", func := "sojourn/sojournlaw01.NumTakesBack", spec := "numTakesBack", apart := false }
def NumTakesBackSaid : Prop := numTakesBackRow.holds Try.pinned (OpenSpec.ofChange numTakesBackSpec)

/-- ITS FALSE NEIGHBOUR: 'it returns false'. Refute it at one input. -/
def numTakesBackWrong : ChangeSpec := { name := "numTakesBack", fn := fun _ => fun
  | [d1, d2] => { results := [.lit (.bool false)], args := [d1, d2] }
  | _ => none }
def NumTakesBackWrongFalsely : Prop := numTakesBackRow.holds Try.pinned (OpenSpec.ofChange numTakesBackWrong)

/-- 'sojournlaw01.NumShares': WHATEVER THE INPUT: true; the input reads as it did. -/
def numSharesSpec : ChangeSpec := { name := "numShares", fn := fun _ => fun
  | [d1, d2] => { results := [.lit (.bool true)], args := [d1, d2] }
  | _ => none }
def numSharesRow : OpenClaim := { program := "ytbmiobkjkhechaa", sum := "4ed14a140d93419db8f3dcf0bcc3ec41589afae3a8caa83c66283b2baefe42bb", func := "sojourn/sojournlaw01.NumShares", spec := "numShares", apart := false }
def NumSharesSaid : Prop := numSharesRow.holds Try.pinned (OpenSpec.ofChange numSharesSpec)

/-- ITS FALSE NEIGHBOUR: 'it returns false'. Refute it at one input. -/
def numSharesWrong : ChangeSpec := { name := "numShares", fn := fun _ => fun
  | [d1, d2] => { results := [.lit (.bool false)], args := [d1, d2] }
  | _ => none }
def NumSharesWrongFalsely : Prop := numSharesRow.holds Try.pinned (OpenSpec.ofChange numSharesWrong)

/- THE SECOND FORM. 'bulk': how many values and letters a reading holds, each counted each time it is reached (what is shared counts as often as it is met; a slice's spare places count too). A statement '..UptoSaid' is the law's where the arguments, and the package variables that the reading takes, are together of bulk at most 1048576: NARROWER than '..Said'. Prove '..Said' where nothing that the law and all that it calls make is longer than what came in: it says more and counts as full. Else prove '..UptoSaid'. A law counts once. -/
mutual
def uptoBulk {H : Type} : DataW H → Nat
  | .lit (.string bytes) => bytes.length + 1
  | .lit _ => 1
  | .nil => 1
  | .ptr d => uptoBulk d + 1
  | .slice elems spare => uptoBulkAll elems + uptoBulkAll spare + 1
  | .agg parts => uptoBulkAll parts + 1
  | .iface _ d => uptoBulk d + 1
  | .map entries => uptoBulkEntries entries + 1
  | .held _ => 1
def uptoBulkAll {H : Type} : List (DataW H) → Nat
  | [] => 0
  | d :: r => uptoBulk d + uptoBulkAll r
def uptoBulkEntries {H : Type} : List (Lit × DataW H) → Nat
  | [] => 0
  | x :: r => uptoBulkEntry x + uptoBulkEntries r
def uptoBulkEntry {H : Type} : Lit × DataW H → Nat
  | (.string bytes, d) => bytes.length + uptoBulk d + 1
  | (_, d) => uptoBulk d + 1
 end
def uptoSmall : (H : Type) → List (DataW H) → Bool := fun _ ds => decide (uptoBulkAll ds ≤ 1048576)
def OpenSpec.upto (s : _root_.Go.ChangeSpec) : _root_.Go.OpenSpec := { _root_.Go.OpenSpec.ofChange s with cond := some uptoSmall }

/-- 'sojournlaw01.NumAdds', WHERE WHAT IT READS IS OF BULK AT MOST 1048576: true; the input reads as it did. -/
def numAddsUptoRow : OpenClaim := { program := "ytbmiobkjkhechaa", sum := "4ed14a140d93419db8f3dcf0bcc3ec41589afae3a8caa83c66283b2baefe42bb", func := "sojourn/sojournlaw01.NumAdds", spec := "numAdds", apart := false, narrowed := true }
def NumAddsUptoSaid : Prop := numAddsUptoRow.holds Try.pinned (OpenSpec.upto numAddsSpec)

/-- 'sojournlaw01.NumDivs', WHERE WHAT IT READS IS OF BULK AT MOST 1048576: true; the input reads as it did. -/
def numDivsUptoRow : OpenClaim := { program := "ytbmiobkjkhechaa", sum := "4ed14a140d93419db8f3dcf0bcc3ec41589afae3a8caa83c66283b2baefe42bb", func := "sojourn/sojournlaw01.NumDivs", spec := "numDivs", apart := false, narrowed := true }
def NumDivsUptoSaid : Prop := numDivsUptoRow.holds Try.pinned (OpenSpec.upto numDivsSpec)

/-- 'sojournlaw01.NumMuls', WHERE WHAT IT READS IS OF BULK AT MOST 1048576: true; the input reads as it did. -/
def numMulsUptoRow : OpenClaim := { program := "ytbmiobkjkhechaa", sum := "4ed14a140d93419db8f3dcf0bcc3ec41589afae3a8caa83c66283b2baefe42bb", func := "sojourn/sojournlaw01.NumMuls", spec := "numMuls", apart := false, narrowed := true }
def NumMulsUptoSaid : Prop := numMulsUptoRow.holds Try.pinned (OpenSpec.upto numMulsSpec)

/-- 'sojournlaw01.NumSpreads', WHERE WHAT IT READS IS OF BULK AT MOST 1048576: true; the input reads as it did. -/
def numSpreadsUptoRow : OpenClaim := { program := "ytbmiobkjkhechaa", sum := "4ed14a140d93419db8f3dcf0bcc3ec41589afae3a8caa83c66283b2baefe42bb", func := "sojourn/sojournlaw01.NumSpreads", spec := "numSpreads", apart := false, narrowed := true }
def NumSpreadsUptoSaid : Prop := numSpreadsUptoRow.holds Try.pinned (OpenSpec.upto numSpreadsSpec)

/-- 'sojournlaw01.NumTakesBack', WHERE WHAT IT READS IS OF BULK AT MOST 1048576: true; the input reads as it did. -/
def numTakesBackUptoRow : OpenClaim := { program := "ytbmiobkjkhechaa", sum := "4ed14a140d93419db8f3dcf0bcc3ec41589afae3a8caa83c66283b2baefe42bb", func := "sojourn/sojournlaw01.NumTakesBack", spec := "numTakesBack", apart := false, narrowed := true }
def NumTakesBackUptoSaid : Prop := numTakesBackUptoRow.holds Try.pinned (OpenSpec.upto numTakesBackSpec)

/-- 'sojournlaw01.NumShares', WHERE WHAT IT READS IS OF BULK AT MOST 1048576: true; the input reads as it did. -/
def numSharesUptoRow : OpenClaim := { program := "ytbmiobkjkhechaa", sum := "4ed14a140d93419db8f3dcf0bcc3ec41589afae3a8caa83c66283b2baefe42bb", func := "sojourn/sojournlaw01.NumShares", spec := "numShares", apart := false, narrowed := true }
def NumSharesUptoSaid : Prop := numSharesUptoRow.holds Try.pinned (OpenSpec.upto numSharesSpec)

end Rows
end Go.Proofs.Ytbmiobkjkhechaa
