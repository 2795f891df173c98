/-
  No cell of these rows narrows 'for every input' (looked for: loops, veiled, ifaces, maps, wideKeys, modest, calm, conditions, laid).
  DERIVED. THE GIVEN ROWS OF THIS SEAT. 3 by the template 'for every input the law returns true; each argument reads behind the call as it read before'; 0 by the template 'total and deterministic' (their statements: YtelpppmnakblmaaTotals.lean).
  GIVEN WITH THE SEED: the statements are not yours to turn. If you find one false, say at which input.
  Laid BY PROGRAM, IN A SANDBOX (cutbox-rows.mjs): the forced cells as the released guide's own fill.sh prints them over the translation 05c691783f0439fa… (all of the seat's roots in one cut). By AI agents, Wed Nov 11 2026. No macro, syntax, notation, axiom, sorry.
-/
import Derived.Test.YtelpppmnakblmaaChecked
import GoSem.Claim
import GoSem.ClaimJoined
import GoSem.ClaimMapViews
import Derived.JoinedTies
import Derived.KernelRfl
namespace Go.Proofs.Ytelpppmnakblmaa
/- THE CELL 'sum', in the pinned program and in every row, IS THE sha256 OF THE DUMP (.gsa) THAT YtelpppmnakblmaaProg.lean LOADS. Nothing in Lean hashes anything: it is a label: what it is worth is what the hold of that sum in a sandbox is worth. -/
noncomputable def Try.pinned : Pinned := { name := "ytelpppmnakblmaa", sum := "05c691783f0439fa3049e8ce77bc23ab034124817cb43a7b93425848185a9753", checked := Try.checked }
namespace Rows
def none {H : Type} : Left H := { results := [], args := [] }

/-- 'sojournlaw03.ValueOrders': WHATEVER THE INPUT: true; the input reads as it did. -/
def valueOrdersSpec : ChangeSpec := { name := "valueOrders", fn := fun _ => fun
  | [d1, d2, d3] => { results := [.lit (.bool true)], args := [d1, d2, d3] }
  | _ => none }
def valueOrdersRow : OpenClaim := { program := "ytelpppmnakblmaa", sum := "05c691783f0439fa3049e8ce77bc23ab034124817cb43a7b93425848185a9753", func := "sojourn/sojournlaw03.ValueOrders", spec := "valueOrders", apart := false }
def ValueOrdersSaid : Prop := valueOrdersRow.holds Try.pinned (OpenSpec.ofChange valueOrdersSpec)

/-- ITS FALSE NEIGHBOUR: 'it returns false'. Refute it at one input. -/
def valueOrdersWrong : ChangeSpec := { name := "valueOrders", fn := fun _ => fun
  | [d1, d2, d3] => { results := [.lit (.bool false)], args := [d1, d2, d3] }
  | _ => none }
def ValueOrdersWrongFalsely : Prop := valueOrdersRow.holds Try.pinned (OpenSpec.ofChange valueOrdersWrong)

/-- 'sojournlaw03.ValueCells': WHATEVER THE INPUT: true; the input reads as it did. -/
def valueCellsSpec : ChangeSpec := { name := "valueCells", fn := fun _ => fun
  | [d1, d2] => { results := [.lit (.bool true)], args := [d1, d2] }
  | _ => none }
def valueCellsRow : OpenClaim := { program := "ytelpppmnakblmaa", sum := "05c691783f0439fa3049e8ce77bc23ab034124817cb43a7b93425848185a9753", func := "sojourn/sojournlaw03.ValueCells", spec := "valueCells", apart := false }
def ValueCellsSaid : Prop := valueCellsRow.holds Try.pinned (OpenSpec.ofChange valueCellsSpec)

/-- ITS FALSE NEIGHBOUR: 'it returns false'. Refute it at one input. -/
def valueCellsWrong : ChangeSpec := { name := "valueCells", fn := fun _ => fun
  | [d1, d2] => { results := [.lit (.bool false)], args := [d1, d2] }
  | _ => none }
def ValueCellsWrongFalsely : Prop := valueCellsRow.holds Try.pinned (OpenSpec.ofChange valueCellsWrong)

/-- 'sojournlaw03.ValueLess': WHATEVER THE INPUT: true; the input reads as it did. -/
def valueLessSpec : ChangeSpec := { name := "valueLess", fn := fun _ => fun
  | [d1, d2, d3] => { results := [.lit (.bool true)], args := [d1, d2, d3] }
  | _ => none }
def valueLessRow : OpenClaim := { program := "ytelpppmnakblmaa", sum := "05c691783f0439fa3049e8ce77bc23ab034124817cb43a7b93425848185a9753", func := "sojourn/sojournlaw03.ValueLess", spec := "valueLess", inPlace := ["math.Float64bits", "math.Float64frombits"], apart := false }
def ValueLessSaid : Prop := valueLessRow.holds Try.pinned (OpenSpec.ofChange valueLessSpec)

/-- ITS FALSE NEIGHBOUR: 'it returns false'. Refute it at one input. -/
def valueLessWrong : ChangeSpec := { name := "valueLess", fn := fun _ => fun
  | [d1, d2, d3] => { results := [.lit (.bool false)], args := [d1, d2, d3] }
  | _ => none }
def ValueLessWrongFalsely : Prop := valueLessRow.holds Try.pinned (OpenSpec.ofChange valueLessWrong)

/- THE SECOND FORM. 'bulk': how many values and letters a reading holds, each counted each time it is reached (what is shared counts as often as it is met; a slice's spare places count too). A statement '..UptoSaid' is the law's where the arguments, and the package variables that the reading takes, are together of bulk at most 1048576: NARROWER than '..Said'. Prove '..Said' where nothing that the law and all that it calls make is longer than what came in: it says more and counts as full. Else prove '..UptoSaid'. A law counts once. -/
mutual
def uptoBulk {H : Type} : DataW H → Nat
  | .lit (.string bytes) => bytes.length + 1
  | .lit _ => 1
  | .nil => 1
  | .ptr d => uptoBulk d + 1
  | .slice elems spare => uptoBulkAll elems + uptoBulkAll spare + 1
  | .agg parts => uptoBulkAll parts + 1
  | .iface _ d => uptoBulk d + 1
  | .map entries => uptoBulkEntries entries + 1
  | .held _ => 1
def uptoBulkAll {H : Type} : List (DataW H) → Nat
  | [] => 0
  | d :: r => uptoBulk d + uptoBulkAll r
def uptoBulkEntries {H : Type} : List (Lit × DataW H) → Nat
  | [] => 0
  | x :: r => uptoBulkEntry x + uptoBulkEntries r
def uptoBulkEntry {H : Type} : Lit × DataW H → Nat
  | (.string bytes, d) => bytes.length + uptoBulk d + 1
  | (_, d) => uptoBulk d + 1
 end
def uptoSmall : (H : Type) → List (DataW H) → Bool := fun _ ds => decide (uptoBulkAll ds ≤ 1048576)
def OpenSpec.upto (s : _root_.Go.ChangeSpec) : _root_.Go.OpenSpec := { _root_.Go.OpenSpec.ofChange s with cond := some uptoSmall }

/-- 'sojournlaw03.ValueOrders', WHERE WHAT IT READS IS OF BULK AT MOST 1048576: true; the input reads as it did. -/
def valueOrdersUptoRow : OpenClaim := { program := "ytelpppmnakblmaa", sum := "05c691783f0439fa3049e8ce77bc23ab034124817cb43a7b93425848185a9753", func := "sojourn/sojournlaw03.ValueOrders", spec := "valueOrders", apart := false, narrowed := true }
def ValueOrdersUptoSaid : Prop := valueOrdersUptoRow.holds Try.pinned (OpenSpec.upto valueOrdersSpec)

/-- 'sojournlaw03.ValueCells', WHERE WHAT IT READS IS OF BULK AT MOST 1048576: true; the input reads as it did. -/
def valueCellsUptoRow : OpenClaim := { program := "ytelpppmnakblmaa", sum := "05c691783f0439fa3049e8ce77bc23ab034124817cb43a7b93425848185a9753", func := "sojourn/sojournlaw03.ValueCells", spec := "valueCells", apart := false, narrowed := true }
def ValueCellsUptoSaid : Prop := valueCellsUptoRow.holds Try.pinned (OpenSpec.upto valueCellsSpec)

/-- 'sojournlaw03.ValueLess', WHERE WHAT IT READS IS OF BULK AT MOST 1048576: true; the input reads as it did. -/
def valueLessUptoRow : OpenClaim := { program := "ytelpppmnakblmaa", sum := "05c691783f0439fa3049e8ce77bc23ab034124817cb43a7b93425848185a9753", func := "sojourn/sojournlaw03.ValueLess", spec := "valueLess", inPlace := ["math.Float64bits", "math.Float64frombits"], apart := false, narrowed := true }
def ValueLessUptoSaid : Prop := valueLessUptoRow.holds Try.pinned (OpenSpec.upto valueLessSpec)

end Rows
end Go.Proofs.Ytelpppmnakblmaa
