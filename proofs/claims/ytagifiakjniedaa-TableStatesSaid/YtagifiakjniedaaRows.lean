/-
  No cell of these rows narrows 'for every input' (looked for: loops, veiled, ifaces, maps, wideKeys, modest, calm, conditions, laid).
  DERIVED. THE GIVEN ROWS OF THIS SEAT. 7 by the template 'for every input the law returns true; each argument reads behind the call as it read before'; 0 by the template 'total and deterministic' (their statements: YtagifiakjniedaaTotals.lean).
  GIVEN WITH THE SEED: the statements are not yours to turn. If you find one false, say at which input.
  Laid BY PROGRAM, IN A SANDBOX (cutbox-rows.mjs): the forced cells as the released guide's own fill.sh prints them over the translation f36f731879726f4a… (all of the seat's roots in one cut). By AI agents, Wed Nov 11 2026. No macro, syntax, notation, axiom, sorry.
-/
import Derived.Test.YtagifiakjniedaaChecked
import GoSem.Claim
import GoSem.ClaimJoined
import GoSem.ClaimMapViews
import Derived.JoinedTies
import Derived.KernelRfl
namespace Go.Proofs.Ytagifiakjniedaa
/- THE CELL 'sum', in the pinned program and in every row, IS THE sha256 OF THE DUMP (.gsa) THAT YtagifiakjniedaaProg.lean LOADS. Nothing in Lean hashes anything: it is a label: what it is worth is what the hold of that sum in a sandbox is worth. -/
noncomputable def Try.pinned : Pinned := { name := "ytagifiakjniedaa", sum := "f36f731879726f4ada6c0af88b4dda927ce74820d9f4c9018599c93a7217c82a", checked := Try.checked }
namespace Rows
def none {H : Type} : Left H := { results := [], args := [] }

/-- 'sojournlaw16.TableMemory': WHATEVER THE INPUT: true; the input reads as it did. -/
def tableMemorySpec : ChangeSpec := { name := "tableMemory", fn := fun _ => fun
  | [d1, d2, d3] => { results := [.lit (.bool true)], args := [d1, d2, d3] }
  | _ => none }
def tableMemoryRow : OpenClaim := { program := "ytagifiakjniedaa", sum := "f36f731879726f4ada6c0af88b4dda927ce74820d9f4c9018599c93a7217c82a", func := "sojourn/sojournlaw16.TableMemory", spec := "tableMemory", unfollowed := true, recurses := true, apart := false }
def TableMemorySaid : Prop := tableMemoryRow.holds Try.pinned (OpenSpec.ofChange tableMemorySpec)

/-- ITS FALSE NEIGHBOUR: 'it returns false'. Refute it at one input. -/
def tableMemoryWrong : ChangeSpec := { name := "tableMemory", fn := fun _ => fun
  | [d1, d2, d3] => { results := [.lit (.bool false)], args := [d1, d2, d3] }
  | _ => none }
def TableMemoryWrongFalsely : Prop := tableMemoryRow.holds Try.pinned (OpenSpec.ofChange tableMemoryWrong)

/-- 'sojournlaw16.TableOn': WHATEVER THE INPUT: true; the input reads as it did. -/
def tableOnSpec : ChangeSpec := { name := "tableOn", fn := fun _ => fun
  | [d] => { results := [.lit (.bool true)], args := [d] }
  | _ => none }
def tableOnRow : OpenClaim := { program := "ytagifiakjniedaa", sum := "f36f731879726f4ada6c0af88b4dda927ce74820d9f4c9018599c93a7217c82a", func := "sojourn/sojournlaw16.TableOn", spec := "tableOn", unfollowed := true, recurses := true, apart := false }
def TableOnSaid : Prop := tableOnRow.holds Try.pinned (OpenSpec.ofChange tableOnSpec)

/-- ITS FALSE NEIGHBOUR: 'it returns false'. Refute it at one input. -/
def tableOnWrong : ChangeSpec := { name := "tableOn", fn := fun _ => fun
  | [d] => { results := [.lit (.bool false)], args := [d] }
  | _ => none }
def TableOnWrongFalsely : Prop := tableOnRow.holds Try.pinned (OpenSpec.ofChange tableOnWrong)

/-- 'sojournlaw16.TableStates': WHATEVER THE INPUT: true; the input reads as it did. -/
def tableStatesSpec : ChangeSpec := { name := "tableStates", fn := fun _ => fun
  | [d] => { results := [.lit (.bool true)], args := [d] }
  | _ => none }
def tableStatesRow : OpenClaim := { program := "ytagifiakjniedaa", sum := "f36f731879726f4ada6c0af88b4dda927ce74820d9f4c9018599c93a7217c82a", func := "sojourn/sojournlaw16.TableStates", spec := "tableStates", unfollowed := true, recurses := true, apart := false }
def TableStatesSaid : Prop := tableStatesRow.holds Try.pinned (OpenSpec.ofChange tableStatesSpec)

/-- ITS FALSE NEIGHBOUR: 'it returns false'. Refute it at one input. -/
def tableStatesWrong : ChangeSpec := { name := "tableStates", fn := fun _ => fun
  | [d] => { results := [.lit (.bool false)], args := [d] }
  | _ => none }
def TableStatesWrongFalsely : Prop := tableStatesRow.holds Try.pinned (OpenSpec.ofChange tableStatesWrong)

/-- 'sojournlaw16.TableAll': WHATEVER THE INPUT: true; the input reads as it did. -/
def tableAllSpec : ChangeSpec := { name := "tableAll", fn := fun _ => fun
  | [d] => { results := [.lit (.bool true)], args := [d] }
  | _ => none }
def tableAllRow : OpenClaim := { program := "ytagifiakjniedaa", sum := "f36f731879726f4ada6c0af88b4dda927ce74820d9f4c9018599c93a7217c82a", func := "sojourn/sojournlaw16.TableAll", spec := "tableAll", unfollowed := true, recurses := true, apart := false }
def TableAllSaid : Prop := tableAllRow.holds Try.pinned (OpenSpec.ofChange tableAllSpec)

/-- ITS FALSE NEIGHBOUR: 'it returns false'. Refute it at one input. -/
def tableAllWrong : ChangeSpec := { name := "tableAll", fn := fun _ => fun
  | [d] => { results := [.lit (.bool false)], args := [d] }
  | _ => none }
def TableAllWrongFalsely : Prop := tableAllRow.holds Try.pinned (OpenSpec.ofChange tableAllWrong)

/-- 'sojournlaw16.TableClones': WHATEVER THE INPUT: true; the input reads as it did. -/
def tableClonesSpec : ChangeSpec := { name := "tableClones", fn := fun _ => fun
  | [d] => { results := [.lit (.bool true)], args := [d] }
  | _ => none }
def tableClonesRow : OpenClaim := { program := "ytagifiakjniedaa", sum := "f36f731879726f4ada6c0af88b4dda927ce74820d9f4c9018599c93a7217c82a", func := "sojourn/sojournlaw16.TableClones", spec := "tableClones", unfollowed := true, recurses := true, apart := false }
def TableClonesSaid : Prop := tableClonesRow.holds Try.pinned (OpenSpec.ofChange tableClonesSpec)

/-- ITS FALSE NEIGHBOUR: 'it returns false'. Refute it at one input. -/
def tableClonesWrong : ChangeSpec := { name := "tableClones", fn := fun _ => fun
  | [d] => { results := [.lit (.bool false)], args := [d] }
  | _ => none }
def TableClonesWrongFalsely : Prop := tableClonesRow.holds Try.pinned (OpenSpec.ofChange tableClonesWrong)

/-- 'sojournlaw16.TableLoads': WHATEVER THE INPUT: true; the input reads as it did. -/
def tableLoadsSpec : ChangeSpec := { name := "tableLoads", fn := fun _ => fun
  | [d1, d2] => { results := [.lit (.bool true)], args := [d1, d2] }
  | _ => none }
def tableLoadsRow : OpenClaim := { program := "ytagifiakjniedaa", sum := "f36f731879726f4ada6c0af88b4dda927ce74820d9f4c9018599c93a7217c82a", func := "sojourn/sojournlaw16.TableLoads", spec := "tableLoads", unfollowed := true, recurses := true, apart := false }
def TableLoadsSaid : Prop := tableLoadsRow.holds Try.pinned (OpenSpec.ofChange tableLoadsSpec)

/-- ITS FALSE NEIGHBOUR: 'it returns false'. Refute it at one input. -/
def tableLoadsWrong : ChangeSpec := { name := "tableLoads", fn := fun _ => fun
  | [d1, d2] => { results := [.lit (.bool false)], args := [d1, d2] }
  | _ => none }
def TableLoadsWrongFalsely : Prop := tableLoadsRow.holds Try.pinned (OpenSpec.ofChange tableLoadsWrong)

/-- 'sojournlaw16.TableBack': WHATEVER THE INPUT: true; the input reads as it did. -/
def tableBackSpec : ChangeSpec := { name := "tableBack", fn := fun _ => fun
  | [d1, d2] => { results := [.lit (.bool true)], args := [d1, d2] }
  | _ => none }
def tableBackRow : OpenClaim := { program := "ytagifiakjniedaa", sum := "f36f731879726f4ada6c0af88b4dda927ce74820d9f4c9018599c93a7217c82a", func := "sojourn/sojournlaw16.TableBack", spec := "tableBack", unfollowed := true, recurses := true, apart := false }
def TableBackSaid : Prop := tableBackRow.holds Try.pinned (OpenSpec.ofChange tableBackSpec)

/-- ITS FALSE NEIGHBOUR: 'it returns false'. Refute it at one input. -/
def tableBackWrong : ChangeSpec := { name := "tableBack", fn := fun _ => fun
  | [d1, d2] => { results := [.lit (.bool false)], args := [d1, d2] }
  | _ => none }
def TableBackWrongFalsely : Prop := tableBackRow.holds Try.pinned (OpenSpec.ofChange tableBackWrong)

/- THE SECOND FORM. 'bulk': how many values and letters a reading holds, each counted each time it is reached (what is shared counts as often as it is met; a slice's spare places count too). A statement '..UptoSaid' is the law's where the arguments, and the package variables that the reading takes, are together of bulk at most 1048576: NARROWER than '..Said'. Prove '..Said' where nothing that the law and all that it calls make is longer than what came in: it says more and counts as full. Else prove '..UptoSaid'. A law counts once. -/
mutual
def uptoBulk {H : Type} : DataW H → Nat
  | .lit (.string bytes) => bytes.length + 1
  | .lit _ => 1
  | .nil => 1
  | .ptr d => uptoBulk d + 1
  | .slice elems spare => uptoBulkAll elems + uptoBulkAll spare + 1
  | .agg parts => uptoBulkAll parts + 1
  | .iface _ d => uptoBulk d + 1
  | .map entries => uptoBulkEntries entries + 1
  | .held _ => 1
def uptoBulkAll {H : Type} : List (DataW H) → Nat
  | [] => 0
  | d :: r => uptoBulk d + uptoBulkAll r
def uptoBulkEntries {H : Type} : List (Lit × DataW H) → Nat
  | [] => 0
  | x :: r => uptoBulkEntry x + uptoBulkEntries r
def uptoBulkEntry {H : Type} : Lit × DataW H → Nat
  | (.string bytes, d) => bytes.length + uptoBulk d + 1
  | (_, d) => uptoBulk d + 1
 end
def uptoSmall : (H : Type) → List (DataW H) → Bool := fun _ ds => decide (uptoBulkAll ds ≤ 1048576)
def OpenSpec.upto (s : _root_.Go.ChangeSpec) : _root_.Go.OpenSpec := { _root_.Go.OpenSpec.ofChange s with cond := some uptoSmall }

/-- 'sojournlaw16.TableMemory', WHERE WHAT IT READS IS OF BULK AT MOST 1048576: true; the input reads as it did. -/
def tableMemoryUptoRow : OpenClaim := { program := "ytagifiakjniedaa", sum := "f36f731879726f4ada6c0af88b4dda927ce74820d9f4c9018599c93a7217c82a", func := "sojourn/sojournlaw16.TableMemory", spec := "tableMemory", unfollowed := true, recurses := true, apart := false, narrowed := true }
def TableMemoryUptoSaid : Prop := tableMemoryUptoRow.holds Try.pinned (OpenSpec.upto tableMemorySpec)

/-- 'sojournlaw16.TableOn', WHERE WHAT IT READS IS OF BULK AT MOST 1048576: true; the input reads as it did. -/
def tableOnUptoRow : OpenClaim := { program := "ytagifiakjniedaa", sum := "f36f731879726f4ada6c0af88b4dda927ce74820d9f4c9018599c93a7217c82a", func := "sojourn/sojournlaw16.TableOn", spec := "tableOn", unfollowed := true, recurses := true, apart := false, narrowed := true }
def TableOnUptoSaid : Prop := tableOnUptoRow.holds Try.pinned (OpenSpec.upto tableOnSpec)

/-- 'sojournlaw16.TableStates', WHERE WHAT IT READS IS OF BULK AT MOST 1048576: true; the input reads as it did. -/
def tableStatesUptoRow : OpenClaim := { program := "ytagifiakjniedaa", sum := "f36f731879726f4ada6c0af88b4dda927ce74820d9f4c9018599c93a7217c82a", func := "sojourn/sojournlaw16.TableStates", spec := "tableStates", unfollowed := true, recurses := true, apart := false, narrowed := true }
def TableStatesUptoSaid : Prop := tableStatesUptoRow.holds Try.pinned (OpenSpec.upto tableStatesSpec)

/-- 'sojournlaw16.TableAll', WHERE WHAT IT READS IS OF BULK AT MOST 1048576: true; the input reads as it did. -/
def tableAllUptoRow : OpenClaim := { program := "ytagifiakjniedaa", sum := "f36f731879726f4ada6c0af88b4dda927ce74820d9f4c9018599c93a7217c82a", func := "sojourn/sojournlaw16.TableAll", spec := "tableAll", unfollowed := true, recurses := true, apart := false, narrowed := true }
def TableAllUptoSaid : Prop := tableAllUptoRow.holds Try.pinned (OpenSpec.upto tableAllSpec)

/-- 'sojournlaw16.TableClones', WHERE WHAT IT READS IS OF BULK AT MOST 1048576: true; the input reads as it did. -/
def tableClonesUptoRow : OpenClaim := { program := "ytagifiakjniedaa", sum := "f36f731879726f4ada6c0af88b4dda927ce74820d9f4c9018599c93a7217c82a", func := "sojourn/sojournlaw16.TableClones", spec := "tableClones", unfollowed := true, recurses := true, apart := false, narrowed := true }
def TableClonesUptoSaid : Prop := tableClonesUptoRow.holds Try.pinned (OpenSpec.upto tableClonesSpec)

/-- 'sojournlaw16.TableLoads', WHERE WHAT IT READS IS OF BULK AT MOST 1048576: true; the input reads as it did. -/
def tableLoadsUptoRow : OpenClaim := { program := "ytagifiakjniedaa", sum := "f36f731879726f4ada6c0af88b4dda927ce74820d9f4c9018599c93a7217c82a", func := "sojourn/sojournlaw16.TableLoads", spec := "tableLoads", unfollowed := true, recurses := true, apart := false, narrowed := true }
def TableLoadsUptoSaid : Prop := tableLoadsUptoRow.holds Try.pinned (OpenSpec.upto tableLoadsSpec)

/-- 'sojournlaw16.TableBack', WHERE WHAT IT READS IS OF BULK AT MOST 1048576: true; the input reads as it did. -/
def tableBackUptoRow : OpenClaim := { program := "ytagifiakjniedaa", sum := "f36f731879726f4ada6c0af88b4dda927ce74820d9f4c9018599c93a7217c82a", func := "sojourn/sojournlaw16.TableBack", spec := "tableBack", unfollowed := true, recurses := true, apart := false, narrowed := true }
def TableBackUptoSaid : Prop := tableBackUptoRow.holds Try.pinned (OpenSpec.upto tableBackSpec)

end Rows
end Go.Proofs.Ytagifiakjniedaa
