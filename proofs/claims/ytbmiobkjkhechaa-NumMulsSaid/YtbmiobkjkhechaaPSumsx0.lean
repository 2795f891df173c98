-- PRINTED by print.py (a twelfth state) out of the translation. Not trusted: Lean checks it.
import Derived.Test.YtbmiobkjkhechaaProg
import Derived.Below
import Derived.Deep.Draws
import Derived.Deep.AppendLies
import Derived.Maps.AppendAt
import Derived.OwnWalk
import Derived.Laws.BytesArg
import Derived.Laws.MakeOwn
import Derived.Laws.OwnMore
import Derived.Deep.OwnRows
import Derived.Tactics
import Derived.Lib.ConvBytes
import Derived.Laws.Slices
import Derived.WalkKit
import Derived.KernelRfl
import Derived.RowKit3
import Derived.Deep.LoopGhost
import Derived.Deep.QuietTactic
import Derived.BigQuiet
import Derived.WideLaws
import Derived.Deep.DeepCutAuto
import Derived.Deep.CutBlock
import Derived.Deep.RegionHeld3
import Derived.Laws.Rows
import Derived.Lib.AppendStr
import Derived.ArgAppend
import Derived.Laws.IdiomCopy
import Derived.OrdersHeld
import Derived.Laws.BitsLemmas
import Derived.RowKit
import Derived.Test.YtbmiobkjkhechaaWWords
import Derived.Test.YtbmiobkjkhechaaWLast
import Derived.Test.YtbmiobkjkhechaaWTab
import Derived.Test.YtbmiobkjkhechaaWFour
import Derived.Test.YtbmiobkjkhechaaWQPut
import Derived.Test.YtbmiobkjkhechaaWApart
import Derived.Test.YtbmiobkjkhechaaWArr
import Derived.Test.YtbmiobkjkhechaaWZeros
import Derived.Test.YtbmiobkjkhechaaWFoot
import Derived.Test.YtbmiobkjkhechaaWKept
import Derived.Test.YtbmiobkjkhechaaWShare
import Derived.Test.YtbmiobkjkhechaaWN
import Derived.Test.YtbmiobkjkhechaaWFootNe
import Derived.Test.YtbmiobkjkhechaaWAt
import Derived.Test.YtbmiobkjkhechaaWEqStruct
import Derived.Test.YtbmiobkjkhechaaWRepsOne
import Derived.Test.YtbmiobkjkhechaaWInv
import Derived.Test.YtbmiobkjkhechaaWInvWords
import Derived.Test.YtbmiobkjkhechaaWGuard
import Derived.Test.YtbmiobkjkhechaaWNEv
import Derived.Test.YtbmiobkjkhechaaWMore
namespace Go.Proofs.Ytbmiobkjkhechaa.PSums
open Go.RowKit Go.Proofs.YtbmiobkjkhechaaW.PrintWords Go.Proofs.YtbmiobkjkhechaaW.PrintLast Go.Proofs.YtbmiobkjkhechaaW.PrintMore
attribute [local go_sem] max2_int min2_int max_two min_two max_three min_three max_four min_four   -- for this text's walks alone
set_option linter.unusedVariables false
set_option linter.unusedSimpArgs false



def errW : Option Int → Value
  | none => .nilIface
  | some c => .iface 0 (.int .i64 c)
theorem errW_none : errW none = .nilIface := rfl
theorem errW_some (c : Int) : errW (some c) = .iface 0 (.int .i64 c) := rfl

-- the values' own types

end Go.Proofs.Ytbmiobkjkhechaa.PSums
