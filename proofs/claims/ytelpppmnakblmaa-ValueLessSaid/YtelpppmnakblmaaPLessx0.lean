-- PRINTED by print.py (a twelfth state) out of the translation. Not trusted: Lean checks it.
import Derived.Test.YtelpppmnakblmaaProg
import Derived.Below
import Derived.Deep.Draws
import Derived.Deep.AppendLies
import Derived.Maps.AppendAt
import Derived.OwnWalk
import Derived.Laws.BytesArg
import Derived.Laws.MakeOwn
import Derived.Laws.OwnMore
import Derived.Deep.OwnRows
import Derived.Tactics
import Derived.Lib.ConvBytes
import Derived.Laws.Slices
import Derived.WalkKit
import Derived.KernelRfl
import Derived.RowKit3
import Derived.Deep.LoopGhost
import Derived.Deep.QuietTactic
import Derived.BigQuiet
import Derived.WideLaws
import Derived.Deep.DeepCutAuto
import Derived.Deep.CutBlock
import Derived.Deep.RegionHeld3
import Derived.Laws.Rows
import Derived.Lib.AppendStr
import Derived.ArgAppend
import Derived.Laws.IdiomCopy
import Derived.OrdersHeld
import Derived.Laws.BitsLemmas
import Derived.RowKit
import Derived.Test.YtelpppmnakblmaaFlt
import Derived.Test.YtelpppmnakblmaaWWords
import Derived.Test.YtelpppmnakblmaaWLast
import Derived.Test.YtelpppmnakblmaaWTab
import Derived.Test.YtelpppmnakblmaaWFour
import Derived.Test.YtelpppmnakblmaaWQPut
import Derived.Test.YtelpppmnakblmaaWApart
import Derived.Test.YtelpppmnakblmaaWArr
import Derived.Test.YtelpppmnakblmaaWZeros
import Derived.Test.YtelpppmnakblmaaWFoot
import Derived.Test.YtelpppmnakblmaaWKept
import Derived.Test.YtelpppmnakblmaaWShare
import Derived.Test.YtelpppmnakblmaaWN
import Derived.Test.YtelpppmnakblmaaWFootNe
import Derived.Test.YtelpppmnakblmaaWAt
import Derived.Test.YtelpppmnakblmaaWEqStruct
import Derived.Test.YtelpppmnakblmaaWRepsOne
import Derived.Test.YtelpppmnakblmaaWInv
import Derived.Test.YtelpppmnakblmaaWInvWords
import Derived.Test.YtelpppmnakblmaaWGuard
import Derived.Test.YtelpppmnakblmaaWNEv
import Derived.Test.YtelpppmnakblmaaWMore
namespace Go.Proofs.Ytelpppmnakblmaa.PLess
open Go.RowKit Go.Proofs.YtelpppmnakblmaaW.PrintWords Go.Proofs.YtelpppmnakblmaaW.PrintLast Go.Proofs.YtelpppmnakblmaaW.PrintMore
attribute [local go_sem] max2_int min2_int max_two min_two max_three min_three max_four min_four   -- for this text's walks alone
set_option linter.unusedVariables false
set_option linter.unusedSimpArgs false



def errW : Option Int → Value
  | none => .nilIface
  | some c => .iface 0 (.int .i64 c)
theorem errW_none : errW none = .nilIface := rfl
theorem errW_some (c : Int) : errW (some c) = .iface 0 (.int .i64 c) := rfl

-- the values' own types

end Go.Proofs.Ytelpppmnakblmaa.PLess
