-- PRINTED by print.py (a twelfth state) out of the translation. Not trusted: Lean checks it.
import Derived.Test.YtmalhnmiaccgpaaProg
import Derived.Below
import Derived.Deep.Draws
import Derived.Deep.AppendLies
import Derived.Maps.AppendAt
import Derived.OwnWalk
import Derived.Laws.BytesArg
import Derived.Laws.MakeOwn
import Derived.Laws.OwnMore
import Derived.Deep.OwnRows
import Derived.Tactics
import Derived.Lib.ConvBytes
import Derived.Laws.Slices
import Derived.WalkKit
import Derived.KernelRfl
import Derived.RowKit3
import Derived.Deep.LoopGhost
import Derived.Deep.QuietTactic
import Derived.BigQuiet
import Derived.WideLaws
import Derived.Deep.DeepCutAuto
import Derived.Deep.CutBlock
import Derived.Deep.RegionHeld3
import Derived.Laws.Rows
import Derived.Lib.AppendStr
import Derived.ArgAppend
import Derived.Laws.IdiomCopy
import Derived.OrdersHeld
import Derived.Laws.BitsLemmas
import Derived.RowKit
import Derived.Test.YtmalhnmiaccgpaaWWords
import Derived.Test.YtmalhnmiaccgpaaWLast
import Derived.Test.YtmalhnmiaccgpaaWTab
import Derived.Test.YtmalhnmiaccgpaaWFour
import Derived.Test.YtmalhnmiaccgpaaWQPut
import Derived.Test.YtmalhnmiaccgpaaWApart
import Derived.Test.YtmalhnmiaccgpaaWArr
import Derived.Test.YtmalhnmiaccgpaaWZeros
import Derived.Test.YtmalhnmiaccgpaaWFoot
import Derived.Test.YtmalhnmiaccgpaaWKept
import Derived.Test.YtmalhnmiaccgpaaWShare
import Derived.Test.YtmalhnmiaccgpaaWN
import Derived.Test.YtmalhnmiaccgpaaWFootNe
import Derived.Test.YtmalhnmiaccgpaaWAt
import Derived.Test.YtmalhnmiaccgpaaWEqStruct
import Derived.Test.YtmalhnmiaccgpaaWRepsOne
import Derived.Test.YtmalhnmiaccgpaaWInv
import Derived.Test.YtmalhnmiaccgpaaWInvWords
import Derived.Test.YtmalhnmiaccgpaaWGuard
import Derived.Test.YtmalhnmiaccgpaaWNEv
import Derived.Test.YtmalhnmiaccgpaaWMore
namespace Go.Proofs.Ytmalhnmiaccgpaa.PAll
open Go.RowKit Go.Proofs.YtmalhnmiaccgpaaW.PrintWords Go.Proofs.YtmalhnmiaccgpaaW.PrintLast Go.Proofs.YtmalhnmiaccgpaaW.PrintMore
attribute [local go_sem] max2_int min2_int max_two min_two max_three min_three max_four min_four   -- for this text's walks alone
set_option linter.unusedVariables false
set_option linter.unusedSimpArgs false



def errW : Option Int → Value
  | none => .nilIface
  | some c => .iface 0 (.int .i64 c)
theorem errW_none : errW none = .nilIface := rfl
theorem errW_some (c : Int) : errW (some c) = .iface 0 (.int .i64 c) := rfl

-- the values' own types

end Go.Proofs.Ytmalhnmiaccgpaa.PAll
