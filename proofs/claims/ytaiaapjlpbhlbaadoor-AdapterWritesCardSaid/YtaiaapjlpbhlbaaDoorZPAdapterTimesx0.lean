-- made by a program of this repo (wip/patch_print.py); not trusted: Lean checks it
import Derived.Test.YtaiaapjlpbhlbaaDoorProg
import Derived.Below
import Derived.Deep.Draws
import Derived.Deep.AppendLies
import Derived.Maps.AppendAt
import Derived.OwnWalk
import Derived.Laws.BytesArg
import Derived.Laws.MakeOwn
import Derived.Laws.OwnMore
import Derived.Deep.OwnRows
import Derived.Tactics
import Derived.Lib.ConvBytes
import Derived.Laws.Slices
import Derived.WalkKit
import Derived.KernelRfl
import Derived.RowKit3
import Derived.Deep.LoopGhost
import Derived.Deep.QuietTactic
import Derived.BigQuiet
import Derived.WideLaws
import Derived.Deep.DeepCutAuto
import Derived.Deep.CutBlock
import Derived.Deep.RegionHeld3
import Derived.Laws.Rows
import Derived.Lib.AppendStr
import Derived.ArgAppend
import Derived.Laws.IdiomCopy
import Derived.OrdersHeld
import Derived.Laws.BitsLemmas
import Derived.RowKit
import Derived.Test.YtaiaapjlpbhlbaaDoorZShelf
import Derived.Test.YtaiaapjlpbhlbaaDoorZH
import Derived.Test.YtaiaapjlpbhlbaaDoorZWWords
import Derived.Test.YtaiaapjlpbhlbaaDoorZWLast
import Derived.Test.YtaiaapjlpbhlbaaDoorZWTab
import Derived.Test.YtaiaapjlpbhlbaaDoorZWFour
import Derived.Test.YtaiaapjlpbhlbaaDoorZWQPut
import Derived.Test.YtaiaapjlpbhlbaaDoorZWApart
import Derived.Test.YtaiaapjlpbhlbaaDoorZWArr
import Derived.Test.YtaiaapjlpbhlbaaDoorZWZeros
import Derived.Test.YtaiaapjlpbhlbaaDoorZWFoot
import Derived.Test.YtaiaapjlpbhlbaaDoorZWKept
import Derived.Test.YtaiaapjlpbhlbaaDoorZWShare
import Derived.Test.YtaiaapjlpbhlbaaDoorZWN
import Derived.Test.YtaiaapjlpbhlbaaDoorZWFootNe
import Derived.Test.YtaiaapjlpbhlbaaDoorZWAt
import Derived.Test.YtaiaapjlpbhlbaaDoorZWEqStruct
import Derived.Test.YtaiaapjlpbhlbaaDoorZWRepsOne
import Derived.Test.YtaiaapjlpbhlbaaDoorZWInv
import Derived.Test.YtaiaapjlpbhlbaaDoorZWInvWords
import Derived.Test.YtaiaapjlpbhlbaaDoorZWGuard
import Derived.Test.YtaiaapjlpbhlbaaDoorZWNEv
import Derived.Test.YtaiaapjlpbhlbaaDoorZWMore
namespace Go.Proofs.YtaiaapjlpbhlbaaDoor.PAdapterTimes
open Go.RowKit Go.Proofs.YtaiaapjlpbhlbaaDoorW.PrintWords Go.Proofs.YtaiaapjlpbhlbaaDoorW.PrintLast Go.Proofs.YtaiaapjlpbhlbaaDoorW.PrintMore
attribute [local go_sem] max2_int min2_int max_two min_two max_three min_three max_four min_four   -- for this text's walks alone
set_option linter.unusedVariables false
set_option linter.unusedSimpArgs false



def errW : Option Int → Value
 | none => .nilIface
 | some c => .iface 0 (.int .i64 c)
theorem errW_none : errW none = .nilIface := rfl
theorem errW_some (c : Int) : errW (some c) = .iface 0 (.int .i64 c) := rfl

-- the values' own types

end Go.Proofs.YtaiaapjlpbhlbaaDoor.PAdapterTimes
