-- made by a program of this repo (wip/patch_print.py); not trusted: Lean checks it
import Derived.Test.YtkmdhpmgbcdlmaaDoorProg
import Derived.Below
import Derived.Deep.Draws
import Derived.Deep.AppendLies
import Derived.Maps.AppendAt
import Derived.OwnWalk
import Derived.Laws.BytesArg
import Derived.Laws.MakeOwn
import Derived.Laws.OwnMore
import Derived.Deep.OwnRows
import Derived.Tactics
import Derived.Lib.ConvBytes
import Derived.Laws.Slices
import Derived.WalkKit
import Derived.KernelRfl
import Derived.RowKit3
import Derived.Deep.LoopGhost
import Derived.Deep.QuietTactic
import Derived.BigQuiet
import Derived.WideLaws
import Derived.Deep.DeepCutAuto
import Derived.Deep.CutBlock
import Derived.Deep.RegionHeld3
import Derived.Laws.Rows
import Derived.Lib.AppendStr
import Derived.ArgAppend
import Derived.Laws.IdiomCopy
import Derived.OrdersHeld
import Derived.Laws.BitsLemmas
import Derived.RowKit
import Derived.Test.YtkmdhpmgbcdlmaaDoorShelf
import Derived.Test.YtkmdhpmgbcdlmaaDoorH
import Derived.Test.YtkmdhpmgbcdlmaaDoorWWords
import Derived.Test.YtkmdhpmgbcdlmaaDoorWLast
import Derived.Test.YtkmdhpmgbcdlmaaDoorWTab
import Derived.Test.YtkmdhpmgbcdlmaaDoorWFour
import Derived.Test.YtkmdhpmgbcdlmaaDoorWQPut
import Derived.Test.YtkmdhpmgbcdlmaaDoorWApart
import Derived.Test.YtkmdhpmgbcdlmaaDoorWArr
import Derived.Test.YtkmdhpmgbcdlmaaDoorWZeros
import Derived.Test.YtkmdhpmgbcdlmaaDoorWFoot
import Derived.Test.YtkmdhpmgbcdlmaaDoorWKept
import Derived.Test.YtkmdhpmgbcdlmaaDoorWShare
import Derived.Test.YtkmdhpmgbcdlmaaDoorWN
import Derived.Test.YtkmdhpmgbcdlmaaDoorWFootNe
import Derived.Test.YtkmdhpmgbcdlmaaDoorWAt
import Derived.Test.YtkmdhpmgbcdlmaaDoorWEqStruct
import Derived.Test.YtkmdhpmgbcdlmaaDoorWRepsOne
import Derived.Test.YtkmdhpmgbcdlmaaDoorWInv
import Derived.Test.YtkmdhpmgbcdlmaaDoorWInvWords
import Derived.Test.YtkmdhpmgbcdlmaaDoorWGuard
import Derived.Test.YtkmdhpmgbcdlmaaDoorWNEv
import Derived.Test.YtkmdhpmgbcdlmaaDoorWMore
namespace Go.Proofs.YtkmdhpmgbcdlmaaDoor.PWavePitches
open Go.RowKit Go.Proofs.YtkmdhpmgbcdlmaaDoorW.PrintWords Go.Proofs.YtkmdhpmgbcdlmaaDoorW.PrintLast Go.Proofs.YtkmdhpmgbcdlmaaDoorW.PrintMore
attribute [local go_sem] max2_int min2_int max_two min_two max_three min_three max_four min_four   -- for this text's walks alone
set_option linter.unusedVariables false
set_option linter.unusedSimpArgs false



def errW : Option Int → Value
  | none => .nilIface
  | some c => .iface 0 (.int .i64 c)
theorem errW_none : errW none = .nilIface := rfl
theorem errW_some (c : Int) : errW (some c) = .iface 0 (.int .i64 c) := rfl

-- the values' own types

end Go.Proofs.YtkmdhpmgbcdlmaaDoor.PWavePitches
