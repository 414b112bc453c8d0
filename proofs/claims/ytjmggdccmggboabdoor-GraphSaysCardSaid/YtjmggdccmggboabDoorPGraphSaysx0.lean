-- written by this work with wip/mkprint2.py
import Derived.Test.YtjmggdccmggboabDoorProg
import Derived.Below
import Derived.Deep.Draws
import Derived.Deep.AppendLies
import Derived.Maps.AppendAt
import Derived.OwnWalk
import Derived.Laws.BytesArg
import Derived.Laws.MakeOwn
import Derived.Laws.OwnMore
import Derived.Deep.OwnRows
import Derived.Tactics
import Derived.Lib.ConvBytes
import Derived.Laws.Slices
import Derived.WalkKit
import Derived.KernelRfl
import Derived.RowKit3
import Derived.Deep.LoopGhost
import Derived.Deep.QuietTactic
import Derived.BigQuiet
import Derived.WideLaws
import Derived.Deep.DeepCutAuto
import Derived.Deep.CutBlock
import Derived.Deep.RegionHeld3
import Derived.Laws.Rows
import Derived.Lib.AppendStr
import Derived.ArgAppend
import Derived.Laws.IdiomCopy
import Derived.OrdersHeld
import Derived.Laws.BitsLemmas
import Derived.RowKit
import Derived.Test.YtjmggdccmggboabDoorWWords
import Derived.Test.YtjmggdccmggboabDoorWLast
import Derived.Test.YtjmggdccmggboabDoorWTab
import Derived.Test.YtjmggdccmggboabDoorWFour
import Derived.Test.YtjmggdccmggboabDoorWQPut
import Derived.Test.YtjmggdccmggboabDoorWApart
import Derived.Test.YtjmggdccmggboabDoorWArr
import Derived.Test.YtjmggdccmggboabDoorWZeros
import Derived.Test.YtjmggdccmggboabDoorWFoot
import Derived.Test.YtjmggdccmggboabDoorWKept
import Derived.Test.YtjmggdccmggboabDoorWShare
import Derived.Test.YtjmggdccmggboabDoorWN
import Derived.Test.YtjmggdccmggboabDoorWFootNe
import Derived.Test.YtjmggdccmggboabDoorWAt
import Derived.Test.YtjmggdccmggboabDoorWEqStruct
import Derived.Test.YtjmggdccmggboabDoorWRepsOne
import Derived.Test.YtjmggdccmggboabDoorWInv
import Derived.Test.YtjmggdccmggboabDoorWInvWords
import Derived.Test.YtjmggdccmggboabDoorWGuard
import Derived.Test.YtjmggdccmggboabDoorWNEv
import Derived.Test.YtjmggdccmggboabDoorWMore
import Derived.Test.YtjmggdccmggboabDoorTz
namespace Go.Proofs.YtjmggdccmggboabDoor.PGraphSays
open Go.RowKit Go.Proofs.YtjmggdccmggboabDoorW.PrintWords Go.Proofs.YtjmggdccmggboabDoorW.PrintLast Go.Proofs.YtjmggdccmggboabDoorW.PrintMore
attribute [local go_sem] max2_int min2_int max_two min_two max_three min_three max_four min_four   -- for this text's walks alone
set_option linter.unusedVariables false
set_option linter.unusedSimpArgs false
open Go.Proofs.YtjmggdccmggboabDoor.Tz



def errW : Option Int → Value
 | none => .nilIface
 | some c => .iface 0 (.int .i64 c)
theorem errW_none : errW none = .nilIface := rfl
theorem errW_some (c : Int) : errW (some c) = .iface 0 (.int .i64 c) := rfl

-- the values' own types

end Go.Proofs.YtjmggdccmggboabDoor.PGraphSays
