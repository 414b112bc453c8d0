-- written by this work with wip/mkprint2.py
import Derived.Test.YtjmggdccmggboaaProg
import Derived.Below
import Derived.Deep.Draws
import Derived.Deep.AppendLies
import Derived.Maps.AppendAt
import Derived.OwnWalk
import Derived.Laws.BytesArg
import Derived.Laws.MakeOwn
import Derived.Laws.OwnMore
import Derived.Deep.OwnRows
import Derived.Tactics
import Derived.Lib.ConvBytes
import Derived.Laws.Slices
import Derived.WalkKit
import Derived.KernelRfl
import Derived.RowKit3
import Derived.Deep.LoopGhost
import Derived.Deep.QuietTactic
import Derived.BigQuiet
import Derived.WideLaws
import Derived.Deep.DeepCutAuto
import Derived.Deep.CutBlock
import Derived.Deep.RegionHeld3
import Derived.Laws.Rows
import Derived.Lib.AppendStr
import Derived.ArgAppend
import Derived.Laws.IdiomCopy
import Derived.OrdersHeld
import Derived.Laws.BitsLemmas
import Derived.RowKit
import Derived.Test.YtjmggdccmggboaaWWords
import Derived.Test.YtjmggdccmggboaaWLast
import Derived.Test.YtjmggdccmggboaaWTab
import Derived.Test.YtjmggdccmggboaaWFour
import Derived.Test.YtjmggdccmggboaaWQPut
import Derived.Test.YtjmggdccmggboaaWApart
import Derived.Test.YtjmggdccmggboaaWArr
import Derived.Test.YtjmggdccmggboaaWZeros
import Derived.Test.YtjmggdccmggboaaWFoot
import Derived.Test.YtjmggdccmggboaaWKept
import Derived.Test.YtjmggdccmggboaaWShare
import Derived.Test.YtjmggdccmggboaaWN
import Derived.Test.YtjmggdccmggboaaWFootNe
import Derived.Test.YtjmggdccmggboaaWAt
import Derived.Test.YtjmggdccmggboaaWEqStruct
import Derived.Test.YtjmggdccmggboaaWRepsOne
import Derived.Test.YtjmggdccmggboaaWInv
import Derived.Test.YtjmggdccmggboaaWInvWords
import Derived.Test.YtjmggdccmggboaaWGuard
import Derived.Test.YtjmggdccmggboaaWNEv
import Derived.Test.YtjmggdccmggboaaWMore
namespace Go.Proofs.Ytjmggdccmggboaa.PSequenceTurns
open Go.RowKit Go.Proofs.YtjmggdccmggboaaW.PrintWords Go.Proofs.YtjmggdccmggboaaW.PrintLast Go.Proofs.YtjmggdccmggboaaW.PrintMore
attribute [local go_sem] max2_int min2_int max_two min_two max_three min_three max_four min_four   -- for this text's walks alone
set_option linter.unusedVariables false
set_option linter.unusedSimpArgs false



def errW : Option Int → Value
 | none => .nilIface
 | some c => .iface 0 (.int .i64 c)
theorem errW_none : errW none = .nilIface := rfl
theorem errW_some (c : Int) : errW (some c) = .iface 0 (.int .i64 c) := rfl

-- the values' own types

end Go.Proofs.Ytjmggdccmggboaa.PSequenceTurns
