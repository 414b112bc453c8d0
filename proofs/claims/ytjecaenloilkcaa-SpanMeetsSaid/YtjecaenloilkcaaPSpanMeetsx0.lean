-- written by this work with wip/mkprint2.py
import Derived.Test.YtjecaenloilkcaaProg
import Derived.Below
import Derived.Deep.Draws
import Derived.Deep.AppendLies
import Derived.Maps.AppendAt
import Derived.OwnWalk
import Derived.Laws.BytesArg
import Derived.Laws.MakeOwn
import Derived.Laws.OwnMore
import Derived.Deep.OwnRows
import Derived.Tactics
import Derived.Lib.ConvBytes
import Derived.Laws.Slices
import Derived.WalkKit
import Derived.KernelRfl
import Derived.RowKit3
import Derived.Deep.LoopGhost
import Derived.Deep.QuietTactic
import Derived.BigQuiet
import Derived.WideLaws
import Derived.Deep.DeepCutAuto
import Derived.Deep.CutBlock
import Derived.Deep.RegionHeld3
import Derived.Laws.Rows
import Derived.Lib.AppendStr
import Derived.ArgAppend
import Derived.Laws.IdiomCopy
import Derived.OrdersHeld
import Derived.Laws.BitsLemmas
import Derived.RowKit
import Derived.Test.YtjecaenloilkcaaWWords
import Derived.Test.YtjecaenloilkcaaWLast
import Derived.Test.YtjecaenloilkcaaWTab
import Derived.Test.YtjecaenloilkcaaWFour
import Derived.Test.YtjecaenloilkcaaWQPut
import Derived.Test.YtjecaenloilkcaaWApart
import Derived.Test.YtjecaenloilkcaaWArr
import Derived.Test.YtjecaenloilkcaaWZeros
import Derived.Test.YtjecaenloilkcaaWFoot
import Derived.Test.YtjecaenloilkcaaWKept
import Derived.Test.YtjecaenloilkcaaWShare
import Derived.Test.YtjecaenloilkcaaWN
import Derived.Test.YtjecaenloilkcaaWFootNe
import Derived.Test.YtjecaenloilkcaaWAt
import Derived.Test.YtjecaenloilkcaaWEqStruct
import Derived.Test.YtjecaenloilkcaaWRepsOne
import Derived.Test.YtjecaenloilkcaaWInv
import Derived.Test.YtjecaenloilkcaaWInvWords
import Derived.Test.YtjecaenloilkcaaWGuard
import Derived.Test.YtjecaenloilkcaaWNEv
import Derived.Test.YtjecaenloilkcaaWMore
namespace Go.Proofs.Ytjecaenloilkcaa.PSpanMeets
open Go.RowKit Go.Proofs.YtjecaenloilkcaaW.PrintWords Go.Proofs.YtjecaenloilkcaaW.PrintLast Go.Proofs.YtjecaenloilkcaaW.PrintMore
attribute [local go_sem] max2_int min2_int max_two min_two max_three min_three max_four min_four   -- for this text's walks alone
set_option linter.unusedVariables false
set_option linter.unusedSimpArgs false



def errW : Option Int → Value
 | none => .nilIface
 | some c => .iface 0 (.int .i64 c)
theorem errW_none : errW none = .nilIface := rfl
theorem errW_some (c : Int) : errW (some c) = .iface 0 (.int .i64 c) := rfl

-- the values' own types

end Go.Proofs.Ytjecaenloilkcaa.PSpanMeets
