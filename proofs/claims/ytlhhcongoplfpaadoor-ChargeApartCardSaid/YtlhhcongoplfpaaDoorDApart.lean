/- What functions of this program do, each as a contract that its callers use.
   By an AI agent. -/
import Derived.Test.YtlhhcongoplfpaaDoorAB
import Derived.Test.YtlhhcongoplfpaaDoorLayD
import Derived.Test.YtlhhcongoplfpaaDoorDApart1
import Derived.Test.YtlhhcongoplfpaaDoorDApart0
import Derived.Test.YtlhhcongoplfpaaDoorABW
namespace Go.Proofs.YtlhhcongoplfpaaDoor
open Go Go.Proofs.YtlhhcongoplfpaaDoorAB
variable {G : Nat}
set_option linter.unusedSimpArgs false
set_option linter.unusedVariables false

theorem chargeApart (n a j : Int) (b : Bool) : Ctr Tryd.prog G 19 [I64 n, I64 a, I64 j, .bool b] [] (.bool true) [] := by
  cases b
  · exact apart0 n a j
  · exact apart1 n a j
end Go.Proofs.YtlhhcongoplfpaaDoor
