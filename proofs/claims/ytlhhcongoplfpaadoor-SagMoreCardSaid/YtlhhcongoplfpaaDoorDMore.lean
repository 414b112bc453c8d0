/- What functions of this program do, each as a contract that its callers use.
   By an AI agent. -/
import Derived.Test.YtlhhcongoplfpaaDoorAB
import Derived.Test.YtlhhcongoplfpaaDoorLayD
import Derived.Test.YtlhhcongoplfpaaDoorDMore0
import Derived.Test.YtlhhcongoplfpaaDoorDMore1
import Derived.Test.YtlhhcongoplfpaaDoorDMore2
import Derived.Test.YtlhhcongoplfpaaDoorDMore3
import Derived.Test.YtlhhcongoplfpaaDoorABW
namespace Go.Proofs.YtlhhcongoplfpaaDoor
open Go Go.Proofs.YtlhhcongoplfpaaDoorAB
variable {G : Nat}
set_option linter.unusedSimpArgs false
set_option linter.unusedVariables false

theorem sagMore (n v w a b z : Int) : Ctr Tryd.prog G 10 [I64 n, I64 v, I64 w, I64 a, I64 b, I64 z] [] (.bool true) [] := by
  by_cases hv : (IntKind.i64.wrap (10000 + (IntKind.i64.wrap (v.tmod 40001 + 40001)).tmod 40001)) > (IntKind.i64.wrap (10000 + (IntKind.i64.wrap (w.tmod 40001 + 40001)).tmod 40001))
  · by_cases ha : (a.tmod 501) > (b.tmod 501)
    · exact sagMore3 n v w a b z hv ha
    · exact sagMore1 n v w a b z hv ha
  · by_cases ha : (a.tmod 501) > (b.tmod 501)
    · exact sagMore2 n v w a b z hv ha
    · exact sagMore0 n v w a b z hv ha
end Go.Proofs.YtlhhcongoplfpaaDoor
