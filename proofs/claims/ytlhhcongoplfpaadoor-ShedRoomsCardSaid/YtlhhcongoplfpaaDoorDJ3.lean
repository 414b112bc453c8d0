/- What functions of this program do, each as a contract that its callers use, and what follows of it in plain numbers.
   By an AI agent. -/
import Derived.Test.YtlhhcongoplfpaaDoorRows
import Derived.Test.YtlhhcongoplfpaaDoorCards
import Derived.WalkKit
import Derived.ProofKit
import Derived.JoinedOf
import Derived.SevenTiedAt
import Derived.Test.YtlhhcongoplfpaaDoorDJ1
/-! The program's head words: each fact that reads them, by the first three of them alone. -/
namespace Go.Proofs.YtlhhcongoplfpaaDoor.Words
open Go
set_option maxRecDepth 20000
theorem mainIs : Tryd.prog.mainIs = some (true, "58ae36c667b9080c0f832293a9759ee59addeaf486eeea5eaba839f7c2bc58d9".toList) := by
  unfold Program.mainIs
  rw [words, sum_list]
  generalize wordsSigns tailW = r
  kernel_rfl
end Go.Proofs.YtlhhcongoplfpaaDoor.Words
