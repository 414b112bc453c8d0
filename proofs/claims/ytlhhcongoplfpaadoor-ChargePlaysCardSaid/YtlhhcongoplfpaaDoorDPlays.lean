/- What functions of this program do, each as a contract that its callers use, and what follows of it in plain numbers.
   By an AI agent. -/
import Derived.Test.YtlhhcongoplfpaaDoorAB
import Derived.Test.YtlhhcongoplfpaaDoorDLO
import Derived.Test.YtlhhcongoplfpaaDoorDP_true
import Derived.Test.YtlhhcongoplfpaaDoorDP_false
import Derived.Test.YtlhhcongoplfpaaDoorABM
namespace Go.Proofs.YtlhhcongoplfpaaDoor
open Go Go.Proofs.YtlhhcongoplfpaaDoorAB
variable {G : Nat}
set_option linter.unusedSimpArgs false
set_option linter.unusedVariables false

theorem chargePlays (n m k a b : Int) (kn : Bool) (o5 : Option Addr) (l5 c5 f5 : Nat) (z5 : List (Int × Bool × Int × Bool × Int × Bool)) (b5 : AObj) (h5 : 0 < l5 → o5 = some ⟨0, f5, none⟩ ∧ b5 = .ro f5 (z5.flatMap (triIB .i64)) ∧ l5 ≤ z5.length) : Ctr Tryd.prog G 16 [I64 n, I64 m, I64 k, .agg #[I64 (a), I64 (b)], .bool kn, .slice o5 l5 c5] [(0, b5)] (.bool true) [b5] := by
  cases kn
  · exact plays_false n m k a b o5 l5 c5 f5 z5 b5 h5
  · exact plays_true n m k a b o5 l5 c5 f5 z5 b5 h5
end Go.Proofs.YtlhhcongoplfpaaDoor
