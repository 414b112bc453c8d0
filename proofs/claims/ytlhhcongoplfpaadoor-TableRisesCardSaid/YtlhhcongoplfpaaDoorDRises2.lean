/- What functions of this program do, each as a contract that its callers use, and what follows of it in plain numbers.
   By an AI agent. -/
import Derived.Test.YtlhhcongoplfpaaDoorAB
import Derived.Test.YtlhhcongoplfpaaDoorDLO
import Derived.Test.YtlhhcongoplfpaaDoorDRises
import Derived.Test.YtlhhcongoplfpaaDoorDRises1
import Derived.Test.YtlhhcongoplfpaaDoorABM
namespace Go.Proofs.YtlhhcongoplfpaaDoor
open Go Go.Proofs.YtlhhcongoplfpaaDoorAB
variable {G : Nat}
set_option linter.unusedSimpArgs false
set_option linter.unusedVariables false

theorem tableRisesA (x0 a b0 : Int) (o : Option Addr) (l c f : Nat) (z : List Int) (b : AObj) (h0 : 0 < l → o = some ⟨0, f, none⟩ ∧ b = .ro f (z.map I64) ∧ l ≤ z.length) : Ctr Tryd.prog G 6 [.slice o l c, I64 x0, I64 a, I64 b0] [(0, b)] (.bool true) [b] := by
  by_cases h1 : (l : Int) < 4
  · exact tableRises_few x0 a b0 o l c f z b h0 h1
  · by_cases h2 : (l : Int) > 40
    · exact tableRises_many x0 a b0 o l c f z b h0 h2
    · exact tableRises x0 a b0 o l c f z b h0 (by omega) (by omega)
end Go.Proofs.YtlhhcongoplfpaaDoor
