/- What functions of this program do, each as a contract that its callers use.
   By an AI agent. -/
import Derived.Test.YtlhhcongoplfpaaDoorAB
import Derived.Test.YtlhhcongoplfpaaDoorLayD
import Derived.Test.YtlhhcongoplfpaaDoorDS11
import Derived.Test.YtlhhcongoplfpaaDoorABW
namespace Go.Proofs.YtlhhcongoplfpaaDoor
open Go Go.Proofs.YtlhhcongoplfpaaDoorAB
variable {G : Nat}
set_option linter.unusedSimpArgs false
set_option linter.unusedVariables false

theorem red_in {M : Int} (hM : 0 < M) (hM2 : M ≤ 1000000000) (v : Int) : 0 ≤ (IntKind.i64.wrap (v.tmod M + M)).tmod M ∧ (IntKind.i64.wrap (v.tmod M + M)).tmod M < M := by
  have h1 : -M < v.tmod M := Int.lt_tmod_of_pos v hM
  have h2 : v.tmod M < M := Int.tmod_lt_of_pos v hM
  rw [wrap_in (by omega) (by omega)]
  exact ⟨Int.tmod_nonneg _ (by omega), Int.tmod_lt_of_pos _ hM⟩
theorem same_ab {a b : Int} : a = a ∧ b = b := ⟨rfl, rfl⟩
theorem rem_in {M : Int} (hM : 0 < M) (v : Int) : -M < v.tmod M ∧ v.tmod M < M := ⟨Int.lt_tmod_of_pos v hM, Int.tmod_lt_of_pos v hM⟩
end Go.Proofs.YtlhhcongoplfpaaDoor
