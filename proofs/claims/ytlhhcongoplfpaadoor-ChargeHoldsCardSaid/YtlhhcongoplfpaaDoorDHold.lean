/- What functions of this program do, each as a contract that its callers use, and what follows of it in plain numbers.
   By an AI agent. -/
import Derived.Test.YtlhhcongoplfpaaDoorAB
import Derived.Test.YtlhhcongoplfpaaDoorDLO
import Derived.Test.YtlhhcongoplfpaaDoorDH_0
import Derived.Test.YtlhhcongoplfpaaDoorDH_1
import Derived.Test.YtlhhcongoplfpaaDoorDH_2
import Derived.Test.YtlhhcongoplfpaaDoorABM
namespace Go.Proofs.YtlhhcongoplfpaaDoor
open Go Go.Proofs.YtlhhcongoplfpaaDoorAB
variable {G : Nat}
set_option linter.unusedSimpArgs false
set_option linter.unusedVariables false

theorem chargeHolds (n m k s : Int) (o4 o5 : Option Addr) (wh : Int) (o6 : Option Addr) (l4 c4 l5 c5 l6 c6 f4 f5 f6 : Nat) (z4 z5 : List Int) (z6 : List Bool) (b4 b5 b6 : AObj) (h4 : 0 < l4 → o4 = some ⟨0, f4, none⟩ ∧ b4 = .ro f4 (z4.map I64) ∧ l4 ≤ z4.length) (h5 : 0 < l5 → o5 = some ⟨1, f5, none⟩ ∧ b5 = .ro f5 (z5.map I64) ∧ l5 ≤ z5.length) (h6 : 0 < l6 → o6 = some ⟨2, f6, none⟩ ∧ b6 = .ro f6 (z6.map Value.bool) ∧ l6 ≤ z6.length) : Ctr Tryd.prog G 17 [I64 n, I64 m, I64 k, I64 s, .slice o4 l4 c4, .slice o5 l5 c5, I64 wh, .slice o6 l6 c6] [(0, b4), (1, b5), (2, b6)] (.bool true) [b4, b5, b6] := by
  have hw := red_in (M := 3) (by decide) (by decide) wh
  rcases (show ((IntKind.i64.wrap (wh.tmod 3 + 3)).tmod 3) = 0 ∨ ((IntKind.i64.wrap (wh.tmod 3 + 3)).tmod 3) = 1 ∨ ((IntKind.i64.wrap (wh.tmod 3 + 3)).tmod 3) = 2 by omega) with h | h | h
  · exact hold_0 n m k s o4 o5 wh o6 l4 c4 l5 c5 l6 c6 f4 f5 f6 z4 z5 z6 b4 b5 b6 h4 h5 h6 h
  · exact hold_1 n m k s o4 o5 wh o6 l4 c4 l5 c5 l6 c6 f4 f5 f6 z4 z5 z6 b4 b5 b6 h4 h5 h6 h
  · exact hold_2 n m k s o4 o5 wh o6 l4 c4 l5 c5 l6 c6 f4 f5 f6 z4 z5 z6 b4 b5 b6 h4 h5 h6 h
theorem chargeHoldsA (n m k s wh : Int) (o4 o5 o6 : Option Addr) (l4 c4 l5 c5 l6 c6 f4 f5 f6 : Nat) (z4 z5 : List Int) (z6 : List Bool) (b4 b5 b6 : AObj) (h4 : 0 < l4 → o4 = some ⟨0, f4, none⟩ ∧ b4 = .ro f4 (z4.map I64) ∧ l4 ≤ z4.length) (h5 : 0 < l5 → o5 = some ⟨1, f5, none⟩ ∧ b5 = .ro f5 (z5.map I64) ∧ l5 ≤ z5.length) (h6 : 0 < l6 → o6 = some ⟨2, f6, none⟩ ∧ b6 = .ro f6 (z6.map Value.bool) ∧ l6 ≤ z6.length) : Ctr Tryd.prog G 17 [I64 n, I64 m, I64 k, I64 s, .slice o4 l4 c4, .slice o5 l5 c5, I64 wh, .slice o6 l6 c6] [(0, b4), (1, b5), (2, b6)] (.bool true) [b4, b5, b6] :=
  chargeHolds n m k s o4 o5 wh o6 l4 c4 l5 c5 l6 c6 f4 f5 f6 z4 z5 z6 b4 b5 b6 h4 h5 h6
end Go.Proofs.YtlhhcongoplfpaaDoor
