/- What functions of this program do, each as a contract that its callers use.
   By an AI agent. -/
import Derived.Test.YtlhhcongoplfpaaDoorAB
import Derived.Test.YtlhhcongoplfpaaDoorLayD
import Derived.Test.YtlhhcongoplfpaaDoorDC9
import Derived.Test.YtlhhcongoplfpaaDoorDC10
import Derived.Test.YtlhhcongoplfpaaDoorABW
namespace Go.Proofs.YtlhhcongoplfpaaDoor
open Go Go.Proofs.YtlhhcongoplfpaaDoorAB
variable {G : Nat}
set_option linter.unusedSimpArgs false
set_option linter.unusedVariables false

theorem apart_q (a : Int) : 40000 ≤ (IntKind.i64.wrap (40000 + (IntKind.i64.wrap (a.tmod 20001 + 20001)).tmod 20001)) ∧ (IntKind.i64.wrap (40000 + (IntKind.i64.wrap (a.tmod 20001 + 20001)).tmod 20001)) ≤ 60000 := by
  have h := red_in (M := 20001) (by decide) (by decide) a
  rw [wrap_in (x := 40000 + _) (by omega) (by omega)]; omega
theorem apart_j (j : Int) : 20000 ≤ (IntKind.i64.wrap (20000 + (IntKind.i64.wrap (j.tmod 200001 + 200001)).tmod 200001)) ∧ (IntKind.i64.wrap (20000 + (IntKind.i64.wrap (j.tmod 200001 + 200001)).tmod 200001)) ≤ 220000 := by
  have h := red_in (M := 200001) (by decide) (by decide) j
  rw [wrap_in (x := 20000 + _) (by omega) (by omega)]; omega
theorem apart_t {q : Int} (h : 40000 ≤ q) : 23666 ≤ tLo 4 oX oY q := by
  have := (ocOk.mono h).1
  rw [show tLo 4 oX oY 40000 = 23666 by decide] at this
  exact this
theorem dn0 : dn (0 * 20) 1000 = 0 := by decide
theorem ref_MeetT (a b c d : Int) (h : mIs a b c d = true) : Ctr Tryd.prog G 64 [.agg #[I64 (a), I64 (b)], .agg #[I64 (c), I64 (d)]] [] (.tuple #[.agg #[I64 (mLo a b c d), I64 (mHi a b c d)], .bool true]) [] := by
  have g := ref_Meet (G := G) a b c d
  rw [h] at g
  exact g
theorem apart_v {t J : Int} (t1 : 23666 ≤ t) (t2 : t ≤ 28000) (j1 : 20000 ≤ J) (j2 : J ≤ 220000) : (-4611686018427387904 ≤ IntKind.i64.wrap (J * 20) ∧ IntKind.i64.wrap (J * 20) ≤ 4611686018427387904) ∧ IntKind.i64.wrap (t - dn (IntKind.i64.wrap (J * 20)) 1000) = t - dn (J * 20) 1000 ∧ ¬ t - dn (J * 20) 1000 < 10000 := by
  have d : dn (J * 20) 1000 ≤ 4400 ∧ 0 ≤ dn (J * 20) 1000 := by unfold dn; omega
  rw [wrap_in (x := J * 20) (by omega) (by omega), wrap_in (by omega) (by omega)]
  omega
end Go.Proofs.YtlhhcongoplfpaaDoor
