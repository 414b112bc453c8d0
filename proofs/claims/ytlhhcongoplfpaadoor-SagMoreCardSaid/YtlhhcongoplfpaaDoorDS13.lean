/- What functions of this program do, each as a contract that its callers use.
   By an AI agent. -/
import Derived.Test.YtlhhcongoplfpaaDoorAB
import Derived.Test.YtlhhcongoplfpaaDoorLayD
import Derived.Test.YtlhhcongoplfpaaDoorDS12
import Derived.Test.YtlhhcongoplfpaaDoorABW
namespace Go.Proofs.YtlhhcongoplfpaaDoor
open Go Go.Proofs.YtlhhcongoplfpaaDoorAB
variable {G : Nat}
set_option linter.unusedSimpArgs false
set_option linter.unusedVariables false

theorem more_in (x : Int) : 10000 ≤ (IntKind.i64.wrap (10000 + (IntKind.i64.wrap (x.tmod 40001 + 40001)).tmod 40001)) ∧ (IntKind.i64.wrap (10000 + (IntKind.i64.wrap (x.tmod 40001 + 40001)).tmod 40001)) ≤ 50000 := by
  have h := red_in (M := 40001) (by decide) (by decide) x
  rw [wrap_in (x := 10000 + _) (by omega) (by omega)]; omega
theorem more_e (z : Int) : 100 ≤ (IntKind.i64.wrap (100 + (IntKind.i64.wrap (z.tmod 1000 + 1000)).tmod 1000)) ∧ (IntKind.i64.wrap (100 + (IntKind.i64.wrap (z.tmod 1000 + 1000)).tmod 1000)) ≤ 1100 := by
  have h := red_in (M := 1000) (by decide) (by decide) z
  rw [wrap_in (x := 100 + _) (by omega) (by omega)]; omega
theorem more_law {v w a b e : Int} (h1 : v ≤ w) (h2 : a ≤ b) (e1 : 100 ≤ e) :
    hLo 4 oX oY (v + dn (a * 20) 1000 - 100) (v + up (a * 20) 1000 + 100) ≤ hLo 4 oX oY (w + dn (a * 20) 1000 - 100) (w + up (a * 20) 1000 + 100) ∧ hHi 4 oX oY (v + dn (a * 20) 1000 - 100) (v + up (a * 20) 1000 + 100) ≤ hHi 4 oX oY (w + dn (a * 20) 1000 - 100) (w + up (a * 20) 1000 + 100) ∧ hLo 4 oX oY (v + dn (a * 20) 1000 - 100) (v + up (a * 20) 1000 + 100) ≤ hLo 4 oX oY (v + dn (b * 20) 1000 - 100) (v + up (b * 20) 1000 + 100) ∧ hHi 4 oX oY (v + dn (a * 20) 1000 - 100) (v + up (a * 20) 1000 + 100) ≤ hHi 4 oX oY (v + dn (b * 20) 1000 - 100) (v + up (b * 20) 1000 + 100) ∧ (hLo 4 oX oY (v + dn (a * 20) 1000 - e) (v + up (a * 20) 1000 + e) ≤ hLo 4 oX oY (v + dn (a * 20) 1000 - 100) (v + up (a * 20) 1000 + 100) ∧ hHi 4 oX oY (v + dn (a * 20) 1000 - 100) (v + up (a * 20) 1000 + 100) ≤ hHi 4 oX oY (v + dn (a * 20) 1000 - e) (v + up (a * 20) 1000 + e)) := by
  have d1 : dn (a * 20) 1000 ≤ dn (b * 20) 1000 := dn_mono (by decide) (by omega)
  have d2 : up (a * 20) 1000 ≤ up (b * 20) 1000 := up_mono (by decide) (by omega)
  have d3 := (dn_up (a := a * 20) (b := 1000) (by decide)).1
  have p := ocOk.h_mono (y := v + dn (a * 20) 1000 - 100) (y' := w + dn (a * 20) 1000 - 100) (w := v + up (a * 20) 1000 + 100) (w' := w + up (a * 20) 1000 + 100) (by omega) (by omega)
  have q := ocOk.h_mono (y := v + dn (a * 20) 1000 - 100) (y' := v + dn (b * 20) 1000 - 100) (w := v + up (a * 20) 1000 + 100) (w' := v + up (b * 20) 1000 + 100) (by omega) (by omega)
  have r := ocOk.h_wide (y := v + dn (a * 20) 1000 - 100) (y' := v + dn (a * 20) 1000 - e) (w := v + up (a * 20) 1000 + 100) (w' := v + up (a * 20) 1000 + e) (by omega) (by omega) (by omega)
  exact ⟨p.1, p.2, q.1, q.2, r.1, r.2⟩
end Go.Proofs.YtlhhcongoplfpaaDoor
