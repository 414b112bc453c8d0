/- What functions of this program do, each as a contract that its callers use.
   By an AI agent. -/
import Derived.Test.YtlhhcongoplfpaaDoorABW
/-! A record of a number and a truth value that the input brings. -/
namespace Go.Proofs.YtlhhcongoplfpaaDoorAB
set_option linter.unusedVariables false
set_option linter.unusedSimpArgs false
open Go
theorem aggIB {P : Program} {w : World} {r : Reach} {base : Nat} {t e u : TypeId} {k : IntKind} {fs : Array Field} {v : Value} (hu : P.underlying t = some (.struct fs)) (hc : P.cellTypes P.depth t = some [e, u]) (hn : P.cellsOf t = 2) (he : P.underlying e = some (.int k)) (hb : P.underlying u = some .bool)
    (hv : Value.okWide P w r base t v) : ∃ a b, v = .agg #[.int k a, .bool b] := by
  have cellInt : ∀ x, Cell.okWide P w r base e x → ∃ n, x = .int k n := fun x hx => by
    simp only [Cell.okWide, he] at hx
    cases x <;> simp_all [Cell.ok]
  have cellBool : ∀ x, Cell.okWide P w r base u x → ∃ n, x = .bool n := fun x hx => by
    simp only [Cell.okWide, hb] at hx
    cases x <;> simp_all [Cell.ok]
  simp only [Value.okWide, hu] at hv
  obtain ⟨⟨cs⟩, rfl, hs, ts, h1, _, h2⟩ := hv
  rw [hc] at h1
  cases h1
  rw [hn] at hs
  match cs, hs with
  | [x, y], _ =>
    obtain ⟨u0, hu0, hx⟩ := h2 0 x rfl
    obtain ⟨u1, hu1, hy⟩ := h2 1 y rfl
    cases hu0
    cases hu1
    obtain ⟨a, rfl⟩ := cellInt x hx
    obtain ⟨b, rfl⟩ := cellBool y hy
    exact ⟨a, b, rfl⟩
end Go.Proofs.YtlhhcongoplfpaaDoorAB
