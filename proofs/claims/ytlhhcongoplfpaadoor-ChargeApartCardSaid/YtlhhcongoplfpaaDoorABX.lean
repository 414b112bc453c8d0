/- What the input's rows and records look like in the memory.
   By an AI agent. -/
import Derived.Test.YtlhhcongoplfpaaDoorAB
import Derived.ChangeSlices
import Derived.WideShapes
/-! What the input's values look like. -/
namespace Go.Proofs.YtlhhcongoplfpaaDoorAB
open Go
/-- A record of two numbers. -/
theorem agg2 {P : Program} {w : World} {r : Reach} {base : Nat} {t e : TypeId} {k : IntKind} {fs : Array Field} {v : Value} (hu : P.underlying t = some (.struct fs)) (hc : P.cellTypes P.depth t = some [e, e]) (hn : P.cellsOf t = 2) (he : P.underlying e = some (.int k))
    (hv : Value.okWide P w r base t v) : ∃ a b, v = .agg #[.int k a, .int k b] := by
  have cellInt : ∀ x, Cell.okWide P w r base e x → ∃ n, x = .int k n := fun x hx => by
    simp only [Cell.okWide, he] at hx
    cases x <;> simp_all [Cell.ok]
  simp only [Value.okWide, hu] at hv
  obtain ⟨⟨cs⟩, rfl, hs, ts, h1, _, h2⟩ := hv
  rw [hc] at h1
  cases h1
  rw [hn] at hs
  match cs, hs with
  | [x, y], _ =>
    obtain ⟨u, hu0, hx⟩ := h2 0 x rfl
    obtain ⟨u', hu1, hy⟩ := h2 1 y rfl
    cases hu0
    cases hu1
    obtain ⟨a, rfl⟩ := cellInt x hx
    obtain ⟨b, rfl⟩ := cellInt y hy
    exact ⟨a, b, rfl⟩
/-- A row of whole numbers that the input brings: none; one of no cell at all; one that can be read. -/
theorem row_ints {w : World} {a : Option Addr} {len cap : Nat} {k : IntKind} {zs : List Int}
    (h : (a = none ∧ len = 0 ∧ cap = 0) ∨ ∃ x, a = some x ∧ len ≤ cap ∧ cap ≤ maxLen ∧ zs.length = cap ∧ ∀ i, i < zs.length → w.cell? (x.add i) = some (.int k (zs.getD i 0))) :
    (a = none ∧ len = 0 ∧ cap = 0) ∨ (∃ x, a = some x ∧ len = 0 ∧ cap = 0) ∨ ∃ b f, a = some ⟨b, f, none⟩ ∧ len ≤ zs.length ∧ cap ≠ grown ∧ Rd w b f (zs.map (.int k)) := by
  rcases h with h | ⟨x, rfl, h1, h2, h3, h4⟩
  · exact .inl h
  · right
    by_cases hz : 0 < zs.length
    · right
      have h0 := h4 0 hz
      have hx : x.block < w.heap.size := by
        unfold World.cell? at h0
        split at h0
        · rename_i hh; exact (Array.getElem?_eq_some_iff.1 hh).1
        · cases h0
      obtain ⟨e, r⟩ := Rd.of (.int k) (fun ρ x => .int k x) zs hx hz (fun i hi => by
        rw [h4 i hi, List.getD_eq_getElem?_getD, List.getElem?_eq_getElem hi]; rfl)
      exact ⟨x.block, x.off, by rw [← e], by omega, by unfold grown; unfold maxLen at h2; omega, r⟩
    · left
      exact ⟨x, rfl, by omega, by omega⟩
end Go.Proofs.YtlhhcongoplfpaaDoorAB
