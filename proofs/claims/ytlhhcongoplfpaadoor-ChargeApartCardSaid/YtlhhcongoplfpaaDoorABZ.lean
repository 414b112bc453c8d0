/- A row of the input, opened.
   By an AI agent. -/
import Derived.Test.YtlhhcongoplfpaaDoorABY
/-! A row of the input, opened: whatever its elements are. -/
namespace Go.Proofs.YtlhhcongoplfpaaDoorAB
open Go
theorem add_add (a : Addr) (x y : Nat) : (a.add x).add y = a.add (x + y) := by
  unfold Addr.add
  split
  · subst_vars; simp
  · split
    · subst_vars; simp_all
    · rw [if_neg (by omega)]; simp [Nat.add_assoc]
theorem list_of {α : Type} {R : Nat → α → Prop} : ∀ m : Nat, (∀ i, i < m → ∃ x, R i x) → ∃ zs : List α, zs.length = m ∧ ∀ (i : Nat) (hi : i < zs.length), R i zs[i]
  | 0, _ => ⟨[], rfl, fun i hi => absurd hi (Nat.not_lt_zero i)⟩
  | m + 1, h => by
    obtain ⟨zs, hl, hz⟩ := list_of m fun i hi => h i (by omega)
    obtain ⟨x, hx⟩ := h m (by omega)
    refine ⟨zs ++ [x], by simp [hl], fun i hi => ?_⟩
    by_cases him : i < zs.length
    · rw [List.getElem_append_left him]; exact hz i him
    · have : i = m := by simp at hi; omega
      subst this
      rw [List.getElem_append_right (by omega)]
      simpa [hl] using hx
theorem open_elems {α : Type} {H : Type} {enc : TypeId × Value → H} {P : Program} {w : World} {base : Nat} {spare : Nat → Bool} {held : Bool} {t e : TypeId} {fuel : Nat} {cs : List Value} {X : DataW H × List MemPlace} (sz : Nat) (G : α → List Value)
    (ht : P.underlying t = some (.slice e)) (hc : P.cellsOf e = sz) (hs : ∀ b, spare b = true) (hf : ∀ n c y, DataW.trod enc P w base spare held n e c = some y → ∃ x, c = G x) (h : DataW.trod enc P w base spare held fuel t cs = some X) :
    cs = [.slice none 0 0] ∨ ∃ (a : Addr) (len cap : Nat) (zs : List α), cs = [.slice (some a) len cap] ∧ len ≤ cap ∧ cap ≤ maxLen ∧ zs.length = cap ∧ ∀ (i : Nat) (hi : i < zs.length) (j : Nat), j < sz → w.cell? (a.add (i * sz + j)) = (G zs[i])[j]? := by
  rcases DataW.trod_slice ht h with h0 | ⟨a, len, cap, elems, rest, n, _, rfl, rfl, hb, hl, hm, hlen, hel, hsp, hns⟩
  · exact .inl h0.1
  right
  obtain ⟨hrl, hr⟩ := hsp (hs _)
  have each : ∀ i, i < cap → ∃ x : α, ∀ j, j < sz → w.cell? (a.add (i * sz + j)) = (G x)[j]? := by
    intro i hi
    have hb' : ∃ y, (w.cells? base (a.add (i * P.cellsOf e)) (P.cellsOf e)).bind (DataW.trod enc P w base spare held n e) = some y := by
      by_cases hil : i < len
      · exact ⟨elems[i]'(by omega), by rw [hel i hil, List.getElem?_eq_getElem]⟩
      · have := hr (i - len) (by omega)
        rw [show len + (i - len) = i by omega] at this
        exact ⟨rest[i - len]'(by omega), by rw [this, List.getElem?_eq_getElem]⟩
    obtain ⟨y, hb'⟩ := hb'
    rw [hc, Option.bind_eq_some_iff] at hb'
    obtain ⟨cs', hcs, hy⟩ := hb'
    obtain ⟨x, rfl⟩ := hf n cs' y hy
    refine ⟨x, fun j hj => ?_⟩
    rw [← add_add]
    exact (World.cells?_some hcs).2.2 j hj
  obtain ⟨zs, hz, h2⟩ := list_of cap each
  exact ⟨a, len, cap, zs, rfl, hl, hm, hz, fun i hi j hj => h2 i hi j hj⟩
theorem row_bool {w : World} {a : Addr} {zs : List Bool} (h : ∀ (i : Nat) (hi : i < zs.length) (j : Nat), j < 1 → w.cell? (a.add (i * 1 + j)) = ([Value.bool zs[i]] : List Value)[j]?) (i : Nat) (hi : i < zs.length) : w.cell? (a.add i) = some (.bool zs[i]) := by
  have := h i hi 0 (by omega)
  rw [Nat.mul_one, Nat.add_zero] at this
  exact this
theorem row_int {w : World} {a : Addr} {k : IntKind} {zs : List Int} (h : ∀ (i : Nat) (hi : i < zs.length) (j : Nat), j < 1 → w.cell? (a.add (i * 1 + j)) = ([Value.int k zs[i]] : List Value)[j]?) (i : Nat) (hi : i < zs.length) : w.cell? (a.add i) = some (.int k zs[i]) := by
  have := h i hi 0 (by omega)
  rw [Nat.mul_one, Nat.add_zero] at this
  exact this
/-- A slice of whole numbers. -/
theorem in_ints {H : Type} {enc : TypeId × Value → H} {P : Program} {w : World} {base : Nat} {held : Bool} {t e : TypeId} {k : IntKind} {a : Option Addr} {len cap : Nat} {d : DataW H} {ps : List MemPlace} (i : Nat) (ht : P.underlying t = some (.slice e)) (he : P.underlying e = some (.int k)) (hc : P.cellsOf e = 1)
    (h : DataW.Trod enc P w base (fun _ => true) held t (.slice a len cap) d ps) : ∃ zs o ob b f, SlIn w i (Value.int k) a len cap zs o ob b f := by
  obtain ⟨fuel, hf⟩ := h
  refine slIn i _ (fun ρ x => .int k x) ?_
  rcases open_elems 1 (fun x : Int => [Value.int k x]) ht hc (fun _ => rfl) (fun n c y hy => (by
    obtain ⟨m, rfl, _⟩ := DataW.trod_int he hy
    exact ⟨m, rfl⟩)) hf with h | ⟨x, l, c, zs, hcs, h1, h2, h3, h4⟩
  · left
    simpa [Value.cells] using h
  · right
    simp [Value.cells] at hcs
    obtain ⟨rfl, rfl, rfl⟩ := hcs
    exact ⟨x, zs, rfl, h1, h2, h3, row_int h4⟩
theorem in_bools {H : Type} {enc : TypeId × Value → H} {P : Program} {w : World} {base : Nat} {held : Bool} {t e : TypeId} {a : Option Addr} {len cap : Nat} {d : DataW H} {ps : List MemPlace} (i : Nat) (ht : P.underlying t = some (.slice e)) (he : P.underlying e = some .bool) (hc : P.cellsOf e = 1)
    (h : DataW.Trod enc P w base (fun _ => true) held t (.slice a len cap) d ps) : ∃ zs o ob b f, SlIn w i Value.bool a len cap zs o ob b f := by
  obtain ⟨fuel, hf⟩ := h
  refine slIn i _ (fun ρ x => .bool x) ?_
  rcases open_elems 1 (fun x : Bool => [Value.bool x]) ht hc (fun _ => rfl) (fun n c y hy => (by
    obtain ⟨m, rfl, _⟩ := DataW.trod_bool he hy
    exact ⟨m, rfl⟩)) hf with h | ⟨x, l, c, zs, hcs, h1, h2, h3, h4⟩
  · left
    simpa [Value.cells] using h
  · right
    simp [Value.cells] at hcs
    obtain ⟨rfl, rfl, rfl⟩ := hcs
    exact ⟨x, zs, rfl, h1, h2, h3, row_bool h4⟩
end Go.Proofs.YtlhhcongoplfpaaDoorAB
