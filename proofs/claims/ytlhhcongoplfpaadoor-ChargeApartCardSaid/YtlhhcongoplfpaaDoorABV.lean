/- Rows of records in the input.
   By an AI agent. -/
import Derived.Test.YtlhhcongoplfpaaDoorABZ
/-! Rows of records. -/
namespace Go.Proofs.YtlhhcongoplfpaaDoorAB
open Go
theorem vrl_app {ρ : Ren} : ∀ {a b c d : List Value}, VRL ρ a b → VRL ρ c d → VRL ρ (a ++ c) (b ++ d)
  | _, _, _, _, .nil, h => h
  | _, _, _, _, .cons x r, h => .cons x (vrl_app r h)
theorem vrl_flat {ρ : Ren} {α : Type} {g : α → List Value} (hg : ∀ x, VRL ρ (g x) (g x)) : ∀ l : List α, VRL ρ (l.flatMap g) (l.flatMap g)
  | [] => .nil
  | x :: l => by rw [List.flatMap_cons]; exact vrl_app (hg x) (vrl_flat hg l)
theorem flat_get {α : Type} {g : α → List Value} {sz : Nat} (hg : ∀ x, (g x).length = sz) : ∀ {zs : List α} {i j : Nat} (hi : i < zs.length), j < sz → (zs.flatMap g)[i * sz + j]? = (g zs[i])[j]?
  | x :: zs, 0, j, hi, hj => by
    rw [List.flatMap_cons, Nat.zero_mul, Nat.zero_add, List.getElem?_append_left (by rw [hg]; exact hj)]; rfl
  | x :: zs, i + 1, j, hi, hj => by
    rw [List.flatMap_cons, List.getElem?_append_right (by rw [hg, Nat.succ_mul]; omega), hg, show (i + 1) * sz + j - sz = i * sz + j by rw [Nat.succ_mul]; omega]
    exact flat_get hg (by simpa using hi) hj
theorem flat_len {α : Type} {g : α → List Value} {sz : Nat} (hg : ∀ x, (g x).length = sz) : ∀ zs : List α, (zs.flatMap g).length = zs.length * sz
  | [] => by simp
  | x :: zs => by rw [List.flatMap_cons, List.length_append, hg, flat_len hg zs, List.length_cons, Nat.succ_mul]; omega
theorem takeO_app : ∀ {l r : List Value}, takeO l.length (l ++ r) = some l
  | [], r => by cases r <;> rfl
  | x :: l, r => by
    rw [List.length_cons, List.cons_append]
    simp only [takeO, takeO_app]
theorem segO_app : ∀ {l r : List Value} {o n : Nat}, segO (l ++ r) (l.length + o) n = segO r o n
  | [], r, o, n => by simp
  | x :: l, r, o, n => by
    rw [List.length_cons, show l.length + 1 + o = (l.length + o) + 1 by omega]
    exact segO_app (l := l)
theorem flat_seg {α : Type} {g : α → List Value} {sz : Nat} (hg : ∀ x, (g x).length = sz) : ∀ {zs : List α} {i : Nat} (hi : i < zs.length), segO (zs.flatMap g) (i * sz) sz = some (g zs[i])
  | x :: zs, 0, hi => by
    rw [List.flatMap_cons, Nat.zero_mul]
    have h := takeO_app (l := g x) (r := zs.flatMap g)
    rw [hg] at h
    have e : ∀ l : List Value, segO l 0 sz = takeO sz l := fun l => by cases l <;> simp only [segO]
    rw [e]
    exact h
  | x :: zs, i + 1, hi => by
    rw [List.flatMap_cons, show (i + 1) * sz = (g x).length + i * sz by rw [hg, Nat.succ_mul]; omega, segO_app]
    exact flat_seg hg (by simpa using hi)
theorem ro_seg {α : Type} {g : α → List Value} {sz : Nat} (hg : ∀ x, (g x).length = sz) {zs : List α} {f i : Nat} (hi : i < zs.length) : AObj.seg (.ro f (zs.flatMap g)) (f + i * sz) sz = some (g zs[i]) := by
  show (if f ≤ f + i * sz then segO (zs.flatMap g) (f + i * sz - f) sz else none) = _
  rw [if_pos (by omega), show f + i * sz - f = i * sz by omega]
  exact flat_seg hg hi
theorem Rd.ofc {w : World} {x : Addr} {cs : List Value} (hg : ∀ ρ, VRL ρ cs cs) (hz : 0 < cs.length) (h : ∀ k, k < cs.length → w.cell? (x.add k) = cs[k]?) : x = ⟨x.block, x.off, none⟩ ∧ Rd w x.block x.off cs := by
  have h0 := h 0 hz
  rw [List.getElem?_eq_getElem hz] at h0
  unfold World.cell? at h0
  split at h0
  · rename_i arr ty fr hh
    have hh : w.heap[x.block]? = some (.cells arr ty fr) := hh
    have hx : x.block < w.heap.size := (Array.getElem?_eq_some_iff.1 hh).1
    have hsp : x.spot = none := by
      cases hs : x.spot with
      | none => rfl
      | some j => simp [Addr.add, hs] at h0
    refine ⟨by cases x; simp_all, hx, arr, ty, fr, hh, fun ρ => ?_⟩
    have : (arr.toList.drop x.off).take cs.length = cs := by
      refine List.ext_getElem? fun i => ?_
      rw [List.getElem?_take]
      split
      · rename_i hi
        have h1 := h i hi
        rw [List.getElem?_eq_getElem hi] at h1
        unfold World.cell? at h1
        have hb : (x.add i).block = x.block := by unfold Addr.add; split <;> rfl
        have hs : (x.add i).spot = none := by unfold Addr.add; split <;> first | exact hsp | rfl
        have ho : (x.add i).off = x.off + i := by unfold Addr.add; split <;> first | (subst_vars; rfl) | rfl
        rw [hb, hh] at h1
        simp only [hs, ho, Option.isSome_none, Bool.false_eq_true, if_false] at h1
        rw [List.getElem?_drop, Array.getElem?_toList, h1, List.getElem?_eq_getElem hi]
      · rename_i hi
        rw [List.getElem?_eq_none (by omega)]
    rw [this]
    exact hg ρ
  · cases h0
/-- As SlIn, for rows of sz cells each. -/
structure SlR (w : World) (i : Nat) (a : Option Addr) (l c n : Nat) (cs : List Value) (o : Option Addr) (ob : AObj) (b : Option Nat) (f : Nat) : Prop where
  vr : ∀ ρ : Ren, ρ i = b → VR ρ (.slice o l c) (.slice a l c)
  at0 : 0 < l → o = some ⟨i, f, none⟩ ∧ ob = .ro f cs ∧ l ≤ n
  on : OnIn w ob b
theorem slR {α : Type} {w : World} (i sz : Nat) (hsz : 0 < sz) (g : α → List Value) (hl : ∀ x, (g x).length = sz) (hg : ∀ ρ x, VRL ρ (g x) (g x)) {a : Option Addr} {len cap : Nat}
    (h : (a = none ∧ len = 0 ∧ cap = 0) ∨ ∃ (x : Addr) (zs : List α), a = some x ∧ len ≤ cap ∧ cap ≤ maxLen ∧ zs.length = cap ∧ ∀ (i : Nat) (hi : i < zs.length) (j : Nat), j < sz → w.cell? (x.add (i * sz + j)) = (g zs[i])[j]?) :
    ∃ (zs : List α) (o : Option Addr) (ob : AObj) (b : Option Nat) (f : Nat), SlR w i a len cap zs.length (zs.flatMap g) o ob b f := by
  rcases h with ⟨rfl, rfl, rfl⟩ | ⟨x, zs, rfl, h1, h2, h3, h4⟩
  · exact ⟨[], none, .lost, none, 0, fun ρ _ => .sliceNil _ _, fun h => absurd h (Nat.lt_irrefl 0), .inl ⟨rfl, rfl⟩⟩
  · by_cases hz : 0 < zs.length
    · have hlen := flat_len hl zs
      have hpos : 0 < (zs.flatMap g).length := by rw [hlen]; exact Nat.mul_pos hz hsz
      obtain ⟨e, r⟩ := Rd.ofc (x := x) (cs := zs.flatMap g) (fun ρ => vrl_flat (hg ρ) zs) hpos (fun k hk => by
        rw [hlen] at hk
        have hi : k / sz < zs.length := Nat.div_lt_of_lt_mul (by rw [Nat.mul_comm]; exact hk)
        have hj : k % sz < sz := Nat.mod_lt _ hsz
        have hk2 : k / sz * sz + k % sz = k := by rw [Nat.mul_comm]; exact Nat.div_add_mod k sz
        have h5 := h4 (k / sz) hi (k % sz) hj
        have h6 := flat_get hl hi hj
        rw [hk2] at h5 h6
        rw [h5, h6])
      refine ⟨zs, some ⟨i, x.off, none⟩, .ro x.off (zs.flatMap g), some x.block, x.off, fun ρ hρ => ?_, fun _ => ⟨rfl, rfl, by omega⟩, .inr ⟨_, _, _, rfl, rfl, r⟩⟩
      rw [e]
      exact .slice _ _ _ _ _ hρ ⟨id, fun h => absurd h (by unfold grown; unfold maxLen at h2; omega)⟩
    · have hl : len = 0 := by omega
      have hc : cap = 0 := by omega
      subst hl hc
      exact ⟨[], some ⟨0, 0, some 0⟩, .lost, none, 0, fun ρ _ => .dead x, fun h => absurd h (Nat.lt_irrefl 0), .inl ⟨rfl, rfl⟩⟩
/-- A record of a number and a truth value, as cells. -/
abbrev pairIB (k : IntKind) (x : Int × Bool) : List Value := [.int k x.1, .bool x.2]
theorem in_pairs {H : Type} {enc : TypeId × Value → H} {P : Program} {w : World} {base : Nat} {held : Bool} {t e : TypeId} {k : IntKind} {f0 f1 : Field} {a : Option Addr} {len cap : Nat} {d : DataW H} {ps : List MemPlace} (i : Nat) (ht : P.underlying t = some (.slice e)) (he : P.underlying e = some (.struct #[f0, f1]))
    (hc : P.cellsOf e = 2) (o0 : f0.offset = 0) (o1 : f1.offset = 1) (c0 : P.cellsOf f0.type = 1) (c1 : P.cellsOf f1.type = 1) (e0 : P.underlying f0.type = some (.int k)) (e1 : P.underlying f1.type = some .bool)
    (h : DataW.Trod enc P w base (fun _ => true) held t (.slice a len cap) d ps) : ∃ (zs : List (Int × Bool)) (o : Option Addr) (ob : AObj) (b : Option Nat) (f : Nat), SlR w i a len cap zs.length (zs.flatMap (pairIB k)) o ob b f := by
  obtain ⟨fuel, hf⟩ := h
  refine slR i 2 (by omega) _ (fun x => rfl) (fun ρ x => .cons (.int _ _) (.cons (.bool _) .nil)) ?_
  rcases open_elems 2 (pairIB k) ht hc (fun _ => rfl) (fun n c y hy => (by
    obtain ⟨y0, y1, m, _, hl, h0, h1⟩ := ChangeShapes.trod_struct2 he hy
    rw [hc] at hl
    rw [o0, c0] at h0
    rw [o1, c1] at h1
    match c, hl with
    | [u, v], _ =>
      obtain ⟨p, hp, _⟩ := DataW.trod_int e0 h0
      obtain ⟨q, hq, _⟩ := DataW.trod_bool e1 h1
      simp at hp hq
      exact ⟨(p, q), by rw [hp, hq]⟩)) hf with h | ⟨x, l, c, zs, hcs, h1, h2, h3, h4⟩
  · left
    simpa [Value.cells] using h
  · right
    simp [Value.cells] at hcs
    obtain ⟨rfl, rfl, rfl⟩ := hcs
    exact ⟨x, zs, rfl, h1, h2, h3, h4⟩
end Go.Proofs.YtlhhcongoplfpaaDoorAB
