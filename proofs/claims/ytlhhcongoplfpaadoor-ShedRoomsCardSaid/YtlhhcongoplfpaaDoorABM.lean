/- More operations, the input's rows in the memory, tables in plain numbers, and the operations' laws keyed by the operation.
   By an AI agent. -/
import Derived.Test.YtlhhcongoplfpaaDoorAB
import Derived.ChangeSlices
import Derived.WideShapes
import Derived.Scope
import Derived.LaidEql
import Derived.Laws.Slices
/-! What the input's values look like. -/
namespace Go.Proofs.YtlhhcongoplfpaaDoorAB
open Go
/-- A record of two numbers. -/
theorem agg2 {P : Program} {w : World} {r : Reach} {base : Nat} {t e : TypeId} {k : IntKind} {fs : Array Field} {v : Value} (hu : P.underlying t = some (.struct fs)) (hc : P.cellTypes P.depth t = some [e, e]) (hn : P.cellsOf t = 2) (he : P.underlying e = some (.int k))
    (hv : Value.okWide P w r base t v) : ∃ a b, v = .agg #[.int k a, .int k b] := by
  have cellInt : ∀ x, Cell.okWide P w r base e x → ∃ n, x = .int k n := fun x hx => by
    simp only [Cell.okWide, he] at hx
    cases x <;> simp_all [Cell.ok]
  simp only [Value.okWide, hu] at hv
  obtain ⟨⟨cs⟩, rfl, hs, ts, h1, _, h2⟩ := hv
  rw [hc] at h1
  cases h1
  rw [hn] at hs
  match cs, hs with
  | [x, y], _ =>
    obtain ⟨u, hu0, hx⟩ := h2 0 x rfl
    obtain ⟨u', hu1, hy⟩ := h2 1 y rfl
    cases hu0
    cases hu1
    obtain ⟨a, rfl⟩ := cellInt x hx
    obtain ⟨b, rfl⟩ := cellInt y hy
    exact ⟨a, b, rfl⟩
/-- A row of whole numbers that the input brings: none; one of no cell at all; one that can be read. -/
theorem row_ints {w : World} {a : Option Addr} {len cap : Nat} {k : IntKind} {zs : List Int}
    (h : (a = none ∧ len = 0 ∧ cap = 0) ∨ ∃ x, a = some x ∧ len ≤ cap ∧ cap ≤ maxLen ∧ zs.length = cap ∧ ∀ i, i < zs.length → w.cell? (x.add i) = some (.int k (zs.getD i 0))) :
    (a = none ∧ len = 0 ∧ cap = 0) ∨ (∃ x, a = some x ∧ len = 0 ∧ cap = 0) ∨ ∃ b f, a = some ⟨b, f, none⟩ ∧ len ≤ zs.length ∧ cap ≠ grown ∧ Rd w b f (zs.map (.int k)) := by
  rcases h with h | ⟨x, rfl, h1, h2, h3, h4⟩
  · exact .inl h
  · right
    by_cases hz : 0 < zs.length
    · right
      have h0 := h4 0 hz
      have hx : x.block < w.heap.size := by
        unfold World.cell? at h0
        split at h0
        · rename_i hh; exact (Array.getElem?_eq_some_iff.1 hh).1
        · cases h0
      obtain ⟨e, r⟩ := Rd.of (.int k) (fun ρ x => .int k x) zs hx hz (fun i hi => by
        rw [h4 i hi, List.getD_eq_getElem?_getD, List.getElem?_eq_getElem hi]; rfl)
      exact ⟨x.block, x.off, by rw [← e], by omega, by unfold grown; unfold maxLen at h2; omega, r⟩
    · left
      exact ⟨x, rfl, by omega, by omega⟩
end Go.Proofs.YtlhhcongoplfpaaDoorAB
/-! Rows that the input brings: absent, without a cell, or with cells, under one contract. -/
namespace Go.Proofs.YtlhhcongoplfpaaDoorAB
open Go
/-- The value a over blocks, o over names; what the name i stands on. -/
structure SlIn {α : Type} (w : World) (i : Nat) (g : α → Value) (a : Option Addr) (l c : Nat) (zs : List α) (o : Option Addr) (ob : AObj) (b : Option Nat) (f : Nat) : Prop where
  vr : ∀ ρ : Ren, ρ i = b → VR ρ (.slice o l c) (.slice a l c)
  at0 : 0 < l → o = some ⟨i, f, none⟩ ∧ ob = .ro f (zs.map g) ∧ l ≤ zs.length
  on : (ob = .lost ∧ b = none) ∨ ∃ b', b = some b' ∧ ob = .ro f (zs.map g) ∧ Rd w b' f (zs.map g)
theorem slIn {α : Type} {w : World} (i : Nat) (g : α → Value) (hg : ∀ ρ x, VR ρ (g x) (g x)) {a : Option Addr} {len cap : Nat}
    (h : (a = none ∧ len = 0 ∧ cap = 0) ∨ ∃ (x : Addr) (zs : List α), a = some x ∧ len ≤ cap ∧ cap ≤ maxLen ∧ zs.length = cap ∧ ∀ (i : Nat) (hi : i < zs.length), w.cell? (x.add i) = some (g zs[i])) :
    ∃ zs o ob b f, SlIn w i g a len cap zs o ob b f := by
  rcases h with ⟨rfl, rfl, rfl⟩ | ⟨x, zs, rfl, h1, h2, h3, h4⟩
  · exact ⟨[], none, .lost, none, 0, fun ρ _ => .sliceNil _ _, fun h => absurd h (Nat.lt_irrefl 0), .inl ⟨rfl, rfl⟩⟩
  · by_cases hz : 0 < zs.length
    · have h0 := h4 0 hz
      have hx : x.block < w.heap.size := by
        unfold World.cell? at h0
        split at h0
        · rename_i hh; exact (Array.getElem?_eq_some_iff.1 hh).1
        · cases h0
      obtain ⟨e, r⟩ := Rd.of g hg zs hx hz h4
      refine ⟨zs, some ⟨i, x.off, none⟩, .ro x.off (zs.map g), some x.block, x.off, fun ρ hρ => ?_, fun _ => ⟨rfl, rfl, by omega⟩, .inr ⟨_, rfl, rfl, r⟩⟩
      rw [e]
      exact .slice _ _ _ _ _ hρ ⟨id, fun h => absurd h (by unfold grown; unfold maxLen at h2; omega)⟩
    · have hl : len = 0 := by omega
      have hc : cap = 0 := by omega
      subst hl hc
      exact ⟨[], some ⟨0, 0, some 0⟩, .lost, none, 0, fun ρ _ => .dead x, fun h => absurd h (Nat.lt_irrefl 0), .inl ⟨rfl, rfl⟩⟩
def ents : Nat → List AObj → H
  | _, [] => []
  | i, o :: r => (i, o) :: ents (i + 1) r
theorem ents_get : ∀ {r : List AObj} {i : Nat} {e : Nat × AObj}, e ∈ ents i r → ∃ j o, r[j]? = some o ∧ e = (i + j, o)
  | o :: r, i, e, h => by
    rcases List.mem_cons.1 h with rfl | h
    · exact ⟨0, o, rfl, rfl⟩
    · obtain ⟨j, p, h1, h2⟩ := ents_get h
      exact ⟨j + 1, p, h1, by rw [h2]; congr 1; omega⟩
def oblks (bs : List (Option Nat)) : Ren := ⟨fun i => (bs[i]?).join, fun _ => 0⟩
theorem oblks_at {bs : List (Option Nat)} {i : Nat} {b : Option Nat} (h : bs[i]? = some b) : oblks bs i = b := by
  show (bs[i]?).join = b
  rw [h]; rfl
/-- What the entry of a name is, and its block. -/
def OnIn (w : World) (ob : AObj) (b : Option Nat) : Prop := (ob = .lost ∧ b = none) ∨ ∃ b' f cs, b = some b' ∧ ob = .ro f cs ∧ Rd w b' f cs
theorem SlIn.onIn {α : Type} {w : World} {i : Nat} {g : α → Value} {a : Option Addr} {l c : Nat} {zs : List α} {o : Option Addr} {ob : AObj} {b : Option Nat} {f : Nat} (h : SlIn w i g a l c zs o ob b f) : OnIn w ob b := by
  rcases h.on with h | ⟨b', h1, h2, h3⟩
  · exact .inl h
  · exact .inr ⟨b', f, _, h1, h2, h3⟩
theorem OnIn.wr {w : World} {ob : AObj} {b : Option Nat} (h : OnIn w ob b) : ob.wr = false := by
  rcases h with ⟨rfl, _⟩ | ⟨_, _, _, _, rfl, _⟩ <;> rfl
theorem OnIn.notGone {w : World} {ob : AObj} {b : Option Nat} (h : OnIn w ob b) : ob ≠ .gone := by
  rcases h with ⟨rfl, _⟩ | ⟨_, _, _, _, rfl, _⟩ <;> simp
inductive OnAll (w : World) : List AObj → List (Option Nat) → Prop
  | nil : OnAll w [] []
  | cons {ob : AObj} {b : Option Nat} {obs : List AObj} {bs : List (Option Nat)} (h : OnIn w ob b) (r : OnAll w obs bs) : OnAll w (ob :: obs) (b :: bs)
theorem OnAll.get {w : World} : ∀ {obs : List AObj} {bs : List (Option Nat)}, OnAll w obs bs → ∀ (i : Nat) (ob : AObj), obs[i]? = some ob → ∃ b, bs[i]? = some b ∧ OnIn w ob b
  | _, _, .cons h r, 0, ob, e => by cases e; exact ⟨_, rfl, h⟩
  | _, _, .cons h r, i + 1, ob, e => r.get i ob e
theorem OnAll.getb {w : World} : ∀ {obs : List AObj} {bs : List (Option Nat)}, OnAll w obs bs → ∀ (i : Nat) (b : Option Nat), bs[i]? = some b → ∃ ob, obs[i]? = some ob ∧ OnIn w ob b
  | _, _, .cons h r, 0, ob, e => by cases e; exact ⟨_, rfl, h⟩
  | _, _, .cons h r, i + 1, ob, e => r.getb i ob e
theorem sim_ents {w : World} {obs : List AObj} {bs : List (Option Nat)} (hr : OnAll w obs bs) : Sim 0 (oblks bs) (ents 0 obs) w := by
  refine ⟨?_, ?_, ?_, fun g hg => absurd hg (Nat.not_lt_zero g), bs.length, fun i hi => ?_⟩
  · intro i b hi
    have hi : (bs[i]?).join = some b := hi
    cases hb : bs[i]? with
    | none => rw [hb] at hi; cases hi
    | some x =>
      rw [hb] at hi
      have hi : x = some b := hi
      subst hi
      obtain ⟨ob, _, h⟩ := hr.getb i _ hb
      rcases h with ⟨_, h⟩ | ⟨_, _, _, h, _, h2, _⟩
      · cases h
      · cases h; exact h2
  · intro e he
    obtain ⟨j, ob, hp, rfl⟩ := ents_get he
    obtain ⟨b, hb, h⟩ := hr.get j ob hp
    refine ⟨fun h' => absurd h' h.notGone, fun hl => ?_⟩
    rcases h with ⟨rfl, _⟩ | ⟨b', f, cs, rfl, rfl, _, arr, ty, fr, hh, hv⟩
    · cases hl
    · refine ⟨b', _, ?_, hh, arr, ty, fr, rfl, hv _⟩
      show (bs[0 + j]?).join = _
      rw [Nat.zero_add, hb]; rfl
  · intro i j e e' _ hi hj
    obtain ⟨_, p, h1, rfl⟩ := ents_get (List.mem_of_getElem? hi)
    obtain ⟨_, q, h2, rfl⟩ := ents_get (List.mem_of_getElem? hj)
    obtain ⟨_, _, h3⟩ := hr.get _ _ h1
    obtain ⟨_, _, h4⟩ := hr.get _ _ h2
    refine fun _ _ => ⟨fun h => ?_, fun h => ?_⟩
    · rcases h with h | h
      · rw [h3.wr] at h; cases h
      · rw [h4.wr] at h; cases h
    · rcases h with h | h
      · exact absurd h h3.notGone
      · exact absurd h h4.notGone
  · show (bs[i]?).join = none
    rw [List.getElem?_eq_none hi]; rfl
theorem Ctr.tops {P : Program} {f : FuncId} {args : List Value} {cargs : Array Value} {b : Bool} {post : List AObj} {w : World} {obs : List AObj} {bs : List (Option Nat)} (c : Ctr P 0 f args (ents 0 obs) (.bool b) post)
    (hr : OnAll w obs bs) (hv : VRL (oblks bs) args cargs.toList) : Calls P f cargs w fun e w' => e = .returned (.bool b) ∧ RowKit.Below w.heap.size w w' := by
  refine (c.run [] (oblks bs) w cargs (sim_ents hr) hv (fun k hk => (by cases hk))).mono ?_
  rintro e w' ⟨v', ρ', rfl, hvr, _, st, _⟩
  rw [vr_bool.1 hvr]
  refine ⟨rfl, st.os, st.tape, st.output, st.size, fun k hk => st.keep k hk fun e he hw => ?_⟩
  obtain ⟨j, p, hp, rfl⟩ := ents_get he
  obtain ⟨_, _, h3⟩ := hr.get j p hp
  rw [h3.wr] at hw
  cases hw
/-- What is not needed of a block is forgotten. -/
theorem Ctr.lose {P : Program} {G : Nat} {f : FuncId} {args : List Value} {pre : H} {v : Value} {post post' : List AObj} (c : Ctr P G f args pre v post) (hl : post'.length = post.length) (h : ∀ (i : Nat) (o : AObj), post'[i]? = some o → o = .lost ∨ post[i]? = some o) : Ctr P G f args pre v post' := by
  have hl2 : post'.length = pre.length := hl.trans c.len
  refine ⟨c.ent, hl2, fun R ρ w cargs sim hv fr => (c.run R ρ w cargs sim hv fr).mono ?_⟩
  rintro e w' ⟨v', ρ', he, hvr, sim', st, fr'⟩
  have key : ∀ (i : Nat) (x : Nat × AObj), (wth pre post')[i]? = some x → x.2 = .lost ∨ (wth pre post)[i]? = some x := by
    intro i x hx
    have hi : i < pre.length := by
      have := (List.getElem?_eq_some_iff.1 hx).1
      simp [wth, hl2] at this
      exact this
    obtain ⟨o', ho', hw'⟩ := wth_get hl2 (List.getElem?_eq_getElem hi)
    obtain ⟨o, ho, hw⟩ := wth_get c.len (List.getElem?_eq_getElem hi)
    rw [hw'] at hx
    cases hx
    rcases h i o' ho' with h | h
    · exact .inl h
    · rw [ho] at h
      cases h
      exact .inr hw
  have mem : ∀ x ∈ wth pre post', x.2 = .lost ∨ x ∈ wth pre post := by
    intro x hx
    obtain ⟨i, hi⟩ := List.mem_iff_getElem?.1 hx
    rcases key i x hi with h | h
    · exact .inl h
    · exact .inr (List.mem_of_getElem? h)
  refine ⟨v', ρ', he, hvr, ⟨sim'.dom, fun x hx => ?_, fun i j x y hij hi hj => ?_, sim'.glob, sim'.fin⟩, ⟨st.ext, st.new, st.size, st.os, st.tape, st.output, st.keep, fun x hx hlive => ?_, fun x hx hg => ?_⟩, fr'⟩
  · rcases mem x hx with h | h
    · exact ⟨fun hg => (by rw [h] at hg; cases hg), fun hl => (by rw [h] at hl; cases hl)⟩
    · exact sim'.ent x h
  · rcases key i x hi with h | h
    · exact fun a => absurd h a
    · rcases key j y hj with h' | h'
      · exact fun _ b => absurd h' b
      · exact sim'.sep i j x y hij h h'
  · rcases mem x hx with h | h
    · rw [h] at hlive; cases hlive
    · exact st.der x h hlive
  · rcases mem x hx with h | h
    · rw [h] at hg; cases hg
    · exact st.gon x h hg
section
variable {P : Program} {G : Nat} {L : Lay} {ops : Array Oper} {o : Oper} {n : Nat} {s : As} {h : H}
/-- An element of such a row. -/
theorem o_idxS {t : TypeId} {x y : Operand} {a : Option Addr} {k f l c sz : Nat} {el : TypeId} {kd : IntKind} {i : Int} {e : TE} (hL : LayOk P L = true) (ho : o.op = .indexAddr t x y) (hw : wantA ops o n s = some true) (hx : evA G n s x = some (.slice a l c)) (hy : evA G n s y = some (.int kd i))
    (ht : lkT L t = some e) (hs : e.sl = some (el, sz)) (ha : 0 < l → a = some ⟨k, f, none⟩) (h0 : 0 ≤ i) (h1 : i < l) : OPJ P G ops o (mkT n s) h [] [] (some (.pointer (some ⟨k, f + i.toNat * sz, none⟩))) [] [] := by
  rw [ha (by omega)] at hx
  exact o_idx hL ho hw hx hy ht hs h0 h1
end
end Go.Proofs.YtlhhcongoplfpaaDoorAB
/-! A row of the input, opened: whatever its elements are. -/
namespace Go.Proofs.YtlhhcongoplfpaaDoorAB
open Go
theorem add_add (a : Addr) (x y : Nat) : (a.add x).add y = a.add (x + y) := by
  unfold Addr.add
  split
  · subst_vars; simp
  · split
    · subst_vars; simp_all
    · rw [if_neg (by omega)]; simp [Nat.add_assoc]
theorem list_of {α : Type} {R : Nat → α → Prop} : ∀ m : Nat, (∀ i, i < m → ∃ x, R i x) → ∃ zs : List α, zs.length = m ∧ ∀ (i : Nat) (hi : i < zs.length), R i zs[i]
  | 0, _ => ⟨[], rfl, fun i hi => absurd hi (Nat.not_lt_zero i)⟩
  | m + 1, h => by
    obtain ⟨zs, hl, hz⟩ := list_of m fun i hi => h i (by omega)
    obtain ⟨x, hx⟩ := h m (by omega)
    refine ⟨zs ++ [x], by simp [hl], fun i hi => ?_⟩
    by_cases him : i < zs.length
    · rw [List.getElem_append_left him]; exact hz i him
    · have : i = m := by simp at hi; omega
      subst this
      rw [List.getElem_append_right (by omega)]
      simpa [hl] using hx
theorem open_elems {α : Type} {H : Type} {enc : TypeId × Value → H} {P : Program} {w : World} {base : Nat} {spare : Nat → Bool} {held : Bool} {t e : TypeId} {fuel : Nat} {cs : List Value} {X : DataW H × List MemPlace} (sz : Nat) (G : α → List Value)
    (ht : P.underlying t = some (.slice e)) (hc : P.cellsOf e = sz) (hs : ∀ b, spare b = true) (hf : ∀ n c y, DataW.trod enc P w base spare held n e c = some y → ∃ x, c = G x) (h : DataW.trod enc P w base spare held fuel t cs = some X) :
    cs = [.slice none 0 0] ∨ ∃ (a : Addr) (len cap : Nat) (zs : List α), cs = [.slice (some a) len cap] ∧ len ≤ cap ∧ cap ≤ maxLen ∧ zs.length = cap ∧ ∀ (i : Nat) (hi : i < zs.length) (j : Nat), j < sz → w.cell? (a.add (i * sz + j)) = (G zs[i])[j]? := by
  rcases DataW.trod_slice ht h with h0 | ⟨a, len, cap, elems, rest, n, _, rfl, rfl, hb, hl, hm, hlen, hel, hsp, hns⟩
  · exact .inl h0.1
  right
  obtain ⟨hrl, hr⟩ := hsp (hs _)
  have each : ∀ i, i < cap → ∃ x : α, ∀ j, j < sz → w.cell? (a.add (i * sz + j)) = (G x)[j]? := by
    intro i hi
    have hb' : ∃ y, (w.cells? base (a.add (i * P.cellsOf e)) (P.cellsOf e)).bind (DataW.trod enc P w base spare held n e) = some y := by
      by_cases hil : i < len
      · exact ⟨elems[i]'(by omega), by rw [hel i hil, List.getElem?_eq_getElem]⟩
      · have := hr (i - len) (by omega)
        rw [show len + (i - len) = i by omega] at this
        exact ⟨rest[i - len]'(by omega), by rw [this, List.getElem?_eq_getElem]⟩
    obtain ⟨y, hb'⟩ := hb'
    rw [hc, Option.bind_eq_some_iff] at hb'
    obtain ⟨cs', hcs, hy⟩ := hb'
    obtain ⟨x, rfl⟩ := hf n cs' y hy
    refine ⟨x, fun j hj => ?_⟩
    rw [← add_add]
    exact (World.cells?_some hcs).2.2 j hj
  obtain ⟨zs, hz, h2⟩ := list_of cap each
  exact ⟨a, len, cap, zs, rfl, hl, hm, hz, fun i hi j hj => h2 i hi j hj⟩
theorem row_bool {w : World} {a : Addr} {zs : List Bool} (h : ∀ (i : Nat) (hi : i < zs.length) (j : Nat), j < 1 → w.cell? (a.add (i * 1 + j)) = ([Value.bool zs[i]] : List Value)[j]?) (i : Nat) (hi : i < zs.length) : w.cell? (a.add i) = some (.bool zs[i]) := by
  have := h i hi 0 (by omega)
  rw [Nat.mul_one, Nat.add_zero] at this
  exact this
theorem row_int {w : World} {a : Addr} {k : IntKind} {zs : List Int} (h : ∀ (i : Nat) (hi : i < zs.length) (j : Nat), j < 1 → w.cell? (a.add (i * 1 + j)) = ([Value.int k zs[i]] : List Value)[j]?) (i : Nat) (hi : i < zs.length) : w.cell? (a.add i) = some (.int k zs[i]) := by
  have := h i hi 0 (by omega)
  rw [Nat.mul_one, Nat.add_zero] at this
  exact this
/-- A slice of whole numbers. -/
theorem in_ints {H : Type} {enc : TypeId × Value → H} {P : Program} {w : World} {base : Nat} {held : Bool} {t e : TypeId} {k : IntKind} {a : Option Addr} {len cap : Nat} {d : DataW H} {ps : List MemPlace} (i : Nat) (ht : P.underlying t = some (.slice e)) (he : P.underlying e = some (.int k)) (hc : P.cellsOf e = 1)
    (h : DataW.Trod enc P w base (fun _ => true) held t (.slice a len cap) d ps) : ∃ zs o ob b f, SlIn w i (Value.int k) a len cap zs o ob b f := by
  obtain ⟨fuel, hf⟩ := h
  refine slIn i _ (fun ρ x => .int k x) ?_
  rcases open_elems 1 (fun x : Int => [Value.int k x]) ht hc (fun _ => rfl) (fun n c y hy => (by
    obtain ⟨m, rfl, _⟩ := DataW.trod_int he hy
    exact ⟨m, rfl⟩)) hf with h | ⟨x, l, c, zs, hcs, h1, h2, h3, h4⟩
  · left
    simpa [Value.cells] using h
  · right
    simp [Value.cells] at hcs
    obtain ⟨rfl, rfl, rfl⟩ := hcs
    exact ⟨x, zs, rfl, h1, h2, h3, row_int h4⟩
theorem in_bools {H : Type} {enc : TypeId × Value → H} {P : Program} {w : World} {base : Nat} {held : Bool} {t e : TypeId} {a : Option Addr} {len cap : Nat} {d : DataW H} {ps : List MemPlace} (i : Nat) (ht : P.underlying t = some (.slice e)) (he : P.underlying e = some .bool) (hc : P.cellsOf e = 1)
    (h : DataW.Trod enc P w base (fun _ => true) held t (.slice a len cap) d ps) : ∃ zs o ob b f, SlIn w i Value.bool a len cap zs o ob b f := by
  obtain ⟨fuel, hf⟩ := h
  refine slIn i _ (fun ρ x => .bool x) ?_
  rcases open_elems 1 (fun x : Bool => [Value.bool x]) ht hc (fun _ => rfl) (fun n c y hy => (by
    obtain ⟨m, rfl, _⟩ := DataW.trod_bool he hy
    exact ⟨m, rfl⟩)) hf with h | ⟨x, l, c, zs, hcs, h1, h2, h3, h4⟩
  · left
    simpa [Value.cells] using h
  · right
    simp [Value.cells] at hcs
    obtain ⟨rfl, rfl, rfl⟩ := hcs
    exact ⟨x, zs, rfl, h1, h2, h3, row_bool h4⟩
end Go.Proofs.YtlhhcongoplfpaaDoorAB
/-! Rows of records. -/
namespace Go.Proofs.YtlhhcongoplfpaaDoorAB
open Go
theorem vrl_app {ρ : Ren} : ∀ {a b c d : List Value}, VRL ρ a b → VRL ρ c d → VRL ρ (a ++ c) (b ++ d)
  | _, _, _, _, .nil, h => h
  | _, _, _, _, .cons x r, h => .cons x (vrl_app r h)
theorem vrl_flat {ρ : Ren} {α : Type} {g : α → List Value} (hg : ∀ x, VRL ρ (g x) (g x)) : ∀ l : List α, VRL ρ (l.flatMap g) (l.flatMap g)
  | [] => .nil
  | x :: l => by rw [List.flatMap_cons]; exact vrl_app (hg x) (vrl_flat hg l)
theorem flat_get {α : Type} {g : α → List Value} {sz : Nat} (hg : ∀ x, (g x).length = sz) : ∀ {zs : List α} {i j : Nat} (hi : i < zs.length), j < sz → (zs.flatMap g)[i * sz + j]? = (g zs[i])[j]?
  | x :: zs, 0, j, hi, hj => by
    rw [List.flatMap_cons, Nat.zero_mul, Nat.zero_add, List.getElem?_append_left (by rw [hg]; exact hj)]; rfl
  | x :: zs, i + 1, j, hi, hj => by
    rw [List.flatMap_cons, List.getElem?_append_right (by rw [hg, Nat.succ_mul]; omega), hg, show (i + 1) * sz + j - sz = i * sz + j by rw [Nat.succ_mul]; omega]
    exact flat_get hg (by simpa using hi) hj
theorem flat_len {α : Type} {g : α → List Value} {sz : Nat} (hg : ∀ x, (g x).length = sz) : ∀ zs : List α, (zs.flatMap g).length = zs.length * sz
  | [] => by simp
  | x :: zs => by rw [List.flatMap_cons, List.length_append, hg, flat_len hg zs, List.length_cons, Nat.succ_mul]; omega
theorem takeO_app : ∀ {l r : List Value}, takeO l.length (l ++ r) = some l
  | [], r => by cases r <;> rfl
  | x :: l, r => by
    rw [List.length_cons, List.cons_append]
    simp only [takeO, takeO_app]
theorem segO_app : ∀ {l r : List Value} {o n : Nat}, segO (l ++ r) (l.length + o) n = segO r o n
  | [], r, o, n => by simp
  | x :: l, r, o, n => by
    rw [List.length_cons, show l.length + 1 + o = (l.length + o) + 1 by omega]
    exact segO_app (l := l)
theorem flat_seg {α : Type} {g : α → List Value} {sz : Nat} (hg : ∀ x, (g x).length = sz) : ∀ {zs : List α} {i : Nat} (hi : i < zs.length), segO (zs.flatMap g) (i * sz) sz = some (g zs[i])
  | x :: zs, 0, hi => by
    rw [List.flatMap_cons, Nat.zero_mul]
    have h := takeO_app (l := g x) (r := zs.flatMap g)
    rw [hg] at h
    have e : ∀ l : List Value, segO l 0 sz = takeO sz l := fun l => by cases l <;> simp only [segO]
    rw [e]
    exact h
  | x :: zs, i + 1, hi => by
    rw [List.flatMap_cons, show (i + 1) * sz = (g x).length + i * sz by rw [hg, Nat.succ_mul]; omega, segO_app]
    exact flat_seg hg (by simpa using hi)
theorem ro_seg {α : Type} {g : α → List Value} {sz : Nat} (hg : ∀ x, (g x).length = sz) {zs : List α} {f i : Nat} (hi : i < zs.length) : AObj.seg (.ro f (zs.flatMap g)) (f + i * sz) sz = some (g zs[i]) := by
  show (if f ≤ f + i * sz then segO (zs.flatMap g) (f + i * sz - f) sz else none) = _
  rw [if_pos (by omega), show f + i * sz - f = i * sz by omega]
  exact flat_seg hg hi
theorem Rd.ofc {w : World} {x : Addr} {cs : List Value} (hg : ∀ ρ, VRL ρ cs cs) (hz : 0 < cs.length) (h : ∀ k, k < cs.length → w.cell? (x.add k) = cs[k]?) : x = ⟨x.block, x.off, none⟩ ∧ Rd w x.block x.off cs := by
  have h0 := h 0 hz
  rw [List.getElem?_eq_getElem hz] at h0
  unfold World.cell? at h0
  split at h0
  · rename_i arr ty fr hh
    have hh : w.heap[x.block]? = some (.cells arr ty fr) := hh
    have hx : x.block < w.heap.size := (Array.getElem?_eq_some_iff.1 hh).1
    have hsp : x.spot = none := by
      cases hs : x.spot with
      | none => rfl
      | some j => simp [Addr.add, hs] at h0
    refine ⟨by cases x; simp_all, hx, arr, ty, fr, hh, fun ρ => ?_⟩
    have : (arr.toList.drop x.off).take cs.length = cs := by
      refine List.ext_getElem? fun i => ?_
      rw [List.getElem?_take]
      split
      · rename_i hi
        have h1 := h i hi
        rw [List.getElem?_eq_getElem hi] at h1
        unfold World.cell? at h1
        have hb : (x.add i).block = x.block := by unfold Addr.add; split <;> rfl
        have hs : (x.add i).spot = none := by unfold Addr.add; split <;> first | exact hsp | rfl
        have ho : (x.add i).off = x.off + i := by unfold Addr.add; split <;> first | (subst_vars; rfl) | rfl
        rw [hb, hh] at h1
        simp only [hs, ho, Option.isSome_none, Bool.false_eq_true, if_false] at h1
        rw [List.getElem?_drop, Array.getElem?_toList, h1, List.getElem?_eq_getElem hi]
      · rename_i hi
        rw [List.getElem?_eq_none (by omega)]
    rw [this]
    exact hg ρ
  · cases h0
/-- As SlIn, for rows of sz cells each. -/
structure SlR (w : World) (i : Nat) (a : Option Addr) (l c n : Nat) (cs : List Value) (o : Option Addr) (ob : AObj) (b : Option Nat) (f : Nat) : Prop where
  vr : ∀ ρ : Ren, ρ i = b → VR ρ (.slice o l c) (.slice a l c)
  at0 : 0 < l → o = some ⟨i, f, none⟩ ∧ ob = .ro f cs ∧ l ≤ n
  on : OnIn w ob b
theorem slR {α : Type} {w : World} (i sz : Nat) (hsz : 0 < sz) (g : α → List Value) (hl : ∀ x, (g x).length = sz) (hg : ∀ ρ x, VRL ρ (g x) (g x)) {a : Option Addr} {len cap : Nat}
    (h : (a = none ∧ len = 0 ∧ cap = 0) ∨ ∃ (x : Addr) (zs : List α), a = some x ∧ len ≤ cap ∧ cap ≤ maxLen ∧ zs.length = cap ∧ ∀ (i : Nat) (hi : i < zs.length) (j : Nat), j < sz → w.cell? (x.add (i * sz + j)) = (g zs[i])[j]?) :
    ∃ (zs : List α) (o : Option Addr) (ob : AObj) (b : Option Nat) (f : Nat), SlR w i a len cap zs.length (zs.flatMap g) o ob b f := by
  rcases h with ⟨rfl, rfl, rfl⟩ | ⟨x, zs, rfl, h1, h2, h3, h4⟩
  · exact ⟨[], none, .lost, none, 0, fun ρ _ => .sliceNil _ _, fun h => absurd h (Nat.lt_irrefl 0), .inl ⟨rfl, rfl⟩⟩
  · by_cases hz : 0 < zs.length
    · have hlen := flat_len hl zs
      have hpos : 0 < (zs.flatMap g).length := by rw [hlen]; exact Nat.mul_pos hz hsz
      obtain ⟨e, r⟩ := Rd.ofc (x := x) (cs := zs.flatMap g) (fun ρ => vrl_flat (hg ρ) zs) hpos (fun k hk => by
        rw [hlen] at hk
        have hi : k / sz < zs.length := Nat.div_lt_of_lt_mul (by rw [Nat.mul_comm]; exact hk)
        have hj : k % sz < sz := Nat.mod_lt _ hsz
        have hk2 : k / sz * sz + k % sz = k := by rw [Nat.mul_comm]; exact Nat.div_add_mod k sz
        have h5 := h4 (k / sz) hi (k % sz) hj
        have h6 := flat_get hl hi hj
        rw [hk2] at h5 h6
        rw [h5, h6])
      refine ⟨zs, some ⟨i, x.off, none⟩, .ro x.off (zs.flatMap g), some x.block, x.off, fun ρ hρ => ?_, fun _ => ⟨rfl, rfl, by omega⟩, .inr ⟨_, _, _, rfl, rfl, r⟩⟩
      rw [e]
      exact .slice _ _ _ _ _ hρ ⟨id, fun h => absurd h (by unfold grown; unfold maxLen at h2; omega)⟩
    · have hl : len = 0 := by omega
      have hc : cap = 0 := by omega
      subst hl hc
      exact ⟨[], some ⟨0, 0, some 0⟩, .lost, none, 0, fun ρ _ => .dead x, fun h => absurd h (Nat.lt_irrefl 0), .inl ⟨rfl, rfl⟩⟩
/-- A record of a number and a truth value, as cells. -/
abbrev pairIB (k : IntKind) (x : Int × Bool) : List Value := [.int k x.1, .bool x.2]
theorem in_pairs {H : Type} {enc : TypeId × Value → H} {P : Program} {w : World} {base : Nat} {held : Bool} {t e : TypeId} {k : IntKind} {f0 f1 : Field} {a : Option Addr} {len cap : Nat} {d : DataW H} {ps : List MemPlace} (i : Nat) (ht : P.underlying t = some (.slice e)) (he : P.underlying e = some (.struct #[f0, f1]))
    (hc : P.cellsOf e = 2) (o0 : f0.offset = 0) (o1 : f1.offset = 1) (c0 : P.cellsOf f0.type = 1) (c1 : P.cellsOf f1.type = 1) (e0 : P.underlying f0.type = some (.int k)) (e1 : P.underlying f1.type = some .bool)
    (h : DataW.Trod enc P w base (fun _ => true) held t (.slice a len cap) d ps) : ∃ (zs : List (Int × Bool)) (o : Option Addr) (ob : AObj) (b : Option Nat) (f : Nat), SlR w i a len cap zs.length (zs.flatMap (pairIB k)) o ob b f := by
  obtain ⟨fuel, hf⟩ := h
  refine slR i 2 (by omega) _ (fun x => rfl) (fun ρ x => .cons (.int _ _) (.cons (.bool _) .nil)) ?_
  rcases open_elems 2 (pairIB k) ht hc (fun _ => rfl) (fun n c y hy => (by
    obtain ⟨y0, y1, m, _, hl, h0, h1⟩ := ChangeShapes.trod_struct2 he hy
    rw [hc] at hl
    rw [o0, c0] at h0
    rw [o1, c1] at h1
    match c, hl with
    | [u, v], _ =>
      obtain ⟨p, hp, _⟩ := DataW.trod_int e0 h0
      obtain ⟨q, hq, _⟩ := DataW.trod_bool e1 h1
      simp at hp hq
      exact ⟨(p, q), by rw [hp, hq]⟩)) hf with h | ⟨x, l, c, zs, hcs, h1, h2, h3, h4⟩
  · left
    simpa [Value.cells] using h
  · right
    simp [Value.cells] at hcs
    obtain ⟨rfl, rfl, rfl⟩ := hcs
    exact ⟨x, zs, rfl, h1, h2, h3, h4⟩
end Go.Proofs.YtlhhcongoplfpaaDoorAB
/-! Interfaces, function values. -/
namespace Go.Proofs.YtlhhcongoplfpaaDoorAB
open Go
section
variable {P : Program} {G : Nat} {L : Lay} {ops : Array Oper} {o : Oper} {n : Nat} {s : As} {h : H}
def isIface (P : Program) (t : TypeId) : Bool := match P.underlying t with | some (.interface _) => true | _ => false
def hasTy (P : Program) (t : TypeId) : Bool := (P.underlying t).isSome && !isIface P t
theorem o_mkIface {t : TypeId} {x : Operand} {v : Value} (ho : o.op = .makeInterface t x) (hw : wantA ops o n s = some true) (ht : hasTy P t = true) (hx : evA G n s x = some v) : OPJ P G ops o (mkT n s) h [] [] (some (.iface t v)) [] [] :=
  OPJ.pure hw fun ρ w a _ er => by
    have h1 := er.get (by simp [ho, Op.operands]) hx
    unfold hasTy isIface at ht
    cases hu : P.underlying t with
    | none => simp [hu] at ht
    | some d =>
      refine ⟨.iface t (a.eval x), ?_, .iface t h1⟩
      simp only [execOp, ho, Instr.makeInterface, Sem.run_bind, run_underlying hu, Result.andThen_ok]
      cases d <;> simp_all
theorem o_mkFunc {f : Fn} {a b : Array Operand} {xs ys : List Value} (ho : o.op = .makeFunc f a b) (hw : wantA ops o n s = some true) (hx : evL G n s a.toList = some xs) (hy : evL G n s b.toList = some ys) : OPJ P G ops o (mkT n s) h [] [] (some (.func f ⟨xs⟩ ⟨ys⟩)) [] [] :=
  OPJ.pure hw fun ρ w ac _ er => by
    have h1 := evL_vr er (xs := a.toList) (fun x hx => by simp only [ho, Op.operands]; exact Array.mem_append.2 (.inl (by simpa using hx))) hx
    have h2 := evL_vr er (xs := b.toList) (fun x hx => by simp only [ho, Op.operands]; exact Array.mem_append.2 (.inr (by simpa using hx))) hy
    refine ⟨.func f (a.map ac.eval) (b.map ac.eval), by simp [execOp, ho, Instr.makeFunc], ?_⟩
    have e1 : a.map ac.eval = ⟨a.toList.map ac.eval⟩ := by cases a; simp
    have e2 : b.map ac.eval = ⟨b.toList.map ac.eval⟩ := by cases b; simp
    rw [e1, e2]
    exact .func f h1 h2
/-- A call of a function value: its captured cells' pointers come last. -/
theorem o_callF {x : Operand} {f : FuncId} {as : Array Operand} {ts : Array TypeId} {args caps : List Value} {pre : H} {v : Value} {post : List AObj} {js : List Nat} {us : List (Nat × AObj)}
    (ho : o.op = .call { callee := .value x, args := as, argTypes := ts }) (hw : wantA ops o n s = some true) (hx : evA G n s x = some (.func (.func f) ⟨[]⟩ ⟨caps⟩)) (ha : evL G n s as.toList = some args) (sp : Ctr P G f (args ++ caps) pre v post) (fits : Fits h js pre)
    (same : ∀ h2 : H, (∀ j ∈ js, h2[j]? = h[j]?) → upd h2 (js.zip post) = upd h2 us) (sub : ∀ u ∈ us, u.1 ∈ js) : OPJ P G ops o (mkT n s) h js us (some v) pre post :=
  OPJ.of hw fits sp.len same sub fun ρ w a R sim er fr => by
    have hv := evL_vr er (xs := as.toList) (fun x hx => by simp only [ho, Op.operands, Call.operands]; exact Array.mem_append.2 (.inr (by simpa using hx))) ha
    have hfx := er.get (by simp only [ho, Op.operands, Call.operands]; exact Array.mem_append.2 (.inl (by simp))) hx
    obtain ⟨fn, hf, hname, hb⟩ := sp.ent
    obtain ⟨caps', hval, hcaps⟩ : ∃ caps', a.eval x = .func (.func f) ⟨[]⟩ ⟨caps'⟩ ∧ VRL ρ caps caps' := by
      generalize a.eval x = u at hfx
      cases hfx with
      | func _ hx1 hy1 => cases hx1; exact ⟨_, rfl, hy1⟩
    have hrun : (execOp a.eval o).run P w = .ok (.enter f (as.map a.eval ++ ⟨caps'⟩)) w := by
      have h1 : fn.name ≠ "runtime.NumGoroutine" := by simpa using hname
      obtain ⟨c, hc⟩ := Option.isSome_iff_exists.1 hb
      unfold execOp
      simp [ho, resolve, Deferred.ofValue, invoke, hval, callFunc, hf, h1, hc]
    unfold Oper.wp
    rw [hrun, Oper.upon_enter]
    have hvv : VRL ρ (args ++ caps) (as.map a.eval ++ (⟨caps'⟩ : Array Value)).toList := by
      rw [Array.toList_append]
      exact VRL.append (by simpa using hv) hcaps
    refine (sp.run R ρ w (as.map a.eval ++ (⟨caps'⟩ : Array Value)) sim hvv fr).mono fun e w' hh => ?_
    obtain ⟨v', ρ', rfl, hv', sim', st', fr'⟩ := hh
    exact ⟨v', ρ', rfl, fun x hx => by cases hx; exact hv', sim', st', fr'⟩
theorem isIface.get {t : TypeId} (h : isIface P t = true) : ∃ ms, P.underlying t = some (.interface ms) := by
  unfold isIface at h
  split at h
  · exact ⟨_, by assumption⟩
  · cases h
theorem run_if_nil {t u : TypeId} {ms : Array (String × TypeId)} {v : Value} (hu : P.underlying t = some (.interface ms)) (w : World) : (Op.equal t (.iface u v) .nilIface).run P w = .ok false w := by
  show (Op.equalIn (9999 + 1) t (.iface u v) .nilIface).run P w = .ok false w
  rw [Op.equalIn]
  simp [run_underlying hu]
theorem run_nil_nil {t : TypeId} {ms : Array (String × TypeId)} (hu : P.underlying t = some (.interface ms)) (w : World) : (Op.equal t .nilIface .nilIface).run P w = .ok true w := by
  show (Op.equalIn (9999 + 1) t .nilIface .nilIface).run P w = .ok true w
  rw [Op.equalIn]
  simp [run_underlying hu]
/-- An interface that is not nil, beside nil. -/
theorem o_ifeq {t u q : TypeId} {x : Operand} {v : Value} (ho : o.op = .binOp .eql t x (.const .nilIface) u) (hw : wantA ops o n s = some true) (hp : isIface P t = true) (hx : evA G n s x = some (.iface q v)) :
    OPJ P G ops o (mkT n s) h [] [] (some (.bool false)) [] [] :=
  OPJ.pure hw fun ρ w a _ er => by
    obtain ⟨v', _, h1⟩ := vr_iface.1 (er.get (by simp [ho, Op.operands]) hx)
    obtain ⟨e, hu⟩ := isIface.get hp
    exact ⟨.bool false, by simp [execOp, ho, h1, show a.eval (.const .nilIface) = .nilIface from rfl, eqGuard, binOp, run_if_nil hu], by simp⟩
theorem o_ifne {t u q : TypeId} {x : Operand} {v : Value} (ho : o.op = .binOp .neq t x (.const .nilIface) u) (hw : wantA ops o n s = some true) (hp : isIface P t = true) (hx : evA G n s x = some (.iface q v)) :
    OPJ P G ops o (mkT n s) h [] [] (some (.bool true)) [] [] :=
  OPJ.pure hw fun ρ w a _ er => by
    obtain ⟨v', _, h1⟩ := vr_iface.1 (er.get (by simp [ho, Op.operands]) hx)
    obtain ⟨e, hu⟩ := isIface.get hp
    exact ⟨.bool true, by simp [execOp, ho, h1, show a.eval (.const .nilIface) = .nilIface from rfl, eqGuard, binOp, run_if_nil hu], by simp⟩
theorem o_nileq {t u : TypeId} {x : Operand} (ho : o.op = .binOp .eql t x (.const .nilIface) u) (hw : wantA ops o n s = some true) (hp : isIface P t = true) (hx : evA G n s x = some .nilIface) :
    OPJ P G ops o (mkT n s) h [] [] (some (.bool true)) [] [] :=
  OPJ.pure hw fun ρ w a _ er => by
    have h1 := vr_nilIface.1 (er.get (by simp [ho, Op.operands]) hx)
    obtain ⟨e, hu⟩ := isIface.get hp
    exact ⟨.bool true, by simp [execOp, ho, h1, show a.eval (.const .nilIface) = .nilIface from rfl, eqGuard, binOp, run_nil_nil hu], by simp⟩
theorem o_nilne {t u : TypeId} {x : Operand} (ho : o.op = .binOp .neq t x (.const .nilIface) u) (hw : wantA ops o n s = some true) (hp : isIface P t = true) (hx : evA G n s x = some .nilIface) :
    OPJ P G ops o (mkT n s) h [] [] (some (.bool false)) [] [] :=
  OPJ.pure hw fun ρ w a _ er => by
    have h1 := vr_nilIface.1 (er.get (by simp [ho, Op.operands]) hx)
    obtain ⟨e, hu⟩ := isIface.get hp
    exact ⟨.bool false, by simp [execOp, ho, h1, show a.eval (.const .nilIface) = .nilIface from rfl, eqGuard, binOp, run_nil_nil hu], by simp⟩
end
end Go.Proofs.YtlhhcongoplfpaaDoorAB
/-! A scope with labels, and jumps back to them. -/
namespace Go.Proofs.YtlhhcongoplfpaaDoorAB
open Go
/-- By a goto: J of its label; else Q. -/
def jmp (J : Nat → T → H → Prop) (Q : Exit → T → H → Prop) : Exit → T → H → Prop
  | .goto l, t, h => J l t h
  | e, t, h => Q e t h
def Exit.jmpA (J : Nat → Act → World → Prop) (Q : Exit → Act → World → Prop) : Exit → Act → World → Prop
  | .goto l, a, w => J l a w
  | e, a, w => Q e a w
section
variable {P : Program} {G : Nat} {Q : Exit → T → H → Prop} {t : T} {h : H}
theorem scope_rel {c : Code} {Q : Exit → Act → World → Prop} {a : Act} {w : World} (J : Nat → Nat → Act → World → Prop) (first : c.wp P (Exit.jmpA (fun l a' w' => ∃ m, J l m a' w') Q) a w)
    (pass : ∀ l m a w, J l m a w → ∃ rest, findLabel c l = some rest ∧ rest.wp P (Exit.jmpA (fun l' a' w' => ∃ m', m' < m ∧ J l' m' a' w') Q) a w) : (Code.scope c).wp P Q a w := by
  intro b k cs
  have hg : ∀ l rest, findLabel c l = some rest → gotoIn l (.inScope c :: k) = some (.code rest :: .inScope c :: k) := fun l rest hf => by simp [gotoIn, hf]
  have key : ∀ m l a w, J l m a w → ∃ rest, findLabel c l = some rest ∧ ∃ e a' w', Q e a' w' ∧ Arrives P (lone (b.at a (.code rest :: .inScope c :: k)) cs w) b k cs e a' w' := by
    intro m
    induction m using Nat.strongRecOn with
    | _ m ih =>
      intro l a w hJ
      obtain ⟨rest, hf, hp⟩ := pass l m a w hJ
      refine ⟨rest, hf, ?_⟩
      obtain ⟨e, a₁, w₁, hq, harr⟩ := hp b (.inScope c :: k) cs
      cases e with
      | normal => exact ⟨.normal, a₁, w₁, hq, Steps.trans harr (.one step_inScope)⟩
      | exit id => exact ⟨.exit id, a₁, w₁, hq, fun k' hk => harr k' (by simp [exitTo, hk])⟩
      | goto l' =>
        obtain ⟨m', hlt, hJ'⟩ := hq
        obtain ⟨rest', hf', e₂, a₂, w₂, hq₂, harr₂⟩ := ih m' hlt l' a₁ w₁ hJ'
        exact ⟨e₂, a₂, w₂, hq₂, .of_steps (harr _ (hg _ _ hf')) harr₂⟩
      | ret => exact ⟨_, a₁, w₁, hq, harr⟩
      | panic ch => exact ⟨_, a₁, w₁, hq, harr⟩
      | outgrown => exact ⟨_, a₁, w₁, hq, harr⟩
  obtain ⟨e, a₁, w₁, hq, harr⟩ := first b (.inScope c :: k) cs
  cases e with
  | normal => exact ⟨.normal, a₁, w₁, hq, .head step_scope (Steps.trans harr (.one step_inScope))⟩
  | exit id => exact ⟨.exit id, a₁, w₁, hq, fun k' hk => .head step_scope (harr k' (by simp [exitTo, hk]))⟩
  | goto l' =>
    obtain ⟨m, hJ'⟩ := hq
    obtain ⟨rest', hf', e₂, a₂, w₂, hq₂, harr₂⟩ := key m l' a₁ w₁ hJ'
    exact ⟨e₂, a₂, w₂, hq₂, .of_steps (.head step_scope (harr _ (hg _ _ hf'))) harr₂⟩
  | ret => exact ⟨_, a₁, w₁, hq, .of_steps (.one step_scope) harr⟩
  | panic ch => exact ⟨_, a₁, w₁, hq, .of_steps (.one step_scope) harr⟩
  | outgrown => exact ⟨_, a₁, w₁, hq, .of_steps (.one step_scope) harr⟩
/-- A scope: I says the state at each of its labels; a number falls at every jump. -/
theorem WP.scope {c : Code} (I : Nat → Nat → T → H → Prop) (first : WP P G c t h (jmp (fun l t' h' => ∃ m, I l m t' h') Q))
    (pass : ∀ l m t h, I l m t h → ∃ rest, findLabel c l = some rest ∧ WP P G rest t h (jmp (fun l' t' h' => ∃ m', m' < m ∧ I l' m' t' h') Q)) : WP P G (.scope c) t h Q := by
  unfold WP at first pass ⊢
  intro ρ a w R s f
  refine scope_rel (fun l m a' w' => ∃ t' h' ρ', I l m t' h' ∧ St G ρ' t' h' a' w' ∧ Stp ρ h w ρ' h' w' ∧ Free ρ' h' R) ?_ ?_
  · refine wp_mono (first ρ a w R s f) fun e a2 w2 ⟨t2, h2, ρ2, q, r⟩ => ?_
    cases e with
    | goto l =>
      obtain ⟨m, hI⟩ := q
      exact ⟨m, t2, h2, ρ2, hI, r⟩
    | _ => exact ⟨t2, h2, ρ2, q, r⟩
  · rintro l m a1 w1 ⟨t1, h1, ρ1, hI, s1, st1, f1⟩
    obtain ⟨rest, hf, hp⟩ := pass l m t1 h1 hI
    refine ⟨rest, hf, wp_mono (hp ρ1 a1 w1 R s1 f1) fun e a2 w2 ⟨t2, h2, ρ2, q, s2, st2, f2⟩ => ?_⟩
    cases e with
    | goto l' =>
      obtain ⟨m', hlt, hI'⟩ := q
      exact ⟨m', hlt, t2, h2, ρ2, hI', s2, st1.trans st2, f2⟩
    | _ => exact ⟨t2, h2, ρ2, q, s2, st1.trans st2, f2⟩
variable {J : Nat → T → H → Prop}
theorem jmp_n (k : Q .normal t h) : jmp J Q .normal t h := k
theorem jmp_r (k : Q .ret t h) : jmp J Q .ret t h := k
theorem jmp_e {i : Nat} (k : Q (.exit i) t h) : jmp J Q (.exit i) t h := k
theorem jmp_g {l : Nat} (k : J l t h) : jmp J Q (.goto l) t h := k
end
attribute [irreducible] jmp
end Go.Proofs.YtlhhcongoplfpaaDoorAB
/-! Less is said of a block: cells that nobody writes any more. -/
namespace Go.Proofs.YtlhhcongoplfpaaDoorAB
set_option linter.unusedVariables false
set_option linter.unusedSimpArgs false
open Go
def Fades (o o' : AObj) : Prop := o' = .lost ∨ o' = o ∨ ∃ cs ty, o = .cells cs ty ∧ o' = .ro 0 cs
theorem Fades.live {o o' : AObj} (h : Fades o o') (k : o'.live = true) : o.live = true := by
  rcases h with rfl | rfl | ⟨cs, ty, rfl, rfl⟩
  · cases k
  · exact k
  · rfl
theorem Fades.wr {o o' : AObj} (h : Fades o o') (k : o'.wr = true) : o.wr = true := by
  rcases h with rfl | rfl | ⟨cs, ty, rfl, rfl⟩
  · cases k
  · exact k
  · cases k
theorem Fades.gone {o o' : AObj} (h : Fades o o') (k : o' = .gone) : o = .gone := by
  rcases h with rfl | rfl | ⟨cs, ty, rfl, rfl⟩
  · cases k
  · exact k
  · cases k
theorem Fades.lost {o o' : AObj} (h : Fades o o') (k : o' ≠ .lost) : o ≠ .lost := by
  rcases h with rfl | rfl | ⟨cs, ty, rfl, rfl⟩
  · exact absurd rfl k
  · exact k
  · simp
theorem Fades.or {ρ : Ren} {i : Nat} {o o' : AObj} (h : Fades o o') (k : o'.live = true) {x : Obj} (r : OR ρ i o x) : OR ρ i o' x := by
  rcases h with rfl | rfl | ⟨cs, ty, rfl, rfl⟩
  · cases k
  · exact r
  · obtain ⟨cs', h1, rfl⟩ := r
    refine ⟨⟨cs'⟩, ty, (0, 0), rfl, ?_⟩
    show VRL ρ cs ((cs'.drop 0).take cs.length)
    rw [List.drop_zero, ← h1.length, List.take_length]
    exact h1
theorem Ctr.fade {P : Program} {G : Nat} {f : FuncId} {args : List Value} {pre : H} {v : Value} {post post' : List AObj} (c : Ctr P G f args pre v post) (hl : post'.length = post.length) (h : ∀ (i : Nat) (o o' : AObj), post[i]? = some o → post'[i]? = some o' → Fades o o') : Ctr P G f args pre v post' := by
  have hl2 : post'.length = pre.length := hl.trans c.len
  refine ⟨c.ent, hl2, fun R ρ w cargs sim hv fr => (c.run R ρ w cargs sim hv fr).mono ?_⟩
  rintro e w' ⟨v', ρ', he, hvr, sim', st, fr'⟩
  have key : ∀ (i : Nat) (x : Nat × AObj), (wth pre post')[i]? = some x → ∃ y, (wth pre post)[i]? = some y ∧ y.1 = x.1 ∧ Fades y.2 x.2 := by
    intro i x hx
    have hi : i < pre.length := by
      have := (List.getElem?_eq_some_iff.1 hx).1
      simp [wth, hl2] at this
      exact this
    obtain ⟨o', ho', hw'⟩ := wth_get hl2 (List.getElem?_eq_getElem hi)
    obtain ⟨o, ho, hw⟩ := wth_get c.len (List.getElem?_eq_getElem hi)
    rw [hw'] at hx
    cases hx
    exact ⟨_, hw, rfl, h i o o' ho ho'⟩
  have mem : ∀ x ∈ wth pre post', ∃ y ∈ wth pre post, y.1 = x.1 ∧ Fades y.2 x.2 := by
    intro x hx
    obtain ⟨i, hi⟩ := List.mem_iff_getElem?.1 hx
    obtain ⟨y, h1, h2⟩ := key i x hi
    exact ⟨y, List.mem_of_getElem? h1, h2⟩
  refine ⟨v', ρ', he, hvr, ⟨sim'.dom, fun x hx => ?_, fun i j x y hij hi hj => ?_, sim'.glob, sim'.fin⟩, ⟨st.ext, st.new, st.size, st.os, st.tape, st.output, st.keep, fun x hx hlive => ?_, fun x hx hg => ?_⟩, fr'⟩
  · obtain ⟨y, hy, e1, hf⟩ := mem x hx
    have hs := sim'.ent y hy
    refine ⟨fun hg => ?_, fun hl => ?_⟩
    · rw [← e1]; exact hs.1 (hf.gone hg)
    · obtain ⟨b, o, h1, h2, h3⟩ := hs.2 (hf.live hl)
      exact ⟨b, o, by rw [← e1]; exact h1, h2, by rw [← e1]; exact hf.or hl h3⟩
  · obtain ⟨x', hx', e1, f1⟩ := key i x hi
    obtain ⟨y', hy', e2, f2⟩ := key j y hj
    intro a b
    obtain ⟨s1, s2⟩ := sim'.sep i j x' y' hij hx' hy' (f1.lost a) (f2.lost b)
    rw [e1, e2] at s1 s2
    exact ⟨fun k => s1 (k.imp f1.wr f2.wr), fun k => s2 (k.imp f1.gone f2.gone)⟩
  · obtain ⟨y, hy, e1, hf⟩ := mem x hx
    intro b hb
    obtain h1 | ⟨e, h1, h2, h3, h4⟩ := st.der y hy (hf.live hlive) b (by rw [e1]; exact hb)
    · exact .inl h1
    · exact .inr ⟨e, h1, h2, fun k => h3 (hf.wr k), h4⟩
  · obtain ⟨y, hy, e1, hf⟩ := mem x hx
    have hyg := hf.gone hg
    have := st.gon y hy hyg
    have e : y = x := by
      obtain ⟨a, b⟩ := y; obtain ⟨c, d⟩ := x
      simp only at e1 hyg hg
      rw [e1, hyg, hg]
    rw [← e]; exact this
section
variable {P : Program} {G : Nat} {Q : Exit → T → H → Prop} {t : T} {h : H}
theorem jmp_mono {J J' : Nat → T → H → Prop} (k : ∀ l t h, J l t h → J' l t h) {e : Exit} (q : jmp J Q e t h) : jmp J' Q e t h := by
  unfold jmp at q ⊢
  cases e with
  | goto l => exact k _ _ _ q
  | _ => exact q
/-- A scope with one label, by slots. -/
theorem WP.scopeI {α : Type} {c rest : Code} {n l0 : Nat} (S : α → As) (Hh : α → H) (I : α → Prop) (μ : α → Nat) (hf : findLabel c l0 = some rest)
    (first : WP P G c t h (jmp (fun l t' h' => l = l0 ∧ ∃ y, I y ∧ Wk t' h' (mkT n (S y)) (Hh y)) Q))
    (round : ∀ x, I x → WP P G rest (mkT n (S x)) (Hh x) (jmp (fun l t' h' => l = l0 ∧ ∃ y, I y ∧ μ y < μ x ∧ Wk t' h' (mkT n (S y)) (Hh y)) Q)) : WP P G (.scope c) t h Q :=
  WP.scope (fun l m t h => l = l0 ∧ ∃ x, I x ∧ μ x = m ∧ Wk t h (mkT n (S x)) (Hh x))
    (WP.mono (fun e t h q => jmp_mono (fun l t h ⟨hl, y, iy, wk⟩ => ⟨μ y, hl, y, iy, rfl, wk⟩) q) first)
    fun l m t h ⟨hl, x, ix, hm, wk⟩ => by
      subst hl
      exact ⟨rest, hf, WP.weak wk (WP.mono (fun e t h q => jmp_mono (fun l t h ⟨hl, y, iy, hlt, wk⟩ => ⟨μ y, hm ▸ hlt, hl, y, iy, rfl, wk⟩) q) (round x ix))⟩
end
section
variable {P : Program} {G : Nat} {Q : Exit → T → H → Prop} {t : T} {h : H}
/-- The same, entered at its label from ahead of it. -/
theorem WP.scopeJ {α : Type} {c R : Code} {n l0 : Nat} (S : α → As) (Hh : α → H) (I : α → Prop) (μ : α → Nat) (hf : findLabel c l0 = some (.seq .skip R))
    (first : (∀ t h y, I y → Wk t h (mkT n (S y)) (Hh y) → WP P G R t h (jmp (fun l t' h' => l = l0 ∧ ∃ y, I y ∧ Wk t' h' (mkT n (S y)) (Hh y)) Q)) → WP P G c t h (jmp (fun l t' h' => l = l0 ∧ ∃ y, I y ∧ Wk t' h' (mkT n (S y)) (Hh y)) Q))
    (round : ∀ x, I x → WP P G R (mkT n (S x)) (Hh x) (jmp (fun l t' h' => l = l0 ∧ ∃ y, I y ∧ μ y < μ x ∧ Wk t' h' (mkT n (S y)) (Hh y)) Q)) : WP P G (.scope c) t h Q :=
  WP.scopeI S Hh I μ hf (first fun t h y iy wk => WP.weak wk (WP.mono (fun e t h q => jmp_mono (fun l t h ⟨hl, y, iy, _, wk⟩ => ⟨hl, y, iy, wk⟩) q) (round y iy)))
    fun x ix => WP.seq (WP.skip (thn_n (round x ix)))
end
/-- A record of a row, by its place. -/
theorem ro_segD {α : Type} {g : α → List Value} {sz : Nat} (hg : ∀ x, (g x).length = sz) {zs : List α} {f i : Nat} (d : α) (hi : i < zs.length) : AObj.seg (.ro f (zs.flatMap g)) (f + i * sz) sz = some (g (zs.getD i d)) := by
  rw [ro_seg hg hi, List.getD_eq_getElem?_getD, List.getElem?_eq_getElem hi]; rfl
theorem takeO_get : ∀ {n : Nat} {l r : List Value} {j : Nat}, takeO n l = some r → j < n → l[j]? = r[j]?
  | n + 1, x :: l, r, j, h, hj => by
    simp only [takeO] at h
    cases hh : takeO n l with
    | none => rw [hh] at h; cases h
    | some r' =>
      rw [hh] at h
      cases h
      cases j with
      | zero => rfl
      | succ j => exact takeO_get (l := l) (r := r') hh (by omega)
/-- One cell of a record of a row, by its place. -/
theorem ro_cellD {α : Type} {g : α → List Value} {sz : Nat} (hg : ∀ x, (g x).length = sz) {zs : List α} {f i j : Nat} (d : α) (hi : i < zs.length) (hj : j < sz) : (zs.flatMap g)[i * sz + j]? = (g (zs.getD i d))[j]? := by
  rw [flat_get hg hi hj, List.getD_eq_getElem?_getD, List.getElem?_eq_getElem hi]; rfl
abbrev pp (x : Int × Int) : List Value := [.int .i64 x.1, .int .i64 x.2]
/-- Points that can be read. -/
structure Tb (ob : AObj) (f n : Nat) (X Y : Nat → Int) : Prop where
  seg : ∀ i, i < n → ob.seg (f + i * 2) 2 = some [.int .i64 (X i), .int .i64 (Y i)]
  ax : ∀ i, i < n → ob.at (f + i * 2) = some (.int .i64 (X i))
  ay : ∀ i, i < n → ob.at (f + i * 2 + 1) = some (.int .i64 (Y i))
section
variable {P : Program} {G : Nat} {L : Lay} {ops : Array Oper} {o : Oper} {n : Nat} {s : As} {h : H}
/-- An element of a row, by a number that is known to be its place. -/
theorem o_idxN {t : TypeId} {x y : Operand} {a : Option Addr} {k f l c sz m : Nat} {el : TypeId} {kd : IntKind} {i : Int} {e : TE} (hL : LayOk P L = true) (ho : o.op = .indexAddr t x y) (hw : wantA ops o n s = some true) (hx : evA G n s x = some (.slice a l c)) (hy : evA G n s y = some (.int kd i))
    (ht : lkT L t = some e) (hs : e.sl = some (el, sz)) (ha : 0 < l → a = some ⟨k, f, none⟩) (hi : i = (m : Int)) (h1 : m < l) : OPJ P G ops o (mkT n s) h [] [] (some (.pointer (some ⟨k, f + m * sz, none⟩))) [] [] := by
  subst hi
  exact o_idxS hL ho hw hx hy ht hs ha (by omega) (by omega)
end
end Go.Proofs.YtlhhcongoplfpaaDoorAB
/-! Parts of records, of tuples, of arrays. -/
namespace Go.Proofs.YtlhhcongoplfpaaDoorAB
set_option linter.unusedVariables false
set_option linter.unusedSimpArgs false
open Go
section
variable {P : Program} {G : Nat} {L : Lay} {ops : Array Oper} {o : Oper} {n : Nat} {s : As} {h : H}
theorem run_partc {t : TypeId} {e : TE} (tf : TF P t e) (ha : e.agg = false) {cs : Array Value} {off : Nat} {v : Value} (hv : cs[off]? = some v) (w : World) : (part t cs off).run P w = .ok v w := by
  simp [part, run_isAgg tf, ha, hv]
theorem run_partr {t : TypeId} {e : TE} (tf : TF P t e) (ha : e.agg = true) {cs : Array Value} {off : Nat} (w : World) : (part t cs off).run P w = .ok (.agg (cs.extract off (off + e.size))) w := by
  simp [part, run_isAgg tf, ha, run_sizeT tf]
theorem vr_extract {ρ : Ren} {xs : Array Value} {ys : List Value} {i m : Nat} (h : VRL ρ xs.toList ys) : VR ρ (.agg ⟨(xs.toList.drop i).take m⟩) (.agg ((⟨ys⟩ : Array Value).extract i (i + m))) := by
  have e : (⟨ys⟩ : Array Value).extract i (i + m) = ⟨(ys.drop i).take m⟩ := by
    apply Array.ext'
    simp [List.extract]
  rw [e]
  exact .agg ((h.drop i).take m)
/-- One cell of a record. -/
theorem o_fieldc {t : TypeId} {x : Operand} {fld : Nat} {fields : Array Field} {fd : Field} {xs : Array Value} {v : Value} {e : TE} (hL : LayOk P L = true) (ho : o.op = .field t x fld) (hw : wantA ops o n s = some true) (hx : evA G n s x = some (.agg xs))
    (hu : P.underlying t = some (.struct fields)) (hf : fields[fld]? = some fd) (ht : lkT L fd.type = some e) (ha : e.agg = false) (hv : xs.toList[fd.offset]? = some v) : OPJ P G ops o (mkT n s) h [] [] (some v) [] [] :=
  OPJ.pure hw fun ρ w a _ er => by
    obtain ⟨ys, hl, h1⟩ := vr_agg.1 (er.get (by simp [ho, Op.operands]) hx)
    obtain ⟨v', hv', hvr⟩ := hl.get fd.offset hv
    have hv2 : (⟨ys⟩ : Array Value)[fd.offset]? = some v' := by simpa using hv'
    refine ⟨v', ?_, hvr⟩
    simp [execOp, ho, h1, Instr.field, run_underlying hu, hf, asAgg, run_partc (tfOf hL ht) ha hv2]
/-- A record in a record. -/
theorem o_fieldr {t : TypeId} {x : Operand} {fld : Nat} {fields : Array Field} {fd : Field} {xs : Array Value} {vs : List Value} {e : TE} (hL : LayOk P L = true) (ho : o.op = .field t x fld) (hw : wantA ops o n s = some true) (hx : evA G n s x = some (.agg xs))
    (hu : P.underlying t = some (.struct fields)) (hf : fields[fld]? = some fd) (ht : lkT L fd.type = some e) (ha : e.agg = true) (hv : (xs.toList.drop fd.offset).take e.size = vs) : OPJ P G ops o (mkT n s) h [] [] (some (.agg ⟨vs⟩)) [] [] :=
  OPJ.pure hw fun ρ w a _ er => by
    obtain ⟨ys, hl, h1⟩ := vr_agg.1 (er.get (by simp [ho, Op.operands]) hx)
    subst hv
    refine ⟨_, ?_, vr_extract (i := fd.offset) (m := e.size) hl⟩
    simp [execOp, ho, h1, Instr.field, run_underlying hu, hf, asAgg, run_partr (tfOf hL ht) ha]
/-- A part of a tuple. -/
theorem o_extract {x : Operand} {i : Nat} {xs : Array Value} {v : Value} (ho : o.op = .extract x i) (hw : wantA ops o n s = some true) (hx : evA G n s x = some (.tuple xs)) (hv : xs.toList[i]? = some v) : OPJ P G ops o (mkT n s) h [] [] (some v) [] [] :=
  OPJ.pure hw fun ρ w a _ er => by
    obtain ⟨ys, hl, h1⟩ := vr_tuple.1 (er.get (by simp [ho, Op.operands]) hx)
    obtain ⟨v', hv', hvr⟩ := hl.get i hv
    have hv2 : (⟨ys⟩ : Array Value)[i]? = some v' := by simpa using hv'
    refine ⟨v', ?_, hvr⟩
    simp [execOp, ho, h1, Instr.extract]
    have hv3 : ys[i]? = some v' := hv'
    simp [hv3]
/-- A cell of an array. -/
theorem o_indexc {t el : TypeId} {x y : Operand} {len : Nat} {xs : Array Value} {v : Value} {e ea : TE} {kd : IntKind} {i : Int} (hL : LayOk P L = true) (ho : o.op = .index t x y) (hw : wantA ops o n s = some true) (hx : evA G n s x = some (.agg xs)) (hy : evA G n s y = some (.int kd i))
    (hta : lkT L t = some ea) (harr : ea.arr = some (len, el, 1)) (ht : lkT L el = some e) (ha : e.agg = false) (h0 : 0 ≤ i) (h1 : i < len) (hv : xs.toList[i.toNat]? = some v) : OPJ P G ops o (mkT n s) h [] [] (some v) [] [] :=
  OPJ.pure hw fun ρ w a _ er => by
    obtain ⟨ys, hl, hx1⟩ := vr_agg.1 (er.get (by simp [ho, Op.operands]) hx)
    have hy1 := vr_int.1 (er.get (by simp [ho, Op.operands]) hy)
    obtain ⟨hu, j, hj, hjs⟩ := (tfOf hL hta).arr _ _ _ harr
    obtain ⟨v', hv', hvr⟩ := hl.get i.toNat hv
    have hv2 : (⟨ys⟩ : Array Value)[i.toNat]? = some v' := by simpa using hv'
    have hsz : (sizeOf el).run P w = .ok 1 w := by simp [sizeOf, typeInfo, hj, hjs]
    refine ⟨v', ?_, hvr⟩
    simp [execOp, ho, hx1, hy1, Instr.index, run_underlying hu, asIntOf, h0, h1, hsz, run_partc (tfOf hL ht) ha hv2]
/-- Where entries are found. -/
inductive Fd (h : H) : List Nat → H → Prop
  | nil : Fd h [] []
  | cons {j : Nat} {e : Nat × AObj} {js : List Nat} {pre : H} (hj : h[j]? = some e) (r : Fd h js pre) : Fd h (j :: js) (e :: pre)
theorem Fd.at_ {h : H} : ∀ {js : List Nat} {pre : H}, Fd h js pre → js.map (h[·]?) = pre.map some
  | _, _, .nil => rfl
  | _, _, .cons hj r => by simp [hj, r.at_]
theorem Fd.same {h : H} : ∀ {js : List Nat} {pre : H}, Fd h js pre → ∀ h2 : H, (∀ j ∈ js, h2[j]? = h[j]?) → upd h2 (js.zip (pre.map (·.2))) = h2
  | _, _, .nil, h2, _ => rfl
  | _, _, .cons (j := j) (e := e) (js := js) (pre := pre) hj r, h2, hh => by
    have h1 := hh j (by simp)
    rw [hj] at h1
    have h3 : h2.modify j (fun x => (x.1, e.2)) = h2 := by
      refine List.ext_getElem? fun i => ?_
      rw [List.getElem?_modify]
      by_cases hi : j = i
      · subst hi; simp [h1]
      · simp [hi]
    show upd (h2.modify j fun x => (x.1, e.2)) (js.zip (pre.map (·.2))) = h2
    rw [h3]
    exact r.same h2 fun i hi => hh i (by simp [hi])
theorem zip_fst {α β : Type} {a : α} {b : β} : ∀ {l : List α} {m : List β}, (a, b) ∈ l.zip m → a ∈ l
  | x :: l, y :: m, h => by
    rw [List.zip_cons_cons, List.mem_cons] at h
    rcases h with h | h
    · cases h; simp
    · exact List.mem_cons_of_mem _ (zip_fst h)
/-- A call that changes nothing of what it is given. -/
theorem o_callR {f : FuncId} {as : Array Operand} {ts : Array TypeId} {args : List Value} {pre : H} {v : Value} {post : List AObj} {js : List Nat}
    (ho : o.op = .call { callee := .value (.func f), args := as, argTypes := ts }) (hw : wantA ops o n s = some true) (ha : evL G n s as.toList = some args) (sp : Ctr P G f args pre v post) (hp : post = pre.map (·.2)) (fd : Fd h js pre) (nd : js.Nodup) : OPJ P G ops o (mkT n s) h js [] (some v) pre post := by
  subst hp
  exact o_call ho hw ha sp ⟨nd, fd.at_⟩ (fun h2 hh => fd.same h2 hh) (fun _ h => by cases h)
theorem o_callRF {x : Operand} {f : FuncId} {as : Array Operand} {ts : Array TypeId} {args caps : List Value} {pre : H} {v : Value} {post : List AObj} {js : List Nat}
    (ho : o.op = .call { callee := .value x, args := as, argTypes := ts }) (hw : wantA ops o n s = some true) (hx : evA G n s x = some (.func (.func f) ⟨[]⟩ ⟨caps⟩)) (ha : evL G n s as.toList = some args) (sp : Ctr P G f (args ++ caps) pre v post) (hp : post = pre.map (·.2)) (fd : Fd h js pre) (nd : js.Nodup) : OPJ P G ops o (mkT n s) h js [] (some v) pre post := by
  subst hp
  exact o_callF ho hw hx ha sp ⟨nd, fd.at_⟩ (fun h2 hh => fd.same h2 hh) (fun _ h => by cases h)
/-- A call that may write all that it is given. -/
theorem o_callW {f : FuncId} {as : Array Operand} {ts : Array TypeId} {args : List Value} {pre : H} {v : Value} {post : List AObj} {js : List Nat} {us : List (Nat × AObj)}
    (ho : o.op = .call { callee := .value (.func f), args := as, argTypes := ts }) (hw : wantA ops o n s = some true) (ha : evL G n s as.toList = some args) (sp : Ctr P G f args pre v post) (fd : Fd h js pre) (nd : js.Nodup) (hu : us = js.zip post) : OPJ P G ops o (mkT n s) h js us (some v) pre post := by
  subst hu
  exact o_call ho hw ha sp ⟨nd, fd.at_⟩ (fun _ _ => rfl) (fun u hu => zip_fst (a := u.1) (b := u.2) hu)
theorem run_bool_eq {t : TypeId} (hu : P.underlying t = some .bool) (x y : Bool) (w : World) : (Op.equal t (.bool x) (.bool y)).run P w = .ok (x == y) w := by
  show (Op.equalIn (9999 + 1) t (.bool x) (.bool y)).run P w = .ok (x == y) w
  rw [Op.equalIn]
  simp [run_underlying hu]
/-- Two truth values. -/
theorem o_beq {t u : TypeId} {x y : Operand} {p q : Bool} (ho : o.op = .binOp .eql t x y u) (hw : wantA ops o n s = some true) (hp : P.underlying t = some .bool) (hx : evA G n s x = some (.bool p)) (hy : evA G n s y = some (.bool q)) :
    OPJ P G ops o (mkT n s) h [] [] (some (.bool (p == q))) [] [] :=
  OPJ.pure hw fun ρ w a _ er => by
    have h1 := vr_bool.1 (er.get (by simp [ho, Op.operands]) hx)
    have h2 := vr_bool.1 (er.get (by simp [ho, Op.operands]) hy)
    exact ⟨.bool (p == q), by simp [execOp, ho, h1, h2, eqGuard, binOp, run_bool_eq hp], by simp⟩
theorem o_bne {t u : TypeId} {x y : Operand} {p q : Bool} (ho : o.op = .binOp .neq t x y u) (hw : wantA ops o n s = some true) (hp : P.underlying t = some .bool) (hx : evA G n s x = some (.bool p)) (hy : evA G n s y = some (.bool q)) :
    OPJ P G ops o (mkT n s) h [] [] (some (.bool (!(p == q)))) [] [] :=
  OPJ.pure hw fun ρ w a _ er => by
    have h1 := vr_bool.1 (er.get (by simp [ho, Op.operands]) hx)
    have h2 := vr_bool.1 (er.get (by simp [ho, Op.operands]) hy)
    exact ⟨.bool (!(p == q)), by simp [execOp, ho, h1, h2, eqGuard, binOp, run_bool_eq hp], by simp⟩
end
end Go.Proofs.YtlhhcongoplfpaaDoorAB
/-! A record of a number and a truth value that the input brings. -/
namespace Go.Proofs.YtlhhcongoplfpaaDoorAB
set_option linter.unusedVariables false
set_option linter.unusedSimpArgs false
open Go
theorem aggIB {P : Program} {w : World} {r : Reach} {base : Nat} {t e u : TypeId} {k : IntKind} {fs : Array Field} {v : Value} (hu : P.underlying t = some (.struct fs)) (hc : P.cellTypes P.depth t = some [e, u]) (hn : P.cellsOf t = 2) (he : P.underlying e = some (.int k)) (hb : P.underlying u = some .bool)
    (hv : Value.okWide P w r base t v) : ∃ a b, v = .agg #[.int k a, .bool b] := by
  have cellInt : ∀ x, Cell.okWide P w r base e x → ∃ n, x = .int k n := fun x hx => by
    simp only [Cell.okWide, he] at hx
    cases x <;> simp_all [Cell.ok]
  have cellBool : ∀ x, Cell.okWide P w r base u x → ∃ n, x = .bool n := fun x hx => by
    simp only [Cell.okWide, hb] at hx
    cases x <;> simp_all [Cell.ok]
  simp only [Value.okWide, hu] at hv
  obtain ⟨⟨cs⟩, rfl, hs, ts, h1, _, h2⟩ := hv
  rw [hc] at h1
  cases h1
  rw [hn] at hs
  match cs, hs with
  | [x, y], _ =>
    obtain ⟨u0, hu0, hx⟩ := h2 0 x rfl
    obtain ⟨u1, hu1, hy⟩ := h2 1 y rfl
    cases hu0
    cases hu1
    obtain ⟨a, rfl⟩ := cellInt x hx
    obtain ⟨b, rfl⟩ := cellBool y hy
    exact ⟨a, b, rfl⟩
end Go.Proofs.YtlhhcongoplfpaaDoorAB
/-! Loops of few rounds, unrolled; a state told anew between two parts of a code. -/
namespace Go.Proofs.YtlhhcongoplfpaaDoorAB
open Go
set_option linter.unusedVariables false
section
variable {P : Program} {G : Nat} {Q : Exit → T → H → Prop} {t : T} {h : H}
theorem thn_mono {K K' : T → H → Prop} (k : ∀ t h, K t h → K' t h) {e : Exit} (q : thn K Q e t h) : thn K' Q e t h := by
  unfold thn at q ⊢
  cases e with
  | normal => exact k _ _ q
  | _ => exact q
/-- So many rounds at most are left. -/
def loopW (P : Program) (G : Nat) (c : Code) (Q : Exit → T → H → Prop) : Nat → T → H → Prop
  | 0, _, _ => False
  | m + 1, t, h => WP P G c t h (thn (fun t' h' => loopW P G c Q m t' h') Q)
theorem loopW_s {c : Code} {m : Nat} (k : WP P G c t h (thn (fun t' h' => loopW P G c Q m t' h') Q)) : loopW P G c Q (m + 1) t h := k
theorem WP.unroll {c : Code} (n : Nat) (k : loopW P G c Q n t h) : WP P G (.loop c) t h Q :=
  WP.loop (fun m t h => loopW P G c Q m t h) k fun m t h hI => by
    cases m with
    | zero => exact hI.elim
    | succ m => exact WP.mono (fun e t h q => thn_mono (fun t h x => ⟨m, Nat.lt_succ_self m, x⟩) q) hI
/-- A code, and what is said behind it. -/
theorem WP.seqW {a b : Code} {n : Nat} (s : As) (hh : H) (first : WP P G a t h (thn (fun t' h' => Wk t' h' (mkT n s) hh) Q)) (second : WP P G b (mkT n s) hh Q) : WP P G (.seq a b) t h Q :=
  WP.seq (WP.mono (fun e t h q => thn_mono (fun t h x => WP.weak x second) q) first)
end
attribute [irreducible] loopW
end Go.Proofs.YtlhhcongoplfpaaDoorAB
/-! More operations: arrays behind pointers, slices of arrays; the top of a law that reads globals. -/
namespace Go.Proofs.YtlhhcongoplfpaaDoorAB
open Go
set_option linter.unusedVariables false
set_option linter.unusedSimpArgs false
section
variable {P : Program} {G : Nat} {L : Lay} {ops : Array Oper} {o : Oper} {n : Nat} {s : As} {h : H}
/-- An element's place in an array. -/
theorem o_idxP {t el : TypeId} {x y : Operand} {k f len sz : Nat} {kd : IntKind} {i : Int} {e : TE} (hL : LayOk P L = true) (ho : o.op = .indexAddr t x y) (hw : wantA ops o n s = some true) (hx : evA G n s x = some (.pointer (some ⟨k, f, none⟩))) (hy : evA G n s y = some (.int kd i))
    (ht : lkT L t = some e) (hs : e.arr = some (len, el, sz)) (h0 : 0 ≤ i) (h1 : i < len) : OPJ P G ops o (mkT n s) h [] [] (some (.pointer (some ⟨k, f + i.toNat * sz, none⟩))) [] [] :=
  OPJ.pure hw fun ρ w a _ er => by
    obtain ⟨hu, j, hj, hjs⟩ := (tfOf hL ht).arr len el sz hs
    obtain ⟨b, hb, hv⟩ := vr_ptr.1 (er.get (by simp [ho, Op.operands]) hx)
    have h2 := vr_int.1 (er.get (by simp [ho, Op.operands]) hy)
    refine ⟨.pointer (some ⟨b, f + i.toNat * sz, none⟩), ?_, .ptr _ _ hb⟩
    simp [execOp, ho, hv, h2, Instr.indexAt, Instr.sureAddr, asIntOf, run_underlying hu, h0, h1, sizeOf, typeInfo, hj, hjs, add_none]
/-- The same, where the number is a literal or known to be its place. -/
theorem o_idxPN {t el : TypeId} {x y : Operand} {k f len sz m : Nat} {kd : IntKind} {i : Int} {e : TE} (hL : LayOk P L = true) (ho : o.op = .indexAddr t x y) (hw : wantA ops o n s = some true) (hx : evA G n s x = some (.pointer (some ⟨k, f, none⟩))) (hy : evA G n s y = some (.int kd i))
    (ht : lkT L t = some e) (hs : e.arr = some (len, el, sz)) (hi : i = (m : Int)) (h1 : m < len) : OPJ P G ops o (mkT n s) h [] [] (some (.pointer (some ⟨k, f + m * sz, none⟩))) [] [] := by
  subst hi
  exact o_idxP hL ho hw hx hy ht hs (by omega) (by omega)
/-- An array as a slice. -/
theorem o_sliceA {t el : TypeId} {x : Operand} {k f len sz : Nat} {e : TE} (hL : LayOk P L = true) (ho : o.op = .slice t x none none none) (hw : wantA ops o n s = some true) (hx : evA G n s x = some (.pointer (some ⟨k, f, none⟩)))
    (ht : lkT L t = some e) (hs : e.arr = some (len, el, sz)) (hg : Nat.ble len 100000 = true) : OPJ P G ops o (mkT n s) h [] [] (some (.slice (some ⟨k, f, none⟩) len len)) [] [] :=
  OPJ.pure hw fun ρ w a _ er => by
    obtain ⟨hu, j, hj, hjs⟩ := (tfOf hL ht).arr len el sz hs
    obtain ⟨b, hb, hv⟩ := vr_ptr.1 (er.get (by simp [ho, Op.operands]) hx)
    have hg := Nat.le_of_ble_eq_true hg
    refine ⟨.slice (some ⟨b, f, none⟩) len len, ?_, .slice _ _ _ _ _ hb ⟨id, fun h => absurd h (by unfold grown; omega)⟩⟩
    simp [execOp, ho, hv, Instr.sliceAt, Instr.sureAddr, Instr.sliceBounds, run_underlying hu, sizeOf, typeInfo, hj, hjs, add_none]
end
/-- The top of a law: blocks that may be written stand as they stood. -/
theorem Ctr.topR {P : Program} {G : Nat} {f : FuncId} {args : List Value} {cargs : Array Value} {b : Bool} {pre : H} {post : List AObj} {w : World} {ρ : Ren} (sim : Sim G ρ pre w) (c : Ctr P G f args pre (.bool b) post) (hp : post = pre.map (·.2))
    (hw : ∀ e ∈ pre, e.2.wr = true → ∃ x ty, e.2 = .cells [.string x] ty) (hv : VRL ρ args cargs.toList) : Calls P f cargs w fun e w' => e = .returned (.bool b) ∧ RowKit.Below w.heap.size w w' := by
  refine (c.run [] ρ w cargs sim hv (fun k hk => (by cases hk))).mono ?_
  rintro e w' ⟨v', ρ', rfl, hvr, sim', st, _⟩
  rw [vr_bool.1 hvr]
  refine ⟨rfl, st.os, st.tape, st.output, st.size, fun k hk => ?_⟩
  by_cases hx : ∃ e ∈ pre, e.2.wr = true ∧ ρ e.1 = some k
  · obtain ⟨e, he, hwr, hek⟩ := hx
    obtain ⟨x, ty, ho⟩ := hw e he hwr
    have he' : e ∈ wth pre post := by
      rw [hp]
      obtain ⟨i, hi, rfl⟩ := List.getElem_of_mem he
      have hl : (pre.map (·.2)).length = pre.length := by simp
      obtain ⟨o', ho', hw'⟩ := wth_get hl (List.getElem?_eq_getElem hi)
      rw [List.getElem?_map, List.getElem?_eq_getElem hi] at ho'
      cases ho'
      exact List.mem_of_getElem? hw'
    obtain ⟨b0, o0, h1, h2, h3⟩ := (sim.ent e he).2 (AObj.live_of_wr hwr)
    obtain ⟨b1, o1, g1, g2, g3⟩ := (sim'.ent e he').2 (AObj.live_of_wr hwr)
    have := st.ext.b _ _ hek
    rw [this] at g1
    rw [hek] at h1
    cases g1; cases h1
    rw [ho] at h3 g3
    obtain ⟨cs, hc, rfl⟩ := h3
    obtain ⟨ds, hd, rfl⟩ := g3
    have e1 : cs = [.string x] := by simpa using hc
    have e2 : ds = [.string x] := by simpa using hd
    rw [g2, h2, e1, e2]
  · exact st.keep k hk fun e he hwr hek => hx ⟨e, he, hwr, hek⟩
/-- What the top's memory says of the world. -/
theorem sim_top {G : Nat} {pre : H} {w : World} {ρ : Ren} (hdom : ∀ i b, ρ i = some b → b < w.heap.size) (ent : ∀ e ∈ pre, ER ρ w e) (nog : ∀ e ∈ pre, e.2 ≠ .gone)
    (wrs : ∀ (i j : Nat) (e e' : Nat × AObj), i ≠ j → pre[i]? = some e → pre[j]? = some e' → e.2.wr = true ∨ e'.2.wr = true → ρ e.1 ≠ ρ e'.1) (glob : ∀ g, g < G → ρ g = some g) (fin : ∃ N, ∀ i, N ≤ i → ρ i = none) : Sim G ρ pre w :=
  ⟨hdom, ent, fun i j e e' hij hi hj _ _ => ⟨wrs i j e e' hij hi hj, fun h => by
    rcases h with h | h
    · exact absurd h (nog e (List.mem_of_getElem? hi))
    · exact absurd h (nog e' (List.mem_of_getElem? hj))⟩, glob, fin⟩
end Go.Proofs.YtlhhcongoplfpaaDoorAB
/-! The operations' laws, keyed by the operation itself: a law that does not fit is told at once. -/
namespace Go.Proofs.YtlhhcongoplfpaaDoorAB
open Go
set_option linter.unusedVariables false
set_option linter.unusedSimpArgs false
section
variable {P : Program} {G : Nat} {L : Lay} {ops : Array Oper} {draw : Bool} {n pc : Nat} {s : As} {h : H} {acc : List (List Nat × List Nat)} {KK : As → H → Prop} {o : Oper}
/-- One operation, at its turn, and carried out. -/
def RKq (P : Program) (G : Nat) (ops : Array Oper) (draw : Bool) (n pc : Nat) (s : As) (h : H) (acc : List (List Nat × List Nat)) (KK : As → H → Prop) (o : Oper) (d : Option Tmp) (op : Op) : Prop :=
  o.dst = d → o.op = op → wantA ops o n s = some true → ops[pc]? = some o → RK P G ops draw n pc s h acc KK
theorem gQ0 {d : Option Tmp} {op : Op} {ty : TypeId} {ps : String} {af : Array Edge} (k : RKq P G ops draw n pc s h acc KK ⟨d, op, ty, ps, af, none⟩ d op) : RKo P G ops draw n pc s h acc KK ⟨d, op, ty, ps, af, none⟩ :=
  by unfold RKo; exact fun ho => k rfl rfl (wn rfl) ho
theorem gQ1 {d : Option Tmp} {op : Op} {ty : TypeId} {ps : String} {af : Array Edge} {g : Nat × Bool} (hw : wantA ops ⟨d, op, ty, ps, af, some g⟩ n s = some true) (k : RKq P G ops draw n pc s h acc KK ⟨d, op, ty, ps, af, some g⟩ d op) : RKo P G ops draw n pc s h acc KK ⟨d, op, ty, ps, af, some g⟩ :=
  by unfold RKo; exact fun ho => k rfl rfl hw ho
theorem gQv {d : Nat} {op : Op} {ty : TypeId} {ps : String} {af : Array Edge} {g : Nat × Bool} (hw : wantA ops ⟨some d, op, ty, ps, af, some g⟩ n s = some false) (k : RK P G ops draw n (pc + 1) ((d, some (.tuple #[])) :: s) h (acc ++ [([], [])]) KK) : RKo P G ops draw n pc s h acc KK ⟨some d, op, ty, ps, af, some g⟩ :=
  by unfold RKo; exact fun ho => RK.val ho rfl (OPJ.off hw) rfl k
theorem gQe {op : Op} {ty : TypeId} {ps : String} {af : Array Edge} {g : Nat × Bool} (hw : wantA ops ⟨none, op, ty, ps, af, some g⟩ n s = some false) (k : RK P G ops draw n (pc + 1) s h (acc ++ [([], [])]) KK) : RKo P G ops draw n pc s h acc KK ⟨none, op, ty, ps, af, some g⟩ :=
  by unfold RKo; exact fun ho => RK.eff ho rfl (OPJ.off hw) rfl k
theorem gsD {j d : Nat} {want : Bool} {p : Prop} {inst : Decidable p} (hg : o.guard = some (j, want)) (hd : (ops[j]?).bind (·.dst) = some d) (hb : look s d = some (.bool (@decide p inst))) (hn : Nat.ble n 1000 = true)
    (k1 : p → RKo P G ops draw n pc ((1000 + d, some .nilFunc) :: (d, some (.bool true)) :: s) h acc KK o) (k2 : ¬p → RKo P G ops draw n pc ((1000 + d, some .nilFunc) :: (d, some (.bool false)) :: s) h acc KK o) : RKo P G ops draw n pc s h acc KK o := RKo.gsplitD hg hd hb hn k1 k2
theorem cdD {c : Operand} {x y : Code} {p : Prop} {inst : Decidable p} {Q : Exit → T → H → Prop} (hc : evA G n s c = some (.bool (@decide p inst))) (k1 : p → WP P G x (mkT n s) h Q) (k2 : ¬p → WP P G y (mkT n s) h Q) : WP P G (.cond c x y) (mkT n s) h Q := WP.condD hc k1 k2
theorem isF {f : FuncId} {as : Array Operand} {ts : Array TypeId} {dd : Nat} (k : RKq P G ops draw n pc s h acc KK o (some dd) (.call { callee := .value (.func f), args := as, argTypes := ts })) : RKq P G ops draw n pc s h acc KK o (some dd) (.call { callee := .value (.func f), args := as, argTypes := ts }) := k
theorem isFe {f : FuncId} {as : Array Operand} {ts : Array TypeId} (k : RKq P G ops draw n pc s h acc KK o none (.call { callee := .value (.func f), args := as, argTypes := ts })) : RKq P G ops draw n pc s h acc KK o none (.call { callee := .value (.func f), args := as, argTypes := ts }) := k
theorem RK.peelN {d : Option Tmp} {op : Op} {ty : TypeId} {ps : String} {af : Array Edge} {g : Option (Nat × Bool)} (ho : ops[pc]? = some ⟨d, op, ty, ps, af, g⟩) (k : RKo P G ops draw n pc s h acc KK ⟨d, op, ty, ps, af, g⟩) : RK P G ops draw n pc s h acc KK := RK.peel ho k
theorem q_move {x : Operand} {v : Value} (hx : evA G n s x = some v) {dd : Nat} (kk : RK P G ops draw n (pc + 1) ((dd, (some v)) :: s) h (acc ++ [([], [])]) KK) : RKq P G ops draw n pc s h acc KK o (some dd) (.move x) :=
  fun hd_ ho hw hi_ => RK.val hi_ hd_ (o_move ho hw hx) rfl kk
theorem q_assign {x : Operand} {v : Value} (hx : evA G n s x = some v) {dd : Nat} (kk : RK P G ops draw n (pc + 1) ((dd, (some v)) :: s) h (acc ++ [([], [])]) KK) : RKq P G ops draw n pc s h acc KK o (some dd) (.assign x) :=
  fun hd_ ho hw hi_ => RK.val hi_ hd_ (o_assign ho hw hx) rfl kk
theorem q_pick_t {c x y : Operand} {v : Value} (hc : evA G n s c = some (.bool true)) (hx : evA G n s x = some v) {dd : Nat} (kk : RK P G ops draw n (pc + 1) ((dd, (some v)) :: s) h (acc ++ [([], [])]) KK) : RKq P G ops draw n pc s h acc KK o (some dd) (.pick c x y) :=
  fun hd_ ho hw hi_ => RK.val hi_ hd_ (o_pick_t ho hw hc hx) rfl kk
theorem q_pick_f {c x y : Operand} {v : Value} (hc : evA G n s c = some (.bool false)) (hx : evA G n s y = some v) {dd : Nat} (kk : RK P G ops draw n (pc + 1) ((dd, (some v)) :: s) h (acc ++ [([], [])]) KK) : RKq P G ops draw n pc s h acc KK o (some dd) (.pick c x y) :=
  fun hd_ ho hw hi_ => RK.val hi_ hd_ (o_pick_f ho hw hc hx) rfl kk
theorem q_int {op : BinOp} {xt yt : TypeId} {x y : Operand} {k : IntKind} {p q : Int} {v : Value} (hx : evA G n s x = some (.int k p)) (hy : evA G n s y = some (.int k q)) (hv : intOp op k p q = some v) {dd : Nat} (kk : RK P G ops draw n (pc + 1) ((dd, (some v)) :: s) h (acc ++ [([], [])]) KK) : RKq P G ops draw n pc s h acc KK o (some dd) (.binOp op xt x y yt) :=
  fun hd_ ho hw hi_ => RK.val hi_ hd_ (o_int ho hw hx hy hv) rfl kk
theorem q_quo {xt yt : TypeId} {x y : Operand} {k : IntKind} {p q : Int} (hx : evA G n s x = some (.int k p)) (hy : evA G n s y = some (.int k q)) (hq : q ≠ 0) {dd : Nat} (kk : RK P G ops draw n (pc + 1) ((dd, (some (.int k (k.wrap (p.tdiv q))))) :: s) h (acc ++ [([], [])]) KK) : RKq P G ops draw n pc s h acc KK o (some dd) (.binOp .quo xt x y yt) :=
  fun hd_ ho hw hi_ => RK.val hi_ hd_ (o_quo ho hw hx hy hq) rfl kk
theorem q_rem {xt yt : TypeId} {x y : Operand} {k : IntKind} {p q : Int} (hx : evA G n s x = some (.int k p)) (hy : evA G n s y = some (.int k q)) (hq : q ≠ 0) {dd : Nat} (kk : RK P G ops draw n (pc + 1) ((dd, (some (.int k (p.tmod q)))) :: s) h (acc ++ [([], [])]) KK) : RKq P G ops draw n pc s h acc KK o (some dd) (.binOp .rem xt x y yt) :=
  fun hd_ ho hw hi_ => RK.val hi_ hd_ (o_rem ho hw hx hy hq) rfl kk
theorem q_shl {xt yt : TypeId} {x y : Operand} {k l : IntKind} {p q : Int} (hx : evA G n s x = some (.int k p)) (hy : evA G n s y = some (.int l q)) (hq : 0 ≤ q) {dd : Nat} (kk : RK P G ops draw n (pc + 1) ((dd, (some (.int k (k.wrap (p * 2 ^ min q.toNat k.bits))))) :: s) h (acc ++ [([], [])]) KK) : RKq P G ops draw n pc s h acc KK o (some dd) (.binOp .shl xt x y yt) :=
  fun hd_ ho hw hi_ => RK.val hi_ hd_ (o_shl ho hw hx hy hq) rfl kk
theorem q_shr {xt yt : TypeId} {x y : Operand} {k l : IntKind} {p q : Int} (hx : evA G n s x = some (.int k p)) (hy : evA G n s y = some (.int l q)) (hq : 0 ≤ q) {dd : Nat} (kk : RK P G ops draw n (pc + 1) ((dd, (some (.int k (p.fdiv (2 ^ min q.toNat k.bits))))) :: s) h (acc ++ [([], [])]) KK) : RKq P G ops draw n pc s h acc KK o (some dd) (.binOp .shr xt x y yt) :=
  fun hd_ ho hw hi_ => RK.val hi_ hd_ (o_shr ho hw hx hy hq) rfl kk
theorem q_neg {xt : TypeId} {x : Operand} {k : IntKind} {p : Int} (hx : evA G n s x = some (.int k p)) {dd : Nat} (kk : RK P G ops draw n (pc + 1) ((dd, (some (.int k (k.wrap (0 - p))))) :: s) h (acc ++ [([], [])]) KK) : RKq P G ops draw n pc s h acc KK o (some dd) (.unOp .neg xt x) :=
  fun hd_ ho hw hi_ => RK.val hi_ hd_ (o_neg ho hw hx) rfl kk
theorem q_not {xt : TypeId} {x : Operand} {b : Bool} (hx : evA G n s x = some (.bool b)) {dd : Nat} (kk : RK P G ops draw n (pc + 1) ((dd, (some (.bool (!b)))) :: s) h (acc ++ [([], [])]) KK) : RKq P G ops draw n pc s h acc KK o (some dd) (.unOp .not xt x) :=
  fun hd_ ho hw hi_ => RK.val hi_ hd_ (o_not ho hw hx) rfl kk
theorem q_nilCheck {x : Operand} {i f : Nat} {sp : Option Nat} (hx : evA G n s x = some (.pointer (some ⟨i, f, sp⟩))) {dd : Nat} (kk : RK P G ops draw n (pc + 1) ((dd, (some (.pointer (some ⟨i, f, sp⟩)))) :: s) h (acc ++ [([], [])]) KK) : RKq P G ops draw n pc s h acc KK o (some dd) (.nilCheck x) :=
  fun hd_ ho hw hi_ => RK.val hi_ hd_ (o_nilCheck ho hw hx) rfl kk
theorem q_fa {st : TypeId} {x : Operand} {fld k f off sz : Nat} {e : TE} (hL : LayOk P L = true) (hx : evA G n s x = some (.pointer (some ⟨k, f, none⟩))) (ht : lkT L st = some e) (ha : e.agg = true) (hn : e.arr = none) (hf : e.fs[fld]? = some (off, sz + 1)) {dd : Nat} (kk : RK P G ops draw n (pc + 1) ((dd, (some (.pointer (some ⟨k, f + off, none⟩)))) :: s) h (acc ++ [([], [])]) KK) : RKq P G ops draw n pc s h acc KK o (some dd) (.fieldAddr st x fld) :=
  fun hd_ ho hw hi_ => RK.val hi_ hd_ (fa_val hL ho hw hx ht ha hn hf) rfl kk
theorem q_load {ty : TypeId} {x : Operand} {k f j : Nat} {ob : AObj} {v : Value} {e : TE} (hL : LayOk P L = true) (hx : evA G n s x = some (.pointer (some ⟨k, f, none⟩))) (ht : lkT L ty = some e) (ha : e.agg = false) (hl : h[j]? = some (k, ob)) (hv : ob.at f = some v) {dd : Nat} (kk : RK P G ops draw n (pc + 1) ((dd, (some v)) :: s) h (acc ++ [([j], [])]) KK) : RKq P G ops draw n pc s h acc KK o (some dd) (.load ty x) :=
  fun hd_ ho hw hi_ => RK.val hi_ hd_ (o_load hL ho hw hx ht ha hl hv) rfl kk
theorem q_loadr {ty : TypeId} {x : Operand} {k f j : Nat} {ob : AObj} {vs : List Value} {e : TE} (hL : LayOk P L = true) (hx : evA G n s x = some (.pointer (some ⟨k, f, none⟩))) (ht : lkT L ty = some e) (ha : e.agg = true) (hl : h[j]? = some (k, ob)) (hv : ob.seg f e.size = some vs) {dd : Nat} (kk : RK P G ops draw n (pc + 1) ((dd, (some (.agg ⟨vs⟩))) :: s) h (acc ++ [([j], [])]) KK) : RKq P G ops draw n pc s h acc KK o (some dd) (.load ty x) :=
  fun hd_ ho hw hi_ => RK.val hi_ hd_ (o_loadr hL ho hw hx ht ha hl hv) rfl kk
theorem e_store {ty : TypeId} {x y : Operand} {k f j : Nat} {ob ob' : AObj} {v : Value} {e : TE} (hL : LayOk P L = true) (hx : evA G n s x = some (.pointer (some ⟨k, f, none⟩))) (hy : evA G n s y = some v) (ht : lkT L ty = some e) (hl : h[j]? = some (k, ob)) (hz : Nat.beq (vcells v).length e.size = true) (h1 : (vcells v).all (·.oneCell') = true) (hne : Nat.ble 1 e.size = true) (hv : ob.put f (vcells v) = some ob') {hx' : H} (hux : updO h [(j, ob')] = some hx') (kk : RK P G ops draw n (pc + 1) s hx' (acc ++ [([j], ([(j, ob')] : List (Nat × AObj)).map (·.1))]) KK) : RKq P G ops draw n pc s h acc KK o none (.store ty x y) :=
  fun hd_ ho hw hi_ => RK.eff hi_ hd_ (o_store hL ho hw hx hy ht hl hz h1 hne hv) hux kk
theorem q_box {ty : TypeId} {x : Operand} {j k : Nat} {v : Value} (hx : evA G n s x = some v) (hl : h[j]? = some (k, .gone)) {dd : Nat} {hx' : H} (hux : updO h [(j, .cells (vcells v) ty)] = some hx') (kk : RK P G ops draw n (pc + 1) ((dd, (some (.pointer (some ⟨k, 0, none⟩)))) :: s) hx' (acc ++ [([j], ([(j, .cells (vcells v) ty)] : List (Nat × AObj)).map (·.1))]) KK) : RKq P G ops draw n pc s h acc KK o (some dd) (.box ty x) :=
  fun hd_ ho hw hi_ => RK.val hi_ hd_ (o_box ho hw hx hl) hux kk
theorem q_alloc {ty : TypeId} {j k : Nat} {e : TE} (hL : LayOk P L = true) (ht : lkT L ty = some e) (hl : h[j]? = some (k, .gone)) {dd : Nat} {hx' : H} (hux : updO h [(j, .cells e.zero ty)] = some hx') (kk : RK P G ops draw n (pc + 1) ((dd, (some (.pointer (some ⟨k, 0, none⟩)))) :: s) hx' (acc ++ [([j], ([(j, .cells e.zero ty)] : List (Nat × AObj)).map (·.1))]) KK) : RKq P G ops draw n pc s h acc KK o (some dd) (.alloc ty) :=
  fun hd_ ho hw hi_ => RK.val hi_ hd_ (o_alloc hL ho hw ht hl) hux kk
theorem q_build {ty : TypeId} {parts : Array (Nat × Operand)} {ps : List (Nat × Value)} {r : List Value} {e : TE} (hL : LayOk P L = true) (hp : evP G n s parts.toList = some ps) (ht : lkT L ty = some e) (ha : e.agg = true) (hr : fillO e.pl e.zero ps = some r) {dd : Nat} (kk : RK P G ops draw n (pc + 1) ((dd, (some (.agg ⟨r⟩))) :: s) h (acc ++ [([], [])]) KK) : RKq P G ops draw n pc s h acc KK o (some dd) (.build ty parts) :=
  fun hd_ ho hw hi_ => RK.val hi_ hd_ (o_build hL ho hw hp ht ha hr) rfl kk
theorem q_call {f : FuncId} {as : Array Operand} {ts : Array TypeId} {args : List Value} {pre : H} {v : Value} {post : List AObj} {js : List Nat} {us : List (Nat × AObj)} (ha : evL G n s as.toList = some args) (sp : Ctr P G f args pre v post) (fits : Fits h js pre) (same : ∀ h2 : H, (∀ j ∈ js, h2[j]? = h[j]?) → upd h2 (js.zip post) = upd h2 us) (sub : ∀ u ∈ us, u.1 ∈ js) {dd : Nat} {hx' : H} (hux : updO h us = some hx') (kk : RK P G ops draw n (pc + 1) ((dd, (some v)) :: s) hx' (acc ++ [(js, (us : List (Nat × AObj)).map (·.1))]) KK) : RKq P G ops draw n pc s h acc KK o (some dd) (.call { callee := .value (.func f), args := as, argTypes := ts }) :=
  fun hd_ ho hw hi_ => RK.val hi_ hd_ (o_call ho hw ha sp fits same sub) hux kk
theorem e_call {f : FuncId} {as : Array Operand} {ts : Array TypeId} {args : List Value} {pre : H} {v : Value} {post : List AObj} {js : List Nat} {us : List (Nat × AObj)} (ha : evL G n s as.toList = some args) (sp : Ctr P G f args pre v post) (fits : Fits h js pre) (same : ∀ h2 : H, (∀ j ∈ js, h2[j]? = h[j]?) → upd h2 (js.zip post) = upd h2 us) (sub : ∀ u ∈ us, u.1 ∈ js) {hx' : H} (hux : updO h us = some hx') (kk : RK P G ops draw n (pc + 1) s hx' (acc ++ [(js, (us : List (Nat × AObj)).map (·.1))]) KK) : RKq P G ops draw n pc s h acc KK o none (.call { callee := .value (.func f), args := as, argTypes := ts }) :=
  fun hd_ ho hw hi_ => RK.eff hi_ hd_ (o_call ho hw ha sp fits same sub) hux kk
theorem q_call0 {f : FuncId} {as : Array Operand} {ts : Array TypeId} {args : List Value} {v : Value} (ha : evL G n s as.toList = some args) (sp : Ctr P G f args [] v []) {dd : Nat} (kk : RK P G ops draw n (pc + 1) ((dd, (some v)) :: s) h (acc ++ [([], [])]) KK) : RKq P G ops draw n pc s h acc KK o (some dd) (.call { callee := .value (.func f), args := as, argTypes := ts }) :=
  fun hd_ ho hw hi_ => RK.val hi_ hd_ (o_call0 ho hw ha sp) rfl kk
theorem e_call0 {f : FuncId} {as : Array Operand} {ts : Array TypeId} {args : List Value} {v : Value} (ha : evL G n s as.toList = some args) (sp : Ctr P G f args [] v []) (kk : RK P G ops draw n (pc + 1) s h (acc ++ [([], [])]) KK) : RKq P G ops draw n pc s h acc KK o none (.call { callee := .value (.func f), args := as, argTypes := ts }) :=
  fun hd_ ho hw hi_ => RK.eff hi_ hd_ (o_call0 ho hw ha sp) rfl kk
theorem q_call1 {f : FuncId} {as : Array Operand} {ts : Array TypeId} {args : List Value} {v : Value} {k j : Nat} {ob ob' : AObj} (ha : evL G n s as.toList = some args) (sp : Ctr P G f args [(k, ob)] v [ob']) (hl : h[j]? = some (k, ob)) {dd : Nat} {hx' : H} (hux : updO h [(j, ob')] = some hx') (kk : RK P G ops draw n (pc + 1) ((dd, (some v)) :: s) hx' (acc ++ [([j], ([(j, ob')] : List (Nat × AObj)).map (·.1))]) KK) : RKq P G ops draw n pc s h acc KK o (some dd) (.call { callee := .value (.func f), args := as, argTypes := ts }) :=
  fun hd_ ho hw hi_ => RK.val hi_ hd_ (o_call1 ho hw ha sp hl) hux kk
theorem e_call1 {f : FuncId} {as : Array Operand} {ts : Array TypeId} {args : List Value} {v : Value} {k j : Nat} {ob ob' : AObj} (ha : evL G n s as.toList = some args) (sp : Ctr P G f args [(k, ob)] v [ob']) (hl : h[j]? = some (k, ob)) {hx' : H} (hux : updO h [(j, ob')] = some hx') (kk : RK P G ops draw n (pc + 1) s hx' (acc ++ [([j], ([(j, ob')] : List (Nat × AObj)).map (·.1))]) KK) : RKq P G ops draw n pc s h acc KK o none (.call { callee := .value (.func f), args := as, argTypes := ts }) :=
  fun hd_ ho hw hi_ => RK.eff hi_ hd_ (o_call1 ho hw ha sp hl) hux kk
theorem q_call1r {f : FuncId} {as : Array Operand} {ts : Array TypeId} {args : List Value} {v : Value} {k j : Nat} {ob : AObj} (ha : evL G n s as.toList = some args) (sp : Ctr P G f args [(k, ob)] v [ob]) (hl : h[j]? = some (k, ob)) {dd : Nat} (kk : RK P G ops draw n (pc + 1) ((dd, (some v)) :: s) h (acc ++ [([j], [])]) KK) : RKq P G ops draw n pc s h acc KK o (some dd) (.call { callee := .value (.func f), args := as, argTypes := ts }) :=
  fun hd_ ho hw hi_ => RK.val hi_ hd_ (o_call1r ho hw ha sp hl) rfl kk
theorem e_call1r {f : FuncId} {as : Array Operand} {ts : Array TypeId} {args : List Value} {v : Value} {k j : Nat} {ob : AObj} (ha : evL G n s as.toList = some args) (sp : Ctr P G f args [(k, ob)] v [ob]) (hl : h[j]? = some (k, ob)) (kk : RK P G ops draw n (pc + 1) s h (acc ++ [([j], [])]) KK) : RKq P G ops draw n pc s h acc KK o none (.call { callee := .value (.func f), args := as, argTypes := ts }) :=
  fun hd_ ho hw hi_ => RK.eff hi_ hd_ (o_call1r ho hw ha sp hl) rfl kk
theorem q_eqnil {t u : TypeId} {x y : Operand} {k f : Nat} {sp : Option Nat} (hp : isPtr P t = true) (hx : evA G n s x = some (.pointer (some ⟨k, f, sp⟩))) (hy : evA G n s y = some (.pointer none)) {dd : Nat} (kk : RK P G ops draw n (pc + 1) ((dd, (some (.bool false))) :: s) h (acc ++ [([], [])]) KK) : RKq P G ops draw n pc s h acc KK o (some dd) (.binOp .eql t x y u) :=
  fun hd_ ho hw hi_ => RK.val hi_ hd_ (o_eqnil ho hw hp hx hy) rfl kk
theorem q_nenil {t u : TypeId} {x y : Operand} {k f : Nat} {sp : Option Nat} (hp : isPtr P t = true) (hx : evA G n s x = some (.pointer (some ⟨k, f, sp⟩))) (hy : evA G n s y = some (.pointer none)) {dd : Nat} (kk : RK P G ops draw n (pc + 1) ((dd, (some (.bool true))) :: s) h (acc ++ [([], [])]) KK) : RKq P G ops draw n pc s h acc KK o (some dd) (.binOp .neq t x y u) :=
  fun hd_ ho hw hi_ => RK.val hi_ hd_ (o_nenil ho hw hp hx hy) rfl kk
theorem q_min {as : Array Operand} {ts : Array TypeId} {k : IntKind} {p q : Int} (ha : evL G n s as.toList = some [.int k p, .int k q]) {dd : Nat} (kk : RK P G ops draw n (pc + 1) ((dd, (some (.int k (mn p q)))) :: s) h (acc ++ [([], [])]) KK) : RKq P G ops draw n pc s h acc KK o (some dd) (.call { callee := .builtin .min, args := as, argTypes := ts }) :=
  fun hd_ ho hw hi_ => RK.val hi_ hd_ (o_min ho hw ha) rfl kk
theorem q_max {as : Array Operand} {ts : Array TypeId} {k : IntKind} {p q : Int} (ha : evL G n s as.toList = some [.int k p, .int k q]) {dd : Nat} (kk : RK P G ops draw n (pc + 1) ((dd, (some (.int k (mx p q)))) :: s) h (acc ++ [([], [])]) KK) : RKq P G ops draw n pc s h acc KK o (some dd) (.call { callee := .builtin .max, args := as, argTypes := ts }) :=
  fun hd_ ho hw hi_ => RK.val hi_ hd_ (o_max ho hw ha) rfl kk
theorem q_len {as : Array Operand} {t : TypeId} {x : Operand} {a : Option Addr} {l c : Nat} {e : TE} {q : TypeId × Nat} (hL : LayOk P L = true) (has : as = #[x]) (hx : evA G n s x = some (.slice a l c)) (ht : lkT L t = some e) (hs : e.sl = some q) {dd : Nat} (kk : RK P G ops draw n (pc + 1) ((dd, (some (.int .i64 l))) :: s) h (acc ++ [([], [])]) KK) : RKq P G ops draw n pc s h acc KK o (some dd) (.call { callee := .builtin .len, args := as, argTypes := #[t] }) :=
  fun hd_ ho hw hi_ => RK.val hi_ hd_ (o_len hL ho hw has hx ht hs) rfl kk
theorem q_idx {t : TypeId} {x y : Operand} {k f l c sz : Nat} {el : TypeId} {kd : IntKind} {i : Int} {e : TE} (hL : LayOk P L = true) (hx : evA G n s x = some (.slice (some ⟨k, f, none⟩) l c)) (hy : evA G n s y = some (.int kd i)) (ht : lkT L t = some e) (hs : e.sl = some (el, sz)) (h0 : 0 ≤ i) (h1 : i < l) {dd : Nat} (kk : RK P G ops draw n (pc + 1) ((dd, (some (.pointer (some ⟨k, f + i.toNat * sz, none⟩)))) :: s) h (acc ++ [([], [])]) KK) : RKq P G ops draw n pc s h acc KK o (some dd) (.indexAddr t x y) :=
  fun hd_ ho hw hi_ => RK.val hi_ hd_ (o_idx hL ho hw hx hy ht hs h0 h1) rfl kk
theorem q_conv {t u : TypeId} {x : Operand} {k d : IntKind} {i : Int} {ds : TypeDesc} (hx : evA G n s x = some (.int k i)) (hs : P.underlying t = some ds) (hd : P.underlying u = some (.int d)) {dd : Nat} (kk : RK P G ops draw n (pc + 1) ((dd, (some (.int d (d.wrap i)))) :: s) h (acc ++ [([], [])]) KK) : RKq P G ops draw n pc s h acc KK o (some dd) (.convert t u x) :=
  fun hd_ ho hw hi_ => RK.val hi_ hd_ (o_conv ho hw hx hs hd) rfl kk
theorem q_buildS {t el : TypeId} {m sz j k : Nat} {parts : Array (Nat × Operand)} {ps : List (Nat × Value)} {r : List Value} {e ee : TE} (hL : LayOk P L = true) (hp : evP G n s parts.toList = some ps) (ht : lkT L t = some e) (hs : e.sl = some (el, sz)) (hel : lkT L el = some ee) (hsz : ee.size = sz) (hm : Nat.ble (m * sz) 16777216 = true) (hz : Nat.ble 1 (m * sz) = true) (hr : fillO (fun i => some (i * sz, sz)) (rowZ ee.zero m) ps = some r) (hl : h[j]? = some (k, .gone)) {dd : Nat} {hx' : H} (hux : updO h [(j, .cells r el)] = some hx') (kk : RK P G ops draw n (pc + 1) ((dd, (some (.slice (some ⟨k, 0, none⟩) m m))) :: s) hx' (acc ++ [([j], ([(j, .cells r el)] : List (Nat × AObj)).map (·.1))]) KK) : RKq P G ops draw n pc s h acc KK o (some dd) (.buildSlice t m parts) :=
  fun hd_ ho hw hi_ => RK.val hi_ hd_ (o_buildS hL ho hw hp ht hs hel hsz hm hz hr hl) hux kk
theorem q_app0 {as : Array Operand} {t el : TypeId} {x y : Operand} {kx jx jn kn m c sz : Nat} {ox : AObj} {vs : List Value} {e ee : TE} (hL : LayOk P L = true) (has : as = #[x, y]) (hx : evA G n s x = some (.slice none 0 0)) (hy : evA G n s y = some (.slice (some ⟨kx, 0, none⟩) m c)) (ht : lkT L t = some e) (hs : e.sl = some (el, sz)) (hel : lkT L el = some ee) (hsz : ee.size = sz) (hm : Nat.ble 1 m = true) (hb : Nat.ble (m * ee.bytes) 1099511627776 = true) (hbb : Nat.ble m 1099511627776 = true) (hlx : h[jx]? = some (kx, ox)) (hln : h[jn]? = some (kn, .gone)) (hv : ox.seg 0 (m * sz) = some vs) {dd : Nat} {hx' : H} (hux : updO h [(jn, .row vs el sz)] = some hx') (kk : RK P G ops draw n (pc + 1) ((dd, (some (.slice (some ⟨kn, 0, none⟩) m grown))) :: s) hx' (acc ++ [([jx, jn], ([(jn, .row vs el sz)] : List (Nat × AObj)).map (·.1))]) KK) : RKq P G ops draw n pc s h acc KK o (some dd) (.call { callee := .builtin .append, args := as, argTypes := #[t, t] }) :=
  fun hd_ ho hw hi_ => RK.val hi_ hd_ (o_app0 hL ho hw has hx hy ht hs hel hsz hm hb hbb hlx hln hv) hux kk
theorem q_app1 {as : Array Operand} {t el : TypeId} {x y : Operand} {kx ks jx js jn kn l m c sz : Nat} {ox : AObj} {cs vs : List Value} {e ee : TE} (hL : LayOk P L = true) (has : as = #[x, y]) (hx : evA G n s x = some (.slice (some ⟨ks, 0, none⟩) l grown)) (hy : evA G n s y = some (.slice (some ⟨kx, 0, none⟩) m c)) (ht : lkT L t = some e) (hs : e.sl = some (el, sz)) (hel : lkT L el = some ee) (hsz : ee.size = sz) (hpos : Nat.ble 1 sz = true) (hm : Nat.ble 1 m = true) (hlx : h[jx]? = some (kx, ox)) (hls : h[js]? = some (ks, .row cs el sz)) (hln : h[jn]? = some (kn, .gone)) (hne1 : jx ≠ js) (hb : (l + m) * ee.bytes ≤ 1099511627776) (hbb : l + m ≤ 1099511627776) (hcl : cs.length = l * sz) (hv : ox.seg 0 (m * sz) = some vs) (hone : vs.all (·.oneCell') = true) {dd : Nat} {hx' : H} (hux : updO h [(js, .lost), (jn, .row (cs ++ vs) el sz)] = some hx') (kk : RK P G ops draw n (pc + 1) ((dd, (some (.slice (some ⟨kn, 0, none⟩) (l + m) grown))) :: s) hx' (acc ++ [([jx, js, jn], ([(js, .lost), (jn, .row (cs ++ vs) el sz)] : List (Nat × AObj)).map (·.1))]) KK) : RKq P G ops draw n pc s h acc KK o (some dd) (.call { callee := .builtin .append, args := as, argTypes := #[t, t] }) :=
  fun hd_ ho hw hi_ => RK.val hi_ hd_ (o_app1 hL ho hw has hx hy ht hs hel hsz hpos hm hlx hls hln hne1 hb hbb hcl hv hone) hux kk
theorem q_call2 {f : FuncId} {as : Array Operand} {ts : Array TypeId} {args : List Value} {v : Value} {k l i j : Nat} {oa ob oa' ob' : AObj} (ha : evL G n s as.toList = some args) (sp : Ctr P G f args [(k, oa), (l, ob)] v [oa', ob']) (hi : h[i]? = some (k, oa)) (hj : h[j]? = some (l, ob)) (hij : i ≠ j) {dd : Nat} {hx' : H} (hux : updO h [(i, oa'), (j, ob')] = some hx') (kk : RK P G ops draw n (pc + 1) ((dd, (some v)) :: s) hx' (acc ++ [([i, j], ([(i, oa'), (j, ob')] : List (Nat × AObj)).map (·.1))]) KK) : RKq P G ops draw n pc s h acc KK o (some dd) (.call { callee := .value (.func f), args := as, argTypes := ts }) :=
  fun hd_ ho hw hi_ => RK.val hi_ hd_ (o_call2 ho hw ha sp hi hj hij) hux kk
theorem e_call2 {f : FuncId} {as : Array Operand} {ts : Array TypeId} {args : List Value} {v : Value} {k l i j : Nat} {oa ob oa' ob' : AObj} (ha : evL G n s as.toList = some args) (sp : Ctr P G f args [(k, oa), (l, ob)] v [oa', ob']) (hi : h[i]? = some (k, oa)) (hj : h[j]? = some (l, ob)) (hij : i ≠ j) {hx' : H} (hux : updO h [(i, oa'), (j, ob')] = some hx') (kk : RK P G ops draw n (pc + 1) s hx' (acc ++ [([i, j], ([(i, oa'), (j, ob')] : List (Nat × AObj)).map (·.1))]) KK) : RKq P G ops draw n pc s h acc KK o none (.call { callee := .value (.func f), args := as, argTypes := ts }) :=
  fun hd_ ho hw hi_ => RK.eff hi_ hd_ (o_call2 ho hw ha sp hi hj hij) hux kk
theorem q_idxS {t : TypeId} {x y : Operand} {a : Option Addr} {k f l c sz : Nat} {el : TypeId} {kd : IntKind} {i : Int} {e : TE} (hL : LayOk P L = true) (hx : evA G n s x = some (.slice a l c)) (hy : evA G n s y = some (.int kd i)) (ht : lkT L t = some e) (hs : e.sl = some (el, sz)) (ha : 0 < l → a = some ⟨k, f, none⟩) (h0 : 0 ≤ i) (h1 : i < l) {dd : Nat} (kk : RK P G ops draw n (pc + 1) ((dd, (some (.pointer (some ⟨k, f + i.toNat * sz, none⟩)))) :: s) h (acc ++ [([], [])]) KK) : RKq P G ops draw n pc s h acc KK o (some dd) (.indexAddr t x y) :=
  fun hd_ ho hw hi_ => RK.val hi_ hd_ (o_idxS hL ho hw hx hy ht hs ha h0 h1) rfl kk
theorem q_mkIface {t : TypeId} {x : Operand} {v : Value} (ht : hasTy P t = true) (hx : evA G n s x = some v) {dd : Nat} (kk : RK P G ops draw n (pc + 1) ((dd, (some (.iface t v))) :: s) h (acc ++ [([], [])]) KK) : RKq P G ops draw n pc s h acc KK o (some dd) (.makeInterface t x) :=
  fun hd_ ho hw hi_ => RK.val hi_ hd_ (o_mkIface ho hw ht hx) rfl kk
theorem q_mkFunc {f : Fn} {a b : Array Operand} {xs ys : List Value} (hx : evL G n s a.toList = some xs) (hy : evL G n s b.toList = some ys) {dd : Nat} (kk : RK P G ops draw n (pc + 1) ((dd, (some (.func f ⟨xs⟩ ⟨ys⟩))) :: s) h (acc ++ [([], [])]) KK) : RKq P G ops draw n pc s h acc KK o (some dd) (.makeFunc f a b) :=
  fun hd_ ho hw hi_ => RK.val hi_ hd_ (o_mkFunc ho hw hx hy) rfl kk
theorem q_callF {x : Operand} {f : FuncId} {as : Array Operand} {ts : Array TypeId} {args caps : List Value} {pre : H} {v : Value} {post : List AObj} {js : List Nat} {us : List (Nat × AObj)} (hx : evA G n s x = some (.func (.func f) ⟨[]⟩ ⟨caps⟩)) (ha : evL G n s as.toList = some args) (sp : Ctr P G f (args ++ caps) pre v post) (fits : Fits h js pre) (same : ∀ h2 : H, (∀ j ∈ js, h2[j]? = h[j]?) → upd h2 (js.zip post) = upd h2 us) (sub : ∀ u ∈ us, u.1 ∈ js) {dd : Nat} {hx' : H} (hux : updO h us = some hx') (kk : RK P G ops draw n (pc + 1) ((dd, (some v)) :: s) hx' (acc ++ [(js, (us : List (Nat × AObj)).map (·.1))]) KK) : RKq P G ops draw n pc s h acc KK o (some dd) (.call { callee := .value x, args := as, argTypes := ts }) :=
  fun hd_ ho hw hi_ => RK.val hi_ hd_ (o_callF ho hw hx ha sp fits same sub) hux kk
theorem e_callF {x : Operand} {f : FuncId} {as : Array Operand} {ts : Array TypeId} {args caps : List Value} {pre : H} {v : Value} {post : List AObj} {js : List Nat} {us : List (Nat × AObj)} (hx : evA G n s x = some (.func (.func f) ⟨[]⟩ ⟨caps⟩)) (ha : evL G n s as.toList = some args) (sp : Ctr P G f (args ++ caps) pre v post) (fits : Fits h js pre) (same : ∀ h2 : H, (∀ j ∈ js, h2[j]? = h[j]?) → upd h2 (js.zip post) = upd h2 us) (sub : ∀ u ∈ us, u.1 ∈ js) {hx' : H} (hux : updO h us = some hx') (kk : RK P G ops draw n (pc + 1) s hx' (acc ++ [(js, (us : List (Nat × AObj)).map (·.1))]) KK) : RKq P G ops draw n pc s h acc KK o none (.call { callee := .value x, args := as, argTypes := ts }) :=
  fun hd_ ho hw hi_ => RK.eff hi_ hd_ (o_callF ho hw hx ha sp fits same sub) hux kk
theorem q_ifeq {t u q : TypeId} {x : Operand} {v : Value} (hp : isIface P t = true) (hx : evA G n s x = some (.iface q v)) {dd : Nat} (kk : RK P G ops draw n (pc + 1) ((dd, (some (.bool false))) :: s) h (acc ++ [([], [])]) KK) : RKq P G ops draw n pc s h acc KK o (some dd) (.binOp .eql t x (.const .nilIface) u) :=
  fun hd_ ho hw hi_ => RK.val hi_ hd_ (o_ifeq ho hw hp hx) rfl kk
theorem q_ifne {t u q : TypeId} {x : Operand} {v : Value} (hp : isIface P t = true) (hx : evA G n s x = some (.iface q v)) {dd : Nat} (kk : RK P G ops draw n (pc + 1) ((dd, (some (.bool true))) :: s) h (acc ++ [([], [])]) KK) : RKq P G ops draw n pc s h acc KK o (some dd) (.binOp .neq t x (.const .nilIface) u) :=
  fun hd_ ho hw hi_ => RK.val hi_ hd_ (o_ifne ho hw hp hx) rfl kk
theorem q_nileq {t u : TypeId} {x : Operand} (hp : isIface P t = true) (hx : evA G n s x = some .nilIface) {dd : Nat} (kk : RK P G ops draw n (pc + 1) ((dd, (some (.bool true))) :: s) h (acc ++ [([], [])]) KK) : RKq P G ops draw n pc s h acc KK o (some dd) (.binOp .eql t x (.const .nilIface) u) :=
  fun hd_ ho hw hi_ => RK.val hi_ hd_ (o_nileq ho hw hp hx) rfl kk
theorem q_nilne {t u : TypeId} {x : Operand} (hp : isIface P t = true) (hx : evA G n s x = some .nilIface) {dd : Nat} (kk : RK P G ops draw n (pc + 1) ((dd, (some (.bool false))) :: s) h (acc ++ [([], [])]) KK) : RKq P G ops draw n pc s h acc KK o (some dd) (.binOp .neq t x (.const .nilIface) u) :=
  fun hd_ ho hw hi_ => RK.val hi_ hd_ (o_nilne ho hw hp hx) rfl kk
theorem q_idxN {t : TypeId} {x y : Operand} {a : Option Addr} {k f l c sz m : Nat} {el : TypeId} {kd : IntKind} {i : Int} {e : TE} (hL : LayOk P L = true) (hx : evA G n s x = some (.slice a l c)) (hy : evA G n s y = some (.int kd i)) (ht : lkT L t = some e) (hs : e.sl = some (el, sz)) (ha : 0 < l → a = some ⟨k, f, none⟩) (hi : i = (m : Int)) (h1 : m < l) {dd : Nat} (kk : RK P G ops draw n (pc + 1) ((dd, (some (.pointer (some ⟨k, f + m * sz, none⟩)))) :: s) h (acc ++ [([], [])]) KK) : RKq P G ops draw n pc s h acc KK o (some dd) (.indexAddr t x y) :=
  fun hd_ ho hw hi_ => RK.val hi_ hd_ (o_idxN hL ho hw hx hy ht hs ha hi h1) rfl kk
theorem q_fieldc {t : TypeId} {x : Operand} {fld : Nat} {fields : Array Field} {fd : Field} {xs : Array Value} {v : Value} {e : TE} (hL : LayOk P L = true) (hx : evA G n s x = some (.agg xs)) (hu : P.underlying t = some (.struct fields)) (hf : fields[fld]? = some fd) (ht : lkT L fd.type = some e) (ha : e.agg = false) (hv : xs.toList[fd.offset]? = some v) {dd : Nat} (kk : RK P G ops draw n (pc + 1) ((dd, (some v)) :: s) h (acc ++ [([], [])]) KK) : RKq P G ops draw n pc s h acc KK o (some dd) (.field t x fld) :=
  fun hd_ ho hw hi_ => RK.val hi_ hd_ (o_fieldc hL ho hw hx hu hf ht ha hv) rfl kk
theorem q_fieldr {t : TypeId} {x : Operand} {fld : Nat} {fields : Array Field} {fd : Field} {xs : Array Value} {vs : List Value} {e : TE} (hL : LayOk P L = true) (hx : evA G n s x = some (.agg xs)) (hu : P.underlying t = some (.struct fields)) (hf : fields[fld]? = some fd) (ht : lkT L fd.type = some e) (ha : e.agg = true) (hv : (xs.toList.drop fd.offset).take e.size = vs) {dd : Nat} (kk : RK P G ops draw n (pc + 1) ((dd, (some (.agg ⟨vs⟩))) :: s) h (acc ++ [([], [])]) KK) : RKq P G ops draw n pc s h acc KK o (some dd) (.field t x fld) :=
  fun hd_ ho hw hi_ => RK.val hi_ hd_ (o_fieldr hL ho hw hx hu hf ht ha hv) rfl kk
theorem q_extract {x : Operand} {i : Nat} {xs : Array Value} {v : Value} (hx : evA G n s x = some (.tuple xs)) (hv : xs.toList[i]? = some v) {dd : Nat} (kk : RK P G ops draw n (pc + 1) ((dd, (some v)) :: s) h (acc ++ [([], [])]) KK) : RKq P G ops draw n pc s h acc KK o (some dd) (.extract x i) :=
  fun hd_ ho hw hi_ => RK.val hi_ hd_ (o_extract ho hw hx hv) rfl kk
theorem q_indexc {t el : TypeId} {x y : Operand} {len : Nat} {xs : Array Value} {v : Value} {e ea : TE} {kd : IntKind} {i : Int} (hL : LayOk P L = true) (hx : evA G n s x = some (.agg xs)) (hy : evA G n s y = some (.int kd i)) (hta : lkT L t = some ea) (harr : ea.arr = some (len, el, 1)) (ht : lkT L el = some e) (ha : e.agg = false) (h0 : 0 ≤ i) (h1 : i < len) (hv : xs.toList[i.toNat]? = some v) {dd : Nat} (kk : RK P G ops draw n (pc + 1) ((dd, (some v)) :: s) h (acc ++ [([], [])]) KK) : RKq P G ops draw n pc s h acc KK o (some dd) (.index t x y) :=
  fun hd_ ho hw hi_ => RK.val hi_ hd_ (o_indexc hL ho hw hx hy hta harr ht ha h0 h1 hv) rfl kk
theorem q_callR {f : FuncId} {as : Array Operand} {ts : Array TypeId} {args : List Value} {pre : H} {v : Value} {post : List AObj} {js : List Nat} (ha : evL G n s as.toList = some args) (sp : Ctr P G f args pre v post) (hp : post = pre.map (·.2)) (fd : Fd h js pre) (nd : js.Nodup) {dd : Nat} (kk : RK P G ops draw n (pc + 1) ((dd, (some v)) :: s) h (acc ++ [(js, [])]) KK) : RKq P G ops draw n pc s h acc KK o (some dd) (.call { callee := .value (.func f), args := as, argTypes := ts }) :=
  fun hd_ ho hw hi_ => RK.val hi_ hd_ (o_callR ho hw ha sp hp fd nd) rfl kk
theorem e_callR {f : FuncId} {as : Array Operand} {ts : Array TypeId} {args : List Value} {pre : H} {v : Value} {post : List AObj} {js : List Nat} (ha : evL G n s as.toList = some args) (sp : Ctr P G f args pre v post) (hp : post = pre.map (·.2)) (fd : Fd h js pre) (nd : js.Nodup) (kk : RK P G ops draw n (pc + 1) s h (acc ++ [(js, [])]) KK) : RKq P G ops draw n pc s h acc KK o none (.call { callee := .value (.func f), args := as, argTypes := ts }) :=
  fun hd_ ho hw hi_ => RK.eff hi_ hd_ (o_callR ho hw ha sp hp fd nd) rfl kk
theorem q_callRF {x : Operand} {f : FuncId} {as : Array Operand} {ts : Array TypeId} {args caps : List Value} {pre : H} {v : Value} {post : List AObj} {js : List Nat} (hx : evA G n s x = some (.func (.func f) ⟨[]⟩ ⟨caps⟩)) (ha : evL G n s as.toList = some args) (sp : Ctr P G f (args ++ caps) pre v post) (hp : post = pre.map (·.2)) (fd : Fd h js pre) (nd : js.Nodup) {dd : Nat} (kk : RK P G ops draw n (pc + 1) ((dd, (some v)) :: s) h (acc ++ [(js, [])]) KK) : RKq P G ops draw n pc s h acc KK o (some dd) (.call { callee := .value x, args := as, argTypes := ts }) :=
  fun hd_ ho hw hi_ => RK.val hi_ hd_ (o_callRF ho hw hx ha sp hp fd nd) rfl kk
theorem e_callRF {x : Operand} {f : FuncId} {as : Array Operand} {ts : Array TypeId} {args caps : List Value} {pre : H} {v : Value} {post : List AObj} {js : List Nat} (hx : evA G n s x = some (.func (.func f) ⟨[]⟩ ⟨caps⟩)) (ha : evL G n s as.toList = some args) (sp : Ctr P G f (args ++ caps) pre v post) (hp : post = pre.map (·.2)) (fd : Fd h js pre) (nd : js.Nodup) (kk : RK P G ops draw n (pc + 1) s h (acc ++ [(js, [])]) KK) : RKq P G ops draw n pc s h acc KK o none (.call { callee := .value x, args := as, argTypes := ts }) :=
  fun hd_ ho hw hi_ => RK.eff hi_ hd_ (o_callRF ho hw hx ha sp hp fd nd) rfl kk
theorem q_callW {f : FuncId} {as : Array Operand} {ts : Array TypeId} {args : List Value} {pre : H} {v : Value} {post : List AObj} {js : List Nat} {us : List (Nat × AObj)} (ha : evL G n s as.toList = some args) (sp : Ctr P G f args pre v post) (fd : Fd h js pre) (nd : js.Nodup) (hu : us = js.zip post) {dd : Nat} {hx' : H} (hux : updO h us = some hx') (kk : RK P G ops draw n (pc + 1) ((dd, (some v)) :: s) hx' (acc ++ [(js, (us : List (Nat × AObj)).map (·.1))]) KK) : RKq P G ops draw n pc s h acc KK o (some dd) (.call { callee := .value (.func f), args := as, argTypes := ts }) :=
  fun hd_ ho hw hi_ => RK.val hi_ hd_ (o_callW ho hw ha sp fd nd hu) hux kk
theorem e_callW {f : FuncId} {as : Array Operand} {ts : Array TypeId} {args : List Value} {pre : H} {v : Value} {post : List AObj} {js : List Nat} {us : List (Nat × AObj)} (ha : evL G n s as.toList = some args) (sp : Ctr P G f args pre v post) (fd : Fd h js pre) (nd : js.Nodup) (hu : us = js.zip post) {hx' : H} (hux : updO h us = some hx') (kk : RK P G ops draw n (pc + 1) s hx' (acc ++ [(js, (us : List (Nat × AObj)).map (·.1))]) KK) : RKq P G ops draw n pc s h acc KK o none (.call { callee := .value (.func f), args := as, argTypes := ts }) :=
  fun hd_ ho hw hi_ => RK.eff hi_ hd_ (o_callW ho hw ha sp fd nd hu) hux kk
theorem q_beq {t u : TypeId} {x y : Operand} {p q : Bool} (hp : P.underlying t = some .bool) (hx : evA G n s x = some (.bool p)) (hy : evA G n s y = some (.bool q)) {dd : Nat} (kk : RK P G ops draw n (pc + 1) ((dd, (some (.bool (p == q)))) :: s) h (acc ++ [([], [])]) KK) : RKq P G ops draw n pc s h acc KK o (some dd) (.binOp .eql t x y u) :=
  fun hd_ ho hw hi_ => RK.val hi_ hd_ (o_beq ho hw hp hx hy) rfl kk
theorem q_bne {t u : TypeId} {x y : Operand} {p q : Bool} (hp : P.underlying t = some .bool) (hx : evA G n s x = some (.bool p)) (hy : evA G n s y = some (.bool q)) {dd : Nat} (kk : RK P G ops draw n (pc + 1) ((dd, (some (.bool (!(p == q))))) :: s) h (acc ++ [([], [])]) KK) : RKq P G ops draw n pc s h acc KK o (some dd) (.binOp .neq t x y u) :=
  fun hd_ ho hw hi_ => RK.val hi_ hd_ (o_bne ho hw hp hx hy) rfl kk
theorem q_idxP {t el : TypeId} {x y : Operand} {k f len sz : Nat} {kd : IntKind} {i : Int} {e : TE} (hL : LayOk P L = true) (hx : evA G n s x = some (.pointer (some ⟨k, f, none⟩))) (hy : evA G n s y = some (.int kd i)) (ht : lkT L t = some e) (hs : e.arr = some (len, el, sz)) (h0 : 0 ≤ i) (h1 : i < len) {dd : Nat} (kk : RK P G ops draw n (pc + 1) ((dd, (some (.pointer (some ⟨k, f + i.toNat * sz, none⟩)))) :: s) h (acc ++ [([], [])]) KK) : RKq P G ops draw n pc s h acc KK o (some dd) (.indexAddr t x y) :=
  fun hd_ ho hw hi_ => RK.val hi_ hd_ (o_idxP hL ho hw hx hy ht hs h0 h1) rfl kk
theorem q_idxPN {t el : TypeId} {x y : Operand} {k f len sz m : Nat} {kd : IntKind} {i : Int} {e : TE} (hL : LayOk P L = true) (hx : evA G n s x = some (.pointer (some ⟨k, f, none⟩))) (hy : evA G n s y = some (.int kd i)) (ht : lkT L t = some e) (hs : e.arr = some (len, el, sz)) (hi : i = (m : Int)) (h1 : m < len) {dd : Nat} (kk : RK P G ops draw n (pc + 1) ((dd, (some (.pointer (some ⟨k, f + m * sz, none⟩)))) :: s) h (acc ++ [([], [])]) KK) : RKq P G ops draw n pc s h acc KK o (some dd) (.indexAddr t x y) :=
  fun hd_ ho hw hi_ => RK.val hi_ hd_ (o_idxPN hL ho hw hx hy ht hs hi h1) rfl kk
theorem q_sliceA {t el : TypeId} {x : Operand} {k f len sz : Nat} {e : TE} (hL : LayOk P L = true) (hx : evA G n s x = some (.pointer (some ⟨k, f, none⟩))) (ht : lkT L t = some e) (hs : e.arr = some (len, el, sz)) (hg : Nat.ble len 100000 = true) {dd : Nat} (kk : RK P G ops draw n (pc + 1) ((dd, (some (.slice (some ⟨k, f, none⟩) len len))) :: s) h (acc ++ [([], [])]) KK) : RKq P G ops draw n pc s h acc KK o (some dd) (.slice t x none none none) :=
  fun hd_ ho hw hi_ => RK.val hi_ hd_ (o_sliceA hL ho hw hx ht hs hg) rfl kk
end
attribute [irreducible] RKq
theorem lh {k : Nat} {ob : AObj} {h : H} : ((k, ob) :: h)[0]? = some (k, ob) := rfl
theorem lt {j k : Nat} {ob : AObj} {e : Nat × AObj} {h : H} (x : h[j]? = some (k, ob)) : (e :: h)[j + 1]? = some (k, ob) := look_there x
theorem lx {j k : Nat} {ob ob2 : AObj} {h : H} (x : h[j]? = some (k, ob2)) (e : ob2 = ob) : h[j]? = some (k, ob) := e ▸ x
end Go.Proofs.YtlhhcongoplfpaaDoorAB
/-! Errors: two interfaces of pointers compared; a type asked for. -/
namespace Go.Proofs.YtlhhcongoplfpaaDoorAB
open Go
set_option linter.unusedVariables false
set_option linter.unusedSimpArgs false
section
variable {P : Program} {G : Nat} {L : Lay} {ops : Array Oper} {o : Oper} {n : Nat} {s : As} {h : H}
/-- A type of pointers that can be compared, to what is not empty. -/
def ptrOk (P : Program) (q : TypeId) : Bool := match P.underlying q with
  | some (.pointer te) => match P.info? q, P.info? te with
    | some i, some j => i.comparable && j.size != 0
    | _, _ => false
  | _ => false
theorem ptrOk.get {q : TypeId} (h : ptrOk P q = true) : ∃ te i j, P.underlying q = some (.pointer te) ∧ P.info? q = some i ∧ i.comparable = true ∧ P.info? te = some j ∧ j.size ≠ 0 := by
  unfold ptrOk at h
  split at h
  · rename_i te hu
    split at h
    · rename_i i j hi hj
      simp only [Bool.and_eq_true, bne_iff_ne, ne_eq] at h
      exact ⟨te, i, j, hu, hi, h.1, hj, h.2⟩
    · cases h
  · cases h
theorem run_ifty {ti u v : TypeId} {ms : Array (String × TypeId)} (x y : Value) (hi : P.underlying ti = some (.interface ms)) (hne : u ≠ v) (w : World) : (Op.equal ti (.iface u x) (.iface v y)).run P w = .ok false w := by
  show (Op.equalIn (9999 + 1) ti (.iface u x) (.iface v y)).run P w = .ok false w
  rw [Op.equalIn]
  simp [run_underlying hi, hne]
/-- The same pointer, twice. -/
theorem o_pteq {t u q : TypeId} {x y : Operand} {k f : Nat} (ho : o.op = .binOp .eql t x y u) (hw : wantA ops o n s = some true) (hp : isIface P t = true) (hq : ptrOk P q = true) (hx : evA G n s x = some (.iface q (.pointer (some ⟨k, f, none⟩)))) (hy : evA G n s y = some (.iface q (.pointer (some ⟨k, f, none⟩)))) :
    OPJ P G ops o (mkT n s) h [] [] (some (.bool true)) [] [] :=
  OPJ.pure hw fun ρ w a _ er => by
    obtain ⟨x', hx', h1⟩ := vr_iface.1 (er.get (by simp [ho, Op.operands]) hx)
    obtain ⟨y', hy', h2⟩ := vr_iface.1 (er.get (by simp [ho, Op.operands]) hy)
    obtain ⟨b, hb, rfl⟩ := vr_ptr.1 hx'
    obtain ⟨b', hb', rfl⟩ := vr_ptr.1 hy'
    rw [hb] at hb'; cases hb'
    obtain ⟨ms, hu⟩ := isIface.get hp
    obtain ⟨te, i, j, g1, g2, g3, g4, g5⟩ := ptrOk.get hq
    exact ⟨.bool true, by simp [execOp, ho, h1, h2, eqGuard, run_eql_iface_ptr_same w ⟨b, f, none⟩ hu g1 g2 g3 g4], by simp⟩
/-- Interfaces of two types. -/
theorem o_iftne {t u q r : TypeId} {x y : Operand} {v z : Value} (ho : o.op = .binOp .eql t x y u) (hw : wantA ops o n s = some true) (hp : isIface P t = true) (hx : evA G n s x = some (.iface q v)) (hy : evA G n s y = some (.iface r z)) (hne : Nat.beq q r = false) :
    OPJ P G ops o (mkT n s) h [] [] (some (.bool false)) [] [] :=
  OPJ.pure hw fun ρ w a _ er => by
    obtain ⟨x', hx', h1⟩ := vr_iface.1 (er.get (by simp [ho, Op.operands]) hx)
    obtain ⟨y', hy', h2⟩ := vr_iface.1 (er.get (by simp [ho, Op.operands]) hy)
    obtain ⟨ms, hu⟩ := isIface.get hp
    have hn : q ≠ r := fun e => by subst e; rw [Nat.beq_refl] at hne; cases hne
    exact ⟨.bool false, by simp [execOp, ho, h1, h2, eqGuard, binOp, run_ifty _ _ hu hn], by simp⟩
/-- Pointers to two places. -/
theorem o_ptne {t u q : TypeId} {x y : Operand} {k f k2 f2 b b2 j j2 : Nat} (ho : o.op = .binOp .eql t x y u) (hw : wantA ops o n s = some true) (hp : isIface P t = true) (hq : ptrOk P q = true) (hx : evA G n s x = some (.iface q (.pointer (some ⟨k, f, none⟩)))) (hy : evA G n s y = some (.iface q (.pointer (some ⟨k2, f2, none⟩))))
    (h1 : h[j]? = some (k, .mark b)) (h2 : h[j2]? = some (k2, .mark b2)) (hj : Nat.beq j j2 = false) (hne : (b, f) ≠ (b2, f2)) : OPJ P G ops o (mkT n s) h [j, j2] [] (some (.bool false)) [(k, .mark b), (k2, .mark b2)] [.mark b, .mark b2] := by
  have hn : j ≠ j2 := fun e => by subst e; rw [Nat.beq_refl] at hj; cases hj
  have fd : Fd h [j, j2] [(k, .mark b), (k2, .mark b2)] := .cons h1 (.cons h2 .nil)
  refine OPJ.of hw ⟨by simp [hn], fd.at_⟩ rfl (fun h3 hh => fd.same h3 hh) (fun _ h => by cases h) fun ρ w a R sim er fr => ?_
  obtain ⟨x', hx', g1⟩ := vr_iface.1 (er.get (by simp [ho, Op.operands]) hx)
  obtain ⟨y', hy', g2⟩ := vr_iface.1 (er.get (by simp [ho, Op.operands]) hy)
  obtain ⟨c, hc, rfl⟩ := vr_ptr.1 hx'
  obtain ⟨c2, hc2, rfl⟩ := vr_ptr.1 hy'
  obtain ⟨ms, hu⟩ := isIface.get hp
  obtain ⟨te, i, i2, q1, q2, q3, q4, q5⟩ := ptrOk.get hq
  obtain ⟨d1, o1, e1, e2, m1, ca, ta, rfl⟩ := (sim.ent (k, .mark b) (by simp)).2 rfl
  obtain ⟨d2, o2, e3, e4, m2, cb, tb, rfl⟩ := (sim.ent (k2, .mark b2) (by simp)).2 rfl
  have e1 : ρ k = some d1 := e1
  have e3 : ρ k2 = some d2 := e3
  have m1 : ρ k = some b := m1
  have m2 : ρ k2 = some b2 := m2
  rw [hc] at e1 m1; cases e1; cases m1
  rw [hc2] at e3 m2; cases e3; cases m2
  have hbb : (⟨b, f, none⟩ : Addr) ≠ ⟨b2, f2, none⟩ := fun e => hne (by cases e; rfl)
  exact wp_value (v := .bool false) (w1 := w) (by simp [execOp, ho, g1, g2, eqGuard, run_eql_iface_ptr_other w hu q1 q2 q3 q4 q5 hbb e2 e4])
    ⟨.bool false, ρ, rfl, fun x hx => by cases hx; exact .bool _, sim, Stp.refl ρ _ w, fun k hk => (fr k hk).1⟩
/-- A value of the type that is asked for. -/
theorem o_taT {xt q : TypeId} {x : Operand} {v : Value} (ho : o.op = .typeAssert x xt q true) (hw : wantA ops o n s = some true) (hp : hasTy P q = true) (hx : evA G n s x = some (.iface q v)) : OPJ P G ops o (mkT n s) h [] [] (some (.tuple #[v, .bool true])) [] [] :=
  OPJ.pure hw fun ρ w a _ er => by
    obtain ⟨x', hx', h1⟩ := vr_iface.1 (er.get (by simp [ho, Op.operands]) hx)
    unfold hasTy isIface at hp
    cases hu : P.underlying q with
    | none => simp [hu] at hp
    | some d =>
      refine ⟨.tuple #[x', .bool true], ?_, .tuple (.cons hx' (.cons (.bool _) .nil))⟩
      simp only [execOp, ho, h1, Instr.typeAssert, Sem.run_bind, run_underlying hu, Result.andThen_ok]
      cases d <;> simp_all
/-- Its zero is nil. -/
def zeroNil (P : Program) (q : TypeId) : Bool := match P.info? q with
  | some i => match i.zero with
    | some (.pointer none) => true
    | _ => false
  | none => false
/-- A value of another type. -/
theorem o_taF {xt q r : TypeId} {x : Operand} {v : Value} (ho : o.op = .typeAssert x xt q true) (hw : wantA ops o n s = some true) (hp : hasTy P q = true) (hz : zeroNil P q = true) (hx : evA G n s x = some (.iface r v)) (hne : Nat.beq r q = false) : OPJ P G ops o (mkT n s) h [] [] (some (.tuple #[.pointer none, .bool false])) [] [] :=
  OPJ.pure hw fun ρ w a _ er => by
    obtain ⟨x', hx', h1⟩ := vr_iface.1 (er.get (by simp [ho, Op.operands]) hx)
    have hn : r ≠ q := fun e => by subst e; rw [Nat.beq_refl] at hne; cases hne
    have hz' : (zeroValue q).run P w = .ok (.pointer none) w := by
      unfold zeroNil at hz
      split at hz
      · rename_i i hi
        split at hz
        · rename_i z0 hz0
          simp [zeroValue, typeInfo, hi, hz0]
        · cases hz
      · cases hz
    unfold hasTy isIface at hp
    cases hu : P.underlying q with
    | none => simp [hu] at hp
    | some d =>
      refine ⟨.tuple #[.pointer none, .bool false], ?_, .tuple (.cons .ptrNil (.cons (.bool _) .nil))⟩
      simp only [execOp, ho, h1, Instr.typeAssert, Sem.run_bind, run_underlying hu, Result.andThen_ok]
      cases d <;> simp_all [hn, hz']
/-- The first elements of a slice. -/
theorem o_sliceH {t el : TypeId} {x y : Operand} {k f l c m sz : Nat} {kd : IntKind} {i : Int} {e : TE} (hL : LayOk P L = true) (ho : o.op = .slice t x none (some y) none) (hw : wantA ops o n s = some true) (hx : evA G n s x = some (.slice (some ⟨k, f, none⟩) l c)) (hy : evA G n s y = some (.int kd i))
    (ht : lkT L t = some e) (hs : e.sl = some (el, sz)) (hi : i = (m : Int)) (hm : m ≤ l) (hlc : l ≤ c) : OPJ P G ops o (mkT n s) h [] [] (some (.slice (some ⟨k, f, none⟩) m c)) [] [] := by
  subst hi
  refine OPJ.pure hw fun ρ w a _ er => ?_
  obtain ⟨hu, j, hj, hjs⟩ := (tfOf hL ht).sl el sz hs
  obtain ⟨b, c', hb, hc, h1⟩ := vr_slice.1 (er.get (by simp [ho, Op.operands]) hx)
  have h2 := vr_int.1 (er.get (by simp [ho, Op.operands]) hy)
  have hlc' := hc.1 hlc
  have he : P.elem t = el := by simp [Program.elem, hu]
  have hu' : P.underlying t = some (.slice (P.elem t)) := by rw [he]; exact hu
  refine ⟨.slice (some ⟨b, f, none⟩) m c', ?_, .slice _ _ _ _ _ hb ⟨fun _ => by omega, hc.2⟩⟩
  have hsz : (sizeOf (P.elem t)).run P w = .ok sz w := by rw [he]; simp [sizeOf, typeInfo, hj, hjs]
  have hr : (Instr.sliceAt t (.slice (some ⟨b, f, none⟩) l c') none (some (.int kd (m : Int))) none).run P w = .ok (.slice (some ⟨b, f, none⟩) m c') w := by
    rw [run_sliceAt_slice w t _ _ _ _ hu', run_slice_h w t _ _ _ hu' kd (m : Int) (by omega) (by omega), hsz]
    simp [Result.andThen, sliced, add_none]
  simp [execOp, ho, h1, h2, hr]
end
end Go.Proofs.YtlhhcongoplfpaaDoorAB
/-! The laws for errors, keyed by the operation itself. -/
namespace Go.Proofs.YtlhhcongoplfpaaDoorAB
open Go
set_option linter.unusedVariables false
set_option linter.unusedSimpArgs false
section
variable {P : Program} {G : Nat} {L : Lay} {ops : Array Oper} {draw : Bool} {n pc : Nat} {s : As} {h : H} {acc : List (List Nat × List Nat)} {KK : As → H → Prop} {o : Oper}
/-- It was split already. -/
theorem gM {j d : Nat} {want : Bool} {m : Value} (hg : o.guard = some (j, want)) (hd : (ops[j]?).bind (·.dst) = some d) (hm : look s (1000 + d) = some m) (k : RKo P G ops draw n pc s h acc KK o) : RKo P G ops draw n pc s h acc KK o := k
theorem q_pteq {t u q : TypeId} {x y : Operand} {k f : Nat} (hp : isIface P t = true) (hq : ptrOk P q = true) (hx : evA G n s x = some (.iface q (.pointer (some ⟨k, f, none⟩)))) (hy : evA G n s y = some (.iface q (.pointer (some ⟨k, f, none⟩)))) {dd : Nat} (kk : RK P G ops draw n (pc + 1) ((dd, (some (.bool true))) :: s) h (acc ++ [([], [])]) KK) : RKq P G ops draw n pc s h acc KK o (some dd) (.binOp .eql t x y u) := by
  unfold RKq; exact fun hd_ ho hw hi_ => RK.val hi_ hd_ (o_pteq ho hw hp hq hx hy) rfl kk
theorem q_iftne {t u q r : TypeId} {x y : Operand} {v z : Value} (hp : isIface P t = true) (hx : evA G n s x = some (.iface q v)) (hy : evA G n s y = some (.iface r z)) (hne : Nat.beq q r = false) {dd : Nat} (kk : RK P G ops draw n (pc + 1) ((dd, (some (.bool false))) :: s) h (acc ++ [([], [])]) KK) : RKq P G ops draw n pc s h acc KK o (some dd) (.binOp .eql t x y u) := by
  unfold RKq; exact fun hd_ ho hw hi_ => RK.val hi_ hd_ (o_iftne ho hw hp hx hy hne) rfl kk
theorem q_ptne {t u q : TypeId} {x y : Operand} {k f k2 f2 b b2 j j2 : Nat} (hp : isIface P t = true) (hq : ptrOk P q = true) (hx : evA G n s x = some (.iface q (.pointer (some ⟨k, f, none⟩)))) (hy : evA G n s y = some (.iface q (.pointer (some ⟨k2, f2, none⟩)))) (h1 : h[j]? = some (k, .mark b)) (h2 : h[j2]? = some (k2, .mark b2)) (hj : Nat.beq j j2 = false) (hne : (b, f) ≠ (b2, f2)) {dd : Nat} (kk : RK P G ops draw n (pc + 1) ((dd, (some (.bool false))) :: s) h (acc ++ [([j, j2], [])]) KK) : RKq P G ops draw n pc s h acc KK o (some dd) (.binOp .eql t x y u) := by
  unfold RKq; exact fun hd_ ho hw hi_ => RK.val hi_ hd_ (o_ptne ho hw hp hq hx hy h1 h2 hj hne) rfl kk
theorem q_taT {xt q : TypeId} {x : Operand} {v : Value} (hp : hasTy P q = true) (hx : evA G n s x = some (.iface q v)) {dd : Nat} (kk : RK P G ops draw n (pc + 1) ((dd, (some (.tuple #[v, .bool true]))) :: s) h (acc ++ [([], [])]) KK) : RKq P G ops draw n pc s h acc KK o (some dd) (.typeAssert x xt q true) := by
  unfold RKq; exact fun hd_ ho hw hi_ => RK.val hi_ hd_ (o_taT ho hw hp hx) rfl kk
theorem q_taF {xt q r : TypeId} {x : Operand} {v : Value} (hp : hasTy P q = true) (hz : zeroNil P q = true) (hx : evA G n s x = some (.iface r v)) (hne : Nat.beq r q = false) {dd : Nat} (kk : RK P G ops draw n (pc + 1) ((dd, (some (.tuple #[.pointer none, .bool false]))) :: s) h (acc ++ [([], [])]) KK) : RKq P G ops draw n pc s h acc KK o (some dd) (.typeAssert x xt q true) := by
  unfold RKq; exact fun hd_ ho hw hi_ => RK.val hi_ hd_ (o_taF ho hw hp hz hx hne) rfl kk
theorem q_sliceH {t el : TypeId} {x y : Operand} {k f l c m sz : Nat} {kd : IntKind} {i : Int} {e : TE} (hL : LayOk P L = true) (hx : evA G n s x = some (.slice (some ⟨k, f, none⟩) l c)) (hy : evA G n s y = some (.int kd i)) (ht : lkT L t = some e) (hs : e.sl = some (el, sz)) (hi : i = (m : Int)) (hm : m ≤ l) (hlc : l ≤ c) {dd : Nat} (kk : RK P G ops draw n (pc + 1) ((dd, (some (.slice (some ⟨k, f, none⟩) m c))) :: s) h (acc ++ [([], [])]) KK) : RKq P G ops draw n pc s h acc KK o (some dd) (.slice t x none (some y) none) := by
  unfold RKq; exact fun hd_ ho hw hi_ => RK.val hi_ hd_ (o_sliceH hL ho hw hx hy ht hs hi hm hlc) rfl kk
end
end Go.Proofs.YtlhhcongoplfpaaDoorAB
