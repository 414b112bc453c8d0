/- Rows of the input, absent, empty or with cells, under one contract.
   By an AI agent. -/
import Derived.Test.YtlhhcongoplfpaaDoorABX
/-! Rows that the input brings: absent, without a cell, or with cells, under one contract. -/
namespace Go.Proofs.YtlhhcongoplfpaaDoorAB
open Go
/-- The value a over blocks, o over names; what the name i stands on. -/
structure SlIn {α : Type} (w : World) (i : Nat) (g : α → Value) (a : Option Addr) (l c : Nat) (zs : List α) (o : Option Addr) (ob : AObj) (b : Option Nat) (f : Nat) : Prop where
  vr : ∀ ρ : Ren, ρ i = b → VR ρ (.slice o l c) (.slice a l c)
  at0 : 0 < l → o = some ⟨i, f, none⟩ ∧ ob = .ro f (zs.map g) ∧ l ≤ zs.length
  on : (ob = .lost ∧ b = none) ∨ ∃ b', b = some b' ∧ ob = .ro f (zs.map g) ∧ Rd w b' f (zs.map g)
theorem slIn {α : Type} {w : World} (i : Nat) (g : α → Value) (hg : ∀ ρ x, VR ρ (g x) (g x)) {a : Option Addr} {len cap : Nat}
    (h : (a = none ∧ len = 0 ∧ cap = 0) ∨ ∃ (x : Addr) (zs : List α), a = some x ∧ len ≤ cap ∧ cap ≤ maxLen ∧ zs.length = cap ∧ ∀ (i : Nat) (hi : i < zs.length), w.cell? (x.add i) = some (g zs[i])) :
    ∃ zs o ob b f, SlIn w i g a len cap zs o ob b f := by
  rcases h with ⟨rfl, rfl, rfl⟩ | ⟨x, zs, rfl, h1, h2, h3, h4⟩
  · exact ⟨[], none, .lost, none, 0, fun ρ _ => .sliceNil _ _, fun h => absurd h (Nat.lt_irrefl 0), .inl ⟨rfl, rfl⟩⟩
  · by_cases hz : 0 < zs.length
    · have h0 := h4 0 hz
      have hx : x.block < w.heap.size := by
        unfold World.cell? at h0
        split at h0
        · rename_i hh; exact (Array.getElem?_eq_some_iff.1 hh).1
        · cases h0
      obtain ⟨e, r⟩ := Rd.of g hg zs hx hz h4
      refine ⟨zs, some ⟨i, x.off, none⟩, .ro x.off (zs.map g), some x.block, x.off, fun ρ hρ => ?_, fun _ => ⟨rfl, rfl, by omega⟩, .inr ⟨_, rfl, rfl, r⟩⟩
      rw [e]
      exact .slice _ _ _ _ _ hρ ⟨id, fun h => absurd h (by unfold grown; unfold maxLen at h2; omega)⟩
    · have hl : len = 0 := by omega
      have hc : cap = 0 := by omega
      subst hl hc
      exact ⟨[], some ⟨0, 0, some 0⟩, .lost, none, 0, fun ρ _ => .dead x, fun h => absurd h (Nat.lt_irrefl 0), .inl ⟨rfl, rfl⟩⟩
def ents : Nat → List AObj → H
  | _, [] => []
  | i, o :: r => (i, o) :: ents (i + 1) r
theorem ents_get : ∀ {r : List AObj} {i : Nat} {e : Nat × AObj}, e ∈ ents i r → ∃ j o, r[j]? = some o ∧ e = (i + j, o)
  | o :: r, i, e, h => by
    rcases List.mem_cons.1 h with rfl | h
    · exact ⟨0, o, rfl, rfl⟩
    · obtain ⟨j, p, h1, h2⟩ := ents_get h
      exact ⟨j + 1, p, h1, by rw [h2]; congr 1; omega⟩
def oblks (bs : List (Option Nat)) : Ren := ⟨fun i => (bs[i]?).join, fun _ => 0⟩
theorem oblks_at {bs : List (Option Nat)} {i : Nat} {b : Option Nat} (h : bs[i]? = some b) : oblks bs i = b := by
  show (bs[i]?).join = b
  rw [h]; rfl
/-- What the entry of a name is, and its block. -/
def OnIn (w : World) (ob : AObj) (b : Option Nat) : Prop := (ob = .lost ∧ b = none) ∨ ∃ b' f cs, b = some b' ∧ ob = .ro f cs ∧ Rd w b' f cs
theorem SlIn.onIn {α : Type} {w : World} {i : Nat} {g : α → Value} {a : Option Addr} {l c : Nat} {zs : List α} {o : Option Addr} {ob : AObj} {b : Option Nat} {f : Nat} (h : SlIn w i g a l c zs o ob b f) : OnIn w ob b := by
  rcases h.on with h | ⟨b', h1, h2, h3⟩
  · exact .inl h
  · exact .inr ⟨b', f, _, h1, h2, h3⟩
theorem OnIn.wr {w : World} {ob : AObj} {b : Option Nat} (h : OnIn w ob b) : ob.wr = false := by
  rcases h with ⟨rfl, _⟩ | ⟨_, _, _, _, rfl, _⟩ <;> rfl
theorem OnIn.notGone {w : World} {ob : AObj} {b : Option Nat} (h : OnIn w ob b) : ob ≠ .gone := by
  rcases h with ⟨rfl, _⟩ | ⟨_, _, _, _, rfl, _⟩ <;> simp
inductive OnAll (w : World) : List AObj → List (Option Nat) → Prop
  | nil : OnAll w [] []
  | cons {ob : AObj} {b : Option Nat} {obs : List AObj} {bs : List (Option Nat)} (h : OnIn w ob b) (r : OnAll w obs bs) : OnAll w (ob :: obs) (b :: bs)
theorem OnAll.get {w : World} : ∀ {obs : List AObj} {bs : List (Option Nat)}, OnAll w obs bs → ∀ (i : Nat) (ob : AObj), obs[i]? = some ob → ∃ b, bs[i]? = some b ∧ OnIn w ob b
  | _, _, .cons h r, 0, ob, e => by cases e; exact ⟨_, rfl, h⟩
  | _, _, .cons h r, i + 1, ob, e => r.get i ob e
theorem OnAll.getb {w : World} : ∀ {obs : List AObj} {bs : List (Option Nat)}, OnAll w obs bs → ∀ (i : Nat) (b : Option Nat), bs[i]? = some b → ∃ ob, obs[i]? = some ob ∧ OnIn w ob b
  | _, _, .cons h r, 0, ob, e => by cases e; exact ⟨_, rfl, h⟩
  | _, _, .cons h r, i + 1, ob, e => r.getb i ob e
theorem sim_ents {w : World} {obs : List AObj} {bs : List (Option Nat)} (hr : OnAll w obs bs) : Sim 0 (oblks bs) (ents 0 obs) w := by
  refine ⟨?_, ?_, ?_, fun g hg => absurd hg (Nat.not_lt_zero g), bs.length, fun i hi => ?_⟩
  · intro i b hi
    have hi : (bs[i]?).join = some b := hi
    cases hb : bs[i]? with
    | none => rw [hb] at hi; cases hi
    | some x =>
      rw [hb] at hi
      have hi : x = some b := hi
      subst hi
      obtain ⟨ob, _, h⟩ := hr.getb i _ hb
      rcases h with ⟨_, h⟩ | ⟨_, _, _, h, _, h2, _⟩
      · cases h
      · cases h; exact h2
  · intro e he
    obtain ⟨j, ob, hp, rfl⟩ := ents_get he
    obtain ⟨b, hb, h⟩ := hr.get j ob hp
    refine ⟨fun h' => absurd h' h.notGone, fun hl => ?_⟩
    rcases h with ⟨rfl, _⟩ | ⟨b', f, cs, rfl, rfl, _, arr, ty, fr, hh, hv⟩
    · cases hl
    · refine ⟨b', _, ?_, hh, arr, ty, fr, rfl, hv _⟩
      show (bs[0 + j]?).join = _
      rw [Nat.zero_add, hb]; rfl
  · intro i j e e' _ hi hj
    obtain ⟨_, p, h1, rfl⟩ := ents_get (List.mem_of_getElem? hi)
    obtain ⟨_, q, h2, rfl⟩ := ents_get (List.mem_of_getElem? hj)
    obtain ⟨_, _, h3⟩ := hr.get _ _ h1
    obtain ⟨_, _, h4⟩ := hr.get _ _ h2
    refine fun _ _ => ⟨fun h => ?_, fun h => ?_⟩
    · rcases h with h | h
      · rw [h3.wr] at h; cases h
      · rw [h4.wr] at h; cases h
    · rcases h with h | h
      · exact absurd h h3.notGone
      · exact absurd h h4.notGone
  · show (bs[i]?).join = none
    rw [List.getElem?_eq_none hi]; rfl
theorem Ctr.tops {P : Program} {f : FuncId} {args : List Value} {cargs : Array Value} {b : Bool} {post : List AObj} {w : World} {obs : List AObj} {bs : List (Option Nat)} (c : Ctr P 0 f args (ents 0 obs) (.bool b) post)
    (hr : OnAll w obs bs) (hv : VRL (oblks bs) args cargs.toList) : Calls P f cargs w fun e w' => e = .returned (.bool b) ∧ RowKit.Below w.heap.size w w' := by
  refine (c.run [] (oblks bs) w cargs (sim_ents hr) hv (fun k hk => (by cases hk))).mono ?_
  rintro e w' ⟨v', ρ', rfl, hvr, _, st, _⟩
  rw [vr_bool.1 hvr]
  refine ⟨rfl, st.os, st.tape, st.output, st.size, fun k hk => st.keep k hk fun e he hw => ?_⟩
  obtain ⟨j, p, hp, rfl⟩ := ents_get he
  obtain ⟨_, _, h3⟩ := hr.get j p hp
  rw [h3.wr] at hw
  cases hw
/-- What is not needed of a block is forgotten. -/
theorem Ctr.lose {P : Program} {G : Nat} {f : FuncId} {args : List Value} {pre : H} {v : Value} {post post' : List AObj} (c : Ctr P G f args pre v post) (hl : post'.length = post.length) (h : ∀ (i : Nat) (o : AObj), post'[i]? = some o → o = .lost ∨ post[i]? = some o) : Ctr P G f args pre v post' := by
  have hl2 : post'.length = pre.length := hl.trans c.len
  refine ⟨c.ent, hl2, fun R ρ w cargs sim hv fr => (c.run R ρ w cargs sim hv fr).mono ?_⟩
  rintro e w' ⟨v', ρ', he, hvr, sim', st, fr'⟩
  have key : ∀ (i : Nat) (x : Nat × AObj), (wth pre post')[i]? = some x → x.2 = .lost ∨ (wth pre post)[i]? = some x := by
    intro i x hx
    have hi : i < pre.length := by
      have := (List.getElem?_eq_some_iff.1 hx).1
      simp [wth, hl2] at this
      exact this
    obtain ⟨o', ho', hw'⟩ := wth_get hl2 (List.getElem?_eq_getElem hi)
    obtain ⟨o, ho, hw⟩ := wth_get c.len (List.getElem?_eq_getElem hi)
    rw [hw'] at hx
    cases hx
    rcases h i o' ho' with h | h
    · exact .inl h
    · rw [ho] at h
      cases h
      exact .inr hw
  have mem : ∀ x ∈ wth pre post', x.2 = .lost ∨ x ∈ wth pre post := by
    intro x hx
    obtain ⟨i, hi⟩ := List.mem_iff_getElem?.1 hx
    rcases key i x hi with h | h
    · exact .inl h
    · exact .inr (List.mem_of_getElem? h)
  refine ⟨v', ρ', he, hvr, ⟨sim'.dom, fun x hx => ?_, fun i j x y hij hi hj => ?_, sim'.glob, sim'.fin⟩, ⟨st.ext, st.new, st.size, st.os, st.tape, st.output, st.keep, fun x hx hlive => ?_, fun x hx hg => ?_⟩, fr'⟩
  · rcases mem x hx with h | h
    · exact ⟨fun hg => (by rw [h] at hg; cases hg), fun hl => (by rw [h] at hl; cases hl)⟩
    · exact sim'.ent x h
  · rcases key i x hi with h | h
    · exact fun a => absurd h a
    · rcases key j y hj with h' | h'
      · exact fun _ b => absurd h' b
      · exact sim'.sep i j x y hij h h'
  · rcases mem x hx with h | h
    · rw [h] at hlive; cases hlive
    · exact st.der x h hlive
  · rcases mem x hx with h | h
    · rw [h] at hg; cases hg
    · exact st.gon x h hg
section
variable {P : Program} {G : Nat} {L : Lay} {ops : Array Oper} {o : Oper} {n : Nat} {s : As} {h : H}
/-- An element of such a row. -/
theorem o_idxS {t : TypeId} {x y : Operand} {a : Option Addr} {k f l c sz : Nat} {el : TypeId} {kd : IntKind} {i : Int} {e : TE} (hL : LayOk P L = true) (ho : o.op = .indexAddr t x y) (hw : wantA ops o n s = some true) (hx : evA G n s x = some (.slice a l c)) (hy : evA G n s y = some (.int kd i))
    (ht : lkT L t = some e) (hs : e.sl = some (el, sz)) (ha : 0 < l → a = some ⟨k, f, none⟩) (h0 : 0 ≤ i) (h1 : i < l) : OPJ P G ops o (mkT n s) h [] [] (some (.pointer (some ⟨k, f + i.toNat * sz, none⟩))) [] [] := by
  rw [ha (by omega)] at hx
  exact o_idx hL ho hw hx hy ht hs h0 h1
end
end Go.Proofs.YtlhhcongoplfpaaDoorAB
