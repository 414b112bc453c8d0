/- What functions of this program do, each as a contract that its callers use.
   By an AI agent. -/
import Derived.Test.YtlhhcongoplfpaaDoorABS
/-! Less is said of a block: cells that nobody writes any more. -/
namespace Go.Proofs.YtlhhcongoplfpaaDoorAB
set_option linter.unusedVariables false
set_option linter.unusedSimpArgs false
open Go
def Fades (o o' : AObj) : Prop := o' = .lost ∨ o' = o ∨ ∃ cs ty, o = .cells cs ty ∧ o' = .ro 0 cs
theorem Fades.live {o o' : AObj} (h : Fades o o') (k : o'.live = true) : o.live = true := by
  rcases h with rfl | rfl | ⟨cs, ty, rfl, rfl⟩
  · cases k
  · exact k
  · rfl
theorem Fades.wr {o o' : AObj} (h : Fades o o') (k : o'.wr = true) : o.wr = true := by
  rcases h with rfl | rfl | ⟨cs, ty, rfl, rfl⟩
  · cases k
  · exact k
  · cases k
theorem Fades.gone {o o' : AObj} (h : Fades o o') (k : o' = .gone) : o = .gone := by
  rcases h with rfl | rfl | ⟨cs, ty, rfl, rfl⟩
  · cases k
  · exact k
  · cases k
theorem Fades.lost {o o' : AObj} (h : Fades o o') (k : o' ≠ .lost) : o ≠ .lost := by
  rcases h with rfl | rfl | ⟨cs, ty, rfl, rfl⟩
  · exact absurd rfl k
  · exact k
  · simp
theorem Fades.or {ρ : Ren} {i : Nat} {o o' : AObj} (h : Fades o o') (k : o'.live = true) {x : Obj} (r : OR ρ i o x) : OR ρ i o' x := by
  rcases h with rfl | rfl | ⟨cs, ty, rfl, rfl⟩
  · cases k
  · exact r
  · obtain ⟨cs', h1, rfl⟩ := r
    refine ⟨⟨cs'⟩, ty, (0, 0), rfl, ?_⟩
    show VRL ρ cs ((cs'.drop 0).take cs.length)
    rw [List.drop_zero, ← h1.length, List.take_length]
    exact h1
theorem Ctr.fade {P : Program} {G : Nat} {f : FuncId} {args : List Value} {pre : H} {v : Value} {post post' : List AObj} (c : Ctr P G f args pre v post) (hl : post'.length = post.length) (h : ∀ (i : Nat) (o o' : AObj), post[i]? = some o → post'[i]? = some o' → Fades o o') : Ctr P G f args pre v post' := by
  have hl2 : post'.length = pre.length := hl.trans c.len
  refine ⟨c.ent, hl2, fun R ρ w cargs sim hv fr => (c.run R ρ w cargs sim hv fr).mono ?_⟩
  rintro e w' ⟨v', ρ', he, hvr, sim', st, fr'⟩
  have key : ∀ (i : Nat) (x : Nat × AObj), (wth pre post')[i]? = some x → ∃ y, (wth pre post)[i]? = some y ∧ y.1 = x.1 ∧ Fades y.2 x.2 := by
    intro i x hx
    have hi : i < pre.length := by
      have := (List.getElem?_eq_some_iff.1 hx).1
      simp [wth, hl2] at this
      exact this
    obtain ⟨o', ho', hw'⟩ := wth_get hl2 (List.getElem?_eq_getElem hi)
    obtain ⟨o, ho, hw⟩ := wth_get c.len (List.getElem?_eq_getElem hi)
    rw [hw'] at hx
    cases hx
    exact ⟨_, hw, rfl, h i o o' ho ho'⟩
  have mem : ∀ x ∈ wth pre post', ∃ y ∈ wth pre post, y.1 = x.1 ∧ Fades y.2 x.2 := by
    intro x hx
    obtain ⟨i, hi⟩ := List.mem_iff_getElem?.1 hx
    obtain ⟨y, h1, h2⟩ := key i x hi
    exact ⟨y, List.mem_of_getElem? h1, h2⟩
  refine ⟨v', ρ', he, hvr, ⟨sim'.dom, fun x hx => ?_, fun i j x y hij hi hj => ?_, sim'.glob, sim'.fin⟩, ⟨st.ext, st.new, st.size, st.os, st.tape, st.output, st.keep, fun x hx hlive => ?_, fun x hx hg => ?_⟩, fr'⟩
  · obtain ⟨y, hy, e1, hf⟩ := mem x hx
    have hs := sim'.ent y hy
    refine ⟨fun hg => ?_, fun hl => ?_⟩
    · rw [← e1]; exact hs.1 (hf.gone hg)
    · obtain ⟨b, o, h1, h2, h3⟩ := hs.2 (hf.live hl)
      exact ⟨b, o, by rw [← e1]; exact h1, h2, by rw [← e1]; exact hf.or hl h3⟩
  · obtain ⟨x', hx', e1, f1⟩ := key i x hi
    obtain ⟨y', hy', e2, f2⟩ := key j y hj
    intro a b
    obtain ⟨s1, s2⟩ := sim'.sep i j x' y' hij hx' hy' (f1.lost a) (f2.lost b)
    rw [e1, e2] at s1 s2
    exact ⟨fun k => s1 (k.imp f1.wr f2.wr), fun k => s2 (k.imp f1.gone f2.gone)⟩
  · obtain ⟨y, hy, e1, hf⟩ := mem x hx
    intro b hb
    obtain h1 | ⟨e, h1, h2, h3, h4⟩ := st.der y hy (hf.live hlive) b (by rw [e1]; exact hb)
    · exact .inl h1
    · exact .inr ⟨e, h1, h2, fun k => h3 (hf.wr k), h4⟩
  · obtain ⟨y, hy, e1, hf⟩ := mem x hx
    have hyg := hf.gone hg
    have := st.gon y hy hyg
    have e : y = x := by
      obtain ⟨a, b⟩ := y; obtain ⟨c, d⟩ := x
      simp only at e1 hyg hg
      rw [e1, hyg, hg]
    rw [← e]; exact this
section
variable {P : Program} {G : Nat} {Q : Exit → T → H → Prop} {t : T} {h : H}
theorem jmp_mono {J J' : Nat → T → H → Prop} (k : ∀ l t h, J l t h → J' l t h) {e : Exit} (q : jmp J Q e t h) : jmp J' Q e t h := by
  unfold jmp at q ⊢
  cases e with
  | goto l => exact k _ _ _ q
  | _ => exact q
/-- A scope with one label, by slots. -/
theorem WP.scopeI {α : Type} {c rest : Code} {n l0 : Nat} (S : α → As) (Hh : α → H) (I : α → Prop) (μ : α → Nat) (hf : findLabel c l0 = some rest)
    (first : WP P G c t h (jmp (fun l t' h' => l = l0 ∧ ∃ y, I y ∧ Wk t' h' (mkT n (S y)) (Hh y)) Q))
    (round : ∀ x, I x → WP P G rest (mkT n (S x)) (Hh x) (jmp (fun l t' h' => l = l0 ∧ ∃ y, I y ∧ μ y < μ x ∧ Wk t' h' (mkT n (S y)) (Hh y)) Q)) : WP P G (.scope c) t h Q :=
  WP.scope (fun l m t h => l = l0 ∧ ∃ x, I x ∧ μ x = m ∧ Wk t h (mkT n (S x)) (Hh x))
    (WP.mono (fun e t h q => jmp_mono (fun l t h ⟨hl, y, iy, wk⟩ => ⟨μ y, hl, y, iy, rfl, wk⟩) q) first)
    fun l m t h ⟨hl, x, ix, hm, wk⟩ => by
      subst hl
      exact ⟨rest, hf, WP.weak wk (WP.mono (fun e t h q => jmp_mono (fun l t h ⟨hl, y, iy, hlt, wk⟩ => ⟨μ y, hm ▸ hlt, hl, y, iy, rfl, wk⟩) q) (round x ix))⟩
end
section
variable {P : Program} {G : Nat} {Q : Exit → T → H → Prop} {t : T} {h : H}
/-- The same, entered at its label from ahead of it. -/
theorem WP.scopeJ {α : Type} {c R : Code} {n l0 : Nat} (S : α → As) (Hh : α → H) (I : α → Prop) (μ : α → Nat) (hf : findLabel c l0 = some (.seq .skip R))
    (first : (∀ t h y, I y → Wk t h (mkT n (S y)) (Hh y) → WP P G R t h (jmp (fun l t' h' => l = l0 ∧ ∃ y, I y ∧ Wk t' h' (mkT n (S y)) (Hh y)) Q)) → WP P G c t h (jmp (fun l t' h' => l = l0 ∧ ∃ y, I y ∧ Wk t' h' (mkT n (S y)) (Hh y)) Q))
    (round : ∀ x, I x → WP P G R (mkT n (S x)) (Hh x) (jmp (fun l t' h' => l = l0 ∧ ∃ y, I y ∧ μ y < μ x ∧ Wk t' h' (mkT n (S y)) (Hh y)) Q)) : WP P G (.scope c) t h Q :=
  WP.scopeI S Hh I μ hf (first fun t h y iy wk => WP.weak wk (WP.mono (fun e t h q => jmp_mono (fun l t h ⟨hl, y, iy, _, wk⟩ => ⟨hl, y, iy, wk⟩) q) (round y iy)))
    fun x ix => WP.seq (WP.skip (thn_n (round x ix)))
end
/-- A record of a row, by its place. -/
theorem ro_segD {α : Type} {g : α → List Value} {sz : Nat} (hg : ∀ x, (g x).length = sz) {zs : List α} {f i : Nat} (d : α) (hi : i < zs.length) : AObj.seg (.ro f (zs.flatMap g)) (f + i * sz) sz = some (g (zs.getD i d)) := by
  rw [ro_seg hg hi, List.getD_eq_getElem?_getD, List.getElem?_eq_getElem hi]; rfl
theorem takeO_get : ∀ {n : Nat} {l r : List Value} {j : Nat}, takeO n l = some r → j < n → l[j]? = r[j]?
  | n + 1, x :: l, r, j, h, hj => by
    simp only [takeO] at h
    cases hh : takeO n l with
    | none => rw [hh] at h; cases h
    | some r' =>
      rw [hh] at h
      cases h
      cases j with
      | zero => rfl
      | succ j => exact takeO_get (l := l) (r := r') hh (by omega)
/-- One cell of a record of a row, by its place. -/
theorem ro_cellD {α : Type} {g : α → List Value} {sz : Nat} (hg : ∀ x, (g x).length = sz) {zs : List α} {f i j : Nat} (d : α) (hi : i < zs.length) (hj : j < sz) : (zs.flatMap g)[i * sz + j]? = (g (zs.getD i d))[j]? := by
  rw [flat_get hg hi hj, List.getD_eq_getElem?_getD, List.getElem?_eq_getElem hi]; rfl
abbrev pp (x : Int × Int) : List Value := [.int .i64 x.1, .int .i64 x.2]
/-- Points that can be read. -/
structure Tb (ob : AObj) (f n : Nat) (X Y : Nat → Int) : Prop where
  seg : ∀ i, i < n → ob.seg (f + i * 2) 2 = some [.int .i64 (X i), .int .i64 (Y i)]
  ax : ∀ i, i < n → ob.at (f + i * 2) = some (.int .i64 (X i))
  ay : ∀ i, i < n → ob.at (f + i * 2 + 1) = some (.int .i64 (Y i))
section
variable {P : Program} {G : Nat} {L : Lay} {ops : Array Oper} {o : Oper} {n : Nat} {s : As} {h : H}
/-- An element of a row, by a number that is known to be its place. -/
theorem o_idxN {t : TypeId} {x y : Operand} {a : Option Addr} {k f l c sz m : Nat} {el : TypeId} {kd : IntKind} {i : Int} {e : TE} (hL : LayOk P L = true) (ho : o.op = .indexAddr t x y) (hw : wantA ops o n s = some true) (hx : evA G n s x = some (.slice a l c)) (hy : evA G n s y = some (.int kd i))
    (ht : lkT L t = some e) (hs : e.sl = some (el, sz)) (ha : 0 < l → a = some ⟨k, f, none⟩) (hi : i = (m : Int)) (h1 : m < l) : OPJ P G ops o (mkT n s) h [] [] (some (.pointer (some ⟨k, f + m * sz, none⟩))) [] [] := by
  subst hi
  exact o_idxS hL ho hw hx hy ht hs ha (by omega) (by omega)
end
end Go.Proofs.YtlhhcongoplfpaaDoorAB
