/- What functions of this program do, each as a contract that its callers use, and what follows of it in plain numbers.
   By an AI agent. -/
import Derived.Test.YtekcchmnncefhaaGreatDoorAB
import Derived.ChangeSlices
import Derived.WideShapes
import Derived.Scope
import Derived.LaidEql
import Derived.Laws.Slices
import Derived.Laws.Append
/-! What the input's values look like. -/
namespace Go.Proofs.YtekcchmnncefhaaGreatDoorAB
open Go
end Go.Proofs.YtekcchmnncefhaaGreatDoorAB
/-! Rows that the input brings: absent, without a cell, or with cells, under one contract. -/
namespace Go.Proofs.YtekcchmnncefhaaGreatDoorAB
open Go
/-- What the entry of a name is, and its block. -/
def OnIn (w : World) (ob : AObj) (b : Option Nat) : Prop := (ob = .lost ∧ b = none) ∨ ∃ b' f cs, b = some b' ∧ ob = .ro f cs ∧ Rd w b' f cs
theorem OnIn.wr {w : World} {ob : AObj} {b : Option Nat} (h : OnIn w ob b) : ob.wr = false := by
  rcases h with ⟨rfl, _⟩ | ⟨_, _, _, _, rfl, _⟩ <;> rfl
inductive OnAll (w : World) : List AObj → List (Option Nat) → Prop
  | nil : OnAll w [] []
  | cons {ob : AObj} {b : Option Nat} {obs : List AObj} {bs : List (Option Nat)} (h : OnIn w ob b) (r : OnAll w obs bs) : OnAll w (ob :: obs) (b :: bs)
theorem OnAll.get {w : World} : ∀ {obs : List AObj} {bs : List (Option Nat)}, OnAll w obs bs → ∀ (i : Nat) (ob : AObj), obs[i]? = some ob → ∃ b, bs[i]? = some b ∧ OnIn w ob b
  | _, _, .cons h r, 0, ob, e => by cases e; exact ⟨_, rfl, h⟩
  | _, _, .cons h r, i + 1, ob, e => r.get i ob e
/-- What is not needed of a block is forgotten. -/
theorem Ctr.lose {P : Program} {G : Nat} {f : FuncId} {args : List Value} {pre : H} {v : Value} {post post' : List AObj} (c : Ctr P G f args pre v post) (hl : post'.length = post.length) (h : ∀ (i : Nat) (o : AObj), post'[i]? = some o → o = .lost ∨ post[i]? = some o) : Ctr P G f args pre v post' := by
  have hl2 : post'.length = pre.length := hl.trans c.len
  refine ⟨c.ent, hl2, fun R ρ w cargs sim hv fr => (c.run R ρ w cargs sim hv fr).mono ?_⟩
  rintro e w' ⟨v', ρ', he, hvr, sim', st, fr'⟩
  have key : ∀ (i : Nat) (x : Nat × AObj), (wth pre post')[i]? = some x → x.2 = .lost ∨ (wth pre post)[i]? = some x := by
    intro i x hx
    have hi : i < pre.length := by
      have := (List.getElem?_eq_some_iff.1 hx).1
      simp [wth, hl2] at this
      exact this
    obtain ⟨o', ho', hw'⟩ := wth_get hl2 (List.getElem?_eq_getElem hi)
    obtain ⟨o, ho, hw⟩ := wth_get c.len (List.getElem?_eq_getElem hi)
    rw [hw'] at hx
    cases hx
    rcases h i o' ho' with h | h
    · exact .inl h
    · rw [ho] at h
      cases h
      exact .inr hw
  have mem : ∀ x ∈ wth pre post', x.2 = .lost ∨ x ∈ wth pre post := by
    intro x hx
    obtain ⟨i, hi⟩ := List.mem_iff_getElem?.1 hx
    rcases key i x hi with h | h
    · exact .inl h
    · exact .inr (List.mem_of_getElem? h)
  refine ⟨v', ρ', he, hvr, ⟨sim'.dom, fun x hx => ?_, fun i j x y hij hi hj => ?_, sim'.glob, sim'.fin⟩, ⟨st.ext, st.new, st.size, st.os, st.tape, st.output, st.keep, fun x hx hlive => ?_, fun x hx hg => ?_⟩, fr'⟩
  · rcases mem x hx with h | h
    · exact ⟨fun hg => (by rw [h] at hg; cases hg), fun hl => (by rw [h] at hl; cases hl)⟩
    · exact sim'.ent x h
  · rcases key i x hi with h | h
    · exact fun a => absurd h a
    · rcases key j y hj with h' | h'
      · exact fun _ b => absurd h' b
      · exact sim'.sep i j x y hij h h'
  · rcases mem x hx with h | h
    · rw [h] at hlive; cases hlive
    · exact st.der x h hlive
  · rcases mem x hx with h | h
    · rw [h] at hg; cases hg
    · exact st.gon x h hg
section
variable {P : Program} {G : Nat} {L : Lay} {ops : Array Oper} {o : Oper} {n : Nat} {s : As} {h : H}
/-- An element of such a row. -/
theorem o_idxS {t : TypeId} {x y : Operand} {a : Option Addr} {k f l c sz : Nat} {el : TypeId} {kd : IntKind} {i : Int} {e : TE} (hL : LayOk P L = true) (ho : o.op = .indexAddr t x y) (hw : wantA ops o n s = some true) (hx : evA G n s x = some (.slice a l c)) (hy : evA G n s y = some (.int kd i))
    (ht : lkT L t = some e) (hs : e.sl = some (el, sz)) (ha : 0 < l → a = some ⟨k, f, none⟩) (h0 : 0 ≤ i) (h1 : i < l) : OPJ P G ops o (mkT n s) h [] [] (some (.pointer (some ⟨k, f + i.toNat * sz, none⟩))) [] [] := by
  rw [ha (by omega)] at hx
  exact o_idx hL ho hw hx hy ht hs h0 h1
end
end Go.Proofs.YtekcchmnncefhaaGreatDoorAB
/-! A row of the input, opened: whatever its elements are. -/
namespace Go.Proofs.YtekcchmnncefhaaGreatDoorAB
open Go
theorem add_add (a : Addr) (x y : Nat) : (a.add x).add y = a.add (x + y) := by
  unfold Addr.add
  split
  · subst_vars; simp
  · split
    · subst_vars; simp_all
    · rw [if_neg (by omega)]; simp [Nat.add_assoc]
theorem list_of {α : Type} {R : Nat → α → Prop} : ∀ m : Nat, (∀ i, i < m → ∃ x, R i x) → ∃ zs : List α, zs.length = m ∧ ∀ (i : Nat) (hi : i < zs.length), R i zs[i]
  | 0, _ => ⟨[], rfl, fun i hi => absurd hi (Nat.not_lt_zero i)⟩
  | m + 1, h => by
    obtain ⟨zs, hl, hz⟩ := list_of m fun i hi => h i (by omega)
    obtain ⟨x, hx⟩ := h m (by omega)
    refine ⟨zs ++ [x], by simp [hl], fun i hi => ?_⟩
    by_cases him : i < zs.length
    · rw [List.getElem_append_left him]; exact hz i him
    · have : i = m := by simp at hi; omega
      subst this
      rw [List.getElem_append_right (by omega)]
      simpa [hl] using hx
theorem open_elems {α : Type} {H : Type} {enc : TypeId × Value → H} {P : Program} {w : World} {base : Nat} {spare : Nat → Bool} {held : Bool} {t e : TypeId} {fuel : Nat} {cs : List Value} {X : DataW H × List MemPlace} (sz : Nat) (G : α → List Value)
    (ht : P.underlying t = some (.slice e)) (hc : P.cellsOf e = sz) (hs : ∀ b, spare b = true) (hf : ∀ n c y, DataW.trod enc P w base spare held n e c = some y → ∃ x, c = G x) (h : DataW.trod enc P w base spare held fuel t cs = some X) :
    cs = [.slice none 0 0] ∨ ∃ (a : Addr) (len cap : Nat) (zs : List α), cs = [.slice (some a) len cap] ∧ len ≤ cap ∧ cap ≤ maxLen ∧ zs.length = cap ∧ ∀ (i : Nat) (hi : i < zs.length) (j : Nat), j < sz → w.cell? (a.add (i * sz + j)) = (G zs[i])[j]? := by
  rcases DataW.trod_slice ht h with h0 | ⟨a, len, cap, elems, rest, n, _, rfl, rfl, hb, hl, hm, hlen, hel, hsp, hns⟩
  · exact .inl h0.1
  right
  obtain ⟨hrl, hr⟩ := hsp (hs _)
  have each : ∀ i, i < cap → ∃ x : α, ∀ j, j < sz → w.cell? (a.add (i * sz + j)) = (G x)[j]? := by
    intro i hi
    have hb' : ∃ y, (w.cells? base (a.add (i * P.cellsOf e)) (P.cellsOf e)).bind (DataW.trod enc P w base spare held n e) = some y := by
      by_cases hil : i < len
      · exact ⟨elems[i]'(by omega), by rw [hel i hil, List.getElem?_eq_getElem]⟩
      · have := hr (i - len) (by omega)
        rw [show len + (i - len) = i by omega] at this
        exact ⟨rest[i - len]'(by omega), by rw [this, List.getElem?_eq_getElem]⟩
    obtain ⟨y, hb'⟩ := hb'
    rw [hc, Option.bind_eq_some_iff] at hb'
    obtain ⟨cs', hcs, hy⟩ := hb'
    obtain ⟨x, rfl⟩ := hf n cs' y hy
    refine ⟨x, fun j hj => ?_⟩
    rw [← add_add]
    exact (World.cells?_some hcs).2.2 j hj
  obtain ⟨zs, hz, h2⟩ := list_of cap each
  exact ⟨a, len, cap, zs, rfl, hl, hm, hz, fun i hi j hj => h2 i hi j hj⟩
end Go.Proofs.YtekcchmnncefhaaGreatDoorAB
/-! Rows of records. -/
namespace Go.Proofs.YtekcchmnncefhaaGreatDoorAB
open Go
theorem vrl_app {ρ : Ren} : ∀ {a b c d : List Value}, VRL ρ a b → VRL ρ c d → VRL ρ (a ++ c) (b ++ d)
  | _, _, _, _, .nil, h => h
  | _, _, _, _, .cons x r, h => .cons x (vrl_app r h)
theorem vrl_flat {ρ : Ren} {α : Type} {g : α → List Value} (hg : ∀ x, VRL ρ (g x) (g x)) : ∀ l : List α, VRL ρ (l.flatMap g) (l.flatMap g)
  | [] => .nil
  | x :: l => by rw [List.flatMap_cons]; exact vrl_app (hg x) (vrl_flat hg l)
theorem flat_get {α : Type} {g : α → List Value} {sz : Nat} (hg : ∀ x, (g x).length = sz) : ∀ {zs : List α} {i j : Nat} (hi : i < zs.length), j < sz → (zs.flatMap g)[i * sz + j]? = (g zs[i])[j]?
  | x :: zs, 0, j, hi, hj => by
    rw [List.flatMap_cons, Nat.zero_mul, Nat.zero_add, List.getElem?_append_left (by rw [hg]; exact hj)]; rfl
  | x :: zs, i + 1, j, hi, hj => by
    rw [List.flatMap_cons, List.getElem?_append_right (by rw [hg, Nat.succ_mul]; omega), hg, show (i + 1) * sz + j - sz = i * sz + j by rw [Nat.succ_mul]; omega]
    exact flat_get hg (by simpa using hi) hj
theorem flat_len {α : Type} {g : α → List Value} {sz : Nat} (hg : ∀ x, (g x).length = sz) : ∀ zs : List α, (zs.flatMap g).length = zs.length * sz
  | [] => by simp
  | x :: zs => by rw [List.flatMap_cons, List.length_append, hg, flat_len hg zs, List.length_cons, Nat.succ_mul]; omega
theorem takeO_app : ∀ {l r : List Value}, takeO l.length (l ++ r) = some l
  | [], r => by cases r <;> rfl
  | x :: l, r => by
    rw [List.length_cons, List.cons_append]
    simp only [takeO, takeO_app]
theorem segO_app : ∀ {l r : List Value} {o n : Nat}, segO (l ++ r) (l.length + o) n = segO r o n
  | [], r, o, n => by simp
  | x :: l, r, o, n => by
    rw [List.length_cons, show l.length + 1 + o = (l.length + o) + 1 by omega]
    exact segO_app (l := l)
theorem flat_seg {α : Type} {g : α → List Value} {sz : Nat} (hg : ∀ x, (g x).length = sz) : ∀ {zs : List α} {i : Nat} (hi : i < zs.length), segO (zs.flatMap g) (i * sz) sz = some (g zs[i])
  | x :: zs, 0, hi => by
    rw [List.flatMap_cons, Nat.zero_mul]
    have h := takeO_app (l := g x) (r := zs.flatMap g)
    rw [hg] at h
    have e : ∀ l : List Value, segO l 0 sz = takeO sz l := fun l => by cases l <;> simp only [segO]
    rw [e]
    exact h
  | x :: zs, i + 1, hi => by
    rw [List.flatMap_cons, show (i + 1) * sz = (g x).length + i * sz by rw [hg, Nat.succ_mul]; omega, segO_app]
    exact flat_seg hg (by simpa using hi)
theorem ro_seg {α : Type} {g : α → List Value} {sz : Nat} (hg : ∀ x, (g x).length = sz) {zs : List α} {f i : Nat} (hi : i < zs.length) : AObj.seg (.ro f (zs.flatMap g)) (f + i * sz) sz = some (g zs[i]) := by
  show (if f ≤ f + i * sz then segO (zs.flatMap g) (f + i * sz - f) sz else none) = _
  rw [if_pos (by omega), show f + i * sz - f = i * sz by omega]
  exact flat_seg hg hi
theorem Rd.ofc {w : World} {x : Addr} {cs : List Value} (hg : ∀ ρ, VRL ρ cs cs) (hz : 0 < cs.length) (h : ∀ k, k < cs.length → w.cell? (x.add k) = cs[k]?) : x = ⟨x.block, x.off, none⟩ ∧ Rd w x.block x.off cs := by
  have h0 := h 0 hz
  rw [List.getElem?_eq_getElem hz] at h0
  unfold World.cell? at h0
  split at h0
  · rename_i arr ty fr hh
    have hh : w.heap[x.block]? = some (.cells arr ty fr) := hh
    have hx : x.block < w.heap.size := (Array.getElem?_eq_some_iff.1 hh).1
    have hsp : x.spot = none := by
      cases hs : x.spot with
      | none => rfl
      | some j => simp [Addr.add, hs] at h0
    refine ⟨by cases x; simp_all, hx, arr, ty, fr, hh, fun ρ => ?_⟩
    have : (arr.toList.drop x.off).take cs.length = cs := by
      refine List.ext_getElem? fun i => ?_
      rw [List.getElem?_take]
      split
      · rename_i hi
        have h1 := h i hi
        rw [List.getElem?_eq_getElem hi] at h1
        unfold World.cell? at h1
        have hb : (x.add i).block = x.block := by unfold Addr.add; split <;> rfl
        have hs : (x.add i).spot = none := by unfold Addr.add; split <;> first | exact hsp | rfl
        have ho : (x.add i).off = x.off + i := by unfold Addr.add; split <;> first | (subst_vars; rfl) | rfl
        rw [hb, hh] at h1
        simp only [hs, ho, Option.isSome_none, Bool.false_eq_true, if_false] at h1
        rw [List.getElem?_drop, Array.getElem?_toList, h1, List.getElem?_eq_getElem hi]
      · rename_i hi
        rw [List.getElem?_eq_none (by omega)]
    rw [this]
    exact hg ρ
  · cases h0
end Go.Proofs.YtekcchmnncefhaaGreatDoorAB
/-! Interfaces, function values. -/
namespace Go.Proofs.YtekcchmnncefhaaGreatDoorAB
open Go
section
variable {P : Program} {G : Nat} {L : Lay} {ops : Array Oper} {o : Oper} {n : Nat} {s : As} {h : H}
def isIface (P : Program) (t : TypeId) : Bool := match P.underlying t with | some (.interface _) => true | _ => false
def hasTy (P : Program) (t : TypeId) : Bool := (P.underlying t).isSome && !isIface P t
theorem o_mkIface {t : TypeId} {x : Operand} {v : Value} (ho : o.op = .makeInterface t x) (hw : wantA ops o n s = some true) (ht : hasTy P t = true) (hx : evA G n s x = some v) : OPJ P G ops o (mkT n s) h [] [] (some (.iface t v)) [] [] :=
  OPJ.pure hw fun ρ w a _ er => by
    have h1 := er.get (by simp [ho, Op.operands]) hx
    unfold hasTy isIface at ht
    cases hu : P.underlying t with
    | none => simp [hu] at ht
    | some d =>
      refine ⟨.iface t (a.eval x), ?_, .iface t h1⟩
      simp only [execOp, ho, Instr.makeInterface, Sem.run_bind, run_underlying hu, Result.andThen_ok]
      cases d <;> simp_all
theorem o_mkFunc {f : Fn} {a b : Array Operand} {xs ys : List Value} (ho : o.op = .makeFunc f a b) (hw : wantA ops o n s = some true) (hx : evL G n s a.toList = some xs) (hy : evL G n s b.toList = some ys) : OPJ P G ops o (mkT n s) h [] [] (some (.func f ⟨xs⟩ ⟨ys⟩)) [] [] :=
  OPJ.pure hw fun ρ w ac _ er => by
    have h1 := evL_vr er (xs := a.toList) (fun x hx => by simp only [ho, Op.operands]; exact Array.mem_append.2 (.inl (by simpa using hx))) hx
    have h2 := evL_vr er (xs := b.toList) (fun x hx => by simp only [ho, Op.operands]; exact Array.mem_append.2 (.inr (by simpa using hx))) hy
    refine ⟨.func f (a.map ac.eval) (b.map ac.eval), by simp [execOp, ho, Instr.makeFunc], ?_⟩
    have e1 : a.map ac.eval = ⟨a.toList.map ac.eval⟩ := by cases a; simp
    have e2 : b.map ac.eval = ⟨b.toList.map ac.eval⟩ := by cases b; simp
    rw [e1, e2]
    exact .func f h1 h2
/-- A call of a function value: its captured cells' pointers come last. -/
theorem o_callF {x : Operand} {f : FuncId} {as : Array Operand} {ts : Array TypeId} {args caps : List Value} {pre : H} {v : Value} {post : List AObj} {js : List Nat} {us : List (Nat × AObj)}
    (ho : o.op = .call { callee := .value x, args := as, argTypes := ts }) (hw : wantA ops o n s = some true) (hx : evA G n s x = some (.func (.func f) ⟨[]⟩ ⟨caps⟩)) (ha : evL G n s as.toList = some args) (sp : Ctr P G f (args ++ caps) pre v post) (fits : Fits h js pre)
    (same : ∀ h2 : H, (∀ j ∈ js, h2[j]? = h[j]?) → upd h2 (js.zip post) = upd h2 us) (sub : ∀ u ∈ us, u.1 ∈ js) : OPJ P G ops o (mkT n s) h js us (some v) pre post :=
  OPJ.of hw fits sp.len same sub fun ρ w a R sim er fr => by
    have hv := evL_vr er (xs := as.toList) (fun x hx => by simp only [ho, Op.operands, Call.operands]; exact Array.mem_append.2 (.inr (by simpa using hx))) ha
    have hfx := er.get (by simp only [ho, Op.operands, Call.operands]; exact Array.mem_append.2 (.inl (by simp))) hx
    obtain ⟨fn, hf, hname, hb⟩ := sp.ent
    obtain ⟨caps', hval, hcaps⟩ : ∃ caps', a.eval x = .func (.func f) ⟨[]⟩ ⟨caps'⟩ ∧ VRL ρ caps caps' := by
      generalize a.eval x = u at hfx
      cases hfx with
      | func _ hx1 hy1 => cases hx1; exact ⟨_, rfl, hy1⟩
    have hrun : (execOp a.eval o).run P w = .ok (.enter f (as.map a.eval ++ ⟨caps'⟩)) w := by
      have h1 : fn.name ≠ "runtime.NumGoroutine" := by simpa using hname
      obtain ⟨c, hc⟩ := Option.isSome_iff_exists.1 hb
      unfold execOp
      simp [ho, resolve, Deferred.ofValue, invoke, hval, callFunc, hf, h1, hc]
    unfold Oper.wp
    rw [hrun, Oper.upon_enter]
    have hvv : VRL ρ (args ++ caps) (as.map a.eval ++ (⟨caps'⟩ : Array Value)).toList := by
      rw [Array.toList_append]
      exact VRL.append (by simpa using hv) hcaps
    refine (sp.run R ρ w (as.map a.eval ++ (⟨caps'⟩ : Array Value)) sim hvv fr).mono fun e w' hh => ?_
    obtain ⟨v', ρ', rfl, hv', sim', st', fr'⟩ := hh
    exact ⟨v', ρ', rfl, fun x hx => by cases hx; exact hv', sim', st', fr'⟩
theorem isIface.get {t : TypeId} (h : isIface P t = true) : ∃ ms, P.underlying t = some (.interface ms) := by
  unfold isIface at h
  split at h
  · exact ⟨_, by assumption⟩
  · cases h
theorem run_if_nil {t u : TypeId} {ms : Array (String × TypeId)} {v : Value} (hu : P.underlying t = some (.interface ms)) (w : World) : (Op.equal t (.iface u v) .nilIface).run P w = .ok false w := by
  show (Op.equalIn (9999 + 1) t (.iface u v) .nilIface).run P w = .ok false w
  rw [Op.equalIn]
  simp [run_underlying hu]
theorem run_nil_nil {t : TypeId} {ms : Array (String × TypeId)} (hu : P.underlying t = some (.interface ms)) (w : World) : (Op.equal t .nilIface .nilIface).run P w = .ok true w := by
  show (Op.equalIn (9999 + 1) t .nilIface .nilIface).run P w = .ok true w
  rw [Op.equalIn]
  simp [run_underlying hu]
/-- An interface that is not nil, beside nil. -/
theorem o_ifeq {t u q : TypeId} {x : Operand} {v : Value} (ho : o.op = .binOp .eql t x (.const .nilIface) u) (hw : wantA ops o n s = some true) (hp : isIface P t = true) (hx : evA G n s x = some (.iface q v)) :
    OPJ P G ops o (mkT n s) h [] [] (some (.bool false)) [] [] :=
  OPJ.pure hw fun ρ w a _ er => by
    obtain ⟨v', _, h1⟩ := vr_iface.1 (er.get (by simp [ho, Op.operands]) hx)
    obtain ⟨e, hu⟩ := isIface.get hp
    exact ⟨.bool false, by simp [execOp, ho, h1, show a.eval (.const .nilIface) = .nilIface from rfl, eqGuard, binOp, run_if_nil hu], by simp⟩
theorem o_ifne {t u q : TypeId} {x : Operand} {v : Value} (ho : o.op = .binOp .neq t x (.const .nilIface) u) (hw : wantA ops o n s = some true) (hp : isIface P t = true) (hx : evA G n s x = some (.iface q v)) :
    OPJ P G ops o (mkT n s) h [] [] (some (.bool true)) [] [] :=
  OPJ.pure hw fun ρ w a _ er => by
    obtain ⟨v', _, h1⟩ := vr_iface.1 (er.get (by simp [ho, Op.operands]) hx)
    obtain ⟨e, hu⟩ := isIface.get hp
    exact ⟨.bool true, by simp [execOp, ho, h1, show a.eval (.const .nilIface) = .nilIface from rfl, eqGuard, binOp, run_if_nil hu], by simp⟩
theorem o_nileq {t u : TypeId} {x : Operand} (ho : o.op = .binOp .eql t x (.const .nilIface) u) (hw : wantA ops o n s = some true) (hp : isIface P t = true) (hx : evA G n s x = some .nilIface) :
    OPJ P G ops o (mkT n s) h [] [] (some (.bool true)) [] [] :=
  OPJ.pure hw fun ρ w a _ er => by
    have h1 := vr_nilIface.1 (er.get (by simp [ho, Op.operands]) hx)
    obtain ⟨e, hu⟩ := isIface.get hp
    exact ⟨.bool true, by simp [execOp, ho, h1, show a.eval (.const .nilIface) = .nilIface from rfl, eqGuard, binOp, run_nil_nil hu], by simp⟩
theorem o_nilne {t u : TypeId} {x : Operand} (ho : o.op = .binOp .neq t x (.const .nilIface) u) (hw : wantA ops o n s = some true) (hp : isIface P t = true) (hx : evA G n s x = some .nilIface) :
    OPJ P G ops o (mkT n s) h [] [] (some (.bool false)) [] [] :=
  OPJ.pure hw fun ρ w a _ er => by
    have h1 := vr_nilIface.1 (er.get (by simp [ho, Op.operands]) hx)
    obtain ⟨e, hu⟩ := isIface.get hp
    exact ⟨.bool false, by simp [execOp, ho, h1, show a.eval (.const .nilIface) = .nilIface from rfl, eqGuard, binOp, run_nil_nil hu], by simp⟩
end
end Go.Proofs.YtekcchmnncefhaaGreatDoorAB
/-! A scope with labels, and jumps back to them. -/
namespace Go.Proofs.YtekcchmnncefhaaGreatDoorAB
open Go
/-- By a goto: J of its label; else Q. -/
def jmp (J : Nat → T → H → Prop) (Q : Exit → T → H → Prop) : Exit → T → H → Prop
  | .goto l, t, h => J l t h
  | e, t, h => Q e t h
def Exit.jmpA (J : Nat → Act → World → Prop) (Q : Exit → Act → World → Prop) : Exit → Act → World → Prop
  | .goto l, a, w => J l a w
  | e, a, w => Q e a w
section
variable {P : Program} {G : Nat} {Q : Exit → T → H → Prop} {t : T} {h : H}
theorem scope_rel {c : Code} {Q : Exit → Act → World → Prop} {a : Act} {w : World} (J : Nat → Nat → Act → World → Prop) (first : c.wp P (Exit.jmpA (fun l a' w' => ∃ m, J l m a' w') Q) a w)
    (pass : ∀ l m a w, J l m a w → ∃ rest, findLabel c l = some rest ∧ rest.wp P (Exit.jmpA (fun l' a' w' => ∃ m', m' < m ∧ J l' m' a' w') Q) a w) : (Code.scope c).wp P Q a w := by
  intro b k cs
  have hg : ∀ l rest, findLabel c l = some rest → gotoIn l (.inScope c :: k) = some (.code rest :: .inScope c :: k) := fun l rest hf => by simp [gotoIn, hf]
  have key : ∀ m l a w, J l m a w → ∃ rest, findLabel c l = some rest ∧ ∃ e a' w', Q e a' w' ∧ Arrives P (lone (b.at a (.code rest :: .inScope c :: k)) cs w) b k cs e a' w' := by
    intro m
    induction m using Nat.strongRecOn with
    | _ m ih =>
      intro l a w hJ
      obtain ⟨rest, hf, hp⟩ := pass l m a w hJ
      refine ⟨rest, hf, ?_⟩
      obtain ⟨e, a₁, w₁, hq, harr⟩ := hp b (.inScope c :: k) cs
      cases e with
      | normal => exact ⟨.normal, a₁, w₁, hq, Steps.trans harr (.one step_inScope)⟩
      | exit id => exact ⟨.exit id, a₁, w₁, hq, fun k' hk => harr k' (by simp [exitTo, hk])⟩
      | goto l' =>
        obtain ⟨m', hlt, hJ'⟩ := hq
        obtain ⟨rest', hf', e₂, a₂, w₂, hq₂, harr₂⟩ := ih m' hlt l' a₁ w₁ hJ'
        exact ⟨e₂, a₂, w₂, hq₂, .of_steps (harr _ (hg _ _ hf')) harr₂⟩
      | ret => exact ⟨_, a₁, w₁, hq, harr⟩
      | panic ch => exact ⟨_, a₁, w₁, hq, harr⟩
      | outgrown => exact ⟨_, a₁, w₁, hq, harr⟩
  obtain ⟨e, a₁, w₁, hq, harr⟩ := first b (.inScope c :: k) cs
  cases e with
  | normal => exact ⟨.normal, a₁, w₁, hq, .head step_scope (Steps.trans harr (.one step_inScope))⟩
  | exit id => exact ⟨.exit id, a₁, w₁, hq, fun k' hk => .head step_scope (harr k' (by simp [exitTo, hk]))⟩
  | goto l' =>
    obtain ⟨m, hJ'⟩ := hq
    obtain ⟨rest', hf', e₂, a₂, w₂, hq₂, harr₂⟩ := key m l' a₁ w₁ hJ'
    exact ⟨e₂, a₂, w₂, hq₂, .of_steps (.head step_scope (harr _ (hg _ _ hf'))) harr₂⟩
  | ret => exact ⟨_, a₁, w₁, hq, .of_steps (.one step_scope) harr⟩
  | panic ch => exact ⟨_, a₁, w₁, hq, .of_steps (.one step_scope) harr⟩
  | outgrown => exact ⟨_, a₁, w₁, hq, .of_steps (.one step_scope) harr⟩
/-- A scope: I says the state at each of its labels; a number falls at every jump. -/
theorem WP.scope {c : Code} (I : Nat → Nat → T → H → Prop) (first : WP P G c t h (jmp (fun l t' h' => ∃ m, I l m t' h') Q))
    (pass : ∀ l m t h, I l m t h → ∃ rest, findLabel c l = some rest ∧ WP P G rest t h (jmp (fun l' t' h' => ∃ m', m' < m ∧ I l' m' t' h') Q)) : WP P G (.scope c) t h Q := by
  unfold WP at first pass ⊢
  intro ρ a w R s f
  refine scope_rel (fun l m a' w' => ∃ t' h' ρ', I l m t' h' ∧ St G ρ' t' h' a' w' ∧ Stp ρ h w ρ' h' w' ∧ Free ρ' h' R) ?_ ?_
  · refine wp_mono (first ρ a w R s f) fun e a2 w2 ⟨t2, h2, ρ2, q, r⟩ => ?_
    cases e with
    | goto l =>
      obtain ⟨m, hI⟩ := q
      exact ⟨m, t2, h2, ρ2, hI, r⟩
    | _ => exact ⟨t2, h2, ρ2, q, r⟩
  · rintro l m a1 w1 ⟨t1, h1, ρ1, hI, s1, st1, f1⟩
    obtain ⟨rest, hf, hp⟩ := pass l m t1 h1 hI
    refine ⟨rest, hf, wp_mono (hp ρ1 a1 w1 R s1 f1) fun e a2 w2 ⟨t2, h2, ρ2, q, s2, st2, f2⟩ => ?_⟩
    cases e with
    | goto l' =>
      obtain ⟨m', hlt, hI'⟩ := q
      exact ⟨m', hlt, t2, h2, ρ2, hI', s2, st1.trans st2, f2⟩
    | _ => exact ⟨t2, h2, ρ2, q, s2, st1.trans st2, f2⟩
variable {J : Nat → T → H → Prop}
end
attribute [irreducible] jmp
end Go.Proofs.YtekcchmnncefhaaGreatDoorAB
/-! Less is said of a block: cells that nobody writes any more. -/
namespace Go.Proofs.YtekcchmnncefhaaGreatDoorAB
set_option linter.unusedVariables false
set_option linter.unusedSimpArgs false
open Go
def Fades (o o' : AObj) : Prop := o' = .lost ∨ o' = o ∨ ∃ cs ty, o = .cells cs ty ∧ o' = .ro 0 cs
theorem Fades.live {o o' : AObj} (h : Fades o o') (k : o'.live = true) : o.live = true := by
  rcases h with rfl | rfl | ⟨cs, ty, rfl, rfl⟩
  · cases k
  · exact k
  · rfl
theorem Fades.wr {o o' : AObj} (h : Fades o o') (k : o'.wr = true) : o.wr = true := by
  rcases h with rfl | rfl | ⟨cs, ty, rfl, rfl⟩
  · cases k
  · exact k
  · cases k
theorem Fades.gone {o o' : AObj} (h : Fades o o') (k : o' = .gone) : o = .gone := by
  rcases h with rfl | rfl | ⟨cs, ty, rfl, rfl⟩
  · cases k
  · exact k
  · cases k
theorem Fades.lost {o o' : AObj} (h : Fades o o') (k : o' ≠ .lost) : o ≠ .lost := by
  rcases h with rfl | rfl | ⟨cs, ty, rfl, rfl⟩
  · exact absurd rfl k
  · exact k
  · simp
theorem Fades.or {ρ : Ren} {i : Nat} {o o' : AObj} (h : Fades o o') (k : o'.live = true) {x : Obj} (r : OR ρ i o x) : OR ρ i o' x := by
  rcases h with rfl | rfl | ⟨cs, ty, rfl, rfl⟩
  · cases k
  · exact r
  · obtain ⟨cs', h1, rfl⟩ := r
    refine ⟨⟨cs'⟩, ty, (0, 0), rfl, ?_⟩
    show VRL ρ cs ((cs'.drop 0).take cs.length)
    rw [List.drop_zero, ← h1.length, List.take_length]
    exact h1
section
variable {P : Program} {G : Nat} {Q : Exit → T → H → Prop} {t : T} {h : H}
end
section
variable {P : Program} {G : Nat} {Q : Exit → T → H → Prop} {t : T} {h : H}
end
/-- A record of a row, by its place. -/
theorem ro_segD {α : Type} {g : α → List Value} {sz : Nat} (hg : ∀ x, (g x).length = sz) {zs : List α} {f i : Nat} (d : α) (hi : i < zs.length) : AObj.seg (.ro f (zs.flatMap g)) (f + i * sz) sz = some (g (zs.getD i d)) := by
  rw [ro_seg hg hi, List.getD_eq_getElem?_getD, List.getElem?_eq_getElem hi]; rfl
/-- One cell of a record of a row, by its place. -/
theorem ro_cellD {α : Type} {g : α → List Value} {sz : Nat} (hg : ∀ x, (g x).length = sz) {zs : List α} {f i j : Nat} (d : α) (hi : i < zs.length) (hj : j < sz) : (zs.flatMap g)[i * sz + j]? = (g (zs.getD i d))[j]? := by
  rw [flat_get hg hi hj, List.getD_eq_getElem?_getD, List.getElem?_eq_getElem hi]; rfl
abbrev pp (x : Int × Int) : List Value := [.int .i64 x.1, .int .i64 x.2]
/-- Points that can be read. -/
structure Tb (ob : AObj) (f n : Nat) (X Y : Nat → Int) : Prop where
  seg : ∀ i, i < n → ob.seg (f + i * 2) 2 = some [.int .i64 (X i), .int .i64 (Y i)]
  ax : ∀ i, i < n → ob.at (f + i * 2) = some (.int .i64 (X i))
  ay : ∀ i, i < n → ob.at (f + i * 2 + 1) = some (.int .i64 (Y i))
section
variable {P : Program} {G : Nat} {L : Lay} {ops : Array Oper} {o : Oper} {n : Nat} {s : As} {h : H}
/-- An element of a row, by a number that is known to be its place. -/
theorem o_idxN {t : TypeId} {x y : Operand} {a : Option Addr} {k f l c sz m : Nat} {el : TypeId} {kd : IntKind} {i : Int} {e : TE} (hL : LayOk P L = true) (ho : o.op = .indexAddr t x y) (hw : wantA ops o n s = some true) (hx : evA G n s x = some (.slice a l c)) (hy : evA G n s y = some (.int kd i))
    (ht : lkT L t = some e) (hs : e.sl = some (el, sz)) (ha : 0 < l → a = some ⟨k, f, none⟩) (hi : i = (m : Int)) (h1 : m < l) : OPJ P G ops o (mkT n s) h [] [] (some (.pointer (some ⟨k, f + m * sz, none⟩))) [] [] := by
  subst hi
  exact o_idxS hL ho hw hx hy ht hs ha (by omega) (by omega)
end
end Go.Proofs.YtekcchmnncefhaaGreatDoorAB
/-! Parts of records, of tuples, of arrays. -/
namespace Go.Proofs.YtekcchmnncefhaaGreatDoorAB
set_option linter.unusedVariables false
set_option linter.unusedSimpArgs false
open Go
section
variable {P : Program} {G : Nat} {L : Lay} {ops : Array Oper} {o : Oper} {n : Nat} {s : As} {h : H}
theorem run_partc {t : TypeId} {e : TE} (tf : TF P t e) (ha : e.agg = false) {cs : Array Value} {off : Nat} {v : Value} (hv : cs[off]? = some v) (w : World) : (part t cs off).run P w = .ok v w := by
  simp [part, run_isAgg tf, ha, hv]
theorem run_partr {t : TypeId} {e : TE} (tf : TF P t e) (ha : e.agg = true) {cs : Array Value} {off : Nat} (w : World) : (part t cs off).run P w = .ok (.agg (cs.extract off (off + e.size))) w := by
  simp [part, run_isAgg tf, ha, run_sizeT tf]
theorem vr_extract {ρ : Ren} {xs : Array Value} {ys : List Value} {i m : Nat} (h : VRL ρ xs.toList ys) : VR ρ (.agg ⟨(xs.toList.drop i).take m⟩) (.agg ((⟨ys⟩ : Array Value).extract i (i + m))) := by
  have e : (⟨ys⟩ : Array Value).extract i (i + m) = ⟨(ys.drop i).take m⟩ := by
    apply Array.ext'
    simp [List.extract]
  rw [e]
  exact .agg ((h.drop i).take m)
/-- One cell of a record. -/
theorem o_fieldc {t : TypeId} {x : Operand} {fld : Nat} {fields : Array Field} {fd : Field} {xs : Array Value} {v : Value} {e : TE} (hL : LayOk P L = true) (ho : o.op = .field t x fld) (hw : wantA ops o n s = some true) (hx : evA G n s x = some (.agg xs))
    (hu : P.underlying t = some (.struct fields)) (hf : fields[fld]? = some fd) (ht : lkT L fd.type = some e) (ha : e.agg = false) (hv : xs.toList[fd.offset]? = some v) : OPJ P G ops o (mkT n s) h [] [] (some v) [] [] :=
  OPJ.pure hw fun ρ w a _ er => by
    obtain ⟨ys, hl, h1⟩ := vr_agg.1 (er.get (by simp [ho, Op.operands]) hx)
    obtain ⟨v', hv', hvr⟩ := hl.get fd.offset hv
    have hv2 : (⟨ys⟩ : Array Value)[fd.offset]? = some v' := by simpa using hv'
    refine ⟨v', ?_, hvr⟩
    simp [execOp, ho, h1, Instr.field, run_underlying hu, hf, asAgg, run_partc (tfOf hL ht) ha hv2]
/-- A part of a tuple. -/
theorem o_extract {x : Operand} {i : Nat} {xs : Array Value} {v : Value} (ho : o.op = .extract x i) (hw : wantA ops o n s = some true) (hx : evA G n s x = some (.tuple xs)) (hv : xs.toList[i]? = some v) : OPJ P G ops o (mkT n s) h [] [] (some v) [] [] :=
  OPJ.pure hw fun ρ w a _ er => by
    obtain ⟨ys, hl, h1⟩ := vr_tuple.1 (er.get (by simp [ho, Op.operands]) hx)
    obtain ⟨v', hv', hvr⟩ := hl.get i hv
    have hv2 : (⟨ys⟩ : Array Value)[i]? = some v' := by simpa using hv'
    refine ⟨v', ?_, hvr⟩
    simp [execOp, ho, h1, Instr.extract]
    have hv3 : ys[i]? = some v' := hv'
    simp [hv3]
/-- A cell of an array. -/
theorem o_indexc {t el : TypeId} {x y : Operand} {len : Nat} {xs : Array Value} {v : Value} {e ea : TE} {kd : IntKind} {i : Int} (hL : LayOk P L = true) (ho : o.op = .index t x y) (hw : wantA ops o n s = some true) (hx : evA G n s x = some (.agg xs)) (hy : evA G n s y = some (.int kd i))
    (hta : lkT L t = some ea) (harr : ea.arr = some (len, el, 1)) (ht : lkT L el = some e) (ha : e.agg = false) (h0 : 0 ≤ i) (h1 : i < len) (hv : xs.toList[i.toNat]? = some v) : OPJ P G ops o (mkT n s) h [] [] (some v) [] [] :=
  OPJ.pure hw fun ρ w a _ er => by
    obtain ⟨ys, hl, hx1⟩ := vr_agg.1 (er.get (by simp [ho, Op.operands]) hx)
    have hy1 := vr_int.1 (er.get (by simp [ho, Op.operands]) hy)
    obtain ⟨hu, j, hj, hjs⟩ := (tfOf hL hta).arr _ _ _ harr
    obtain ⟨v', hv', hvr⟩ := hl.get i.toNat hv
    have hv2 : (⟨ys⟩ : Array Value)[i.toNat]? = some v' := by simpa using hv'
    have hsz : (sizeOf el).run P w = .ok 1 w := by simp [sizeOf, typeInfo, hj, hjs]
    refine ⟨v', ?_, hvr⟩
    simp [execOp, ho, hx1, hy1, Instr.index, run_underlying hu, asIntOf, h0, h1, hsz, run_partc (tfOf hL ht) ha hv2]
/-- Where entries are found. -/
inductive Fd (h : H) : List Nat → H → Prop
  | nil : Fd h [] []
  | cons {j : Nat} {e : Nat × AObj} {js : List Nat} {pre : H} (hj : h[j]? = some e) (r : Fd h js pre) : Fd h (j :: js) (e :: pre)
theorem Fd.at_ {h : H} : ∀ {js : List Nat} {pre : H}, Fd h js pre → js.map (h[·]?) = pre.map some
  | _, _, .nil => rfl
  | _, _, .cons hj r => by simp [hj, r.at_]
theorem Fd.same {h : H} : ∀ {js : List Nat} {pre : H}, Fd h js pre → ∀ h2 : H, (∀ j ∈ js, h2[j]? = h[j]?) → upd h2 (js.zip (pre.map (·.2))) = h2
  | _, _, .nil, h2, _ => rfl
  | _, _, .cons (j := j) (e := e) (js := js) (pre := pre) hj r, h2, hh => by
    have h1 := hh j (by simp)
    rw [hj] at h1
    have h3 : h2.modify j (fun x => (x.1, e.2)) = h2 := by
      refine List.ext_getElem? fun i => ?_
      rw [List.getElem?_modify]
      by_cases hi : j = i
      · subst hi; simp [h1]
      · simp [hi]
    show upd (h2.modify j fun x => (x.1, e.2)) (js.zip (pre.map (·.2))) = h2
    rw [h3]
    exact r.same h2 fun i hi => hh i (by simp [hi])
theorem zip_fst {α β : Type} {a : α} {b : β} : ∀ {l : List α} {m : List β}, (a, b) ∈ l.zip m → a ∈ l
  | x :: l, y :: m, h => by
    rw [List.zip_cons_cons, List.mem_cons] at h
    rcases h with h | h
    · cases h; simp
    · exact List.mem_cons_of_mem _ (zip_fst h)
/-- A call that changes nothing of what it is given. -/
theorem o_callR {f : FuncId} {as : Array Operand} {ts : Array TypeId} {args : List Value} {pre : H} {v : Value} {post : List AObj} {js : List Nat}
    (ho : o.op = .call { callee := .value (.func f), args := as, argTypes := ts }) (hw : wantA ops o n s = some true) (ha : evL G n s as.toList = some args) (sp : Ctr P G f args pre v post) (hp : post = pre.map (·.2)) (fd : Fd h js pre) (nd : js.Nodup) : OPJ P G ops o (mkT n s) h js [] (some v) pre post := by
  subst hp
  exact o_call ho hw ha sp ⟨nd, fd.at_⟩ (fun h2 hh => fd.same h2 hh) (fun _ h => by cases h)
theorem o_callRF {x : Operand} {f : FuncId} {as : Array Operand} {ts : Array TypeId} {args caps : List Value} {pre : H} {v : Value} {post : List AObj} {js : List Nat}
    (ho : o.op = .call { callee := .value x, args := as, argTypes := ts }) (hw : wantA ops o n s = some true) (hx : evA G n s x = some (.func (.func f) ⟨[]⟩ ⟨caps⟩)) (ha : evL G n s as.toList = some args) (sp : Ctr P G f (args ++ caps) pre v post) (hp : post = pre.map (·.2)) (fd : Fd h js pre) (nd : js.Nodup) : OPJ P G ops o (mkT n s) h js [] (some v) pre post := by
  subst hp
  exact o_callF ho hw hx ha sp ⟨nd, fd.at_⟩ (fun h2 hh => fd.same h2 hh) (fun _ h => by cases h)
/-- A call that may write all that it is given. -/
theorem o_callW {f : FuncId} {as : Array Operand} {ts : Array TypeId} {args : List Value} {pre : H} {v : Value} {post : List AObj} {js : List Nat} {us : List (Nat × AObj)}
    (ho : o.op = .call { callee := .value (.func f), args := as, argTypes := ts }) (hw : wantA ops o n s = some true) (ha : evL G n s as.toList = some args) (sp : Ctr P G f args pre v post) (fd : Fd h js pre) (nd : js.Nodup) (hu : us = js.zip post) : OPJ P G ops o (mkT n s) h js us (some v) pre post := by
  subst hu
  exact o_call ho hw ha sp ⟨nd, fd.at_⟩ (fun _ _ => rfl) (fun u hu => zip_fst (a := u.1) (b := u.2) hu)
theorem run_bool_eq {t : TypeId} (hu : P.underlying t = some .bool) (x y : Bool) (w : World) : (Op.equal t (.bool x) (.bool y)).run P w = .ok (x == y) w := by
  show (Op.equalIn (9999 + 1) t (.bool x) (.bool y)).run P w = .ok (x == y) w
  rw [Op.equalIn]
  simp [run_underlying hu]
/-- Two truth values. -/
theorem o_beq {t u : TypeId} {x y : Operand} {p q : Bool} (ho : o.op = .binOp .eql t x y u) (hw : wantA ops o n s = some true) (hp : P.underlying t = some .bool) (hx : evA G n s x = some (.bool p)) (hy : evA G n s y = some (.bool q)) :
    OPJ P G ops o (mkT n s) h [] [] (some (.bool (p == q))) [] [] :=
  OPJ.pure hw fun ρ w a _ er => by
    have h1 := vr_bool.1 (er.get (by simp [ho, Op.operands]) hx)
    have h2 := vr_bool.1 (er.get (by simp [ho, Op.operands]) hy)
    exact ⟨.bool (p == q), by simp [execOp, ho, h1, h2, eqGuard, binOp, run_bool_eq hp], by simp⟩
theorem o_bne {t u : TypeId} {x y : Operand} {p q : Bool} (ho : o.op = .binOp .neq t x y u) (hw : wantA ops o n s = some true) (hp : P.underlying t = some .bool) (hx : evA G n s x = some (.bool p)) (hy : evA G n s y = some (.bool q)) :
    OPJ P G ops o (mkT n s) h [] [] (some (.bool (!(p == q)))) [] [] :=
  OPJ.pure hw fun ρ w a _ er => by
    have h1 := vr_bool.1 (er.get (by simp [ho, Op.operands]) hx)
    have h2 := vr_bool.1 (er.get (by simp [ho, Op.operands]) hy)
    exact ⟨.bool (!(p == q)), by simp [execOp, ho, h1, h2, eqGuard, binOp, run_bool_eq hp], by simp⟩
end
end Go.Proofs.YtekcchmnncefhaaGreatDoorAB
/-! Loops of few rounds, unrolled; a state told anew between two parts of a code. -/
namespace Go.Proofs.YtekcchmnncefhaaGreatDoorAB
open Go
set_option linter.unusedVariables false
section
variable {P : Program} {G : Nat} {Q : Exit → T → H → Prop} {t : T} {h : H}
theorem thn_mono {K K' : T → H → Prop} (k : ∀ t h, K t h → K' t h) {e : Exit} (q : thn K Q e t h) : thn K' Q e t h := by
  unfold thn at q ⊢
  cases e with
  | normal => exact k _ _ q
  | _ => exact q
/-- So many rounds at most are left. -/
def loopW (P : Program) (G : Nat) (c : Code) (Q : Exit → T → H → Prop) : Nat → T → H → Prop
  | 0, _, _ => False
  | m + 1, t, h => WP P G c t h (thn (fun t' h' => loopW P G c Q m t' h') Q)
theorem loopW_s {c : Code} {m : Nat} (k : WP P G c t h (thn (fun t' h' => loopW P G c Q m t' h') Q)) : loopW P G c Q (m + 1) t h := k
theorem WP.unroll {c : Code} (n : Nat) (k : loopW P G c Q n t h) : WP P G (.loop c) t h Q :=
  WP.loop (fun m t h => loopW P G c Q m t h) k fun m t h hI => by
    cases m with
    | zero => exact hI.elim
    | succ m => exact WP.mono (fun e t h q => thn_mono (fun t h x => ⟨m, Nat.lt_succ_self m, x⟩) q) hI
end
attribute [irreducible] loopW
end Go.Proofs.YtekcchmnncefhaaGreatDoorAB
/-! More operations: arrays behind pointers, slices of arrays; the top of a law that reads globals. -/
namespace Go.Proofs.YtekcchmnncefhaaGreatDoorAB
open Go
set_option linter.unusedVariables false
set_option linter.unusedSimpArgs false
section
variable {P : Program} {G : Nat} {L : Lay} {ops : Array Oper} {o : Oper} {n : Nat} {s : As} {h : H}
/-- An element's place in an array. -/
theorem o_idxP {t el : TypeId} {x y : Operand} {k f len sz : Nat} {kd : IntKind} {i : Int} {e : TE} (hL : LayOk P L = true) (ho : o.op = .indexAddr t x y) (hw : wantA ops o n s = some true) (hx : evA G n s x = some (.pointer (some ⟨k, f, none⟩))) (hy : evA G n s y = some (.int kd i))
    (ht : lkT L t = some e) (hs : e.arr = some (len, el, sz)) (h0 : 0 ≤ i) (h1 : i < len) : OPJ P G ops o (mkT n s) h [] [] (some (.pointer (some ⟨k, f + i.toNat * sz, none⟩))) [] [] :=
  OPJ.pure hw fun ρ w a _ er => by
    obtain ⟨hu, j, hj, hjs⟩ := (tfOf hL ht).arr len el sz hs
    obtain ⟨b, hb, hv⟩ := vr_ptr.1 (er.get (by simp [ho, Op.operands]) hx)
    have h2 := vr_int.1 (er.get (by simp [ho, Op.operands]) hy)
    refine ⟨.pointer (some ⟨b, f + i.toNat * sz, none⟩), ?_, .ptr _ _ hb⟩
    simp [execOp, ho, hv, h2, Instr.indexAt, Instr.sureAddr, asIntOf, run_underlying hu, h0, h1, sizeOf, typeInfo, hj, hjs, add_none]
/-- The same, where the number is a literal or known to be its place. -/
theorem o_idxPN {t el : TypeId} {x y : Operand} {k f len sz m : Nat} {kd : IntKind} {i : Int} {e : TE} (hL : LayOk P L = true) (ho : o.op = .indexAddr t x y) (hw : wantA ops o n s = some true) (hx : evA G n s x = some (.pointer (some ⟨k, f, none⟩))) (hy : evA G n s y = some (.int kd i))
    (ht : lkT L t = some e) (hs : e.arr = some (len, el, sz)) (hi : i = (m : Int)) (h1 : m < len) : OPJ P G ops o (mkT n s) h [] [] (some (.pointer (some ⟨k, f + m * sz, none⟩))) [] [] := by
  subst hi
  exact o_idxP hL ho hw hx hy ht hs (by omega) (by omega)
end
/-- The top of a law: blocks that may be written stand as they stood. -/
theorem Ctr.topR {P : Program} {G : Nat} {f : FuncId} {args : List Value} {cargs : Array Value} {b : Bool} {pre : H} {post : List AObj} {w : World} {ρ : Ren} (sim : Sim G ρ pre w) (c : Ctr P G f args pre (.bool b) post) (hp : post = pre.map (·.2))
    (hw : ∀ e ∈ pre, e.2.wr = true → ∃ x ty, e.2 = .cells [.string x] ty) (hv : VRL ρ args cargs.toList) : Calls P f cargs w fun e w' => e = .returned (.bool b) ∧ RowKit.Below w.heap.size w w' := by
  refine (c.run [] ρ w cargs sim hv (fun k hk => (by cases hk))).mono ?_
  rintro e w' ⟨v', ρ', rfl, hvr, sim', st, _⟩
  rw [vr_bool.1 hvr]
  refine ⟨rfl, st.os, st.tape, st.output, st.size, fun k hk => ?_⟩
  by_cases hx : ∃ e ∈ pre, e.2.wr = true ∧ ρ e.1 = some k
  · obtain ⟨e, he, hwr, hek⟩ := hx
    obtain ⟨x, ty, ho⟩ := hw e he hwr
    have he' : e ∈ wth pre post := by
      rw [hp]
      obtain ⟨i, hi, rfl⟩ := List.getElem_of_mem he
      have hl : (pre.map (·.2)).length = pre.length := by simp
      obtain ⟨o', ho', hw'⟩ := wth_get hl (List.getElem?_eq_getElem hi)
      rw [List.getElem?_map, List.getElem?_eq_getElem hi] at ho'
      cases ho'
      exact List.mem_of_getElem? hw'
    obtain ⟨b0, o0, h1, h2, h3⟩ := (sim.ent e he).2 (AObj.live_of_wr hwr)
    obtain ⟨b1, o1, g1, g2, g3⟩ := (sim'.ent e he').2 (AObj.live_of_wr hwr)
    have := st.ext.b _ _ hek
    rw [this] at g1
    rw [hek] at h1
    cases g1; cases h1
    rw [ho] at h3 g3
    obtain ⟨cs, hc, rfl⟩ := h3
    obtain ⟨ds, hd, rfl⟩ := g3
    have e1 : cs = [.string x] := by simpa using hc
    have e2 : ds = [.string x] := by simpa using hd
    rw [g2, h2, e1, e2]
  · exact st.keep k hk fun e he hwr hek => hx ⟨e, he, hwr, hek⟩
/-- What the top's memory says of the world. -/
theorem sim_top {G : Nat} {pre : H} {w : World} {ρ : Ren} (hdom : ∀ i b, ρ i = some b → b < w.heap.size) (ent : ∀ e ∈ pre, ER ρ w e) (nog : ∀ e ∈ pre, e.2 ≠ .gone)
    (wrs : ∀ (i j : Nat) (e e' : Nat × AObj), i ≠ j → pre[i]? = some e → pre[j]? = some e' → e.2.wr = true ∨ e'.2.wr = true → ρ e.1 ≠ ρ e'.1) (glob : ∀ g, g < G → ρ g = some g) (fin : ∃ N, ∀ i, N ≤ i → ρ i = none) : Sim G ρ pre w :=
  ⟨hdom, ent, fun i j e e' hij hi hj _ _ => ⟨wrs i j e e' hij hi hj, fun h => by
    rcases h with h | h
    · exact absurd h (nog e (List.mem_of_getElem? hi))
    · exact absurd h (nog e' (List.mem_of_getElem? hj))⟩, glob, fin⟩
end Go.Proofs.YtekcchmnncefhaaGreatDoorAB
/-! The operations' laws, keyed by the operation itself: a law that does not fit is told at once. -/
namespace Go.Proofs.YtekcchmnncefhaaGreatDoorAB
open Go
set_option linter.unusedVariables false
set_option linter.unusedSimpArgs false
section
variable {P : Program} {G : Nat} {L : Lay} {ops : Array Oper} {draw : Bool} {n pc : Nat} {s : As} {h : H} {acc : List (List Nat × List Nat)} {KK : As → H → Prop} {o : Oper}
/-- One operation, at its turn, and carried out. -/
def RKq (P : Program) (G : Nat) (ops : Array Oper) (draw : Bool) (n pc : Nat) (s : As) (h : H) (acc : List (List Nat × List Nat)) (KK : As → H → Prop) (o : Oper) (d : Option Tmp) (op : Op) : Prop :=
  o.dst = d → o.op = op → wantA ops o n s = some true → ops[pc]? = some o → RK P G ops draw n pc s h acc KK
theorem gQ0 {d : Option Tmp} {op : Op} {ty : TypeId} {ps : String} {af : Array Edge} (k : RKq P G ops draw n pc s h acc KK ⟨d, op, ty, ps, af, none⟩ d op) : RKo P G ops draw n pc s h acc KK ⟨d, op, ty, ps, af, none⟩ :=
  by unfold RKo; exact fun ho => k rfl rfl (wn rfl) ho
theorem gQ1 {d : Option Tmp} {op : Op} {ty : TypeId} {ps : String} {af : Array Edge} {g : Nat × Bool} (hw : wantA ops ⟨d, op, ty, ps, af, some g⟩ n s = some true) (k : RKq P G ops draw n pc s h acc KK ⟨d, op, ty, ps, af, some g⟩ d op) : RKo P G ops draw n pc s h acc KK ⟨d, op, ty, ps, af, some g⟩ :=
  by unfold RKo; exact fun ho => k rfl rfl hw ho
theorem gQv {d : Nat} {op : Op} {ty : TypeId} {ps : String} {af : Array Edge} {g : Nat × Bool} (hw : wantA ops ⟨some d, op, ty, ps, af, some g⟩ n s = some false) (k : RK P G ops draw n (pc + 1) ((d, some (.tuple #[])) :: s) h (acc ++ [([], [])]) KK) : RKo P G ops draw n pc s h acc KK ⟨some d, op, ty, ps, af, some g⟩ :=
  by unfold RKo; exact fun ho => RK.val ho rfl (OPJ.off hw) rfl k
theorem gQe {op : Op} {ty : TypeId} {ps : String} {af : Array Edge} {g : Nat × Bool} (hw : wantA ops ⟨none, op, ty, ps, af, some g⟩ n s = some false) (k : RK P G ops draw n (pc + 1) s h (acc ++ [([], [])]) KK) : RKo P G ops draw n pc s h acc KK ⟨none, op, ty, ps, af, some g⟩ :=
  by unfold RKo; exact fun ho => RK.eff ho rfl (OPJ.off hw) rfl k
theorem gsD {j d : Nat} {want : Bool} {p : Prop} {inst : Decidable p} (hg : o.guard = some (j, want)) (hd : (ops[j]?).bind (·.dst) = some d) (hb : look s d = some (.bool (@decide p inst))) (hn : Nat.ble n 1000 = true)
    (k1 : p → RKo P G ops draw n pc ((1000 + d, some .nilFunc) :: (d, some (.bool true)) :: s) h acc KK o) (k2 : ¬p → RKo P G ops draw n pc ((1000 + d, some .nilFunc) :: (d, some (.bool false)) :: s) h acc KK o) : RKo P G ops draw n pc s h acc KK o := RKo.gsplitD hg hd hb hn k1 k2
theorem cdD {c : Operand} {x y : Code} {p : Prop} {inst : Decidable p} {Q : Exit → T → H → Prop} (hc : evA G n s c = some (.bool (@decide p inst))) (k1 : p → WP P G x (mkT n s) h Q) (k2 : ¬p → WP P G y (mkT n s) h Q) : WP P G (.cond c x y) (mkT n s) h Q := WP.condD hc k1 k2
theorem isF {f : FuncId} {as : Array Operand} {ts : Array TypeId} {dd : Nat} (k : RKq P G ops draw n pc s h acc KK o (some dd) (.call { callee := .value (.func f), args := as, argTypes := ts })) : RKq P G ops draw n pc s h acc KK o (some dd) (.call { callee := .value (.func f), args := as, argTypes := ts }) := k
theorem RK.peelN {d : Option Tmp} {op : Op} {ty : TypeId} {ps : String} {af : Array Edge} {g : Option (Nat × Bool)} (ho : ops[pc]? = some ⟨d, op, ty, ps, af, g⟩) (k : RKo P G ops draw n pc s h acc KK ⟨d, op, ty, ps, af, g⟩) : RK P G ops draw n pc s h acc KK := RK.peel ho k
theorem q_move {x : Operand} {v : Value} (hx : evA G n s x = some v) {dd : Nat} (kk : RK P G ops draw n (pc + 1) ((dd, (some v)) :: s) h (acc ++ [([], [])]) KK) : RKq P G ops draw n pc s h acc KK o (some dd) (.move x) :=
  fun hd_ ho hw hi_ => RK.val hi_ hd_ (o_move ho hw hx) rfl kk
theorem q_assign {x : Operand} {v : Value} (hx : evA G n s x = some v) {dd : Nat} (kk : RK P G ops draw n (pc + 1) ((dd, (some v)) :: s) h (acc ++ [([], [])]) KK) : RKq P G ops draw n pc s h acc KK o (some dd) (.assign x) :=
  fun hd_ ho hw hi_ => RK.val hi_ hd_ (o_assign ho hw hx) rfl kk
theorem q_pick_t {c x y : Operand} {v : Value} (hc : evA G n s c = some (.bool true)) (hx : evA G n s x = some v) {dd : Nat} (kk : RK P G ops draw n (pc + 1) ((dd, (some v)) :: s) h (acc ++ [([], [])]) KK) : RKq P G ops draw n pc s h acc KK o (some dd) (.pick c x y) :=
  fun hd_ ho hw hi_ => RK.val hi_ hd_ (o_pick_t ho hw hc hx) rfl kk
theorem q_pick_f {c x y : Operand} {v : Value} (hc : evA G n s c = some (.bool false)) (hx : evA G n s y = some v) {dd : Nat} (kk : RK P G ops draw n (pc + 1) ((dd, (some v)) :: s) h (acc ++ [([], [])]) KK) : RKq P G ops draw n pc s h acc KK o (some dd) (.pick c x y) :=
  fun hd_ ho hw hi_ => RK.val hi_ hd_ (o_pick_f ho hw hc hx) rfl kk
theorem q_int {op : BinOp} {xt yt : TypeId} {x y : Operand} {k : IntKind} {p q : Int} {v : Value} (hx : evA G n s x = some (.int k p)) (hy : evA G n s y = some (.int k q)) (hv : intOp op k p q = some v) {dd : Nat} (kk : RK P G ops draw n (pc + 1) ((dd, (some v)) :: s) h (acc ++ [([], [])]) KK) : RKq P G ops draw n pc s h acc KK o (some dd) (.binOp op xt x y yt) :=
  fun hd_ ho hw hi_ => RK.val hi_ hd_ (o_int ho hw hx hy hv) rfl kk
theorem q_quo {xt yt : TypeId} {x y : Operand} {k : IntKind} {p q : Int} (hx : evA G n s x = some (.int k p)) (hy : evA G n s y = some (.int k q)) (hq : q ≠ 0) {dd : Nat} (kk : RK P G ops draw n (pc + 1) ((dd, (some (.int k (k.wrap (p.tdiv q))))) :: s) h (acc ++ [([], [])]) KK) : RKq P G ops draw n pc s h acc KK o (some dd) (.binOp .quo xt x y yt) :=
  fun hd_ ho hw hi_ => RK.val hi_ hd_ (o_quo ho hw hx hy hq) rfl kk
theorem q_rem {xt yt : TypeId} {x y : Operand} {k : IntKind} {p q : Int} (hx : evA G n s x = some (.int k p)) (hy : evA G n s y = some (.int k q)) (hq : q ≠ 0) {dd : Nat} (kk : RK P G ops draw n (pc + 1) ((dd, (some (.int k (p.tmod q)))) :: s) h (acc ++ [([], [])]) KK) : RKq P G ops draw n pc s h acc KK o (some dd) (.binOp .rem xt x y yt) :=
  fun hd_ ho hw hi_ => RK.val hi_ hd_ (o_rem ho hw hx hy hq) rfl kk
theorem q_shl {xt yt : TypeId} {x y : Operand} {k l : IntKind} {p q : Int} (hx : evA G n s x = some (.int k p)) (hy : evA G n s y = some (.int l q)) (hq : 0 ≤ q) {dd : Nat} (kk : RK P G ops draw n (pc + 1) ((dd, (some (.int k (k.wrap (p * 2 ^ min q.toNat k.bits))))) :: s) h (acc ++ [([], [])]) KK) : RKq P G ops draw n pc s h acc KK o (some dd) (.binOp .shl xt x y yt) :=
  fun hd_ ho hw hi_ => RK.val hi_ hd_ (o_shl ho hw hx hy hq) rfl kk
theorem q_shr {xt yt : TypeId} {x y : Operand} {k l : IntKind} {p q : Int} (hx : evA G n s x = some (.int k p)) (hy : evA G n s y = some (.int l q)) (hq : 0 ≤ q) {dd : Nat} (kk : RK P G ops draw n (pc + 1) ((dd, (some (.int k (p.fdiv (2 ^ min q.toNat k.bits))))) :: s) h (acc ++ [([], [])]) KK) : RKq P G ops draw n pc s h acc KK o (some dd) (.binOp .shr xt x y yt) :=
  fun hd_ ho hw hi_ => RK.val hi_ hd_ (o_shr ho hw hx hy hq) rfl kk
theorem q_neg {xt : TypeId} {x : Operand} {k : IntKind} {p : Int} (hx : evA G n s x = some (.int k p)) {dd : Nat} (kk : RK P G ops draw n (pc + 1) ((dd, (some (.int k (k.wrap (0 - p))))) :: s) h (acc ++ [([], [])]) KK) : RKq P G ops draw n pc s h acc KK o (some dd) (.unOp .neg xt x) :=
  fun hd_ ho hw hi_ => RK.val hi_ hd_ (o_neg ho hw hx) rfl kk
theorem q_not {xt : TypeId} {x : Operand} {b : Bool} (hx : evA G n s x = some (.bool b)) {dd : Nat} (kk : RK P G ops draw n (pc + 1) ((dd, (some (.bool (!b)))) :: s) h (acc ++ [([], [])]) KK) : RKq P G ops draw n pc s h acc KK o (some dd) (.unOp .not xt x) :=
  fun hd_ ho hw hi_ => RK.val hi_ hd_ (o_not ho hw hx) rfl kk
theorem q_nilCheck {x : Operand} {i f : Nat} {sp : Option Nat} (hx : evA G n s x = some (.pointer (some ⟨i, f, sp⟩))) {dd : Nat} (kk : RK P G ops draw n (pc + 1) ((dd, (some (.pointer (some ⟨i, f, sp⟩)))) :: s) h (acc ++ [([], [])]) KK) : RKq P G ops draw n pc s h acc KK o (some dd) (.nilCheck x) :=
  fun hd_ ho hw hi_ => RK.val hi_ hd_ (o_nilCheck ho hw hx) rfl kk
theorem q_fa {st : TypeId} {x : Operand} {fld k f off sz : Nat} {e : TE} (hL : LayOk P L = true) (hx : evA G n s x = some (.pointer (some ⟨k, f, none⟩))) (ht : lkT L st = some e) (ha : e.agg = true) (hn : e.arr = none) (hf : e.fs[fld]? = some (off, sz + 1)) {dd : Nat} (kk : RK P G ops draw n (pc + 1) ((dd, (some (.pointer (some ⟨k, f + off, none⟩)))) :: s) h (acc ++ [([], [])]) KK) : RKq P G ops draw n pc s h acc KK o (some dd) (.fieldAddr st x fld) :=
  fun hd_ ho hw hi_ => RK.val hi_ hd_ (fa_val hL ho hw hx ht ha hn hf) rfl kk
theorem q_load {ty : TypeId} {x : Operand} {k f j : Nat} {ob : AObj} {v : Value} {e : TE} (hL : LayOk P L = true) (hx : evA G n s x = some (.pointer (some ⟨k, f, none⟩))) (ht : lkT L ty = some e) (ha : e.agg = false) (hl : h[j]? = some (k, ob)) (hv : ob.at f = some v) {dd : Nat} (kk : RK P G ops draw n (pc + 1) ((dd, (some v)) :: s) h (acc ++ [([j], [])]) KK) : RKq P G ops draw n pc s h acc KK o (some dd) (.load ty x) :=
  fun hd_ ho hw hi_ => RK.val hi_ hd_ (o_load hL ho hw hx ht ha hl hv) rfl kk
theorem q_loadr {ty : TypeId} {x : Operand} {k f j : Nat} {ob : AObj} {vs : List Value} {e : TE} (hL : LayOk P L = true) (hx : evA G n s x = some (.pointer (some ⟨k, f, none⟩))) (ht : lkT L ty = some e) (ha : e.agg = true) (hl : h[j]? = some (k, ob)) (hv : ob.seg f e.size = some vs) {dd : Nat} (kk : RK P G ops draw n (pc + 1) ((dd, (some (.agg ⟨vs⟩))) :: s) h (acc ++ [([j], [])]) KK) : RKq P G ops draw n pc s h acc KK o (some dd) (.load ty x) :=
  fun hd_ ho hw hi_ => RK.val hi_ hd_ (o_loadr hL ho hw hx ht ha hl hv) rfl kk
theorem e_store {ty : TypeId} {x y : Operand} {k f j : Nat} {ob ob' : AObj} {v : Value} {e : TE} (hL : LayOk P L = true) (hx : evA G n s x = some (.pointer (some ⟨k, f, none⟩))) (hy : evA G n s y = some v) (ht : lkT L ty = some e) (hl : h[j]? = some (k, ob)) (hz : Nat.beq (vcells v).length e.size = true) (h1 : (vcells v).all (·.oneCell') = true) (hne : Nat.ble 1 e.size = true) (hv : ob.put f (vcells v) = some ob') {hx' : H} (hux : updO h [(j, ob')] = some hx') (kk : RK P G ops draw n (pc + 1) s hx' (acc ++ [([j], ([(j, ob')] : List (Nat × AObj)).map (·.1))]) KK) : RKq P G ops draw n pc s h acc KK o none (.store ty x y) :=
  fun hd_ ho hw hi_ => RK.eff hi_ hd_ (o_store hL ho hw hx hy ht hl hz h1 hne hv) hux kk
theorem q_box {ty : TypeId} {x : Operand} {j k : Nat} {v : Value} (hx : evA G n s x = some v) (hl : h[j]? = some (k, .gone)) {dd : Nat} {hx' : H} (hux : updO h [(j, .cells (vcells v) ty)] = some hx') (kk : RK P G ops draw n (pc + 1) ((dd, (some (.pointer (some ⟨k, 0, none⟩)))) :: s) hx' (acc ++ [([j], ([(j, .cells (vcells v) ty)] : List (Nat × AObj)).map (·.1))]) KK) : RKq P G ops draw n pc s h acc KK o (some dd) (.box ty x) :=
  fun hd_ ho hw hi_ => RK.val hi_ hd_ (o_box ho hw hx hl) hux kk
theorem q_alloc {ty : TypeId} {j k : Nat} {e : TE} (hL : LayOk P L = true) (ht : lkT L ty = some e) (hl : h[j]? = some (k, .gone)) {dd : Nat} {hx' : H} (hux : updO h [(j, .cells e.zero ty)] = some hx') (kk : RK P G ops draw n (pc + 1) ((dd, (some (.pointer (some ⟨k, 0, none⟩)))) :: s) hx' (acc ++ [([j], ([(j, .cells e.zero ty)] : List (Nat × AObj)).map (·.1))]) KK) : RKq P G ops draw n pc s h acc KK o (some dd) (.alloc ty) :=
  fun hd_ ho hw hi_ => RK.val hi_ hd_ (o_alloc hL ho hw ht hl) hux kk
theorem q_build {ty : TypeId} {parts : Array (Nat × Operand)} {ps : List (Nat × Value)} {r : List Value} {e : TE} (hL : LayOk P L = true) (hp : evP G n s parts.toList = some ps) (ht : lkT L ty = some e) (ha : e.agg = true) (hr : fillO e.pl e.zero ps = some r) {dd : Nat} (kk : RK P G ops draw n (pc + 1) ((dd, (some (.agg ⟨r⟩))) :: s) h (acc ++ [([], [])]) KK) : RKq P G ops draw n pc s h acc KK o (some dd) (.build ty parts) :=
  fun hd_ ho hw hi_ => RK.val hi_ hd_ (o_build hL ho hw hp ht ha hr) rfl kk
theorem q_call0 {f : FuncId} {as : Array Operand} {ts : Array TypeId} {args : List Value} {v : Value} (ha : evL G n s as.toList = some args) (sp : Ctr P G f args [] v []) {dd : Nat} (kk : RK P G ops draw n (pc + 1) ((dd, (some v)) :: s) h (acc ++ [([], [])]) KK) : RKq P G ops draw n pc s h acc KK o (some dd) (.call { callee := .value (.func f), args := as, argTypes := ts }) :=
  fun hd_ ho hw hi_ => RK.val hi_ hd_ (o_call0 ho hw ha sp) rfl kk
theorem q_call1 {f : FuncId} {as : Array Operand} {ts : Array TypeId} {args : List Value} {v : Value} {k j : Nat} {ob ob' : AObj} (ha : evL G n s as.toList = some args) (sp : Ctr P G f args [(k, ob)] v [ob']) (hl : h[j]? = some (k, ob)) {dd : Nat} {hx' : H} (hux : updO h [(j, ob')] = some hx') (kk : RK P G ops draw n (pc + 1) ((dd, (some v)) :: s) hx' (acc ++ [([j], ([(j, ob')] : List (Nat × AObj)).map (·.1))]) KK) : RKq P G ops draw n pc s h acc KK o (some dd) (.call { callee := .value (.func f), args := as, argTypes := ts }) :=
  fun hd_ ho hw hi_ => RK.val hi_ hd_ (o_call1 ho hw ha sp hl) hux kk
theorem q_call1r {f : FuncId} {as : Array Operand} {ts : Array TypeId} {args : List Value} {v : Value} {k j : Nat} {ob : AObj} (ha : evL G n s as.toList = some args) (sp : Ctr P G f args [(k, ob)] v [ob]) (hl : h[j]? = some (k, ob)) {dd : Nat} (kk : RK P G ops draw n (pc + 1) ((dd, (some v)) :: s) h (acc ++ [([j], [])]) KK) : RKq P G ops draw n pc s h acc KK o (some dd) (.call { callee := .value (.func f), args := as, argTypes := ts }) :=
  fun hd_ ho hw hi_ => RK.val hi_ hd_ (o_call1r ho hw ha sp hl) rfl kk
theorem q_eqnil {t u : TypeId} {x y : Operand} {k f : Nat} {sp : Option Nat} (hp : isPtr P t = true) (hx : evA G n s x = some (.pointer (some ⟨k, f, sp⟩))) (hy : evA G n s y = some (.pointer none)) {dd : Nat} (kk : RK P G ops draw n (pc + 1) ((dd, (some (.bool false))) :: s) h (acc ++ [([], [])]) KK) : RKq P G ops draw n pc s h acc KK o (some dd) (.binOp .eql t x y u) :=
  fun hd_ ho hw hi_ => RK.val hi_ hd_ (o_eqnil ho hw hp hx hy) rfl kk
theorem q_nenil {t u : TypeId} {x y : Operand} {k f : Nat} {sp : Option Nat} (hp : isPtr P t = true) (hx : evA G n s x = some (.pointer (some ⟨k, f, sp⟩))) (hy : evA G n s y = some (.pointer none)) {dd : Nat} (kk : RK P G ops draw n (pc + 1) ((dd, (some (.bool true))) :: s) h (acc ++ [([], [])]) KK) : RKq P G ops draw n pc s h acc KK o (some dd) (.binOp .neq t x y u) :=
  fun hd_ ho hw hi_ => RK.val hi_ hd_ (o_nenil ho hw hp hx hy) rfl kk
theorem q_min {as : Array Operand} {ts : Array TypeId} {k : IntKind} {p q : Int} (ha : evL G n s as.toList = some [.int k p, .int k q]) {dd : Nat} (kk : RK P G ops draw n (pc + 1) ((dd, (some (.int k (mn p q)))) :: s) h (acc ++ [([], [])]) KK) : RKq P G ops draw n pc s h acc KK o (some dd) (.call { callee := .builtin .min, args := as, argTypes := ts }) :=
  fun hd_ ho hw hi_ => RK.val hi_ hd_ (o_min ho hw ha) rfl kk
theorem q_max {as : Array Operand} {ts : Array TypeId} {k : IntKind} {p q : Int} (ha : evL G n s as.toList = some [.int k p, .int k q]) {dd : Nat} (kk : RK P G ops draw n (pc + 1) ((dd, (some (.int k (mx p q)))) :: s) h (acc ++ [([], [])]) KK) : RKq P G ops draw n pc s h acc KK o (some dd) (.call { callee := .builtin .max, args := as, argTypes := ts }) :=
  fun hd_ ho hw hi_ => RK.val hi_ hd_ (o_max ho hw ha) rfl kk
theorem q_len {as : Array Operand} {t : TypeId} {x : Operand} {a : Option Addr} {l c : Nat} {e : TE} {q : TypeId × Nat} (hL : LayOk P L = true) (has : as = #[x]) (hx : evA G n s x = some (.slice a l c)) (ht : lkT L t = some e) (hs : e.sl = some q) {dd : Nat} (kk : RK P G ops draw n (pc + 1) ((dd, (some (.int .i64 l))) :: s) h (acc ++ [([], [])]) KK) : RKq P G ops draw n pc s h acc KK o (some dd) (.call { callee := .builtin .len, args := as, argTypes := #[t] }) :=
  fun hd_ ho hw hi_ => RK.val hi_ hd_ (o_len hL ho hw has hx ht hs) rfl kk
theorem q_conv {t u : TypeId} {x : Operand} {k d : IntKind} {i : Int} {ds : TypeDesc} (hx : evA G n s x = some (.int k i)) (hs : P.underlying t = some ds) (hd : P.underlying u = some (.int d)) {dd : Nat} (kk : RK P G ops draw n (pc + 1) ((dd, (some (.int d (d.wrap i)))) :: s) h (acc ++ [([], [])]) KK) : RKq P G ops draw n pc s h acc KK o (some dd) (.convert t u x) :=
  fun hd_ ho hw hi_ => RK.val hi_ hd_ (o_conv ho hw hx hs hd) rfl kk
theorem q_buildS {t el : TypeId} {m sz j k : Nat} {parts : Array (Nat × Operand)} {ps : List (Nat × Value)} {r : List Value} {e ee : TE} (hL : LayOk P L = true) (hp : evP G n s parts.toList = some ps) (ht : lkT L t = some e) (hs : e.sl = some (el, sz)) (hel : lkT L el = some ee) (hsz : ee.size = sz) (hm : Nat.ble (m * sz) 16777216 = true) (hz : Nat.ble 1 (m * sz) = true) (hr : fillO (fun i => some (i * sz, sz)) (rowZ ee.zero m) ps = some r) (hl : h[j]? = some (k, .gone)) {dd : Nat} {hx' : H} (hux : updO h [(j, .cells r el)] = some hx') (kk : RK P G ops draw n (pc + 1) ((dd, (some (.slice (some ⟨k, 0, none⟩) m m))) :: s) hx' (acc ++ [([j], ([(j, .cells r el)] : List (Nat × AObj)).map (·.1))]) KK) : RKq P G ops draw n pc s h acc KK o (some dd) (.buildSlice t m parts) :=
  fun hd_ ho hw hi_ => RK.val hi_ hd_ (o_buildS hL ho hw hp ht hs hel hsz hm hz hr hl) hux kk
theorem q_app0 {as : Array Operand} {t el : TypeId} {x y : Operand} {kx jx jn kn m c sz : Nat} {ox : AObj} {vs : List Value} {e ee : TE} (hL : LayOk P L = true) (has : as = #[x, y]) (hx : evA G n s x = some (.slice none 0 0)) (hy : evA G n s y = some (.slice (some ⟨kx, 0, none⟩) m c)) (ht : lkT L t = some e) (hs : e.sl = some (el, sz)) (hel : lkT L el = some ee) (hsz : ee.size = sz) (hm : Nat.ble 1 m = true) (hb : Nat.ble (m * ee.bytes) 1099511627776 = true) (hbb : Nat.ble m 1099511627776 = true) (hlx : h[jx]? = some (kx, ox)) (hln : h[jn]? = some (kn, .gone)) (hv : ox.seg 0 (m * sz) = some vs) {dd : Nat} {hx' : H} (hux : updO h [(jn, .row vs el sz)] = some hx') (kk : RK P G ops draw n (pc + 1) ((dd, (some (.slice (some ⟨kn, 0, none⟩) m grown))) :: s) hx' (acc ++ [([jx, jn], ([(jn, .row vs el sz)] : List (Nat × AObj)).map (·.1))]) KK) : RKq P G ops draw n pc s h acc KK o (some dd) (.call { callee := .builtin .append, args := as, argTypes := #[t, t] }) :=
  fun hd_ ho hw hi_ => RK.val hi_ hd_ (o_app0 hL ho hw has hx hy ht hs hel hsz hm hb hbb hlx hln hv) hux kk
theorem q_app1 {as : Array Operand} {t el : TypeId} {x y : Operand} {kx ks jx js jn kn l m c sz : Nat} {ox : AObj} {cs vs : List Value} {e ee : TE} (hL : LayOk P L = true) (has : as = #[x, y]) (hx : evA G n s x = some (.slice (some ⟨ks, 0, none⟩) l grown)) (hy : evA G n s y = some (.slice (some ⟨kx, 0, none⟩) m c)) (ht : lkT L t = some e) (hs : e.sl = some (el, sz)) (hel : lkT L el = some ee) (hsz : ee.size = sz) (hpos : Nat.ble 1 sz = true) (hm : Nat.ble 1 m = true) (hlx : h[jx]? = some (kx, ox)) (hls : h[js]? = some (ks, .row cs el sz)) (hln : h[jn]? = some (kn, .gone)) (hne1 : jx ≠ js) (hb : (l + m) * ee.bytes ≤ 1099511627776) (hbb : l + m ≤ 1099511627776) (hcl : cs.length = l * sz) (hv : ox.seg 0 (m * sz) = some vs) (hone : vs.all (·.oneCell') = true) {dd : Nat} {hx' : H} (hux : updO h [(js, .lost), (jn, .row (cs ++ vs) el sz)] = some hx') (kk : RK P G ops draw n (pc + 1) ((dd, (some (.slice (some ⟨kn, 0, none⟩) (l + m) grown))) :: s) hx' (acc ++ [([jx, js, jn], ([(js, .lost), (jn, .row (cs ++ vs) el sz)] : List (Nat × AObj)).map (·.1))]) KK) : RKq P G ops draw n pc s h acc KK o (some dd) (.call { callee := .builtin .append, args := as, argTypes := #[t, t] }) :=
  fun hd_ ho hw hi_ => RK.val hi_ hd_ (o_app1 hL ho hw has hx hy ht hs hel hsz hpos hm hlx hls hln hne1 hb hbb hcl hv hone) hux kk
theorem q_mkIface {t : TypeId} {x : Operand} {v : Value} (ht : hasTy P t = true) (hx : evA G n s x = some v) {dd : Nat} (kk : RK P G ops draw n (pc + 1) ((dd, (some (.iface t v))) :: s) h (acc ++ [([], [])]) KK) : RKq P G ops draw n pc s h acc KK o (some dd) (.makeInterface t x) :=
  fun hd_ ho hw hi_ => RK.val hi_ hd_ (o_mkIface ho hw ht hx) rfl kk
theorem q_mkFunc {f : Fn} {a b : Array Operand} {xs ys : List Value} (hx : evL G n s a.toList = some xs) (hy : evL G n s b.toList = some ys) {dd : Nat} (kk : RK P G ops draw n (pc + 1) ((dd, (some (.func f ⟨xs⟩ ⟨ys⟩))) :: s) h (acc ++ [([], [])]) KK) : RKq P G ops draw n pc s h acc KK o (some dd) (.makeFunc f a b) :=
  fun hd_ ho hw hi_ => RK.val hi_ hd_ (o_mkFunc ho hw hx hy) rfl kk
theorem q_ifeq {t u q : TypeId} {x : Operand} {v : Value} (hp : isIface P t = true) (hx : evA G n s x = some (.iface q v)) {dd : Nat} (kk : RK P G ops draw n (pc + 1) ((dd, (some (.bool false))) :: s) h (acc ++ [([], [])]) KK) : RKq P G ops draw n pc s h acc KK o (some dd) (.binOp .eql t x (.const .nilIface) u) :=
  fun hd_ ho hw hi_ => RK.val hi_ hd_ (o_ifeq ho hw hp hx) rfl kk
theorem q_ifne {t u q : TypeId} {x : Operand} {v : Value} (hp : isIface P t = true) (hx : evA G n s x = some (.iface q v)) {dd : Nat} (kk : RK P G ops draw n (pc + 1) ((dd, (some (.bool true))) :: s) h (acc ++ [([], [])]) KK) : RKq P G ops draw n pc s h acc KK o (some dd) (.binOp .neq t x (.const .nilIface) u) :=
  fun hd_ ho hw hi_ => RK.val hi_ hd_ (o_ifne ho hw hp hx) rfl kk
theorem q_nileq {t u : TypeId} {x : Operand} (hp : isIface P t = true) (hx : evA G n s x = some .nilIface) {dd : Nat} (kk : RK P G ops draw n (pc + 1) ((dd, (some (.bool true))) :: s) h (acc ++ [([], [])]) KK) : RKq P G ops draw n pc s h acc KK o (some dd) (.binOp .eql t x (.const .nilIface) u) :=
  fun hd_ ho hw hi_ => RK.val hi_ hd_ (o_nileq ho hw hp hx) rfl kk
theorem q_nilne {t u : TypeId} {x : Operand} (hp : isIface P t = true) (hx : evA G n s x = some .nilIface) {dd : Nat} (kk : RK P G ops draw n (pc + 1) ((dd, (some (.bool false))) :: s) h (acc ++ [([], [])]) KK) : RKq P G ops draw n pc s h acc KK o (some dd) (.binOp .neq t x (.const .nilIface) u) :=
  fun hd_ ho hw hi_ => RK.val hi_ hd_ (o_nilne ho hw hp hx) rfl kk
theorem q_idxN {t : TypeId} {x y : Operand} {a : Option Addr} {k f l c sz m : Nat} {el : TypeId} {kd : IntKind} {i : Int} {e : TE} (hL : LayOk P L = true) (hx : evA G n s x = some (.slice a l c)) (hy : evA G n s y = some (.int kd i)) (ht : lkT L t = some e) (hs : e.sl = some (el, sz)) (ha : 0 < l → a = some ⟨k, f, none⟩) (hi : i = (m : Int)) (h1 : m < l) {dd : Nat} (kk : RK P G ops draw n (pc + 1) ((dd, (some (.pointer (some ⟨k, f + m * sz, none⟩)))) :: s) h (acc ++ [([], [])]) KK) : RKq P G ops draw n pc s h acc KK o (some dd) (.indexAddr t x y) :=
  fun hd_ ho hw hi_ => RK.val hi_ hd_ (o_idxN hL ho hw hx hy ht hs ha hi h1) rfl kk
theorem q_fieldc {t : TypeId} {x : Operand} {fld : Nat} {fields : Array Field} {fd : Field} {xs : Array Value} {v : Value} {e : TE} (hL : LayOk P L = true) (hx : evA G n s x = some (.agg xs)) (hu : P.underlying t = some (.struct fields)) (hf : fields[fld]? = some fd) (ht : lkT L fd.type = some e) (ha : e.agg = false) (hv : xs.toList[fd.offset]? = some v) {dd : Nat} (kk : RK P G ops draw n (pc + 1) ((dd, (some v)) :: s) h (acc ++ [([], [])]) KK) : RKq P G ops draw n pc s h acc KK o (some dd) (.field t x fld) :=
  fun hd_ ho hw hi_ => RK.val hi_ hd_ (o_fieldc hL ho hw hx hu hf ht ha hv) rfl kk
theorem q_extract {x : Operand} {i : Nat} {xs : Array Value} {v : Value} (hx : evA G n s x = some (.tuple xs)) (hv : xs.toList[i]? = some v) {dd : Nat} (kk : RK P G ops draw n (pc + 1) ((dd, (some v)) :: s) h (acc ++ [([], [])]) KK) : RKq P G ops draw n pc s h acc KK o (some dd) (.extract x i) :=
  fun hd_ ho hw hi_ => RK.val hi_ hd_ (o_extract ho hw hx hv) rfl kk
theorem q_indexc {t el : TypeId} {x y : Operand} {len : Nat} {xs : Array Value} {v : Value} {e ea : TE} {kd : IntKind} {i : Int} (hL : LayOk P L = true) (hx : evA G n s x = some (.agg xs)) (hy : evA G n s y = some (.int kd i)) (hta : lkT L t = some ea) (harr : ea.arr = some (len, el, 1)) (ht : lkT L el = some e) (ha : e.agg = false) (h0 : 0 ≤ i) (h1 : i < len) (hv : xs.toList[i.toNat]? = some v) {dd : Nat} (kk : RK P G ops draw n (pc + 1) ((dd, (some v)) :: s) h (acc ++ [([], [])]) KK) : RKq P G ops draw n pc s h acc KK o (some dd) (.index t x y) :=
  fun hd_ ho hw hi_ => RK.val hi_ hd_ (o_indexc hL ho hw hx hy hta harr ht ha h0 h1 hv) rfl kk
theorem q_callR {f : FuncId} {as : Array Operand} {ts : Array TypeId} {args : List Value} {pre : H} {v : Value} {post : List AObj} {js : List Nat} (ha : evL G n s as.toList = some args) (sp : Ctr P G f args pre v post) (hp : post = pre.map (·.2)) (fd : Fd h js pre) (nd : js.Nodup) {dd : Nat} (kk : RK P G ops draw n (pc + 1) ((dd, (some v)) :: s) h (acc ++ [(js, [])]) KK) : RKq P G ops draw n pc s h acc KK o (some dd) (.call { callee := .value (.func f), args := as, argTypes := ts }) :=
  fun hd_ ho hw hi_ => RK.val hi_ hd_ (o_callR ho hw ha sp hp fd nd) rfl kk
theorem q_callRF {x : Operand} {f : FuncId} {as : Array Operand} {ts : Array TypeId} {args caps : List Value} {pre : H} {v : Value} {post : List AObj} {js : List Nat} (hx : evA G n s x = some (.func (.func f) ⟨[]⟩ ⟨caps⟩)) (ha : evL G n s as.toList = some args) (sp : Ctr P G f (args ++ caps) pre v post) (hp : post = pre.map (·.2)) (fd : Fd h js pre) (nd : js.Nodup) {dd : Nat} (kk : RK P G ops draw n (pc + 1) ((dd, (some v)) :: s) h (acc ++ [(js, [])]) KK) : RKq P G ops draw n pc s h acc KK o (some dd) (.call { callee := .value x, args := as, argTypes := ts }) :=
  fun hd_ ho hw hi_ => RK.val hi_ hd_ (o_callRF ho hw hx ha sp hp fd nd) rfl kk
theorem q_callW {f : FuncId} {as : Array Operand} {ts : Array TypeId} {args : List Value} {pre : H} {v : Value} {post : List AObj} {js : List Nat} {us : List (Nat × AObj)} (ha : evL G n s as.toList = some args) (sp : Ctr P G f args pre v post) (fd : Fd h js pre) (nd : js.Nodup) (hu : us = js.zip post) {dd : Nat} {hx' : H} (hux : updO h us = some hx') (kk : RK P G ops draw n (pc + 1) ((dd, (some v)) :: s) hx' (acc ++ [(js, (us : List (Nat × AObj)).map (·.1))]) KK) : RKq P G ops draw n pc s h acc KK o (some dd) (.call { callee := .value (.func f), args := as, argTypes := ts }) :=
  fun hd_ ho hw hi_ => RK.val hi_ hd_ (o_callW ho hw ha sp fd nd hu) hux kk
theorem q_beq {t u : TypeId} {x y : Operand} {p q : Bool} (hp : P.underlying t = some .bool) (hx : evA G n s x = some (.bool p)) (hy : evA G n s y = some (.bool q)) {dd : Nat} (kk : RK P G ops draw n (pc + 1) ((dd, (some (.bool (p == q)))) :: s) h (acc ++ [([], [])]) KK) : RKq P G ops draw n pc s h acc KK o (some dd) (.binOp .eql t x y u) :=
  fun hd_ ho hw hi_ => RK.val hi_ hd_ (o_beq ho hw hp hx hy) rfl kk
theorem q_bne {t u : TypeId} {x y : Operand} {p q : Bool} (hp : P.underlying t = some .bool) (hx : evA G n s x = some (.bool p)) (hy : evA G n s y = some (.bool q)) {dd : Nat} (kk : RK P G ops draw n (pc + 1) ((dd, (some (.bool (!(p == q))))) :: s) h (acc ++ [([], [])]) KK) : RKq P G ops draw n pc s h acc KK o (some dd) (.binOp .neq t x y u) :=
  fun hd_ ho hw hi_ => RK.val hi_ hd_ (o_bne ho hw hp hx hy) rfl kk
theorem q_idxPN {t el : TypeId} {x y : Operand} {k f len sz m : Nat} {kd : IntKind} {i : Int} {e : TE} (hL : LayOk P L = true) (hx : evA G n s x = some (.pointer (some ⟨k, f, none⟩))) (hy : evA G n s y = some (.int kd i)) (ht : lkT L t = some e) (hs : e.arr = some (len, el, sz)) (hi : i = (m : Int)) (h1 : m < len) {dd : Nat} (kk : RK P G ops draw n (pc + 1) ((dd, (some (.pointer (some ⟨k, f + m * sz, none⟩)))) :: s) h (acc ++ [([], [])]) KK) : RKq P G ops draw n pc s h acc KK o (some dd) (.indexAddr t x y) :=
  fun hd_ ho hw hi_ => RK.val hi_ hd_ (o_idxPN hL ho hw hx hy ht hs hi h1) rfl kk
end
attribute [irreducible] RKq
theorem lh {k : Nat} {ob : AObj} {h : H} : ((k, ob) :: h)[0]? = some (k, ob) := rfl
theorem lt {j k : Nat} {ob : AObj} {e : Nat × AObj} {h : H} (x : h[j]? = some (k, ob)) : (e :: h)[j + 1]? = some (k, ob) := look_there x
theorem lx {j k : Nat} {ob ob2 : AObj} {h : H} (x : h[j]? = some (k, ob2)) (e : ob2 = ob) : h[j]? = some (k, ob) := e ▸ x
end Go.Proofs.YtekcchmnncefhaaGreatDoorAB
/-! Errors: two interfaces of pointers compared; a type asked for. -/
namespace Go.Proofs.YtekcchmnncefhaaGreatDoorAB
open Go
set_option linter.unusedVariables false
set_option linter.unusedSimpArgs false
section
variable {P : Program} {G : Nat} {L : Lay} {ops : Array Oper} {o : Oper} {n : Nat} {s : As} {h : H}
/-- A type of pointers that can be compared, to what is not empty. -/
def ptrOk (P : Program) (q : TypeId) : Bool := match P.underlying q with
  | some (.pointer te) => match P.info? q, P.info? te with
    | some i, some j => i.comparable && j.size != 0
    | _, _ => false
  | _ => false
theorem ptrOk.get {q : TypeId} (h : ptrOk P q = true) : ∃ te i j, P.underlying q = some (.pointer te) ∧ P.info? q = some i ∧ i.comparable = true ∧ P.info? te = some j ∧ j.size ≠ 0 := by
  unfold ptrOk at h
  split at h
  · rename_i te hu
    split at h
    · rename_i i j hi hj
      simp only [Bool.and_eq_true, bne_iff_ne, ne_eq] at h
      exact ⟨te, i, j, hu, hi, h.1, hj, h.2⟩
    · cases h
  · cases h
/-- The same pointer, twice. -/
theorem o_pteq {t u q : TypeId} {x y : Operand} {k f : Nat} (ho : o.op = .binOp .eql t x y u) (hw : wantA ops o n s = some true) (hp : isIface P t = true) (hq : ptrOk P q = true) (hx : evA G n s x = some (.iface q (.pointer (some ⟨k, f, none⟩)))) (hy : evA G n s y = some (.iface q (.pointer (some ⟨k, f, none⟩)))) :
    OPJ P G ops o (mkT n s) h [] [] (some (.bool true)) [] [] :=
  OPJ.pure hw fun ρ w a _ er => by
    obtain ⟨x', hx', h1⟩ := vr_iface.1 (er.get (by simp [ho, Op.operands]) hx)
    obtain ⟨y', hy', h2⟩ := vr_iface.1 (er.get (by simp [ho, Op.operands]) hy)
    obtain ⟨b, hb, rfl⟩ := vr_ptr.1 hx'
    obtain ⟨b', hb', rfl⟩ := vr_ptr.1 hy'
    rw [hb] at hb'; cases hb'
    obtain ⟨ms, hu⟩ := isIface.get hp
    obtain ⟨te, i, j, g1, g2, g3, g4, g5⟩ := ptrOk.get hq
    exact ⟨.bool true, by simp [execOp, ho, h1, h2, eqGuard, run_eql_iface_ptr_same w ⟨b, f, none⟩ hu g1 g2 g3 g4], by simp⟩
/-- Pointers to two places. -/
theorem o_ptne {t u q : TypeId} {x y : Operand} {k f k2 f2 b b2 j j2 : Nat} (ho : o.op = .binOp .eql t x y u) (hw : wantA ops o n s = some true) (hp : isIface P t = true) (hq : ptrOk P q = true) (hx : evA G n s x = some (.iface q (.pointer (some ⟨k, f, none⟩)))) (hy : evA G n s y = some (.iface q (.pointer (some ⟨k2, f2, none⟩))))
    (h1 : h[j]? = some (k, .mark b)) (h2 : h[j2]? = some (k2, .mark b2)) (hj : Nat.beq j j2 = false) (hne : (b, f) ≠ (b2, f2)) : OPJ P G ops o (mkT n s) h [j, j2] [] (some (.bool false)) [(k, .mark b), (k2, .mark b2)] [.mark b, .mark b2] := by
  have hn : j ≠ j2 := fun e => by subst e; rw [Nat.beq_refl] at hj; cases hj
  have fd : Fd h [j, j2] [(k, .mark b), (k2, .mark b2)] := .cons h1 (.cons h2 .nil)
  refine OPJ.of hw ⟨by simp [hn], fd.at_⟩ rfl (fun h3 hh => fd.same h3 hh) (fun _ h => by cases h) fun ρ w a R sim er fr => ?_
  obtain ⟨x', hx', g1⟩ := vr_iface.1 (er.get (by simp [ho, Op.operands]) hx)
  obtain ⟨y', hy', g2⟩ := vr_iface.1 (er.get (by simp [ho, Op.operands]) hy)
  obtain ⟨c, hc, rfl⟩ := vr_ptr.1 hx'
  obtain ⟨c2, hc2, rfl⟩ := vr_ptr.1 hy'
  obtain ⟨ms, hu⟩ := isIface.get hp
  obtain ⟨te, i, i2, q1, q2, q3, q4, q5⟩ := ptrOk.get hq
  obtain ⟨d1, o1, e1, e2, m1, ca, ta, rfl⟩ := (sim.ent (k, .mark b) (by simp)).2 rfl
  obtain ⟨d2, o2, e3, e4, m2, cb, tb, rfl⟩ := (sim.ent (k2, .mark b2) (by simp)).2 rfl
  have e1 : ρ k = some d1 := e1
  have e3 : ρ k2 = some d2 := e3
  have m1 : ρ k = some b := m1
  have m2 : ρ k2 = some b2 := m2
  rw [hc] at e1 m1; cases e1; cases m1
  rw [hc2] at e3 m2; cases e3; cases m2
  have hbb : (⟨b, f, none⟩ : Addr) ≠ ⟨b2, f2, none⟩ := fun e => hne (by cases e; rfl)
  exact wp_value (v := .bool false) (w1 := w) (by simp [execOp, ho, g1, g2, eqGuard, run_eql_iface_ptr_other w hu q1 q2 q3 q4 q5 hbb e2 e4])
    ⟨.bool false, ρ, rfl, fun x hx => by cases hx; exact .bool _, sim, Stp.refl ρ _ w, fun k hk => (fr k hk).1⟩
/-- A value of the type that is asked for. -/
theorem o_taT {xt q : TypeId} {x : Operand} {v : Value} (ho : o.op = .typeAssert x xt q true) (hw : wantA ops o n s = some true) (hp : hasTy P q = true) (hx : evA G n s x = some (.iface q v)) : OPJ P G ops o (mkT n s) h [] [] (some (.tuple #[v, .bool true])) [] [] :=
  OPJ.pure hw fun ρ w a _ er => by
    obtain ⟨x', hx', h1⟩ := vr_iface.1 (er.get (by simp [ho, Op.operands]) hx)
    unfold hasTy isIface at hp
    cases hu : P.underlying q with
    | none => simp [hu] at hp
    | some d =>
      refine ⟨.tuple #[x', .bool true], ?_, .tuple (.cons hx' (.cons (.bool _) .nil))⟩
      simp only [execOp, ho, h1, Instr.typeAssert, Sem.run_bind, run_underlying hu, Result.andThen_ok]
      cases d <;> simp_all
/-- Its zero is nil. -/
def zeroNil (P : Program) (q : TypeId) : Bool := match P.info? q with
  | some i => match i.zero with
    | some (.pointer none) => true
    | _ => false
  | none => false
/-- A value of another type. -/
theorem o_taF {xt q r : TypeId} {x : Operand} {v : Value} (ho : o.op = .typeAssert x xt q true) (hw : wantA ops o n s = some true) (hp : hasTy P q = true) (hz : zeroNil P q = true) (hx : evA G n s x = some (.iface r v)) (hne : Nat.beq r q = false) : OPJ P G ops o (mkT n s) h [] [] (some (.tuple #[.pointer none, .bool false])) [] [] :=
  OPJ.pure hw fun ρ w a _ er => by
    obtain ⟨x', hx', h1⟩ := vr_iface.1 (er.get (by simp [ho, Op.operands]) hx)
    have hn : r ≠ q := fun e => by subst e; rw [Nat.beq_refl] at hne; cases hne
    have hz' : (zeroValue q).run P w = .ok (.pointer none) w := by
      unfold zeroNil at hz
      split at hz
      · rename_i i hi
        split at hz
        · rename_i z0 hz0
          simp [zeroValue, typeInfo, hi, hz0]
        · cases hz
      · cases hz
    unfold hasTy isIface at hp
    cases hu : P.underlying q with
    | none => simp [hu] at hp
    | some d =>
      refine ⟨.tuple #[.pointer none, .bool false], ?_, .tuple (.cons .ptrNil (.cons (.bool _) .nil))⟩
      simp only [execOp, ho, h1, Instr.typeAssert, Sem.run_bind, run_underlying hu, Result.andThen_ok]
      cases d <;> simp_all [hn, hz']
/-- The first elements of a slice. -/
theorem o_sliceH {t el : TypeId} {x y : Operand} {k f l c m sz : Nat} {kd : IntKind} {i : Int} {e : TE} (hL : LayOk P L = true) (ho : o.op = .slice t x none (some y) none) (hw : wantA ops o n s = some true) (hx : evA G n s x = some (.slice (some ⟨k, f, none⟩) l c)) (hy : evA G n s y = some (.int kd i))
    (ht : lkT L t = some e) (hs : e.sl = some (el, sz)) (hi : i = (m : Int)) (hm : m ≤ l) (hlc : l ≤ c) : OPJ P G ops o (mkT n s) h [] [] (some (.slice (some ⟨k, f, none⟩) m c)) [] [] := by
  subst hi
  refine OPJ.pure hw fun ρ w a _ er => ?_
  obtain ⟨hu, j, hj, hjs⟩ := (tfOf hL ht).sl el sz hs
  obtain ⟨b, c', hb, hc, h1⟩ := vr_slice.1 (er.get (by simp [ho, Op.operands]) hx)
  have h2 := vr_int.1 (er.get (by simp [ho, Op.operands]) hy)
  have hlc' := hc.1 hlc
  have he : P.elem t = el := by simp [Program.elem, hu]
  have hu' : P.underlying t = some (.slice (P.elem t)) := by rw [he]; exact hu
  refine ⟨.slice (some ⟨b, f, none⟩) m c', ?_, .slice _ none _ _ _ hb ⟨fun _ => by omega, hc.2⟩⟩
  have hsz : (sizeOf (P.elem t)).run P w = .ok sz w := by rw [he]; simp [sizeOf, typeInfo, hj, hjs]
  have hr : (Instr.sliceAt t (.slice (some ⟨b, f, none⟩) l c') none (some (.int kd (m : Int))) none).run P w = .ok (.slice (some ⟨b, f, none⟩) m c') w := by
    rw [run_sliceAt_slice w t _ _ _ _ hu', run_slice_h w t _ _ _ hu' kd (m : Int) (by omega) (by omega), hsz]
    simp [Result.andThen, sliced, add_none]
  simp [execOp, ho, h1, h2, hr]
end
end Go.Proofs.YtekcchmnncefhaaGreatDoorAB
/-! Parts of slices; a slice cloned. -/
namespace Go.Proofs.YtekcchmnncefhaaGreatDoorAB
open Go
set_option linter.unusedVariables false
set_option linter.unusedSimpArgs false
section
variable {P : Program} {G : Nat} {L : Lay} {ops : Array Oper} {o : Oper} {n : Nat} {s : As} {h : H}
theorem sl_elem {t el : TypeId} {sz : Nat} {e : TE} (hL : LayOk P L = true) (ht : lkT L t = some e) (hs : e.sl = some (el, sz)) (w : World) : P.underlying t = some (.slice (P.elem t)) ∧ (sizeOf (P.elem t)).run P w = .ok sz w := by
  obtain ⟨hu, j, hj, hjs⟩ := (tfOf hL ht).sl el sz hs
  have he : P.elem t = el := by simp [Program.elem, hu]
  exact ⟨by rw [he]; exact hu, by rw [he]; simp [sizeOf, typeInfo, hj, hjs]⟩
/-- The elements from one place to another. -/
theorem o_sliceLH {t el : TypeId} {x y z : Operand} {k f l c p q sz : Nat} {kd ke : IntKind} {i j : Int} {e : TE} (hL : LayOk P L = true) (ho : o.op = .slice t x (some y) (some z) none) (hw : wantA ops o n s = some true) (hx : evA G n s x = some (.slice (some ⟨k, f, none⟩) l c)) (hy : evA G n s y = some (.int kd i)) (hz : evA G n s z = some (.int ke j))
    (ht : lkT L t = some e) (hs : e.sl = some (el, sz)) (hi : i = (p : Int)) (hj : j = (q : Int)) (hpq : p < q) (hq : q ≤ l) (hlc : l ≤ c) (hg : q ≤ 1000000) : OPJ P G ops o (mkT n s) h [] [] (some (.slice (some ⟨k, f + p * sz, none⟩) (q - p) (q - p))) [] [] := by
  subst hi hj
  refine OPJ.pure hw fun ρ w a _ er => ?_
  obtain ⟨hu, hsz⟩ := sl_elem (P := P) hL ht hs w
  obtain ⟨b, c', hb, hc, h1⟩ := vr_slice.1 (er.get (by simp [ho, Op.operands]) hx)
  have h2 := vr_int.1 (er.get (by simp [ho, Op.operands]) hy)
  have h3 := vr_int.1 (er.get (by simp [ho, Op.operands]) hz)
  have hlc' := hc.1 hlc
  refine ⟨.slice (some ⟨b, f + p * sz, none⟩) (q - p) (c' - p), ?_, .slice _ none _ _ _ hb ⟨fun _ => by omega, fun h => absurd h (by unfold grown; omega)⟩⟩
  have hr : (Instr.sliceAt t (.slice (some ⟨b, f, none⟩) l c') (some (.int kd (p : Int))) (some (.int ke (q : Int))) none).run P w = .ok (.slice (some ⟨b, f + p * sz, none⟩) (q - p) (c' - p)) w := by
    rw [run_sliceAt_slice w t _ _ _ _ hu, run_slice_lh w t _ _ _ hu kd ke (p : Int) (q : Int) (by omega) (by omega) (by omega), hsz]
    simp only [Result.andThen, sliced, Int.toNat_natCast, Option.map_some, add_none]
    rw [if_neg (by omega)]
  simp [execOp, ho, h1, h2, h3, hr]
/-- The elements from a place on. -/
theorem o_sliceL {t el : TypeId} {x y : Operand} {k f l c p sz : Nat} {kd : IntKind} {i : Int} {e : TE} (hL : LayOk P L = true) (ho : o.op = .slice t x (some y) none none) (hw : wantA ops o n s = some true) (hx : evA G n s x = some (.slice (some ⟨k, f, none⟩) l c)) (hy : evA G n s y = some (.int kd i))
    (ht : lkT L t = some e) (hs : e.sl = some (el, sz)) (hi : i = (p : Int)) (hp : p < l) (hlc : l ≤ c) (hg : l ≤ 1000000) : OPJ P G ops o (mkT n s) h [] [] (some (.slice (some ⟨k, f + p * sz, none⟩) (l - p) (l - p))) [] [] := by
  subst hi
  refine OPJ.pure hw fun ρ w a _ er => ?_
  obtain ⟨hu, hsz⟩ := sl_elem (P := P) hL ht hs w
  obtain ⟨b, c', hb, hc, h1⟩ := vr_slice.1 (er.get (by simp [ho, Op.operands]) hx)
  have h2 := vr_int.1 (er.get (by simp [ho, Op.operands]) hy)
  have hlc' := hc.1 hlc
  refine ⟨.slice (some ⟨b, f + p * sz, none⟩) (l - p) (c' - p), ?_, .slice _ none _ _ _ hb ⟨fun _ => by omega, fun h => absurd h (by unfold grown; omega)⟩⟩
  have hr : (Instr.sliceAt t (.slice (some ⟨b, f, none⟩) l c') (some (.int kd (p : Int))) none none).run P w = .ok (.slice (some ⟨b, f + p * sz, none⟩) (l - p) (c' - p)) w := by
    rw [run_sliceAt_slice w t _ _ _ _ hu, run_slice_l w t _ _ _ hu kd (p : Int) (by omega) (by omega), hsz]
    simp only [Result.andThen, sliced, Int.toNat_natCast, Option.map_some, add_none]
    rw [if_neg (by omega)]
  simp [execOp, ho, h1, h2, hr]
/-- A slice without room, and elements behind it: a new row. -/
theorem o_appD {as : Array Operand} {t el : TypeId} {x y : Operand} {kx jx jn kn m c f sz : Nat} {ox : AObj} {vs : List Value} {e ee : TE} (hL : LayOk P L = true) (ho : o.op = .call { callee := .builtin .append, args := as, argTypes := #[t, t] }) (hw : wantA ops o n s = some true) (has : as = #[x, y])
    (hx : evA G n s x = some (.slice (some ⟨0, 0, some 0⟩) 0 0)) (hy : evA G n s y = some (.slice (some ⟨kx, f, none⟩) m c)) (ht : lkT L t = some e) (hs : e.sl = some (el, sz)) (hel : lkT L el = some ee) (hsz : ee.size = sz) (hm : 1 ≤ m) (hb : m * ee.bytes ≤ 1099511627776) (hbb : m ≤ 1099511627776)
    (hlx : h[jx]? = some (kx, ox)) (hln : h[jn]? = some (kn, .gone)) (hv : ox.seg f (m * sz) = some vs) :
    OPJ P G ops o (mkT n s) h [jx, jn] [(jn, .row vs el sz)] (some (.slice (some ⟨kn, 0, none⟩) m grown)) [(kx, ox), (kn, .gone)] [ox, .row vs el sz] := by
  have hne : jx ≠ jn := by
    intro hx; subst hx; rw [hlx] at hln; cases hln; simp [AObj.seg] at hv
  refine OPJ.of hw ⟨by simp [hne], by simp [hlx, hln]⟩ rfl ?_ (fun u hu => by simp at hu; simp [hu]) fun ρ w a R sim er fr => ?_
  · intro h2 hh
    have h1 := hh jx (by simp)
    show ((h2.modify jx fun e => (e.1, ox)).modify jn fun e => (e.1, .row vs el sz)) = h2.modify jn _
    congr 1
    refine List.ext_getElem? fun i => ?_
    rw [List.getElem?_modify]
    by_cases hi : jx = i
    · subst hi; simp [h1, hlx]
    · simp [hi]
  · subst has
    obtain ⟨hu, i0, hi0, hi0s⟩ := (tfOf hL ht).sl el sz hs
    have tf := tfOf hL hel
    obtain ⟨i, hi, his, hib, z, hz, hzc⟩ := tf.size
    obtain ⟨xa, hx'⟩ := vr_dead (er.get (by simp [ho, Op.operands, Call.operands]) hx)
    obtain ⟨b, c', hbk, hc, hy'⟩ := vr_slice.1 (er.get (by simp [ho, Op.operands, Call.operands]) hy)
    have live : ox.live = true := by cases ox <;> simp_all [AObj.seg, AObj.live]
    obtain ⟨b', ob, hb', hh, hor⟩ := (sim.ent (kx, ox) (by simp)).2 live
    rw [hbk] at hb'
    cases hb'
    obtain ⟨vs', hlen, hvr, hcell⟩ := hor.seg hh hv
    have hkn : ρ kn = none := (sim.ent (kn, .gone) (by simp)).1 rfl
    have hr := run_append_grow (P := P) w t o.type el i z hu hi hz xa 0 0 [] (by simp) (fun j v hj => by simp at hj) ⟨b, f, none⟩ m c' vs' (by rw [hlen, his, hsz]) (fun j v hj => by rw [add_none]; exact hcell j v hj) (by omega) (by omega) (by rw [Nat.zero_add, nextslicecap_zero (by omega), hib]; omega)
    have hnil : (([] : List Value).toArray ++ vs'.toArray : Array Value) = vs'.toArray := by simp
    rw [Nat.zero_add, hnil] at hr
    generalize hcap : grownCap w m 0 el = cap at hr
    have hge : m ≤ cap := by rw [← hcap]; exact grownCap_ge w m 0 el
    let B := w.heap.size
    let ρ' : Ren := ⟨fun i => if i = kn then some B else ρ i, fun i => if i = kn then cap else ρ.c i⟩
    have hk' : ρ' kn = some B := by simp [ρ']
    have hne' : ∀ i c, ρ i = some c → i ≠ kn := fun i c hi hx => by rw [hx, hkn] at hi; cases hi
    have hext : Ext ρ ρ' := ⟨fun i c hi => by simp [ρ', hne' i c hi, hi], fun i c hi => by simp [ρ', hne' i c hi]⟩
    refine wp_value (v := .slice (some ⟨B, 0, none⟩) m cap) (w1 := w.drew.alloc (.cells (vs'.toArray ++ Builtin.zeroCells z.cells (cap - m)) el)) (by simp [execOp, ho, resolve, invoke, builtin, hx', hy', hr, B]) ?_
    have old : ∀ c, c < B → (w.drew.alloc (.cells (vs'.toArray ++ Builtin.zeroCells z.cells (cap - m)) el)).heap[c]? = w.heap[c]? := fun c hc => heap_alloc_old w.drew _ c hc
    have new : (w.drew.alloc (.cells (vs'.toArray ++ Builtin.zeroCells z.cells (cap - m)) el)).heap[B]? = some (.cells (vs'.toArray ++ Builtin.zeroCells z.cells (cap - m)) el) := heap_alloc_new w.drew _
    have size : (w.drew.alloc (.cells (vs'.toArray ++ Builtin.zeroCells z.cells (cap - m)) el)).heap.size = B + 1 := by show (w.heap.push _).size = _; simp [B]
    have hzs : z.cells.size = sz := by have := tf.len; rw [← hzc, hsz] at this; simpa using this
    refine ⟨_, ρ', rfl, fun x hx => by cases hx; exact .slice _ none _ _ _ hk' ⟨fun _ => hge, fun _ => by simp [ρ']⟩, ?_, ?_, ?_⟩
    · refine Sim.two ?_ (fun g hg => hext.b g g (sim.glob g hg)) ?_ ?_ ?_ ?_
      · intro i c hi
        rw [size]
        simp only [ρ'] at hi
        split at hi
        · cases hi; omega
        · have := sim.dom i c hi; omega
      · obtain ⟨N, hN⟩ := sim.fin
        refine ⟨max N (kn + 1), fun i hi => ?_⟩
        simp only [ρ', if_neg (show i ≠ kn by omega)]
        exact hN i (by omega)
      · exact ⟨fun hg => (by have hg : ox = .gone := hg; rw [hg] at live; cases live), fun _ => ⟨b, ob, hext.b _ _ hbk, by rw [old b (sim.dom _ _ hbk)]; exact hh, hor.mono hext hbk⟩⟩
      · refine ⟨fun hg => (by cases hg), fun _ => ⟨B, _, hk', new, vs', (Builtin.zeroCells z.cells (cap - m)).toList, hvr.mono hext, ?_, ?_⟩⟩
        · show (if kn = kn then cap else ρ.c kn) * sz = _
          rw [if_pos rfl, List.length_append, hlen, Array.length_toList, size_zeroCells, hzs, ← Nat.add_mul]
          congr 1; omega
        · congr 1
          simp
      · intro _ _
        refine ⟨fun _ => ?_, fun hg => ?_⟩
        · show ρ' kx ≠ ρ' kn
          rw [hext.b _ _ hbk, hk']
          have := sim.dom _ _ hbk
          intro hx; have := Option.some.inj hx; omega
        · rcases hg with hg | hg
          · have hg : ox = .gone := hg; rw [hg] at live; cases live
          · cases hg
    · refine ⟨hext, ?_, by rw [size]; omega, rfl, rfl, rfl, fun c hc _ => old c hc, ?_, ?_⟩
      · intro k c h0 h1
        simp only [ρ'] at h1
        split at h1
        · cases h1; exact .inl (Nat.le_refl _)
        · rw [h0] at h1; cases h1
      · intro e' he' hl c hc
        have he' : e' = (kx, ox) ∨ e' = (kn, .row vs el sz) := by simpa [wth] using he'
        rcases he' with rfl | rfl
        · have hc : ρ' kx = some c := hc
          rw [hext.b _ _ hbk] at hc
          cases hc
          exact .inr ⟨(kx, ox), by simp, live, id, hbk⟩
        · have hc : ρ' kn = some c := hc
          rw [hk'] at hc
          cases hc
          exact .inl (Nat.le_refl _)
      · intro e' he' hg
        have he' : e' = (kx, ox) ∨ e' = (kn, .row vs el sz) := by simpa [wth] using he'
        rcases he' with rfl | rfl
        · simp
        · cases hg
    · intro r hr
      have hne : r ≠ kn := fun hx => (fr r hr).2 (kn, .gone) (by simp) rfl hx.symm
      simp only [ρ', if_neg hne]
      exact (fr r hr).1
/-- A slice without room, and nothing behind it. -/
theorem o_appDd {as : Array Operand} {t el : TypeId} {x y : Operand} {sz : Nat} {e : TE} (hL : LayOk P L = true) (ho : o.op = .call { callee := .builtin .append, args := as, argTypes := #[t, t] }) (hw : wantA ops o n s = some true) (has : as = #[x, y])
    (hx : evA G n s x = some (.slice (some ⟨0, 0, some 0⟩) 0 0)) (hy : evA G n s y = some (.slice (some ⟨0, 0, some 0⟩) 0 0)) (ht : lkT L t = some e) (hs : e.sl = some (el, sz)) : OPJ P G ops o (mkT n s) h [] [] (some (.slice (some ⟨0, 0, some 0⟩) 0 0)) [] [] := by
  subst has
  refine OPJ.pure hw fun ρ w a _ er => ?_
  obtain ⟨hu, i0, hi0, hi0s⟩ := (tfOf hL ht).sl el sz hs
  obtain ⟨xa, hx'⟩ := vr_dead (er.get (by simp [ho, Op.operands, Call.operands]) hx)
  obtain ⟨ya, hy'⟩ := vr_dead (er.get (by simp [ho, Op.operands, Call.operands]) hy)
  refine ⟨.slice (some xa) 0 0, ?_, .dead _⟩
  have hr : (Builtin.append_ #[t, t] o.type #[.slice (some xa) 0 0, .slice (some ya) 0 0]).run P w = .ok (.slice (some xa) 0 0) w := by
    have hf := run_firstCells_some (P := P) w i0.size 0 ya 0 0 [] (by simp) (fun j v hj => by simp at hj)
    simp [Builtin.append_, run_underlying hu, sizeOf, typeInfo, hi0, Builtin.lenOf, hf, storeCells]
  simp [execOp, ho, resolve, invoke, builtin, hx', hy', hr]
/-- A map made. -/
theorem o_makeMap {t : TypeId} {j k : Nat} (ho : o.op = .makeMap t none) (hw : wantA ops o n s = some true) (hl : h[j]? = some (k, .gone)) :
    OPJ P G ops o (mkT n s) h [j] [(j, .obj (.map #[] 0))] (some (.map (some k))) [(k, .gone)] [.obj (.map #[] 0)] :=
  OPJ.of hw (fits_one hl) rfl (fun _ _ => rfl) (fun u hu => by simp at hu; simp [hu]) fun ρ w a R sim er fr => by
    refine wp_value (v := .map (some w.heap.size)) (w1 := { w with heap := w.heap.push (.map #[] 0) }) (by
      have hr : (Instr.makeMap t none).run P w = .ok (.map (some w.heap.size)) { w with heap := w.heap.push (.map #[] 0) } := rfl
      simp [execOp, ho, hr]) ?_
    exact lv_new 0 sim rfl (fun ρ' he _ _ => rfl) (fun ρ' _ hk _ => .map hk) fr
theorem o_buildZ {t el : TypeId} {sz j k : Nat} {parts : Array (Nat × Operand)} {e ee : TE} (hL : LayOk P L = true) (ho : o.op = .buildSlice t 0 parts) (hw : wantA ops o n s = some true) (hp : parts.toList = [])
    (ht : lkT L t = some e) (hs : e.sl = some (el, sz)) (hel : lkT L el = some ee) (hl : h[j]? = some (k, .gone)) :
    OPJ P G ops o (mkT n s) h [j] [(j, .cells [] el)] (some (.slice (some ⟨0, 0, some 0⟩) 0 0)) [(k, .gone)] [.cells [] el] :=
  OPJ.of hw (fits_one hl) rfl (fun _ _ => rfl) (fun u hu => by simp at hu; simp [hu]) fun ρ w a R sim er fr => by
    obtain ⟨hu, i, hi, his⟩ := (tfOf hL ht).sl el sz hs
    have tf := tfOf hL hel
    obtain ⟨z, hzr, hzc⟩ := run_zeroT tf w
    have hparts : parts = #[] := by cases parts; simp_all
    refine wp_value (v := .slice (some ⟨w.heap.size, 0, none⟩) 0 0) (w1 := { w with heap := w.heap.push (.cells ⟨[]⟩ el) }) ?_ ?_
    · have hsize : (sizeOf el).run P w = .ok sz w := by simp [sizeOf, typeInfo, hi, his]
      unfold execOp
      simp [ho, hparts, Instr.buildSlice, Sem.run_bind, run_underlying hu, Result.andThen_ok, hsize, hzr, newRow, run_newObj]
      have e0 : ∀ f : Nat → Value, Array.map f (Array.range 0) = #[] := fun f => by apply Array.ext'; simp
      rw [e0]
      simp [Instr.fill, run_newObj, Sem.run_bind]
    · exact lv_new 0 sim rfl (fun ρ' he _ _ => ⟨[], .nil, rfl⟩) (fun ρ' _ hk _ => .dead _) fr
/-- None, beside an interface value that is not none. -/
theorem o_ifL {t u q : TypeId} {x y : Operand} {v : Value} (ho : o.op = .binOp .eql t x y u) (hw : wantA ops o n s = some true) (hp : isIface P t = true) (hx : evA G n s x = some .nilIface) (hy : evA G n s y = some (.iface q v)) :
    OPJ P G ops o (mkT n s) h [] [] (some (.bool false)) [] [] :=
  OPJ.pure hw fun ρ w a _ er => by
    have h1 := vr_nilIface.1 (er.get (by simp [ho, Op.operands]) hx)
    obtain ⟨v', _, h2⟩ := vr_iface.1 (er.get (by simp [ho, Op.operands]) hy)
    obtain ⟨e, hu⟩ := isIface.get hp
    exact ⟨.bool false, by simp [execOp, ho, h1, h2, eqGuard, run_eql_iface_nil_left (P := P) w q v' hu], by simp⟩
theorem run_sl_nil {t el : TypeId} (x : Option Addr) (l c : Nat) (hu : P.underlying t = some (.slice el)) (w : World) : (Op.equal t (.slice x l c) (.slice none 0 0)).run P w = .ok (x.isNone) w := by
  show (Op.equalIn (9999 + 1) t _ _).run P w = .ok _ w
  rw [Op.equalIn]
  cases x <;> simp [run_underlying hu]
/-- A slice beside nil. -/
theorem o_slnt {t u el : TypeId} {sz : Nat} {x : Operand} {e : TE} (hL : LayOk P L = true) (ho : o.op = .binOp .eql t x (.const (.slice none 0 0)) u) (hw : wantA ops o n s = some true) (hx : evA G n s x = some (.slice none 0 0)) (ht : lkT L t = some e) (hs : e.sl = some (el, sz)) :
    OPJ P G ops o (mkT n s) h [] [] (some (.bool true)) [] [] :=
  OPJ.pure hw fun ρ w a _ er => by
    have h1 := vr_sliceNil.1 (er.get (by simp [ho, Op.operands]) hx)
    obtain ⟨hu, _⟩ := (tfOf hL ht).sl el sz hs
    exact ⟨.bool true, by simp [execOp, ho, h1, show a.eval (.const (.slice none 0 0)) = .slice none 0 0 from rfl, eqGuard, binOp, run_sl_nil _ _ _ hu], by simp⟩
theorem o_slnf {t u el : TypeId} {sz k f l c : Nat} {x : Operand} {e : TE} (hL : LayOk P L = true) (ho : o.op = .binOp .eql t x (.const (.slice none 0 0)) u) (hw : wantA ops o n s = some true) (hx : evA G n s x = some (.slice (some ⟨k, f, none⟩) l c)) (ht : lkT L t = some e) (hs : e.sl = some (el, sz)) :
    OPJ P G ops o (mkT n s) h [] [] (some (.bool false)) [] [] :=
  OPJ.pure hw fun ρ w a _ er => by
    obtain ⟨b, c', hb, hc, h1⟩ := vr_slice.1 (er.get (by simp [ho, Op.operands]) hx)
    obtain ⟨hu, _⟩ := (tfOf hL ht).sl el sz hs
    exact ⟨.bool false, by simp [execOp, ho, h1, show a.eval (.const (.slice none 0 0)) = .slice none 0 0 from rfl, eqGuard, binOp, run_sl_nil _ _ _ hu], by simp⟩
theorem o_slnd {t u el : TypeId} {sz : Nat} {x : Operand} {e : TE} (hL : LayOk P L = true) (ho : o.op = .binOp .eql t x (.const (.slice none 0 0)) u) (hw : wantA ops o n s = some true) (hx : evA G n s x = some (.slice (some ⟨0, 0, some 0⟩) 0 0)) (ht : lkT L t = some e) (hs : e.sl = some (el, sz)) :
    OPJ P G ops o (mkT n s) h [] [] (some (.bool false)) [] [] :=
  OPJ.pure hw fun ρ w a _ er => by
    obtain ⟨xa, h1⟩ := vr_dead (er.get (by simp [ho, Op.operands]) hx)
    obtain ⟨hu, _⟩ := (tfOf hL ht).sl el sz hs
    exact ⟨.bool false, by simp [execOp, ho, h1, show a.eval (.const (.slice none 0 0)) = .slice none 0 0 from rfl, eqGuard, binOp, run_sl_nil _ _ _ hu], by simp⟩
/-- A slice without room, and no element of another one behind it. -/
theorem o_appDz {as : Array Operand} {t el : TypeId} {x y : Operand} {sz k f c : Nat} {e : TE} (hL : LayOk P L = true) (ho : o.op = .call { callee := .builtin .append, args := as, argTypes := #[t, t] }) (hw : wantA ops o n s = some true) (has : as = #[x, y])
    (hx : evA G n s x = some (.slice (some ⟨0, 0, some 0⟩) 0 0)) (hy : evA G n s y = some (.slice (some ⟨k, f, none⟩) 0 c)) (ht : lkT L t = some e) (hs : e.sl = some (el, sz)) : OPJ P G ops o (mkT n s) h [] [] (some (.slice (some ⟨0, 0, some 0⟩) 0 0)) [] [] := by
  subst has
  refine OPJ.pure hw fun ρ w a _ er => ?_
  obtain ⟨hu, i0, hi0, hi0s⟩ := (tfOf hL ht).sl el sz hs
  obtain ⟨xa, hx'⟩ := vr_dead (er.get (by simp [ho, Op.operands, Call.operands]) hx)
  obtain ⟨b, c', hb, hc, hy'⟩ := vr_slice.1 (er.get (by simp [ho, Op.operands, Call.operands]) hy)
  refine ⟨.slice (some xa) 0 0, ?_, .dead _⟩
  have hr : (Builtin.append_ #[t, t] o.type #[.slice (some xa) 0 0, .slice (some ⟨b, f, none⟩) 0 c']).run P w = .ok (.slice (some xa) 0 0) w := by
    have hf := run_firstCells_some (P := P) w i0.size 0 ⟨b, f, none⟩ 0 c' [] (by simp) (fun j v hj => by simp at hj)
    simp [Builtin.append_, run_underlying hu, sizeOf, typeInfo, hi0, Builtin.lenOf, hf, storeCells]
  simp [execOp, ho, resolve, invoke, builtin, hx', hy', hr]
end
end Go.Proofs.YtekcchmnncefhaaGreatDoorAB
/-! The laws for errors, keyed by the operation itself. -/
namespace Go.Proofs.YtekcchmnncefhaaGreatDoorAB
open Go
set_option linter.unusedVariables false
set_option linter.unusedSimpArgs false
section
variable {P : Program} {G : Nat} {L : Lay} {ops : Array Oper} {draw : Bool} {n pc : Nat} {s : As} {h : H} {acc : List (List Nat × List Nat)} {KK : As → H → Prop} {o : Oper}
/-- It was split already. -/
theorem gM {j d : Nat} {want : Bool} {m : Value} (hg : o.guard = some (j, want)) (hd : (ops[j]?).bind (·.dst) = some d) (hm : look s (1000 + d) = some m) (k : RKo P G ops draw n pc s h acc KK o) : RKo P G ops draw n pc s h acc KK o := k
theorem q_pteq {t u q : TypeId} {x y : Operand} {k f : Nat} (hp : isIface P t = true) (hq : ptrOk P q = true) (hx : evA G n s x = some (.iface q (.pointer (some ⟨k, f, none⟩)))) (hy : evA G n s y = some (.iface q (.pointer (some ⟨k, f, none⟩)))) {dd : Nat} (kk : RK P G ops draw n (pc + 1) ((dd, (some (.bool true))) :: s) h (acc ++ [([], [])]) KK) : RKq P G ops draw n pc s h acc KK o (some dd) (.binOp .eql t x y u) := by
  unfold RKq; exact fun hd_ ho hw hi_ => RK.val hi_ hd_ (o_pteq ho hw hp hq hx hy) rfl kk
theorem q_ptne {t u q : TypeId} {x y : Operand} {k f k2 f2 b b2 j j2 : Nat} (hp : isIface P t = true) (hq : ptrOk P q = true) (hx : evA G n s x = some (.iface q (.pointer (some ⟨k, f, none⟩)))) (hy : evA G n s y = some (.iface q (.pointer (some ⟨k2, f2, none⟩)))) (h1 : h[j]? = some (k, .mark b)) (h2 : h[j2]? = some (k2, .mark b2)) (hj : Nat.beq j j2 = false) (hne : (b, f) ≠ (b2, f2)) {dd : Nat} (kk : RK P G ops draw n (pc + 1) ((dd, (some (.bool false))) :: s) h (acc ++ [([j, j2], [])]) KK) : RKq P G ops draw n pc s h acc KK o (some dd) (.binOp .eql t x y u) := by
  unfold RKq; exact fun hd_ ho hw hi_ => RK.val hi_ hd_ (o_ptne ho hw hp hq hx hy h1 h2 hj hne) rfl kk
theorem q_taT {xt q : TypeId} {x : Operand} {v : Value} (hp : hasTy P q = true) (hx : evA G n s x = some (.iface q v)) {dd : Nat} (kk : RK P G ops draw n (pc + 1) ((dd, (some (.tuple #[v, .bool true]))) :: s) h (acc ++ [([], [])]) KK) : RKq P G ops draw n pc s h acc KK o (some dd) (.typeAssert x xt q true) := by
  unfold RKq; exact fun hd_ ho hw hi_ => RK.val hi_ hd_ (o_taT ho hw hp hx) rfl kk
theorem q_taF {xt q r : TypeId} {x : Operand} {v : Value} (hp : hasTy P q = true) (hz : zeroNil P q = true) (hx : evA G n s x = some (.iface r v)) (hne : Nat.beq r q = false) {dd : Nat} (kk : RK P G ops draw n (pc + 1) ((dd, (some (.tuple #[.pointer none, .bool false]))) :: s) h (acc ++ [([], [])]) KK) : RKq P G ops draw n pc s h acc KK o (some dd) (.typeAssert x xt q true) := by
  unfold RKq; exact fun hd_ ho hw hi_ => RK.val hi_ hd_ (o_taF ho hw hp hz hx hne) rfl kk
theorem q_sliceH {t el : TypeId} {x y : Operand} {k f l c m sz : Nat} {kd : IntKind} {i : Int} {e : TE} (hL : LayOk P L = true) (hx : evA G n s x = some (.slice (some ⟨k, f, none⟩) l c)) (hy : evA G n s y = some (.int kd i)) (ht : lkT L t = some e) (hs : e.sl = some (el, sz)) (hi : i = (m : Int)) (hm : m ≤ l) (hlc : l ≤ c) {dd : Nat} (kk : RK P G ops draw n (pc + 1) ((dd, (some (.slice (some ⟨k, f, none⟩) m c))) :: s) h (acc ++ [([], [])]) KK) : RKq P G ops draw n pc s h acc KK o (some dd) (.slice t x none (some y) none) := by
  unfold RKq; exact fun hd_ ho hw hi_ => RK.val hi_ hd_ (o_sliceH hL ho hw hx hy ht hs hi hm hlc) rfl kk
theorem q_sliceLH {t el : TypeId} {x y z : Operand} {k f l c p q sz : Nat} {kd ke : IntKind} {i j : Int} {e : TE} (hL : LayOk P L = true) (hx : evA G n s x = some (.slice (some ⟨k, f, none⟩) l c)) (hy : evA G n s y = some (.int kd i)) (hz : evA G n s z = some (.int ke j)) (ht : lkT L t = some e) (hs : e.sl = some (el, sz)) (hi : i = (p : Int)) (hj : j = (q : Int)) (hpq : p < q) (hq : q ≤ l) (hlc : l ≤ c) (hg : q ≤ 1000000) {dd : Nat} (kk : RK P G ops draw n (pc + 1) ((dd, (some (.slice (some ⟨k, f + p * sz, none⟩) (q - p) (q - p)))) :: s) h (acc ++ [([], [])]) KK) : RKq P G ops draw n pc s h acc KK o (some dd) (.slice t x (some y) (some z) none) := by
  unfold RKq; exact fun hd_ ho hw hi_ => RK.val hi_ hd_ (o_sliceLH hL ho hw hx hy hz ht hs hi hj hpq hq hlc hg) rfl kk
theorem q_sliceL {t el : TypeId} {x y : Operand} {k f l c p sz : Nat} {kd : IntKind} {i : Int} {e : TE} (hL : LayOk P L = true) (hx : evA G n s x = some (.slice (some ⟨k, f, none⟩) l c)) (hy : evA G n s y = some (.int kd i)) (ht : lkT L t = some e) (hs : e.sl = some (el, sz)) (hi : i = (p : Int)) (hp : p < l) (hlc : l ≤ c) (hg : l ≤ 1000000) {dd : Nat} (kk : RK P G ops draw n (pc + 1) ((dd, (some (.slice (some ⟨k, f + p * sz, none⟩) (l - p) (l - p)))) :: s) h (acc ++ [([], [])]) KK) : RKq P G ops draw n pc s h acc KK o (some dd) (.slice t x (some y) none none) := by
  unfold RKq; exact fun hd_ ho hw hi_ => RK.val hi_ hd_ (o_sliceL hL ho hw hx hy ht hs hi hp hlc hg) rfl kk
theorem q_appD {as : Array Operand} {t el : TypeId} {x y : Operand} {kx jx jn kn m c f sz : Nat} {ox : AObj} {vs : List Value} {e ee : TE} (hL : LayOk P L = true) (has : as = #[x, y]) (hx : evA G n s x = some (.slice (some ⟨0, 0, some 0⟩) 0 0)) (hy : evA G n s y = some (.slice (some ⟨kx, f, none⟩) m c)) (ht : lkT L t = some e) (hs : e.sl = some (el, sz)) (hel : lkT L el = some ee) (hsz : ee.size = sz) (hm : 1 ≤ m) (hb : m * ee.bytes ≤ 1099511627776) (hbb : m ≤ 1099511627776) (hlx : h[jx]? = some (kx, ox)) (hln : h[jn]? = some (kn, .gone)) (hv : ox.seg f (m * sz) = some vs) {dd : Nat} {hx' : H} (hux : updO h [(jn, .row vs el sz)] = some hx') (kk : RK P G ops draw n (pc + 1) ((dd, (some (.slice (some ⟨kn, 0, none⟩) m grown))) :: s) hx' (acc ++ [([jx, jn], ([(jn, .row vs el sz)] : List (Nat × AObj)).map (·.1))]) KK) : RKq P G ops draw n pc s h acc KK o (some dd) (.call { callee := .builtin .append, args := as, argTypes := #[t, t] }) := by
  unfold RKq; exact fun hd_ ho hw hi_ => RK.val hi_ hd_ (o_appD hL ho hw has hx hy ht hs hel hsz hm hb hbb hlx hln hv) hux kk
theorem q_appDd {as : Array Operand} {t el : TypeId} {x y : Operand} {sz : Nat} {e : TE} (hL : LayOk P L = true) (has : as = #[x, y]) (hx : evA G n s x = some (.slice (some ⟨0, 0, some 0⟩) 0 0)) (hy : evA G n s y = some (.slice (some ⟨0, 0, some 0⟩) 0 0)) (ht : lkT L t = some e) (hs : e.sl = some (el, sz)) {dd : Nat} (kk : RK P G ops draw n (pc + 1) ((dd, (some (.slice (some ⟨0, 0, some 0⟩) 0 0))) :: s) h (acc ++ [([], [])]) KK) : RKq P G ops draw n pc s h acc KK o (some dd) (.call { callee := .builtin .append, args := as, argTypes := #[t, t] }) := by
  unfold RKq; exact fun hd_ ho hw hi_ => RK.val hi_ hd_ (o_appDd hL ho hw has hx hy ht hs) rfl kk
theorem q_makeMap {t : TypeId} {j k : Nat} (hl : h[j]? = some (k, .gone)) {dd : Nat} {hx' : H} (hux : updO h [(j, .obj (.map #[] 0))] = some hx') (kk : RK P G ops draw n (pc + 1) ((dd, (some (.map (some k)))) :: s) hx' (acc ++ [([j], ([(j, .obj (.map #[] 0))] : List (Nat × AObj)).map (·.1))]) KK) : RKq P G ops draw n pc s h acc KK o (some dd) (.makeMap t none) := by
  unfold RKq; exact fun hd_ ho hw hi_ => RK.val hi_ hd_ (o_makeMap ho hw hl) hux kk
theorem q_buildZ {t el : TypeId} {sz j k : Nat} {parts : Array (Nat × Operand)} {e ee : TE} (hL : LayOk P L = true) (hp : parts.toList = []) (ht : lkT L t = some e) (hs : e.sl = some (el, sz)) (hel : lkT L el = some ee) (hl : h[j]? = some (k, .gone)) {dd : Nat} {hx' : H} (hux : updO h [(j, .cells [] el)] = some hx') (kk : RK P G ops draw n (pc + 1) ((dd, (some (.slice (some ⟨0, 0, some 0⟩) 0 0))) :: s) hx' (acc ++ [([j], ([(j, .cells [] el)] : List (Nat × AObj)).map (·.1))]) KK) : RKq P G ops draw n pc s h acc KK o (some dd) (.buildSlice t 0 parts) := by
  unfold RKq; exact fun hd_ ho hw hi_ => RK.val hi_ hd_ (o_buildZ hL ho hw hp ht hs hel hl) hux kk
theorem q_ifL {t u q : TypeId} {x y : Operand} {v : Value} (hp : isIface P t = true) (hx : evA G n s x = some .nilIface) (hy : evA G n s y = some (.iface q v)) {dd : Nat} (kk : RK P G ops draw n (pc + 1) ((dd, (some (.bool false))) :: s) h (acc ++ [([], [])]) KK) : RKq P G ops draw n pc s h acc KK o (some dd) (.binOp .eql t x y u) := by
  unfold RKq; exact fun hd_ ho hw hi_ => RK.val hi_ hd_ (o_ifL ho hw hp hx hy) rfl kk
theorem q_slnt {t u el : TypeId} {sz : Nat} {x : Operand} {e : TE} (hL : LayOk P L = true) (hx : evA G n s x = some (.slice none 0 0)) (ht : lkT L t = some e) (hs : e.sl = some (el, sz)) {dd : Nat} (kk : RK P G ops draw n (pc + 1) ((dd, (some (.bool true))) :: s) h (acc ++ [([], [])]) KK) : RKq P G ops draw n pc s h acc KK o (some dd) (.binOp .eql t x (.const (.slice none 0 0)) u) := by
  unfold RKq; exact fun hd_ ho hw hi_ => RK.val hi_ hd_ (o_slnt hL ho hw hx ht hs) rfl kk
theorem q_slnf {t u el : TypeId} {sz k f l c : Nat} {x : Operand} {e : TE} (hL : LayOk P L = true) (hx : evA G n s x = some (.slice (some ⟨k, f, none⟩) l c)) (ht : lkT L t = some e) (hs : e.sl = some (el, sz)) {dd : Nat} (kk : RK P G ops draw n (pc + 1) ((dd, (some (.bool false))) :: s) h (acc ++ [([], [])]) KK) : RKq P G ops draw n pc s h acc KK o (some dd) (.binOp .eql t x (.const (.slice none 0 0)) u) := by
  unfold RKq; exact fun hd_ ho hw hi_ => RK.val hi_ hd_ (o_slnf hL ho hw hx ht hs) rfl kk
theorem q_slnd {t u el : TypeId} {sz : Nat} {x : Operand} {e : TE} (hL : LayOk P L = true) (hx : evA G n s x = some (.slice (some ⟨0, 0, some 0⟩) 0 0)) (ht : lkT L t = some e) (hs : e.sl = some (el, sz)) {dd : Nat} (kk : RK P G ops draw n (pc + 1) ((dd, (some (.bool false))) :: s) h (acc ++ [([], [])]) KK) : RKq P G ops draw n pc s h acc KK o (some dd) (.binOp .eql t x (.const (.slice none 0 0)) u) := by
  unfold RKq; exact fun hd_ ho hw hi_ => RK.val hi_ hd_ (o_slnd hL ho hw hx ht hs) rfl kk
theorem q_appDz {as : Array Operand} {t el : TypeId} {x y : Operand} {sz k f c : Nat} {e : TE} (hL : LayOk P L = true) (has : as = #[x, y]) (hx : evA G n s x = some (.slice (some ⟨0, 0, some 0⟩) 0 0)) (hy : evA G n s y = some (.slice (some ⟨k, f, none⟩) 0 c)) (ht : lkT L t = some e) (hs : e.sl = some (el, sz)) {dd : Nat} (kk : RK P G ops draw n (pc + 1) ((dd, (some (.slice (some ⟨0, 0, some 0⟩) 0 0))) :: s) h (acc ++ [([], [])]) KK) : RKq P G ops draw n pc s h acc KK o (some dd) (.call { callee := .builtin .append, args := as, argTypes := #[t, t] }) := by
  unfold RKq; exact fun hd_ ho hw hi_ => RK.val hi_ hd_ (o_appDz hL ho hw has hx hy ht hs) rfl kk
end
end Go.Proofs.YtekcchmnncefhaaGreatDoorAB
