/- A relation between values over names and values over blocks, and a walk over it: what each operation does, in any drawn order.
   By an AI agent. -/
import Derived.Calls
import Derived.Orders
import Derived.Laws.Tables
import Derived.Laws.Cells
import Derived.Laws.CopyRow
import Derived.Laws.Rows
import Derived.Tactics
import Derived.KernelRfl
import Derived.Laws.Append
import Derived.Laws.AppendOwn
import Derived.Below
set_option linter.unusedVariables false
set_option linter.unusedSimpArgs false
/-! Abstract values: names stand for blocks. -/
namespace Go.Proofs.YtekcchmnncefhaaGreatDoorAB
open Go
/-- Names to blocks; the capacity of a slice that has grown there. -/
structure Ren where
  b : Nat → Option Nat
  c : Nat → Nat
instance : CoeFun Ren (fun _ => Nat → Option Nat) := ⟨Ren.b⟩
/-- The capacity, over names, of a slice that the program itself has grown. -/
def grown : Nat := 1180591620717411303424
mutual
/-- A value over names, and one over blocks. -/
inductive VR (ρ : Ren) : Value → Value → Prop
  | bool (b : Bool) : VR ρ (.bool b) (.bool b)
  | int (k : IntKind) (n : Int) : VR ρ (.int k n) (.int k n)
  | float (k : FloatKind) (b : Nat) : VR ρ (.float k b) (.float k b)
  | complex (k : FloatKind) (a b : Nat) : VR ρ (.complex k a b) (.complex k a b)
  | string (s : ByteArray) : VR ρ (.string s) (.string s)
  | ptrNil : VR ρ (.pointer none) (.pointer none)
  | ptr {i b : Nat} (o : Nat) (s : Option Nat) (h : ρ i = some b) : VR ρ (.pointer (some ⟨i, o, s⟩)) (.pointer (some ⟨b, o, s⟩))
  | sliceNil (l c : Nat) : VR ρ (.slice none l c) (.slice none l c)
  | slice {i b : Nat} (o : Nat) (s : Option Nat) (l c c' : Nat) (h : ρ i = some b) (hc : (l ≤ c → l ≤ c') ∧ (c = grown → c' = ρ.c i)) : VR ρ (.slice (some ⟨i, o, none⟩) l c) (.slice (some ⟨b, o, none⟩) l c')
  | dead (x : Addr) : VR ρ (.slice (some ⟨0, 0, some 0⟩) 0 0) (.slice (some x) 0 0)
  | mapNil : VR ρ (.map none) (.map none)
  | map {i b : Nat} (h : ρ i = some b) : VR ρ (.map (some i)) (.map (some b))
  | func (f : Fn) {xs xs' ys ys' : List Value} (hx : VRL ρ xs xs') (hy : VRL ρ ys ys') : VR ρ (.func f ⟨xs⟩ ⟨ys⟩) (.func f ⟨xs'⟩ ⟨ys'⟩)
  | nilFunc : VR ρ .nilFunc .nilFunc
  | iface (t : TypeId) {v v' : Value} (h : VR ρ v v') : VR ρ (.iface t v) (.iface t v')
  | nilIface : VR ρ .nilIface .nilIface
  | agg {xs xs' : List Value} (h : VRL ρ xs xs') : VR ρ (.agg ⟨xs⟩) (.agg ⟨xs'⟩)
  | tuple {xs xs' : List Value} (h : VRL ρ xs xs') : VR ρ (.tuple ⟨xs⟩) (.tuple ⟨xs'⟩)
inductive VRL (ρ : Ren) : List Value → List Value → Prop
  | nil : VRL ρ [] []
  | cons {x x' : Value} {xs xs' : List Value} (h : VR ρ x x') (hs : VRL ρ xs xs') : VRL ρ (x :: xs) (x' :: xs')
end
structure Ext (ρ ρ' : Ren) : Prop where
  b : ∀ i b, ρ i = some b → ρ' i = some b
  c : ∀ i b, ρ i = some b → ρ'.c i = ρ.c i
theorem Ext.refl (ρ : Ren) : Ext ρ ρ := ⟨fun _ _ h => h, fun _ _ _ => rfl⟩
theorem Ext.trans {a b c : Ren} (h : Ext a b) (k : Ext b c) : Ext a c := ⟨fun i x hx => k.b i x (h.b i x hx), fun i x hx => (k.c i x (h.b i x hx)).trans (h.c i x hx)⟩
mutual
theorem VR.mono {ρ ρ' : Ren} (e : Ext ρ ρ') : ∀ {v v' : Value}, VR ρ v v' → VR ρ' v v'
  | _, _, .bool b => .bool b
  | _, _, .int k n => .int k n
  | _, _, .float k n => .float k n
  | _, _, .complex k a b => .complex k a b
  | _, _, .string s => .string s
  | _, _, .ptrNil => .ptrNil
  | _, _, .ptr o s h => .ptr o s (e.b _ _ h)
  | _, _, .sliceNil l c => .sliceNil l c
  | _, _, .slice o s l c c' h hc => .slice o s l c c' (e.b _ _ h) ⟨hc.1, fun x => (hc.2 x).trans (e.c _ _ h).symm⟩
  | _, _, .dead x => .dead x
  | _, _, .mapNil => .mapNil
  | _, _, .map h => .map (e.b _ _ h)
  | _, _, .func f hx hy => .func f (VRL.mono e hx) (VRL.mono e hy)
  | _, _, .nilFunc => .nilFunc
  | _, _, .iface t h => .iface t (VR.mono e h)
  | _, _, .nilIface => .nilIface
  | _, _, .agg h => .agg (VRL.mono e h)
  | _, _, .tuple h => .tuple (VRL.mono e h)
theorem VRL.mono {ρ ρ' : Ren} (e : Ext ρ ρ') : ∀ {v v' : List Value}, VRL ρ v v' → VRL ρ' v v'
  | _, _, .nil => .nil
  | _, _, .cons h hs => .cons (VR.mono e h) (VRL.mono e hs)
end
section
variable {ρ : Ren}
@[simp] theorem vr_bool {b : Bool} {v : Value} : VR ρ (.bool b) v ↔ v = .bool b := ⟨fun h => by cases h; rfl, fun h => by subst h; exact .bool b⟩
@[simp] theorem vr_int {k : IntKind} {n : Int} {v : Value} : VR ρ (.int k n) v ↔ v = .int k n := ⟨fun h => by cases h; rfl, fun h => by subst h; exact .int k n⟩
@[simp] theorem vr_float {k : FloatKind} {n : Nat} {v : Value} : VR ρ (.float k n) v ↔ v = .float k n := ⟨fun h => by cases h; rfl, fun h => by subst h; exact .float k n⟩
@[simp] theorem vr_complex {k : FloatKind} {n m : Nat} {v : Value} : VR ρ (.complex k n m) v ↔ v = .complex k n m := ⟨fun h => by cases h; rfl, fun h => by subst h; exact .complex k n m⟩
@[simp] theorem vr_string {s : ByteArray} {v : Value} : VR ρ (.string s) v ↔ v = .string s := ⟨fun h => by cases h; rfl, fun h => by subst h; exact .string s⟩
@[simp] theorem vr_ptrNil {v : Value} : VR ρ (.pointer none) v ↔ v = .pointer none := ⟨fun h => by cases h; rfl, fun h => by subst h; exact .ptrNil⟩
@[simp] theorem vr_ptr {i o : Nat} {s : Option Nat} {v : Value} : VR ρ (.pointer (some ⟨i, o, s⟩)) v ↔ ∃ b, ρ i = some b ∧ v = .pointer (some ⟨b, o, s⟩) :=
  ⟨fun h => by cases h with | ptr _ _ h => exact ⟨_, h, rfl⟩, fun ⟨b, h, e⟩ => e ▸ .ptr o s h⟩
@[simp] theorem vr_sliceNil {l c : Nat} {v : Value} : VR ρ (.slice none l c) v ↔ v = .slice none l c := ⟨fun h => by cases h; rfl, fun h => by subst h; exact .sliceNil l c⟩
@[simp] theorem vr_slice {i o l c : Nat} {v : Value} : VR ρ (.slice (some ⟨i, o, none⟩) l c) v ↔ ∃ b c', ρ i = some b ∧ ((l ≤ c → l ≤ c') ∧ (c = grown → c' = ρ.c i)) ∧ v = .slice (some ⟨b, o, none⟩) l c' :=
  ⟨fun h => by cases h with | slice _ _ _ _ c' h hc => exact ⟨_, c', h, hc, rfl⟩, fun ⟨b, c', h, hc, e⟩ => e ▸ .slice o none l c c' h hc⟩
theorem vr_dead {v : Value} (h : VR ρ (.slice (some ⟨0, 0, some 0⟩) 0 0) v) : ∃ x, v = .slice (some x) 0 0 := by
  cases h with
  | dead x => exact ⟨_, rfl⟩
theorem vr_sliceSome {a : Addr} {l c : Nat} {v : Value} (h : VR ρ (.slice (some a) l c) v) : ∃ a' c', v = .slice (some a') l c' := by
  cases h with
  | slice o s l c c' h hc => exact ⟨_, _, rfl⟩
  | dead x => exact ⟨_, _, rfl⟩
@[simp] theorem vr_mapNil {v : Value} : VR ρ (.map none) v ↔ v = .map none := ⟨fun h => by cases h; rfl, fun h => by subst h; exact .mapNil⟩
@[simp] theorem vr_map {i : Nat} {v : Value} : VR ρ (.map (some i)) v ↔ ∃ b, ρ i = some b ∧ v = .map (some b) :=
  ⟨fun h => by cases h with | map h => exact ⟨_, h, rfl⟩, fun ⟨b, h, e⟩ => e ▸ .map h⟩
@[simp] theorem vr_nilFunc {v : Value} : VR ρ .nilFunc v ↔ v = .nilFunc := ⟨fun h => by cases h; rfl, fun h => by subst h; exact .nilFunc⟩
@[simp] theorem vr_nilIface {v : Value} : VR ρ .nilIface v ↔ v = .nilIface := ⟨fun h => by cases h; rfl, fun h => by subst h; exact .nilIface⟩
@[simp] theorem vr_iface {t : TypeId} {x v : Value} : VR ρ (.iface t x) v ↔ ∃ x', VR ρ x x' ∧ v = .iface t x' :=
  ⟨fun h => by cases h with | iface _ h => exact ⟨_, h, rfl⟩, fun ⟨b, h, e⟩ => e ▸ .iface t h⟩
@[simp] theorem vr_agg {xs : Array Value} {v : Value} : VR ρ (.agg xs) v ↔ ∃ xs', VRL ρ xs.toList xs' ∧ v = .agg ⟨xs'⟩ :=
  ⟨fun h => by cases h with | agg h => exact ⟨_, h, rfl⟩, fun ⟨b, h, e⟩ => e ▸ .agg h⟩
@[simp] theorem vr_tuple {xs : Array Value} {v : Value} : VR ρ (.tuple xs) v ↔ ∃ xs', VRL ρ xs.toList xs' ∧ v = .tuple ⟨xs'⟩ :=
  ⟨fun h => by cases h with | tuple h => exact ⟨_, h, rfl⟩, fun ⟨b, h, e⟩ => e ▸ .tuple h⟩
@[simp] theorem vr_func {f : Fn} {xs ys : Array Value} {v : Value} : VR ρ (.func f xs ys) v ↔ ∃ xs' ys', VRL ρ xs.toList xs' ∧ VRL ρ ys.toList ys' ∧ v = .func f ⟨xs'⟩ ⟨ys'⟩ :=
  ⟨fun h => by cases h with | func f hx hy => exact ⟨_, _, hx, hy, rfl⟩, fun ⟨_, _, h, k, e⟩ => e ▸ .func f h k⟩
@[simp] theorem vrl_nil {v : List Value} : VRL ρ [] v ↔ v = [] := ⟨fun h => by cases h; rfl, fun h => by subst h; exact .nil⟩
@[simp] theorem vrl_cons {x : Value} {xs v : List Value} : VRL ρ (x :: xs) v ↔ ∃ x' xs', VR ρ x x' ∧ VRL ρ xs xs' ∧ v = x' :: xs' :=
  ⟨fun h => by cases h with | cons h k => exact ⟨_, _, h, k, rfl⟩, fun ⟨_, _, h, k, e⟩ => e ▸ .cons h k⟩
theorem VRL.length : ∀ {xs xs' : List Value}, VRL ρ xs xs' → xs'.length = xs.length
  | _, _, .nil => rfl
  | _, _, .cons _ h => by simp [h.length]
theorem VRL.get : ∀ {xs xs' : List Value} (_ : VRL ρ xs xs') (i : Nat) {v : Value}, xs[i]? = some v → ∃ v', xs'[i]? = some v' ∧ VR ρ v v'
  | _, _, .nil, i, v, h => by simp at h
  | _, _, .cons hx _, 0, v, h => by simp at h; subst h; exact ⟨_, rfl, hx⟩
  | _, _, .cons _ hs, i + 1, v, h => by simpa using hs.get i (by simpa using h)
theorem VRL.set {v v' : Value} (hv : VR ρ v v') : ∀ {xs xs' : List Value} (_ : VRL ρ xs xs') (i : Nat), VRL ρ (xs.set i v) (xs'.set i v')
  | _, _, .nil, _ => .nil
  | _, _, .cons _ hs, 0 => .cons hv hs
  | _, _, .cons hx hs, i + 1 => .cons hx (hs.set hv i)
theorem VRL.append : ∀ {xs xs' ys ys' : List Value}, VRL ρ xs xs' → VRL ρ ys ys' → VRL ρ (xs ++ ys) (xs' ++ ys')
  | _, _, _, _, .nil, h => h
  | _, _, _, _, .cons hx hs, h => .cons hx (hs.append h)
theorem VRL.take : ∀ {xs xs' : List Value} (_ : VRL ρ xs xs') (n : Nat), VRL ρ (xs.take n) (xs'.take n)
  | _, _, .nil, n => by simp
  | _, _, .cons _ _, 0 => .nil
  | _, _, .cons hx hs, n + 1 => .cons hx (hs.take n)
theorem VRL.drop : ∀ {xs xs' : List Value} (_ : VRL ρ xs xs') (n : Nat), VRL ρ (xs.drop n) (xs'.drop n)
  | _, _, .nil, n => by simp
  | _, _, .cons hx hs, 0 => .cons hx hs
  | _, _, .cons _ hs, n + 1 => hs.drop n
/-- Values without a name in them. -/
def flat : Value → Bool
  | .bool _ | .int .. | .float .. | .complex .. | .string _ | .pointer none | .slice none _ _ | .map none | .nilFunc | .nilIface => true
  | .iface _ v => flat v
  | .func _ ⟨[]⟩ ⟨[]⟩ => true
  | .agg ⟨xs⟩ => flatL xs
  | .tuple ⟨xs⟩ => flatL xs
  | _ => false
where flatL : List Value → Bool
  | [] => true
  | x :: xs => flat x && flatL xs
mutual
theorem flat_vr : ∀ {v : Value}, flat v = true → VR ρ v v
  | .bool _, _ => .bool _
  | .int .., _ => .int ..
  | .float .., _ => .float ..
  | .complex .., _ => .complex ..
  | .string _, _ => .string _
  | .pointer none, _ => .ptrNil
  | .slice none _ _, _ => .sliceNil ..
  | .map none, _ => .mapNil
  | .nilFunc, _ => .nilFunc
  | .nilIface, _ => .nilIface
  | .iface _ v, h => .iface _ (flat_vr (v := v) (by simpa [flat] using h))
  | .func _ ⟨[]⟩ ⟨[]⟩, _ => .func _ .nil .nil
  | .agg ⟨xs⟩, h => .agg (flatL_vr (xs := xs) (by simpa [flat] using h))
  | .tuple ⟨xs⟩, h => .tuple (flatL_vr (xs := xs) (by simpa [flat] using h))
theorem flatL_vr : ∀ {xs : List Value}, flat.flatL xs = true → VRL ρ xs xs
  | [], _ => .nil
  | x :: xs, h => by
    have h' : flat x = true ∧ flat.flatL xs = true := by simpa [flat.flatL] using h
    exact .cons (flat_vr h'.1) (flatL_vr h'.2)
end
end
end Go.Proofs.YtekcchmnncefhaaGreatDoorAB

/-! Abstract memory: a list of names with what stands in their blocks; a world that agrees with it. -/
namespace Go.Proofs.YtekcchmnncefhaaGreatDoorAB
open Go
/-- What stands in a block: 'gone': the name is not used yet; 'lost': nothing is said; 'row': cells, with more of them behind, perhaps; 'ro': cells from a place on, that nobody writes; 'mark': this very block, of plain cells. -/
inductive AObj where
  | gone
  | lost
  | cells (cs : List Value) (ty : TypeId)
  | row (cs : List Value) (ty : TypeId) (sz : Nat)
  | ro (off : Nat) (cs : List Value)
  | obj (o : Obj)
  | mark (b : Nat)
abbrev H := List (Nat × AObj)
def AObj.wr : AObj → Bool
  | .cells .. | .row .. | .obj _ => true
  | _ => false
def AObj.live : AObj → Bool
  | .gone | .lost => false
  | _ => true
def OR (ρ : Ren) (k : Nat) : AObj → Obj → Prop
  | .cells cs ty, o => ∃ cs', VRL ρ cs cs' ∧ o = .cells ⟨cs'⟩ ty (0, 0)
  | .row cs ty sz, o => ∃ cs' ex, VRL ρ cs cs' ∧ ρ.c k * sz = (cs' ++ ex).length ∧ o = .cells ⟨cs' ++ ex⟩ ty (0, 0)
  | .ro off cs, o => ∃ arr ty fr, o = .cells arr ty fr ∧ VRL ρ cs ((arr.toList.drop off).take cs.length)
  | .obj x, o => o = x
  | .mark b, o => ρ k = some b ∧ ∃ arr ty, o = .cells arr ty (0, 0)
  | _, _ => False
theorem OR.mono {ρ ρ' : Ren} (e : Ext ρ ρ') {k b : Nat} (hk : ρ k = some b) : ∀ {a : AObj} {o : Obj}, OR ρ k a o → OR ρ' k a o
  | .cells .., _, ⟨cs', h, r⟩ => ⟨cs', h.mono e, r⟩
  | .row .., _, ⟨cs', ex, h, q, r⟩ => ⟨cs', ex, h.mono e, (e.c _ _ hk).symm ▸ q, r⟩
  | .ro .., _, ⟨arr, ty, fr, r, h⟩ => ⟨arr, ty, fr, r, h.mono e⟩
  | .obj _, _, h => h
  | .mark _, _, h => ⟨e.b _ _ h.1, h.2⟩
/-- An entry holds in a world. -/
def ER (ρ : Ren) (w : World) (e : Nat × AObj) : Prop :=
  (e.2 = .gone → ρ e.1 = none) ∧ (e.2.live = true → ∃ b o, ρ e.1 = some b ∧ w.heap[b]? = some o ∧ OR ρ e.1 e.2 o)
def Sep (ρ : Ren) (e e' : Nat × AObj) : Prop :=
  e.2 ≠ .lost → e'.2 ≠ .lost → ((e.2.wr = true ∨ e'.2.wr = true → ρ e.1 ≠ ρ e'.1) ∧ (e.2 = .gone ∨ e'.2 = .gone → e.1 ≠ e'.1))
theorem Sep.symm {ρ : Ren} {e e' : Nat × AObj} (h : Sep ρ e e') : Sep ρ e' e := fun a b =>
  let ⟨x, y⟩ := h b a
  ⟨fun k => Ne.symm (x k.symm), fun k => Ne.symm (y k.symm)⟩
structure Sim (G : Nat) (ρ : Ren) (h : H) (w : World) : Prop where
  dom : ∀ i b, ρ i = some b → b < w.heap.size
  ent : ∀ e ∈ h, ER ρ w e
  sep : ∀ (i j : Nat) (e e' : Nat × AObj), i ≠ j → h[i]? = some e → h[j]? = some e' → Sep ρ e e'
  glob : ∀ g, g < G → ρ g = some g
  fin : ∃ N, ∀ i, N ≤ i → ρ i = none
/-- From one world to a later one: only what is written in h changes. -/
structure Stp (ρ : Ren) (h : H) (w : World) (ρ' : Ren) (h' : H) (w' : World) : Prop where
  ext : Ext ρ ρ'
  new : ∀ k b, ρ k = none → ρ' k = some b → w.heap.size ≤ b ∨ ∃ e ∈ h, e.2.wr = true ∧ ρ e.1 = some b
  size : w.heap.size ≤ w'.heap.size
  os : w'.os = w.os
  tape : w'.tape = w.tape
  output : w'.output = w.output
  keep : ∀ b, b < w.heap.size → (∀ e ∈ h, e.2.wr = true → ρ e.1 ≠ some b) → w'.heap[b]? = w.heap[b]?
  der : ∀ e' ∈ h', e'.2.live = true → ∀ b, ρ' e'.1 = some b → w.heap.size ≤ b ∨ ∃ e ∈ h, e.2.live = true ∧ (e'.2.wr = true → e.2.wr = true) ∧ ρ e.1 = some b
  gon : ∀ e' ∈ h', e'.2 = .gone → e' ∈ h
theorem AObj.nl {a : AObj} (h : a.live = true) : a ≠ .lost := by rintro rfl; cases h
theorem AObj.lv {a : AObj} (h : a ≠ .lost) (k : a ≠ .gone) : a.live = true := by cases a <;> first | rfl | contradiction
theorem AObj.live_of_wr {a : AObj} (h : a.wr = true) : a.live = true := by cases a <;> simp_all [AObj.wr, AObj.live]
theorem Stp.refl (ρ : Ren) (h : H) (w : World) : Stp ρ h w ρ h w :=
  ⟨Ext.refl ρ, fun k b h0 h1 => absurd (h0.symm.trans h1) (by simp), Nat.le_refl _, rfl, rfl, rfl, fun _ _ _ => rfl, fun e he hl b hb => .inr ⟨e, he, hl, id, hb⟩, fun e he _ => he⟩
theorem Stp.trans {ρ ρ1 ρ2 : Ren} {h h1 h2 : H} {w w1 w2 : World} (a : Stp ρ h w ρ1 h1 w1) (c : Stp ρ1 h1 w1 ρ2 h2 w2) : Stp ρ h w ρ2 h2 w2 where
  ext := a.ext.trans c.ext
  new := fun k b h0 h2 => by
    cases hk : ρ1 k with
    | some b' =>
      have := c.ext.b k b' hk
      rw [h2] at this
      cases this
      exact a.new k b h0 hk
    | none =>
      rcases c.new k b hk h2 with hb | ⟨e, he, hw, hb⟩
      · exact .inl (Nat.le_trans a.size hb)
      · rcases a.der e he (AObj.live_of_wr hw) b hb with hb | ⟨e0, he0, _, hw0, hb0⟩
        · exact .inl hb
        · exact .inr ⟨e0, he0, hw0 hw, hb0⟩
  size := Nat.le_trans a.size c.size
  os := c.os.trans a.os
  tape := c.tape.trans a.tape
  output := c.output.trans a.output
  keep := fun b hb hno => by
    rw [c.keep b (Nat.lt_of_lt_of_le hb a.size) ?_, a.keep b hb hno]
    intro e he hw hbe
    rcases a.der e he (AObj.live_of_wr hw) b hbe with h3 | ⟨e0, he0, _, hw0, hb0⟩
    · omega
    · exact hno e0 he0 (hw0 hw) hb0
  der := fun e' he' hl b hb => by
    rcases c.der e' he' hl b hb with h3 | ⟨e, he, hle, hw, hbe⟩
    · exact .inl (Nat.le_trans a.size h3)
    · rcases a.der e he hle b hbe with h3 | ⟨e0, he0, hl0, hw0, hb0⟩
      · exact .inl h3
      · exact .inr ⟨e0, he0, hl0, fun h => hw0 (hw h), hb0⟩
  gon := fun e' he' hg => a.gon e' (c.gon e' he' hg) hg
/-- The entry at a place gets another object. -/
def upd (h : H) : List (Nat × AObj) → H
  | [] => h
  | (j, o) :: us => upd (h.modify j fun e => (e.1, o)) us
def pick (h : H) (js : List Nat) : H := js.filterMap (h[·]?)
/-- A small memory within a great one: at the places js. -/
structure Fits (h : H) (js : List Nat) (pre : H) : Prop where
  nodup : js.Nodup
  at_ : js.map (h[·]?) = pre.map some
theorem Fits.get {h pre : H} {js : List Nat} (f : Fits h js pre) {n j : Nat} (hj : js[n]? = some j) : h[j]? = pre[n]? ∧ n < pre.length := by
  have hl : js.length = pre.length := by simpa using congrArg List.length f.at_
  have hn : n < js.length := (List.getElem?_eq_some_iff.1 hj).1
  have := congrArg (·[n]?) f.at_
  simp only [List.getElem?_map, hj, Option.map_some] at this
  have hn' : n < pre.length := hl ▸ hn
  rw [List.getElem?_eq_getElem hn'] at this ⊢
  simp at this
  exact ⟨this, hn'⟩
theorem upd_other (us : List (Nat × AObj)) : ∀ (h : H) {i : Nat}, i ∉ us.map (·.1) → (upd h us)[i]? = h[i]? := by
  induction us with
  | nil => intro h i _; rfl
  | cons u us ih =>
    intro h i hi
    simp only [List.map_cons, List.mem_cons, not_or] at hi
    rw [upd, ih _ hi.2, List.getElem?_modify]
    have hne : u.1 ≠ i := fun e => hi.1 e.symm
    simp [hne]
theorem upd_at (us : List (Nat × AObj)) : ∀ (h : H) {j : Nat} {o : AObj} {e : Nat × AObj}, (us.map (·.1)).Nodup → (j, o) ∈ us → h[j]? = some e → (upd h us)[j]? = some (e.1, o) := by
  induction us with
  | nil => intro h j o e _ hm; cases hm
  | cons u us ih =>
    intro h j o e hn hm he
    simp only [List.map_cons, List.nodup_cons] at hn
    rcases List.mem_cons.1 hm with rfl | hm
    · rw [upd, upd_other _ _ hn.1, List.getElem?_modify]
      simp [he]
    · have hne : u.1 ≠ j := fun e' => hn.1 (e' ▸ List.mem_map.2 ⟨(j, o), hm, rfl⟩)
      rw [upd]
      exact ih _ hn.2 hm (by rw [List.getElem?_modify]; simp [he, hne])
/-- Small memory: objects are exchanged, names stay. -/
def wth (pre : H) (post : List AObj) : H := (pre.zip post).map fun (e, o) => (e.1, o)
theorem wth_get {pre : H} {post : List AObj} (hl : post.length = pre.length) {n : Nat} {e : Nat × AObj} (h : pre[n]? = some e) : ∃ o, post[n]? = some o ∧ (wth pre post)[n]? = some (e.1, o) := by
  have hn : n < pre.length := (List.getElem?_eq_some_iff.1 h).1
  refine ⟨post[n]'(hl ▸ hn), List.getElem?_eq_getElem _, ?_⟩
  unfold wth
  rw [List.getElem?_map, (List.getElem?_zip_eq_some (z := (e, post[n]'(hl ▸ hn)))).2 ⟨h, List.getElem?_eq_getElem _⟩]
  rfl
theorem Sim.small {G : Nat} {ρ : Ren} {h pre : H} {js : List Nat} {w : World} (s : Sim G ρ h w) (f : Fits h js pre) : Sim G ρ pre w where
  dom := s.dom
  glob := s.glob
  fin := s.fin
  ent := fun e he => by
    obtain ⟨n, hn, rfl⟩ := List.getElem_of_mem he
    have hl : js.length = pre.length := by simpa using congrArg List.length f.at_
    have := (f.get (n := n) (List.getElem?_eq_getElem (hl ▸ hn))).1
    rw [List.getElem?_eq_getElem hn] at this
    exact s.ent _ (List.mem_of_getElem? this)
  sep := fun i j e e' hij hi hj => by
    have hl : js.length = pre.length := by simpa using congrArg List.length f.at_
    have hni : i < js.length := hl ▸ (List.getElem?_eq_some_iff.1 hi).1
    have hnj : j < js.length := hl ▸ (List.getElem?_eq_some_iff.1 hj).1
    have h1 := (f.get (n := i) (List.getElem?_eq_getElem hni)).1
    have h2 := (f.get (n := j) (List.getElem?_eq_getElem hnj)).1
    refine s.sep js[i] js[j] e e' (fun he => hij ?_) (h1.trans hi) (h2.trans hj)
    exact (List.getElem_inj f.nodup).1 he
/-- The frame: what holds of a small memory holds of a great one about it. -/
theorem Sim.frame {G : Nat} {ρ ρ' : Ren} {h pre : H} {js : List Nat} {post : List AObj} {w w' : World} (s : Sim G ρ h w) (f : Fits h js pre) (hl : post.length = pre.length)
    (s' : Sim G ρ' (wth pre post) w') (st : Stp ρ pre w ρ' (wth pre post) w') (fr : ∀ (i : Nat) (e : Nat × AObj), h[i]? = some e → i ∉ js → e.2 = .gone → ρ' e.1 = none) :
    Sim G ρ' (upd h (js.zip post)) w' ∧ Stp ρ h w ρ' (upd h (js.zip post)) w' := by
  have hjl : js.length = pre.length := by simpa using congrArg List.length f.at_
  have hm : (js.zip post).map (·.1) = js := by rw [List.map_fst_zip]; omega
  -- every place: within js, or not
  have inn : ∀ (i : Nat) (e' : Nat × AObj), i ∈ js → (upd h (js.zip post))[i]? = some e' → ∃ n : Nat, js[n]? = some i ∧ (wth pre post)[n]? = some e' ∧ ∃ e, pre[n]? = some e ∧ h[i]? = some e ∧ e.1 = e'.1 := by
    intro i e' hi he'
    obtain ⟨n, hn, rfl⟩ := List.getElem_of_mem hi
    obtain ⟨h1, h2⟩ := f.get (n := n) (List.getElem?_eq_getElem hn)
    obtain ⟨o, ho, hw⟩ := wth_get hl (List.getElem?_eq_getElem h2)
    have hu := upd_at (js.zip post) h (j := js[n]) (o := o) (e := pre[n]) (by rw [hm]; exact f.nodup) (List.mem_of_getElem? (i := n) ((List.getElem?_zip_eq_some (z := (js[n], o))).2 ⟨List.getElem?_eq_getElem hn, ho⟩)) (h1.trans (List.getElem?_eq_getElem h2))
    rw [hu] at he'
    cases he'
    exact ⟨n, List.getElem?_eq_getElem hn, hw, _, List.getElem?_eq_getElem h2, h1.trans (List.getElem?_eq_getElem h2), rfl⟩
  have out : ∀ i, i ∉ js → (upd h (js.zip post))[i]? = h[i]? := fun i hi => upd_other _ _ (by rw [hm]; exact hi)
  have premem : ∀ e ∈ pre, ∃ i ∈ js, h[i]? = some e := by
    intro e he
    obtain ⟨n, hn, rfl⟩ := List.getElem_of_mem he
    have := (f.get (n := n) (List.getElem?_eq_getElem (hjl ▸ hn))).1
    exact ⟨js[n]'(hjl ▸ hn), List.getElem_mem _, this.trans (List.getElem?_eq_getElem hn)⟩
  have kept : ∀ (i : Nat) (e : Nat × AObj) (b : Nat) (o : Obj), i ∉ js → h[i]? = some e → e.2.live = true → ρ e.1 = some b → w.heap[b]? = some o → w'.heap[b]? = some o := by
    intro i e b o hi he hlv hb ho
    rw [st.keep b (s.dom _ _ hb) ?_, ho]
    intro e0 he0 hw0 hb0
    obtain ⟨j, hj, he0'⟩ := premem e0 he0
    have hne : j ≠ i := fun e => hi (e ▸ hj)
    have := (s.sep j i e0 e hne he0' he (AObj.nl (AObj.live_of_wr hw0)) (AObj.nl hlv)).1 (.inl hw0)
    exact this (hb0.trans hb.symm)
  have live_of : ∀ (i : Nat) (e : Nat × AObj), h[i]? = some e → e.2.live = true → ∃ b, ρ e.1 = some b ∧ b < w.heap.size := by
    intro i e he hlv
    obtain ⟨b, o, hb, ho, _⟩ := (s.ent e (List.mem_of_getElem? he)).2 hlv
    exact ⟨b, hb, s.dom _ _ hb⟩
  have mixed : ∀ (i j : Nat) (e e' : Nat × AObj), i ∈ js → j ∉ js → (upd h (js.zip post))[i]? = some e → h[j]? = some e' → Sep ρ' e e' := by
    intro i j e e' hi hj he he'
    obtain ⟨n, hn, hw, e0, hp, h0, hname⟩ := inn i e hi he
    have hij : i ≠ j := fun x => hj (x ▸ hi)
    intro hlost hlost'
    have hmem : e ∈ wth pre post := List.mem_of_getElem? hw
    by_cases hg : e.2 = .gone
    · have hgp := st.gon e hmem hg
      obtain ⟨i2, hi2, hh2⟩ := premem e hgp
      have hij2 : i2 ≠ j := fun x => hj (x ▸ hi2)
      have hold := s.sep i2 j e e' hij2 hh2 he' hlost hlost'
      refine ⟨fun hwr => ?_, fun _ => hold.2 (.inl hg)⟩
      have hew : e'.2.wr = true := by
        rcases hwr with h1 | h1
        · rw [hg] at h1; cases h1
        · exact h1
      obtain ⟨b, hb, _⟩ := live_of j e' he' (AObj.live_of_wr hew)
      have h3 := (s'.ent e hmem).1 hg
      rw [h3, st.ext.b _ _ hb]
      simp
    · have hlv : e.2.live = true := AObj.lv hlost hg
      obtain ⟨b, o, hb, ho, _⟩ := (s'.ent e hmem).2 hlv
      by_cases hg' : e'.2 = .gone
      · have h4 := fr j e' he' hj hg'
        refine ⟨fun _ => by rw [hb, h4]; simp, fun _ hx => ?_⟩
        rw [hx, h4] at hb
        cases hb
      · have hlv' : e'.2.live = true := AObj.lv hlost' hg'
        obtain ⟨b', hb', hlt'⟩ := live_of j e' he' hlv'
        refine ⟨fun hwr => ?_, fun h5 => by rcases h5 with h5 | h5 <;> contradiction⟩
        rw [hb, st.ext.b _ _ hb']
        intro hx
        have hx : b = b' := Option.some.inj hx
        subst hx
        rcases st.der e hmem hlv b hb with h6 | ⟨e1, he1, hl1, hw1, hb1⟩
        · omega
        · obtain ⟨i3, hi3, hh3⟩ := premem e1 he1
          have hij3 : i3 ≠ j := fun x => hj (x ▸ hi3)
          have hold := (s.sep i3 j e1 e' hij3 hh3 he' (AObj.nl hl1) hlost').1 (by rcases hwr with h1 | h1; exact .inl (hw1 h1); exact .inr h1)
          exact hold (hb1.trans hb'.symm)
  refine ⟨⟨s'.dom, ?_, ?_, s'.glob, s'.fin⟩, ⟨st.ext, ?_, st.size, st.os, st.tape, st.output, ?_, ?_, ?_⟩⟩
  · intro e he
    obtain ⟨i, hi⟩ := List.mem_iff_getElem?.1 he
    by_cases hjs : i ∈ js
    · obtain ⟨n, _, hw, _⟩ := inn i e hjs hi
      exact s'.ent e (List.mem_of_getElem? hw)
    · rw [out i hjs] at hi
      refine ⟨fun hg => fr i e hi hjs hg, fun hlv => ?_⟩
      obtain ⟨b, o, hb, ho, hor⟩ := (s.ent e (List.mem_of_getElem? hi)).2 hlv
      exact ⟨b, o, st.ext.b _ _ hb, kept i e b o hjs hi hlv hb ho, hor.mono st.ext hb⟩
  · intro i j e e' hij hi hj
    by_cases h1 : i ∈ js <;> by_cases h2 : j ∈ js
    · obtain ⟨n, hn, hw, _⟩ := inn i e h1 hi
      obtain ⟨m, hm', hw', _⟩ := inn j e' h2 hj
      refine s'.sep n m e e' (fun x => hij ?_) hw hw'
      subst x
      rw [hn] at hm'
      cases hm'
      rfl
    · rw [out j h2] at hj
      exact mixed i j e e' h1 h2 hi hj
    · rw [out i h1] at hi
      exact (mixed j i e' e h2 h1 hj hi).symm
    · rw [out i h1] at hi
      rw [out j h2] at hj
      have hold := s.sep i j e e' hij hi hj
      intro l1 l2
      obtain ⟨o1, o2⟩ := hold l1 l2
      refine ⟨fun hwr => ?_, o2⟩
      have h3 := o1 hwr
      have val : ∀ (i : Nat) (e : Nat × AObj), i ∉ js → h[i]? = some e → e.2 ≠ .lost → (e.2 = .gone ∧ ρ' e.1 = none ∧ ρ e.1 = none) ∨ (ρ' e.1 = ρ e.1) := by
        intro i e hi he hlo
        by_cases hg : e.2 = .gone
        · exact .inl ⟨hg, fr i e he hi hg, (s.ent e (List.mem_of_getElem? he)).1 hg⟩
        · obtain ⟨b, hb, _⟩ := live_of i e he (AObj.lv hlo hg)
          exact .inr (by rw [hb, st.ext.b _ _ hb])
      have v1 := val i e h1 hi l1
      have v2 := val j e' h2 hj l2
      have q1 : ρ' e.1 = ρ e.1 := by rcases v1 with ⟨_, a, b⟩ | a; rw [a, b]; exact a
      have q2 : ρ' e'.1 = ρ e'.1 := by rcases v2 with ⟨_, a, b⟩ | a; rw [a, b]; exact a
      rw [q1, q2]
      exact h3
  · intro k b h0 h1
    rcases st.new k b h0 h1 with h2 | ⟨e, he, hw, hb⟩
    · exact .inl h2
    · obtain ⟨i, _, hi⟩ := premem e he
      exact .inr ⟨e, List.mem_of_getElem? hi, hw, hb⟩
  · intro b hb hno
    refine st.keep b hb fun e he hw => ?_
    obtain ⟨i, _, hi⟩ := premem e he
    exact hno e (List.mem_of_getElem? hi) hw
  · intro e' he' hlv b hb
    obtain ⟨i, hi⟩ := List.mem_iff_getElem?.1 he'
    by_cases hjs : i ∈ js
    · obtain ⟨n, _, hw, _⟩ := inn i e' hjs hi
      rcases st.der e' (List.mem_of_getElem? hw) hlv b hb with h2 | ⟨e, he, hl2, hw2, hb2⟩
      · exact .inl h2
      · obtain ⟨i, _, hi⟩ := premem e he
        exact .inr ⟨e, List.mem_of_getElem? hi, hl2, hw2, hb2⟩
    · rw [out i hjs] at hi
      obtain ⟨b', hb', _⟩ := live_of i e' hi hlv
      have := st.ext.b _ _ hb'
      rw [this] at hb
      cases hb
      exact .inr ⟨e', List.mem_of_getElem? hi, hlv, id, hb'⟩
  · intro e' he' hg
    obtain ⟨i, hi⟩ := List.mem_iff_getElem?.1 he'
    by_cases hjs : i ∈ js
    · obtain ⟨n, _, hw, _⟩ := inn i e' hjs hi
      have := st.gon e' (List.mem_of_getElem? hw) hg
      obtain ⟨i, _, hi⟩ := premem e' this
      exact List.mem_of_getElem? hi
    · rw [out i hjs] at hi
      exact List.mem_of_getElem? hi
end Go.Proofs.YtekcchmnncefhaaGreatDoorAB

/-! Temporaries over names; one operation's law. -/
namespace Go.Proofs.YtekcchmnncefhaaGreatDoorAB
open Go
abbrev T := List (Option Value)
def TR (ρ : Ren) (t : T) (tm : List Value) : Prop := t.length = tm.length ∧ ∀ (i : Nat) (v : Value), t[i]? = some (some v) → ∃ v', tm[i]? = some v' ∧ VR ρ v v'
theorem TR.mono {ρ ρ' : Ren} {t : T} {tm : List Value} (e : Ext ρ ρ') (h : TR ρ t tm) : TR ρ' t tm :=
  ⟨h.1, fun i v hv => let ⟨v', a, b⟩ := h.2 i v hv; ⟨v', a, b.mono e⟩⟩
theorem TR.set {ρ : Ren} {t : T} {tm : List Value} (h : TR ρ t tm) (d : Nat) {v : Option Value} {v' : Value} (hv : ∀ x, v = some x → VR ρ x v') : TR ρ (t.set d v) (tm.set d v') := by
  refine ⟨by simp [h.1], fun i x hx => ?_⟩
  rw [List.getElem?_set] at hx ⊢
  by_cases hd : d = i
  · subst hd
    rw [if_pos rfl] at hx ⊢
    by_cases hl : d < t.length
    · rw [if_pos hl] at hx
      rw [if_pos (h.1 ▸ hl)]
      exact ⟨v', rfl, hv x (by simpa using hx)⟩
    · rw [if_neg hl] at hx
      cases hx
  · rw [if_neg hd] at hx ⊢
    exact h.2 i x hx
def ev (G : Nat) (t : T) : Operand → Option Value
  | .tmp i => match t[i]? with
    | some x => x
    | none => none
  | .const v => if flat v then some v else none
  | .global g => if g < G then some (.pointer (some ⟨g, 0, none⟩)) else none
  | .func f => some (.func (.func f) #[] #[])
theorem ev_vr {G : Nat} {ρ : Ren} {t : T} {a : Act} {x : Operand} {v : Value} (hg : ∀ g, g < G → ρ g = some g) (h : TR ρ t a.tmps.toList) (hv : ev G t x = some v) : VR ρ v (a.eval x) := by
  cases x with
  | tmp i =>
    simp only [ev] at hv
    split at hv
    · rename_i y hy
      subst hv
      obtain ⟨v', h1, h2⟩ := h.2 i v hy
      simp only [Act.eval]
      have : a.tmps[i]? = some v' := by simpa using h1
      simpa [this] using h2
    · cases hv
  | const c =>
    simp only [ev] at hv
    split at hv
    · cases hv
      exact flat_vr (by assumption)
    · cases hv
  | global g =>
    simp only [ev] at hv
    split at hv
    · cases hv
      exact .ptr 0 none (hg g (by assumption))
    · cases hv
  | func f =>
    simp only [ev] at hv
    cases hv
    exact .func _ .nil .nil
theorem ev_congr {G : Nat} {t t2 : T} {x : Operand} (h : ∀ i, x = .tmp i → t2[i]? = t[i]?) : ev G t2 x = ev G t x := by
  cases x with
  | tmp i => simp only [ev, h i rfl]
  | _ => rfl
/-- One operation, run or left out by its guard. -/
def opw (P : Program) (ops : Array Oper) (o : Oper) (a : Act) (w : World) (K : Act → World → Prop) : Prop :=
  if Region.wanted o (yielded ops a.tmps) = true then o.wp P a w K (fun _ _ _ => False) else K (a.put o.dst undef) w
theorem Oper.wp_weak {P : Program} {o : Oper} {a : Act} {w : World} {K K' : Act → World → Prop} {Q : Exit → Act → World → Prop} (h : ∀ a w, K a w → K' a w)
    (hh : o.wp P a w K (fun _ _ _ => False)) : o.wp P a w K' Q := by
  unfold Oper.wp at *
  generalize (execOp a.eval o).run P w = r at *
  cases r with
  | ok n w' =>
    cases n <;> simp only [Oper.upon] at hh ⊢ <;>
      first
        | exact h _ _ hh
        | (refine Calls.mono hh (fun e w'' he => ?_); cases e <;> first | exact h _ _ he | exact he.elim | (obtain ⟨_, _, x⟩ := he; exact x.elim))
        | exact Rows.mono hh (fun _ _ he => h _ _ he)
  | halt x w' => cases x <;> simp only [Oper.upon] at hh ⊢
theorem opw_wpOp {P : Program} {ops : Array Oper} {o : Oper} {a : Act} {w : World} {K K' : Act → World → Prop} {Q : Exit → Act → World → Prop} {i : Nat} (ho : ops[i]? = some o) (h : ∀ a w, K a w → K' a w)
    (hh : opw P ops o a w K) : wpOp P ops Q i K' a w := by
  unfold opw at hh
  unfold wpOp
  simp only [ho]
  split
  · rename_i hw
    rw [if_pos hw] at hh
    exact .inl (Oper.wp_weak h hh)
  · rename_i hw
    rw [if_neg hw] at hh
    exact h _ _ hh
def Free (ρ : Ren) (h : H) (R : List Nat) : Prop := ∀ k ∈ R, ρ k = none ∧ ∀ e ∈ h, e.2 = .gone → e.1 ≠ k
/-- The law of an operation: at the places js of h, what it leaves there; its value. -/
structure OPJ (P : Program) (G : Nat) (ops : Array Oper) (o : Oper) (t : T) (h : H) (js : List Nat) (us : List (Nat × AObj)) (v : Option Value) (pre : H) (post : List AObj) : Prop where
  fits : Fits h js pre
  len : post.length = pre.length
  same : ∀ h2 : H, (∀ j ∈ js, h2[j]? = h[j]?) → upd h2 (js.zip post) = upd h2 us
  sub : ∀ u ∈ us, u.1 ∈ js
  run : ∀ (t2 : T) (ρ : Ren) (w : World) (a : Act) (R : List Nat), (∀ s ∈ o.looksAt ops, t2[s]? = t[s]?) → Sim G ρ pre w → TR ρ t2 a.tmps.toList → Free ρ pre R → a.defers = [] →
    opw P ops o a w fun a' w' => ∃ v' ρ', a' = a.put o.dst v' ∧ (∀ x, v = some x → VR ρ' x v') ∧ Sim G ρ' (wth pre post) w' ∧ Stp ρ pre w ρ' (wth pre post) w' ∧ ∀ k ∈ R, ρ' k = none
def putT (t : T) (d : Option Tmp) (v : Option Value) : T := match d with
  | some d => t.set d v
  | none => t
theorem TR.put {ρ : Ren} {t : T} {a : Act} (h : TR ρ t a.tmps.toList) (d : Option Tmp) {v : Option Value} {v' : Value} (hv : ∀ x, v = some x → VR ρ x v') : TR ρ (putT t d v) (a.put d v').tmps.toList := by
  cases d with
  | none => exact h
  | some d => simpa [putT, Act.put] using h.set d hv
theorem Act.put_defers_eq (a : Act) (d : Option Tmp) (v : Value) : (a.put d v).defers = a.defers := by cases d <;> rfl
/-- The whole state. -/
structure St (G : Nat) (ρ : Ren) (t : T) (h : H) (a : Act) (w : World) : Prop where
  sim : Sim G ρ h w
  tr : TR ρ t a.tmps.toList
  def_ : a.defers = []
/-- An operation within a great memory. -/
theorem OPJ.great {P : Program} {G : Nat} {ops : Array Oper} {o : Oper} {t : T} {h : H} {js : List Nat} {us : List (Nat × AObj)} {v : Option Value} {pre : H} {post : List AObj} (j : OPJ P G ops o t h js us v pre post)
    {t2 : T} {h2 : H} (ht : ∀ s ∈ o.looksAt ops, t2[s]? = t[s]?) (hh : ∀ j ∈ js, h2[j]? = h[j]?) {ρ : Ren} {a : Act} {w : World} (s : St G ρ t2 h2 a w) {R : List Nat} (hR : Free ρ h2 R) :
    opw P ops o a w fun a' w' => ∃ ρ', St G ρ' (putT t2 o.dst v) (upd h2 us) a' w' ∧ Stp ρ h2 w ρ' (upd h2 us) w' ∧ Free ρ' (upd h2 us) R := by
  have fits2 : Fits h2 js pre := ⟨j.fits.nodup, by rw [← j.fits.at_]; exact List.map_congr_left fun x hx => hh x hx⟩
  have jl : js.length = pre.length := by simpa using congrArg List.length fits2.at_
  -- the names that are kept free: those of R, and those of h2 that are not used yet, outside of js
  let L : List Nat := (List.range h2.length).filterMap fun i => if i ∈ js then none else (h2[i]?).bind fun e => match e.2 with
    | .gone => some e.1
    | _ => none
  have hL : ∀ k, k ∈ L ↔ ∃ (i : Nat) (e : Nat × AObj), h2[i]? = some e ∧ i ∉ js ∧ e.2 = .gone ∧ e.1 = k := by
    intro k
    simp only [L, List.mem_filterMap, List.mem_range]
    constructor
    · rintro ⟨i, hi, hk⟩
      split at hk
      · cases hk
      · rename_i hjs
        rw [List.getElem?_eq_getElem hi] at hk
        simp only [Option.bind_some] at hk
        split at hk
        · rename_i hg
          refine ⟨i, h2[i], List.getElem?_eq_getElem hi, hjs, hg, by simpa using hk⟩
        · cases hk
    · rintro ⟨i, e, he, hjs, hg, rfl⟩
      refine ⟨i, (List.getElem?_eq_some_iff.1 he).1, ?_⟩
      rw [if_neg hjs, he]
      simp [hg]
  have free : Free ρ pre (L ++ R) := by
    intro k hk
    rcases List.mem_append.1 hk with hk | hk
    · obtain ⟨i, e, he, hjs, hg, rfl⟩ := (hL k).1 hk
      refine ⟨(s.sim.ent e (List.mem_of_getElem? he)).1 hg, fun e0 he0 hg0 => ?_⟩
      obtain ⟨n, hn, rfl⟩ := List.getElem_of_mem he0
      have hn' : n < js.length := jl ▸ hn
      have h1 := (fits2.get (n := n) (List.getElem?_eq_getElem hn')).1
      refine (s.sim.sep js[n] i _ e (fun x => hjs (x ▸ List.getElem_mem _)) (h1.trans (List.getElem?_eq_getElem hn)) he (by rw [hg0]; simp) (by rw [hg]; simp)).2 (.inl hg0)
    · refine ⟨(hR k hk).1, fun e0 he0 hg0 => ?_⟩
      obtain ⟨n, hn, rfl⟩ := List.getElem_of_mem he0
      have hn' : n < js.length := jl ▸ hn
      have h1 := (fits2.get (n := n) (List.getElem?_eq_getElem hn')).1
      exact (hR k hk).2 _ (List.mem_of_getElem? (h1.trans (List.getElem?_eq_getElem hn))) hg0
  have := j.run t2 ρ w a (L ++ R) ht (s.sim.small fits2) s.tr free s.def_
  have weak : ∀ a' w', (∃ v' ρ', a' = a.put o.dst v' ∧ (∀ x, v = some x → VR ρ' x v') ∧ Sim G ρ' (wth pre post) w' ∧ Stp ρ pre w ρ' (wth pre post) w' ∧ ∀ k ∈ L ++ R, ρ' k = none) →
      ∃ ρ', St G ρ' (putT t2 o.dst v) (upd h2 us) a' w' ∧ Stp ρ h2 w ρ' (upd h2 us) w' ∧ Free ρ' (upd h2 us) R := by
    rintro a' w' ⟨v', ρ', rfl, hv, hs, hst, hfr⟩
    have fr := s.sim.frame fits2 j.len hs hst fun i e he hi hg => hfr e.1 (List.mem_append.2 (.inl ((hL e.1).2 ⟨i, e, he, hi, hg, rfl⟩)))
    rw [j.same h2 hh] at fr
    refine ⟨ρ', ⟨fr.1, (s.tr.mono hst.ext).put o.dst hv, by rw [Act.put_defers_eq]; exact s.def_⟩, fr.2, fun k hk => ⟨hfr k (List.mem_append.2 (.inr hk)), fun e he hg => ?_⟩⟩
    exact (hR k hk).2 e (fr.2.gon e he hg) hg
  unfold opw at this ⊢
  split
  · rename_i hw
    rw [if_pos hw] at this
    exact Oper.wp_weak weak this
  · rename_i hw
    rw [if_neg hw] at this
    exact weak _ _ this
end Go.Proofs.YtekcchmnncefhaaGreatDoorAB

/-! A region that draws its order: walked once, in the order of its text; a check by numbers that no other order tells. -/
namespace Go.Proofs.YtekcchmnncefhaaGreatDoorAB
open Go
section
variable {α : Type}
def mods (l : List α) (us : List (Nat × (α → α))) : List α := us.foldl (fun l u => l.modify u.1 u.2) l
theorem mods_other (us : List (Nat × (α → α))) : ∀ (l : List α) {i : Nat}, i ∉ us.map (·.1) → (mods l us)[i]? = l[i]? := by
  induction us with
  | nil => intro l i _; rfl
  | cons u us ih =>
    intro l i hi
    simp only [List.map_cons, List.mem_cons, not_or] at hi
    rw [mods, List.foldl_cons, ← mods, ih _ hi.2, List.getElem?_modify]
    have hne : u.1 ≠ i := fun e => hi.1 e.symm
    simp [hne]
theorem mods_congr (us : List (Nat × (α → α))) : ∀ (l l' : List α) {i : Nat}, l[i]? = l'[i]? → (mods l us)[i]? = (mods l' us)[i]? := by
  induction us with
  | nil => intro l l' i h; exact h
  | cons u us ih =>
    intro l l' i h
    show (mods (l.modify u.1 u.2) us)[i]? = (mods (l'.modify u.1 u.2) us)[i]?
    refine ih _ _ ?_
    rw [List.getElem?_modify, List.getElem?_modify, h]
/-- Those that are flagged are done, in order. -/
def runF : List (List (Nat × (α → α))) → (Nat → Bool) → Nat → List α → List α
  | [], _, _, l => l
  | u :: us, F, k, l => runF us F (k + 1) (if F k then mods l u else l)
theorem runF_congr : ∀ (us : List (List (Nat × (α → α)))) (F F' : Nat → Bool) (k : Nat) (l l' : List α) (i : Nat),
    (∀ (n : Nat) u, us[n]? = some u → i ∈ u.map (·.1) → F (k + n) = F' (k + n)) → l[i]? = l'[i]? → (runF us F k l)[i]? = (runF us F' k l')[i]?
  | [], _, _, _, _, _, _, _, h => h
  | u :: us, F, F', k, l, l', i, hF, h => by
    simp only [runF]
    refine runF_congr us F F' (k + 1) _ _ i (fun n u' hu' hi => ?_) ?_
    · have := hF (n + 1) u' (by simpa using hu') hi
      rwa [show k + 1 + n = k + (n + 1) from by omega]
    · by_cases hi : i ∈ u.map (·.1)
      · have h0 := hF 0 u (by simp) hi
        simp only [Nat.add_zero] at h0
        rw [← h0]
        split
        · exact mods_congr u l l' h
        · exact h
      · have h1 : (if F k = true then mods l u else l)[i]? = l[i]? := by split; exact mods_other u l hi; rfl
        have h2 : (if F' k = true then mods l' u else l')[i]? = l'[i]? := by split; exact mods_other u l' hi; rfl
        rw [h1, h2, h]
theorem runF_still : ∀ (us : List (List (Nat × (α → α)))) (F : Nat → Bool) (k : Nat) (l : List α) (i : Nat),
    (∀ (n : Nat) u, us[n]? = some u → i ∈ u.map (·.1) → F (k + n) = false) → (runF us F k l)[i]? = l[i]?
  | [], _, _, _, _, _ => rfl
  | u :: us, F, k, l, i, hF => by
    simp only [runF]
    rw [runF_still us F (k + 1) _ i (fun n u' hu' hi => by
      have := hF (n + 1) u' (by simpa using hu') hi
      rwa [show k + 1 + n = k + (n + 1) from by omega])]
    by_cases hi : i ∈ u.map (·.1)
    · have h0 := hF 0 u (by simp) hi
      simp only [Nat.add_zero] at h0
      simp [h0]
    · split
      · exact mods_other u l hi
      · rfl
/-- One more is flagged, number m: as if it were done last, where none behind it that is flagged touches what it touches. -/
theorem runF_insert : ∀ (us : List (List (Nat × (α → α)))) (F F' : Nat → Bool) (k m : Nat) (l : List α) (um : List (Nat × (α → α))) (i : Nat),
    us[m]? = some um → F (k + m) = false → F' (k + m) = true → (∀ n, n ≠ k + m → F n = F' n) →
    (∀ (n : Nat) u, us[n]? = some u → m < n → i ∈ um.map (·.1) → i ∈ u.map (·.1) → F (k + n) = false) →
    (runF us F' k l)[i]? = (mods (runF us F k l) um)[i]?
  | [], _, _, _, _, _, _, _, h, _, _, _, _ => by simp at h
  | u :: us, F, F', k, 0, l, um, i, h, hF, hF', ho, hn => by
    simp only [List.getElem?_cons_zero, Option.some.injEq] at h
    subst h
    simp only [Nat.add_zero] at hF hF'
    simp only [runF, hF, hF', if_true, Bool.false_eq_true, if_false]
    have tail : ∀ l' : List α, (runF us F' (k + 1) l')[i]? = (runF us F (k + 1) l')[i]? := fun l' =>
      runF_congr us F' F (k + 1) l' l' i (fun n u' _ _ => (ho (k + 1 + n) (by omega)).symm) rfl
    rw [tail]
    by_cases hi : i ∈ u.map (·.1)
    · have st : ∀ l' : List α, (runF us F (k + 1) l')[i]? = l'[i]? := fun l' => runF_still us F (k + 1) l' i (fun n u' hu' hi' => by
        have := hn (n + 1) u' (by simpa using hu') (by omega) hi hi'
        rwa [show k + 1 + n = k + (n + 1) from by omega])
      rw [st]
      exact mods_congr u _ _ (st l).symm
    · rw [mods_other u _ hi]
      exact runF_congr us F F (k + 1) _ _ i (fun _ _ _ _ => rfl) (mods_other u l hi)
  | u :: us, F, F', k, m + 1, l, um, i, h, hF, hF', ho, hn => by
    simp only [runF]
    rw [← ho k (by omega)]
    refine runF_insert us F F' (k + 1) m _ um i (by simpa using h) (by rwa [show k + 1 + m = k + (m + 1) from by omega]) (by rwa [show k + 1 + m = k + (m + 1) from by omega])
      (fun n hne => ho n (by omega)) (fun n u' hu' hlt hi hi' => ?_)
    have := hn (n + 1) u' (by simpa using hu') (by omega) hi hi'
    rwa [show k + 1 + n = k + (n + 1) from by omega]
theorem runF_all : ∀ (us : List (List (Nat × (α → α)))) (F : Nat → Bool) (k : Nat) (l : List α), (∀ n, n < us.length → F (k + n) = true) → runF us F k l = us.foldl mods l
  | [], _, _, _, _ => rfl
  | u :: us, F, k, l, h => by
    have h0 := h 0 (by simp)
    simp only [Nat.add_zero] at h0
    simp only [runF, h0, if_true, List.foldl_cons]
    exact runF_all us F (k + 1) _ fun n hn => by
      have := h (n + 1) (by simpa using hn)
      rwa [show k + 1 + n = k + (n + 1) from by omega]
theorem runF_none : ∀ (us : List (List (Nat × (α → α)))) (F : Nat → Bool) (k : Nat) (l : List α), (∀ n, n < us.length → F (k + n) = false) → runF us F k l = l
  | [], _, _, _, _ => rfl
  | u :: us, F, k, l, h => by
    have h0 := h 0 (by simp)
    simp only [Nat.add_zero] at h0
    simp only [runF, h0, Bool.false_eq_true, if_false]
    exact runF_none us F (k + 1) _ fun n hn => by
      have := h (n + 1) (by simpa using hn)
      rwa [show k + 1 + n = k + (n + 1) from by omega]
/-- The first k are done. -/
theorem runF_take : ∀ (us : List (List (Nat × (α → α)))) (k i : Nat) (l : List α), runF us (fun n => decide (n < i)) k l = (us.take (i - k)).foldl mods l
  | [], _, _, _ => by simp [runF]
  | u :: us, k, i, l => by
    simp only [runF]
    rw [runF_take us (k + 1) i]
    by_cases h : k < i
    · rw [show i - k = (i - (k + 1)) + 1 from by omega]
      simp [h]
    · rw [show i - k = 0 from by omega, show i - (k + 1) = 0 from by omega]
      simp [h]
end
/-- Which operations an operation waits for, as a number's bits. -/
def befs : List Oper → List Nat → List Nat
  | [], acc => acc
  | o :: os, acc => befs os (acc ++ [o.after.toList.foldl (fun s e => if Region.binds .any e then s ||| 2 ^ e.on ||| acc.getD e.on 0 else s) 0])
def Closed (ops : Array Oper) (F : Nat → Bool) : Prop := ∀ (j : Nat) o, ops[j]? = some o → F j = true → ∀ e ∈ o.after, Region.binds .any e = true → F e.on = true
theorem befs_spec {ops : Array Oper} {F : Nat → Bool} (hF : Closed ops F) : ∀ (os : List Oper) (acc : List Nat),
    ops.toList.drop acc.length = os → (∀ (j m : Nat), acc[j]? = some m → ∀ i, m.testBit i = true → F j = true → F i = true) →
    ∀ (j m : Nat), (befs os acc)[j]? = some m → ∀ i, m.testBit i = true → F j = true → F i = true
  | [], acc, _, h => h
  | o :: os, acc, hd, h => by
    refine befs_spec hF os _ ?_ ?_
    · rw [List.length_append, List.length_singleton, ← List.drop_drop, hd]; rfl
    · intro j m hm i hi hj
      rcases Nat.lt_trichotomy j acc.length with hlt | heq | hgt
      · rw [List.getElem?_append_left hlt] at hm
        exact h j m hm i hi hj
      · subst heq
        have ho : ops[acc.length]? = some o := by
          have := congrArg (·[0]?) hd
          simpa using this
        rw [List.getElem?_append_right (Nat.le_refl _)] at hm
        simp only [Nat.sub_self, List.getElem?_cons_zero, Option.some.injEq] at hm
        subst hm
        have key : ∀ (es : List Edge) (s : Nat), (∀ e ∈ es, e ∈ o.after) → (s.testBit i = true → F i = true) →
            (es.foldl (fun s e => if Region.binds .any e then s ||| 2 ^ e.on ||| acc.getD e.on 0 else s) s).testBit i = true → F i = true := by
          intro es
          induction es with
          | nil => intro s _ hs hb; exact hs hb
          | cons e es ih =>
            intro s hm hs hb
            rw [List.foldl_cons] at hb
            refine ih _ (fun x hx => hm x (List.mem_cons_of_mem _ hx)) ?_ hb
            intro hb2
            by_cases hbi : Region.binds .any e = true
            · rw [if_pos hbi] at hb2
              have hon := hF acc.length o ho hj e (hm e (List.mem_cons_self ..)) hbi
              simp only [Nat.testBit_or, Bool.or_eq_true] at hb2
              rcases hb2 with (hb2 | hb2) | hb2
              · exact hs hb2
              · rw [Nat.testBit_two_pow] at hb2
                have : e.on = i := by simpa using hb2
                rw [← this]; exact hon
              · cases hq : acc[e.on]? with
                | none => simp [List.getD_eq_getElem?_getD, hq] at hb2
                | some q =>
                  simp [List.getD_eq_getElem?_getD, hq] at hb2
                  exact h e.on q hq i hb2 hon
            · rw [if_neg hbi] at hb2
              exact hs hb2
        exact key o.after.toList 0 (fun e he => by simpa using he) (by simp) hi
      · rw [List.getElem?_append_right (by omega)] at hm
        rw [List.getElem?_eq_none (by simp; omega)] at hm
        cases hm
/-- What an operation touches: the slots that it looks at, the slot that it writes; places of memory that it reads, that it writes. -/
structure Touch where
  rt : List Nat
  wt : List Nat
  rh : List Nat
  wh : List Nat
def apartL (a b : List Nat) : Bool := a.all fun x => !b.contains x
def Touch.apart (a b : Touch) : Bool := apartL a.wt b.rt && apartL a.wt b.wt && apartL a.rt b.wt && apartL a.wh b.rh && apartL a.rh b.wh
def pairs : List Touch → List Nat → Nat → Bool
  | [], _, _ => true
  | x :: xs, bs, i => (xs.zip (bs.drop (i + 1))).all (fun (y, b) => b.testBit i || x.apart y) && pairs xs bs (i + 1)
def edgesOk (ops : Array Oper) : Bool := (List.range ops.size).all fun j => match ops[j]? with
  | some o => o.after.toList.all fun e => !Region.binds .any e || decide (e.on < j)
  | none => true
theorem apartL_spec {a b : List Nat} (h : apartL a b = true) {x : Nat} (hx : x ∈ a) : x ∉ b := by
  have := List.all_eq_true.1 h x hx
  simpa using this
theorem pairs_spec : ∀ (xs : List Touch) (bs : List Nat) (k : Nat), bs.length = k + xs.length → pairs xs bs k = true → ∀ (i j : Nat) x y b, i < j → xs[i]? = some x → xs[j]? = some y → bs[k + j]? = some b →
    b.testBit (k + i) = true ∨ x.apart y = true
  | [], _, _, _, _, i, j, x, y, b, _, hx, _, _ => by simp at hx
  | x0 :: xs, bs, k, hl, h, 0, j, x, y, b, hij, hx, hy, hb => by
    obtain ⟨j, rfl⟩ : ∃ j', j = j' + 1 := ⟨j - 1, by omega⟩
    simp only [List.getElem?_cons_zero, Option.some.injEq] at hx
    subst hx
    simp only [pairs, Bool.and_eq_true] at h
    have hy' : xs[j]? = some y := by simpa using hy
    have hb' : (bs.drop (k + 1))[j]? = some b := by rw [List.getElem?_drop, ← hb]; congr 1; omega
    have := List.all_eq_true.1 h.1 (y, b) (List.mem_of_getElem? ((List.getElem?_zip_eq_some (z := (y, b))).2 ⟨hy', hb'⟩))
    simpa using this
  | x0 :: xs, bs, k, hl, h, i + 1, j, x, y, b, hij, hx, hy, hb => by
    obtain ⟨j, rfl⟩ : ∃ j', j = j' + 1 := ⟨j - 1, by omega⟩
    simp only [pairs, Bool.and_eq_true] at h
    have := pairs_spec xs bs (k + 1) (by rw [hl]; simp; omega) h.2 i j x y b (by omega) (by simpa using hx) (by simpa using hy) (by rw [← hb]; congr 1; omega)
    rwa [show k + 1 + i = k + (i + 1) from by omega] at this
end Go.Proofs.YtekcchmnncefhaaGreatDoorAB

namespace Go.Proofs.YtekcchmnncefhaaGreatDoorAB
open Go
structure Rec where
  js : List Nat
  us : List (Nat × AObj)
  v : Option Value
/-- The walk of a region's operations in the order of their text. -/
inductive RG (P : Program) (G : Nat) (ops : Array Oper) : Nat → T → H → List Rec → T → H → Prop
  | done {i : Nat} {t : T} {h : H} (hi : ops.size ≤ i) : RG P G ops i t h [] t h
  | step {i : Nat} {t : T} {h : H} {o : Oper} {js : List Nat} {us : List (Nat × AObj)} {v : Option Value} {pre : H} {post : List AObj} {recs : List Rec} {te : T} {he : H} (ho : ops[i]? = some o)
      (j : OPJ P G ops o t h js us v pre post) (rest : RG P G ops (i + 1) (putT t o.dst v) (upd h us) recs te he) : RG P G ops i t h (⟨js, us, v⟩ :: recs) te he
def touch (ops : Array Oper) (o : Oper) (r : Rec) : Touch := ⟨o.looksAt ops, o.dst.toList, r.js, r.us.map (·.1)⟩
def touches (ops : Array Oper) (recs : List Rec) : List Touch := (ops.toList.zip recs).map fun (o, r) => touch ops o r
def mT (o : Oper) (v : Option Value) : List (Nat × (Option Value → Option Value)) := match o.dst with
  | some d => [(d, fun _ => v)]
  | none => []
def mH (us : List (Nat × AObj)) : List (Nat × (Nat × AObj → Nat × AObj)) := us.map fun u => (u.1, fun e => (e.1, u.2))
theorem mods_mT (t : T) (o : Oper) (v : Option Value) : mods t (mT o v) = putT t o.dst v := by
  unfold mT putT
  cases o.dst with
  | none => rfl
  | some d =>
    show t.modify d (fun _ => v) = t.set d v
    refine List.ext_getElem? fun i => ?_
    rw [List.getElem?_modify, List.getElem?_set]
    by_cases h : d = i
    · subst h
      by_cases hl : d < t.length
      · simp [hl]
      · simp [hl]
    · simp [h]
theorem mods_mH : ∀ (us : List (Nat × AObj)) (h : H), mods h (mH us) = upd h us
  | [], _ => rfl
  | u :: us, h => by
    show mods (h.modify u.1 _) (mH us) = upd _ us
    exact mods_mH us _
theorem mT_keys (o : Oper) (v : Option Value) : (mT o v).map (·.1) = o.dst.toList := by
  unfold mT; cases o.dst <;> rfl
theorem mH_keys (us : List (Nat × AObj)) : (mH us).map (·.1) = us.map (·.1) := by
  unfold mH; rw [List.map_map]; rfl
def allT (ops : Array Oper) (recs : List Rec) : List (List (Nat × (Option Value → Option Value))) := (ops.toList.zip recs).map fun (o, r) => mT o r.v
def allH (recs : List Rec) : List (List (Nat × (Nat × AObj → Nat × AObj))) := recs.map fun r => mH r.us
theorem RG.facts {P : Program} {G : Nat} {ops : Array Oper} : ∀ {i : Nat} {t : T} {h : H} {recs : List Rec} {te : T} {he : H}, RG P G ops i t h recs te he → i ≤ ops.size →
    i + recs.length = ops.size ∧ te = (((ops.toList.drop i).zip recs).map fun (o, r) => mT o r.v).foldl mods t ∧ he = (recs.map fun r => mH r.us).foldl mods h ∧
    ∀ (n : Nat) r, recs[n]? = some r → ∃ o pre post, ops[i + n]? = some o ∧
      OPJ P G ops o (((((ops.toList.drop i).zip recs).map fun (o, r) => mT o r.v).take n).foldl mods t) (((recs.map fun r => mH r.us).take n).foldl mods h) r.js r.us r.v pre post := by
  intro i t h recs te he g
  induction g with
  | done hi => intro hle; exact ⟨by simp; omega, by simp, rfl, fun n r hr => by simp at hr⟩
  | @step i t h o js us v pre post recs te he ho j rest ih =>
    intro hle
    have hlt : i < ops.size := (Array.getElem?_eq_some_iff.1 ho).1
    obtain ⟨h1, h2, h3, h4⟩ := ih (by omega)
    have hd : ops.toList.drop i = o :: ops.toList.drop (i + 1) := by
      rw [List.drop_eq_getElem_cons (by simpa using hlt)]
      have := (Array.getElem?_eq_some_iff.1 ho).2
      congr 1
    refine ⟨by simp; omega, ?_, ?_, ?_⟩
    · rw [h2, hd]
      simp only [List.zip_cons_cons, List.map_cons, List.foldl_cons, mods_mT]
    · rw [h3]
      simp only [List.map_cons, List.foldl_cons, mods_mH]
    · intro n r hr
      cases n with
      | zero =>
        simp only [List.getElem?_cons_zero, Option.some.injEq] at hr
        subst hr
        exact ⟨o, pre, post, ho, j⟩
      | succ n =>
        obtain ⟨o', pre', post', ho', j'⟩ := h4 n r (by simpa using hr)
        refine ⟨o', pre', post', by rw [← ho']; congr 1; omega, ?_⟩
        rw [hd]
        simp only [List.zip_cons_cons, List.map_cons, List.take_succ_cons, List.foldl_cons, mods_mT, mods_mH]
        exact j'
theorem Sim.drew {G : Nat} {ρ : Ren} {h : H} {w : World} (s : Sim G ρ h w) (n : Nat) : Sim G ρ h { w with drawn := n } := ⟨s.dom, s.ent, s.sep, s.glob, s.fin⟩
theorem Stp.drew (ρ : Ren) (h : H) (w : World) (n : Nat) : Stp ρ h w ρ h { w with drawn := n } :=
  ⟨Ext.refl ρ, fun k b h0 h1 => absurd (h0.symm.trans h1) (by simp), Nat.le_refl _, rfl, rfl, rfl, fun _ _ _ => rfl, fun e he hl b hb => .inr ⟨e, he, hl, id, hb⟩, fun e he _ => he⟩
theorem wp_draw {P : Program} {G : Nat} {ops : Array Oper} {t te : T} {h he : H} {recs : List Rec} {id : Nat} (hm : P.follows .mixedOrders = true) (rg : RG P G ops 0 t h recs te he)
    (ck : (edgesOk ops && pairs (touches ops recs) (befs ops.toList []) 0) = true) {Q : Exit → Act → World → Prop} {a : Act} {w : World} {ρ : Ren} {R : List Nat} (s : St G ρ t h a w) (hR : Free ρ h R)
    (hK : ∀ ρ' a' w', St G ρ' te he a' w' → Stp ρ h w ρ' he w' → Free ρ' he R → Q .normal a' w') : (Code.region id ops true).wp P Q a w := by
  obtain ⟨hlen, hte, hhe, hop⟩ := rg.facts (Nat.zero_le _)
  simp only [Nat.zero_add, List.drop_zero] at hlen hte hop
  simp only [Bool.and_eq_true] at ck
  obtain ⟨ce, cp⟩ := ck
  have hzl : (ops.toList.zip recs).length = ops.size := by rw [List.length_zip]; simp; omega
  have bl : (befs ops.toList []).length = ops.size := by
    have : ∀ (os : List Oper) (acc : List Nat), (befs os acc).length = acc.length + os.length := by
      intro os
      induction os with
      | nil => intro acc; simp [befs]
      | cons o os ih => intro acc; simp [befs, ih]; omega
    simpa using this ops.toList []
  -- what is told of two operations in either order
  have conflict : ∀ (F : Nat → Bool), Closed ops F → ∀ (i j : Nat) (oi oj : Oper) (ri rj : Rec), i < j → ops[i]? = some oi → ops[j]? = some oj → recs[i]? = some ri → recs[j]? = some rj →
      (F j = true → F i = true) ∨ (touch ops oi ri).apart (touch ops oj rj) = true := by
    intro F hF i j oi oj ri rj hij hi hj hri hrj
    have tg : ∀ (i : Nat) (o : Oper) (r : Rec), ops[i]? = some o → recs[i]? = some r → (touches ops recs)[i]? = some (touch ops o r) := by
      intro i o r ho hr
      unfold touches
      rw [List.getElem?_map, (List.getElem?_zip_eq_some (z := (o, r))).2 ⟨by simpa using ho, hr⟩]
      rfl
    have hjs : j < ops.size := (Array.getElem?_eq_some_iff.1 hj).1
    rcases pairs_spec (touches ops recs) (befs ops.toList []) 0 (by rw [bl]; simp [touches, hzl]) cp i j _ _ ((befs ops.toList [])[j]'(bl ▸ hjs)) hij (tg i oi ri hi hri) (tg j oj rj hj hrj) (by rw [Nat.zero_add, List.getElem?_eq_getElem]) with hb | hb
    · rw [Nat.zero_add] at hb
      exact .inl fun hFj => befs_spec hF ops.toList [] (by simp) (fun j m hm => by simp at hm) j _ (List.getElem?_eq_getElem (bl ▸ hjs)) i hb hFj
    · exact .inr hb
  refine wp_region_any hm ?_
  have main : ∀ (fuel : Nat) (l : Array Bool) (U : List Nat) (a : Act) (w' : World) (ρ' : Ren), l.size = ops.size → U.length ≤ fuel → (∀ i, i < ops.size → l.getD i false = false → i ∈ U) → Closed ops (fun i => l.getD i false) →
      St G ρ' (runF (allT ops recs) (fun i => l.getD i false) 0 t) (runF (allH recs) (fun i => l.getD i false) 0 h) a w' → Stp ρ h w ρ' (runF (allH recs) (fun i => l.getD i false) 0 h) w' →
      Free ρ' (runF (allH recs) (fun i => l.getD i false) 0 h) R → wpAny P .any ops Q fuel l a w' := by
    have fin : ∀ (l : Array Bool) (a : Act) (w' : World) (ρ' : Ren), (∀ i, i < ops.size → l.getD i false = true) →
        St G ρ' (runF (allT ops recs) (fun i => l.getD i false) 0 t) (runF (allH recs) (fun i => l.getD i false) 0 h) a w' → Stp ρ h w ρ' (runF (allH recs) (fun i => l.getD i false) 0 h) w' →
        Free ρ' (runF (allH recs) (fun i => l.getD i false) 0 h) R → Q .normal a w' := by
      intro l a w' ρ' hall s st fr
      have e1 : runF (allT ops recs) (fun i => l.getD i false) 0 t = te := by
        rw [hte]
        exact runF_all _ _ _ _ fun n hn => by
          rw [Nat.zero_add]
          exact hall n (by simpa [allT, hzl] using hn)
      have e2 : runF (allH recs) (fun i => l.getD i false) 0 h = he := by
        rw [hhe]
        exact runF_all _ _ _ _ fun n hn => by
          rw [Nat.zero_add]
          have : n < recs.length := by simpa [allH] using hn
          exact hall n (by omega)
      rw [e1, e2] at s
      rw [e2] at st fr
      exact hK ρ' a w' s st fr
    have noneReady : ∀ (l : Array Bool), Region.ready .any ops l = [] → ∀ i, i < ops.size → l.size = ops.size → l.getD i false = true := by
      intro l hr i
      induction i using Nat.strongRecOn with
      | _ i ih =>
        intro hi hsz
        cases hli : l.getD i false with
        | true => rfl
        | false =>
          exfalso
          have hmem : i ∈ Region.ready .any ops l := by
            refine mem_ready.2 ⟨?_, ops[i], Array.getElem?_eq_getElem hi, fun e he hb => ?_⟩
            · have hil : i < l.size := hsz ▸ hi
              simp [hil] at hli ⊢
              exact hli
            · have h1 := List.all_eq_true.1 ce i (List.mem_range.2 hi)
              simp only [Array.getElem?_eq_getElem hi] at h1
              have h2 := List.all_eq_true.1 h1 e (by simpa using he)
              have hlt : e.on < i := by simpa [hb] using h2
              exact ih e.on hlt (by omega) hsz
          rw [hr] at hmem
          cases hmem
    intro fuel
    induction fuel with
    | zero =>
      intro l U a w' ρ' hsz hU hun hcl s st fr
      have hall : ∀ i, i < ops.size → l.getD i false = true := by
        intro i hi
        cases hli : l.getD i false with
        | true => rfl
        | false =>
          have := hun i hi hli
          cases U with
          | nil => cases this
          | cons => simp at hU
      refine ⟨?_, fin l a w' ρ' hall s st fr⟩
      cases hr : Region.ready .any ops l with
      | nil => rfl
      | cons x xs =>
        have hx : x ∈ Region.ready .any ops l := by rw [hr]; exact List.mem_cons_self ..
        obtain ⟨h1, o, ho, _⟩ := mem_ready.1 hx
        have hxs : x < ops.size := (Array.getElem?_eq_some_iff.1 ho).1
        have := hall x hxs
        have hxl : x < l.size := hsz ▸ hxs
        simp [hxl] at h1 this
        rw [h1] at this
        cases this
    | succ fuel ih =>
      intro l U a w' ρ' hsz hU hun hcl s st fr
      refine ⟨fun hr => fin l a w' ρ' (fun i hi => noneReady l hr i hi hsz) s st fr, fun i hi => ?_⟩
      obtain ⟨hli, oi, hoi, hall⟩ := mem_ready.1 hi
      have his : i < ops.size := (Array.getElem?_eq_some_iff.1 hoi).1
      have hil : i < l.size := hsz ▸ his
      have hif : l.getD i false = false := by simp [hil] at hli ⊢; exact hli
      have hri : recs[i]? = some (recs[i]'(by omega)) := List.getElem?_eq_getElem _
      obtain ⟨o', pre, post, ho', J⟩ := hop i _ hri
      rw [hoi] at ho'
      cases ho'
      generalize hrr : recs[i]'(by omega) = ri at hri J
      -- flags behind this one
      have hF' : ∀ n, (l.setIfInBounds i true).getD n false = if n = i then true else l.getD n false := by
        intro n
        by_cases hn : n = i
        · subst hn; simp [hil]
        · rw [if_neg hn, Array.getD_eq_getD_getElem?, Array.getElem?_setIfInBounds_ne (fun e => hn e.symm), ← Array.getD_eq_getD_getElem?]
      have hcl' : Closed ops (fun n => (l.setIfInBounds i true).getD n false) := by
        intro j oj hoj hj e he hb
        show (l.setIfInBounds i true).getD e.on false = true
        rw [hF']
        split
        · rfl
        · by_cases hji : j = i
          · subst hji
            rw [hoi] at hoj
            cases hoj
            exact hall e he hb
          · have hj : (l.setIfInBounds i true).getD j false = true := hj
            rw [hF', if_neg hji] at hj
            exact hcl j oj hoj hj e he hb
      -- what is done ahead of i, where i's own touch is asked
      have ahead : ∀ (j : Nat) (oj : Oper) (rj : Rec), ops[j]? = some oj → recs[j]? = some rj → j ≠ i →
          (l.getD j false = decide (j < i)) ∨ (if j < i then (touch ops oj rj).apart (touch ops oi ri) = true else (touch ops oi ri).apart (touch ops oj rj) = true) := by
        intro j oj rj hoj hrj hji
        rcases Nat.lt_or_gt_of_ne hji with hlt | hgt
        · rw [if_pos hlt]
          rcases conflict _ hcl' j i oj oi rj ri hlt hoj hoi hrj hri with h1 | h1
          · left
            have h2 := h1 (by show (l.setIfInBounds i true).getD i false = true; rw [hF', if_pos rfl])
            have h2 : (l.setIfInBounds i true).getD j false = true := h2
            rw [hF', if_neg hji] at h2
            simp [h2, hlt]
          · exact .inr h1
        · have hng : ¬ j < i := by omega
          rw [if_neg hng]
          rcases conflict _ hcl i j oi oj ri rj hgt hoi hoj hri hrj with h1 | h1
          · left
            cases hj : l.getD j false with
            | false => simp [hng]
            | true =>
              have : l.getD i false = true := h1 hj
              rw [hif] at this
              cases this
          · exact .inr h1
      have recOf : ∀ (n : Nat) u, (allT ops recs)[n]? = some u → ∃ o r, ops[n]? = some o ∧ recs[n]? = some r ∧ u = mT o r.v := by
        intro n u hu
        unfold allT at hu
        rw [List.getElem?_map] at hu
        obtain ⟨⟨o, r⟩, hz, hu⟩ := Option.map_eq_some_iff.1 hu
        obtain ⟨h1, h2⟩ := List.getElem?_zip_eq_some.1 hz
        exact ⟨o, r, by simpa using h1, h2, hu.symm⟩
      have recOfH : ∀ (n : Nat) u, (allH recs)[n]? = some u → ∃ o r, ops[n]? = some o ∧ recs[n]? = some r ∧ u = mH r.us := by
        intro n u hu
        unfold allH at hu
        rw [List.getElem?_map] at hu
        obtain ⟨r, hz, hu⟩ := Option.map_eq_some_iff.1 hu
        have hn : n < ops.size := by have := (List.getElem?_eq_some_iff.1 hz).1; omega
        exact ⟨ops[n], r, Array.getElem?_eq_getElem hn, hz, hu.symm⟩
      have subOf : ∀ (n : Nat) r, recs[n]? = some r → ∀ u ∈ r.us, u.1 ∈ r.js := by
        intro n r hr
        obtain ⟨_, _, _, _, J'⟩ := hop n r hr
        exact J'.sub
      -- agreement
      have agT : ∀ sl ∈ oi.looksAt ops, (runF (allT ops recs) (fun i => l.getD i false) 0 t)[sl]? = (((allT ops recs).take i).foldl mods t)[sl]? := by
        intro sl hsl
        have e := runF_take (allT ops recs) 0 i t
        rw [Nat.sub_zero] at e
        rw [← e]
        refine runF_congr _ _ _ _ _ _ _ (fun n u hu hk => ?_) rfl
        obtain ⟨on, rn, hon, hrn, rfl⟩ := recOf n u hu
        rw [mT_keys] at hk
        rw [Nat.zero_add]
        by_cases hni : n = i
        · subst hni; simp [hif]
        · rcases ahead n on rn hon hrn hni with h1 | h1
          · exact h1
          · exfalso
            split at h1
            · simp only [Touch.apart, Bool.and_eq_true] at h1
              exact apartL_spec h1.1.1.1.1 hk hsl
            · simp only [Touch.apart, Bool.and_eq_true] at h1
              exact apartL_spec h1.1.1.2 hsl hk
      have agH : ∀ j ∈ ri.js, (runF (allH recs) (fun i => l.getD i false) 0 h)[j]? = (((allH recs).take i).foldl mods h)[j]? := by
        intro j hj
        have e := runF_take (allH recs) 0 i h
        rw [Nat.sub_zero] at e
        rw [← e]
        refine runF_congr _ _ _ _ _ _ _ (fun n u hu hk => ?_) rfl
        obtain ⟨on, rn, hon, hrn, rfl⟩ := recOfH n u hu
        rw [mH_keys] at hk
        rw [Nat.zero_add]
        by_cases hni : n = i
        · subst hni; simp [hif]
        · rcases ahead n on rn hon hrn hni with h1 | h1
          · exact h1
          · exfalso
            split at h1
            · simp only [Touch.apart, Bool.and_eq_true] at h1
              exact apartL_spec h1.1.2 hk hj
            · simp only [Touch.apart, Bool.and_eq_true] at h1
              exact apartL_spec h1.2 hj hk
      have res := J.great agT agH s fr
      refine opw_wpOp hoi ?_ res
      rintro a' w'' ⟨ρ'', s', st', fr'⟩
      have flags : ∀ n, n ≠ 0 + i → (fun i => l.getD i false) n = (fun n => (l.setIfInBounds i true).getD n false) n := by
        intro n hn
        show l.getD n false = (l.setIfInBounds i true).getD n false
        rw [hF', if_neg (by omega)]
      have hi' : (fun n => (l.setIfInBounds i true).getD n false) (0 + i) = true := by
        show (l.setIfInBounds i true).getD (0 + i) false = true
        rw [hF', if_pos (by omega)]
      have eT : runF (allT ops recs) (fun n => (l.setIfInBounds i true).getD n false) 0 t = putT (runF (allT ops recs) (fun i => l.getD i false) 0 t) oi.dst ri.v := by
        rw [← mods_mT]
        refine List.ext_getElem? fun sl => ?_
        refine runF_insert (allT ops recs) _ _ 0 i t (mT oi ri.v) sl ?_ (by show l.getD (0 + i) false = false; rw [Nat.zero_add]; exact hif) hi' flags ?_
        · unfold allT
          rw [List.getElem?_map, (List.getElem?_zip_eq_some (z := (oi, ri))).2 ⟨by simpa using hoi, hri⟩]
          rfl
        · intro n u hu hlt hk hk'
          obtain ⟨on, rn, hon, hrn, rfl⟩ := recOf n u hu
          rw [mT_keys] at hk hk'
          show l.getD (0 + n) false = false
          rw [Nat.zero_add]
          rcases ahead n on rn hon hrn (by omega) with h1 | h1
          · rw [h1]; simp; omega
          · exfalso
            rw [if_neg (by omega)] at h1
            simp only [Touch.apart, Bool.and_eq_true] at h1
            exact apartL_spec h1.1.1.1.2 hk hk'
      have eH : runF (allH recs) (fun n => (l.setIfInBounds i true).getD n false) 0 h = upd (runF (allH recs) (fun i => l.getD i false) 0 h) ri.us := by
        rw [← mods_mH]
        refine List.ext_getElem? fun sl => ?_
        refine runF_insert (allH recs) _ _ 0 i h (mH ri.us) sl ?_ (by show l.getD (0 + i) false = false; rw [Nat.zero_add]; exact hif) hi' flags ?_
        · unfold allH
          rw [List.getElem?_map, hri]
          rfl
        · intro n u hu hlt hk hk'
          obtain ⟨on, rn, hon, hrn, rfl⟩ := recOfH n u hu
          rw [mH_keys] at hk hk'
          show l.getD (0 + n) false = false
          rw [Nat.zero_add]
          rcases ahead n on rn hon hrn (by omega) with h1 | h1
          · rw [h1]; simp; omega
          · exfalso
            rw [if_neg (by omega)] at h1
            simp only [Touch.apart, Bool.and_eq_true] at h1
            obtain ⟨u, hu', rfl⟩ := List.mem_map.1 hk'
            exact apartL_spec h1.1.2 hk (subOf n rn hrn u hu')
      refine ih (l.setIfInBounds i true) (U.erase i) a' w'' ρ'' (by simpa using hsz) ?_ ?_ hcl' (by rw [eT, eH]; exact s') (by rw [eH]; exact st.trans st') (by rw [eH]; exact fr')
      · have := hun i his hif
        rw [List.length_erase_of_mem this]
        omega
      · intro j hj hlj
        rw [hF'] at hlj
        split at hlj
        · cases hlj
        · exact (List.mem_erase_of_ne (by assumption)).2 (hun j hj hlj)
  have f0 : ∀ i, (Array.replicate ops.size false).getD i false = false := by
    intro i
    rw [Array.getD_eq_getD_getElem?, Array.getElem?_replicate]
    split <;> rfl
  have e1 : runF (allT ops recs) (fun i => (Array.replicate ops.size false).getD i false) 0 t = t := runF_none _ _ _ _ fun n _ => f0 _
  have e2 : runF (allH recs) (fun i => (Array.replicate ops.size false).getD i false) 0 h = h := runF_none _ _ _ _ fun n _ => f0 _
  refine main ops.size _ (List.range ops.size) a _ ρ (by simp) (by simp) (fun i hi _ => List.mem_range.2 hi) (fun j o ho hj => by have hj : (Array.replicate ops.size false).getD j false = true := hj; rw [f0] at hj; cases hj) ?_ ?_ ?_
  · rw [e1, e2]
    exact ⟨s.sim.drew _, s.tr, s.def_⟩
  · rw [e2]
    exact Stp.drew ρ h w _
  · rw [e2]
    exact hR
end Go.Proofs.YtekcchmnncefhaaGreatDoorAB

/-! Code over abstract states; a function's contract. -/
namespace Go.Proofs.YtekcchmnncefhaaGreatDoorAB
open Go
abbrev As := List (Nat × Option Value)
def look : As → Nat → Option Value
  | [], _ => none
  | (j, v) :: r, i => if j = i then v else look r i
/-- The temporaries, out of what was put last. -/
def mkT (n : Nat) (s : As) : T := (List.range n).map (look s)
theorem mk_get {n : Nat} {s : As} {i : Nat} : (mkT n s)[i]? = if i < n then some (look s i) else none := by
  unfold mkT
  rw [List.getElem?_map]
  split
  · rename_i h; rw [List.getElem?_range h]; rfl
  · rename_i h; rw [List.getElem?_eq_none (by simpa using h)]; rfl
def putA (s : As) (d : Option Tmp) (v : Option Value) : As := match d with
  | some d => (d, v) :: s
  | none => s
theorem putT_mk (n : Nat) (s : As) (d : Option Tmp) (v : Option Value) : putT (mkT n s) d v = mkT n (putA s d v) := by
  cases d with
  | none => rfl
  | some d =>
    refine List.ext_getElem? fun i => ?_
    simp only [putT, putA, List.getElem?_set, mk_get, look]
    by_cases h : d = i
    · subst h; simp [mkT]
    · simp [h]
def evA (G : Nat) (n : Nat) (s : As) : Operand → Option Value
  | .tmp i => if i < n then look s i else none
  | .const v => if flat v then some v else none
  | .global g => if g < G then some (.pointer (some ⟨g, 0, none⟩)) else none
  | .func f => some (.func (.func f) #[] #[])
theorem ev_mk (G n : Nat) (s : As) (x : Operand) : ev G (mkT n s) x = evA G n s x := by
  cases x with
  | tmp i => simp only [ev, evA, mk_get]; split <;> split <;> simp_all
  | _ => rfl
def WP (P : Program) (G : Nat) (c : Code) (t : T) (h : H) (Q : Exit → T → H → Prop) : Prop :=
  ∀ (ρ : Ren) (a : Act) (w : World) (R : List Nat), St G ρ t h a w → Free ρ h R →
    c.wp P (fun e a' w' => ∃ t' h' ρ', Q e t' h' ∧ St G ρ' t' h' a' w' ∧ Stp ρ h w ρ' h' w' ∧ Free ρ' h' R) a w
def thn (K : T → H → Prop) (Q : Exit → T → H → Prop) : Exit → T → H → Prop
  | .normal, t, h => K t h
  | e, t, h => Q e t h
def blk (id : Nat) (Q : Exit → T → H → Prop) : Exit → T → H → Prop
  | .exit id', t, h => if id' = id then Q .normal t h else Q (.exit id') t h
  | e, t, h => Q e t h
section
variable {P : Program} {G : Nat} {t : T} {h : H} {Q : Exit → T → H → Prop}
theorem WP.mono {c : Code} {Q' : Exit → T → H → Prop} (hq : ∀ e t h, Q e t h → Q' e t h) (k : WP P G c t h Q) : WP P G c t h Q' :=
  fun ρ a w R s f => wp_mono (k ρ a w R s f) fun _ _ _ ⟨t', h', ρ', q, r⟩ => ⟨t', h', ρ', hq _ _ _ q, r⟩
theorem WP.skip (k : Q .normal t h) : WP P G .skip t h Q := fun ρ _ w _ s f => wp_skip ⟨t, h, ρ, k, s, Stp.refl ρ h w, f⟩
theorem WP.label {l : Nat} (k : Q .normal t h) : WP P G (.label l) t h Q := fun ρ _ w _ s f => wp_label ⟨t, h, ρ, k, s, Stp.refl ρ h w, f⟩
theorem WP.exit {i : Nat} (k : Q (.exit i) t h) : WP P G (.exit i) t h Q := fun ρ _ w _ s f => wp_exit ⟨t, h, ρ, k, s, Stp.refl ρ h w, f⟩
theorem WP.goto {i : Nat} (k : Q (.goto i) t h) : WP P G (.goto i) t h Q := fun ρ _ w _ s f => wp_goto ⟨t, h, ρ, k, s, Stp.refl ρ h w, f⟩
theorem WP.ret (k : Q .ret t h) : WP P G .ret t h Q := fun ρ _ w _ s f => wp_ret ⟨t, h, ρ, k, s, Stp.refl ρ h w, f⟩
theorem WP.seq {x y : Code} (k : WP P G x t h (thn (fun t h => WP P G y t h Q) Q)) : WP P G (.seq x y) t h Q := fun ρ a w R s f =>
  wp_seq (wp_mono (k ρ a w R s f) fun e a' w' ⟨t', h', ρ', q, s', st, f'⟩ => by
    cases e with
    | normal => exact wp_mono (q ρ' a' w' R s' f') fun _ _ _ ⟨t2, h2, ρ2, q2, s2, st2, f2⟩ => ⟨t2, h2, ρ2, q2, s2, st.trans st2, f2⟩
    | _ => exact ⟨t', h', ρ', q, s', st, f'⟩)
theorem WP.cond {c : Operand} {x y : Code} {b : Bool} (hc : ev G t c = some (.bool b)) (k1 : b = true → WP P G x t h Q) (k2 : b = false → WP P G y t h Q) : WP P G (.cond c x y) t h Q := fun ρ a w R s f => by
  have hv := ev_vr s.sim.glob s.tr hc
  simp only [vr_bool] at hv
  exact wp_cond_split hv (fun hb => k1 hb ρ a w R s f) (fun hb => k2 hb ρ a w R s f)
theorem WP.block {id : Nat} {c : Code} (k : WP P G c t h (blk id Q)) : WP P G (.block id c) t h Q := fun ρ a w R s f =>
  wp_block (wp_mono (k ρ a w R s f) fun e a' w' ⟨t', h', ρ', q, r⟩ => by
    cases e with
    | exit id' =>
      simp only [Exit.inBlock, blk] at q ⊢
      split
      · rename_i hid; rw [if_pos hid] at q; exact ⟨t', h', ρ', q, r⟩
      · rename_i hid; rw [if_neg hid] at q; exact ⟨t', h', ρ', q, r⟩
    | _ => exact ⟨t', h', ρ', q, r⟩)
theorem loop_rel {c : Code} {Q : Exit → Act → World → Prop} (I : Nat → Act → World → Prop) {m : Nat} {a : Act} {w : World} (h0 : I m a w)
    (round : ∀ m a w, I m a w → c.wp P (Exit.then (fun a' w' => ∃ m', m' < m ∧ I m' a' w') Q) a w) : (Code.loop c).wp P Q a w := by
  intro b k cs
  have key : ∀ m a w, I m a w → ∃ e a' w', Q e a' w' ∧ Arrives P (lone (b.at a (.code c :: .inLoop c :: k)) cs w) b k cs e a' w' := by
    intro m
    induction m using Nat.strongRecOn with
    | _ m ih =>
      intro a w hI
      obtain ⟨e, a1, w1, hq, harr⟩ := round m a w hI b (.inLoop c :: k) cs
      cases e with
      | normal =>
        obtain ⟨m', hlt, hI1⟩ := hq
        obtain ⟨e2, a2, w2, hq2, harr2⟩ := ih m' hlt a1 w1 hI1
        exact ⟨e2, a2, w2, hq2, .of_steps (Steps.trans harr (.one step_inLoop)) harr2⟩
      | exit id => exact ⟨_, a1, w1, hq, .pass (x := .inLoop c) rfl (fun _ _ => .inl (by simp)) harr⟩
      | goto l => exact ⟨_, a1, w1, hq, .pass (x := .inLoop c) rfl (fun _ _ => .inl (by simp)) harr⟩
      | ret => exact ⟨_, a1, w1, hq, .pass (x := .inLoop c) rfl (fun _ _ => .inl (by simp)) harr⟩
      | panic ch => exact ⟨_, a1, w1, hq, .pass (x := .inLoop c) rfl (fun _ _ => .inl (by simp)) harr⟩
      | outgrown => exact ⟨_, a1, w1, hq, .pass (x := .inLoop c) rfl (fun _ _ => .inl (by simp)) harr⟩
  obtain ⟨e, a', w', hq, harr⟩ := key _ a w h0
  exact ⟨e, a', w', hq, .of_steps (.one step_loop) harr⟩
/-- A loop: I says the state at its head; a number falls. -/
theorem WP.loop {c : Code} (I : Nat → T → H → Prop) {m : Nat} (h0 : I m t h) (round : ∀ m t h, I m t h → WP P G c t h (thn (fun t' h' => ∃ m', m' < m ∧ I m' t' h') Q)) : WP P G (.loop c) t h Q := fun ρ a w R s f => by
  refine loop_rel (fun m a' w' => ∃ t' h' ρ', I m t' h' ∧ St G ρ' t' h' a' w' ∧ Stp ρ h w ρ' h' w' ∧ Free ρ' h' R) ⟨t, h, ρ, h0, s, Stp.refl ρ h w, f⟩ ?_
  rintro m a1 w1 ⟨t1, h1, ρ1, hI, s1, st1, f1⟩
  refine wp_mono (round m t1 h1 hI ρ1 a1 w1 R s1 f1) fun e a2 w2 ⟨t2, h2, ρ2, q, s2, st2, f2⟩ => ?_
  cases e with
  | normal =>
    obtain ⟨m', hlt, hI'⟩ := q
    exact ⟨m', hlt, t2, h2, ρ2, hI', s2, st1.trans st2, f2⟩
  | _ => exact ⟨t2, h2, ρ2, q, s2, st1.trans st2, f2⟩
/-- Less is said of a state. -/
structure Wk (t : T) (h : H) (t' : T) (h' : H) : Prop where
  tl : t'.length = t.length
  tv : ∀ (i : Nat) v, t'[i]? = some (some v) → t[i]? = some (some v)
  hs : List.Sublist h' h
theorem Wk.st {t' : T} {h' : H} (k : Wk t h t' h') {ρ : Ren} {a : Act} {w : World} (s : St G ρ t h a w) : St G ρ t' h' a w := by
  refine ⟨⟨s.sim.dom, fun e he => s.sim.ent e (k.hs.subset he), ?_, s.sim.glob, s.sim.fin⟩, ⟨k.tl.trans s.tr.1, fun i v hv => s.tr.2 i v (k.tv i v hv)⟩, s.def_⟩
  have p : h.Pairwise (Sep ρ) := List.pairwise_iff_getElem.2 fun i j hi hj hij => s.sim.sep i j _ _ (by omega) (List.getElem?_eq_getElem hi) (List.getElem?_eq_getElem hj)
  have p' := p.sublist k.hs
  intro i j e e' hij hi hj
  obtain ⟨hi1, hi2⟩ := List.getElem?_eq_some_iff.1 hi
  obtain ⟨hj1, hj2⟩ := List.getElem?_eq_some_iff.1 hj
  rcases Nat.lt_or_gt_of_ne hij with hlt | hgt
  · have := List.pairwise_iff_getElem.1 p' i j hi1 hj1 hlt
    rw [hi2, hj2] at this
    exact this
  · have := List.pairwise_iff_getElem.1 p' j i hj1 hi1 hgt
    rw [hi2, hj2] at this
    exact this.symm
theorem Stp.wk {ρ ρ' : Ren} {h h' h2 : H} {w w' : World} (hs : List.Sublist h' h) (st : Stp ρ h' w ρ' h2 w') : Stp ρ h w ρ' h2 w' where
  ext := st.ext
  new := fun k b h0 h1 => (st.new k b h0 h1).imp id fun ⟨e, he, r⟩ => ⟨e, hs.subset he, r⟩
  size := st.size
  os := st.os
  tape := st.tape
  output := st.output
  keep := fun b hb hno => st.keep b hb fun e he => hno e (hs.subset he)
  der := fun e' he' hl b hb => (st.der e' he' hl b hb).imp id fun ⟨e, he, r⟩ => ⟨e, hs.subset he, r⟩
  gon := fun e' he' hg => hs.subset (st.gon e' he' hg)
theorem Free.wk {ρ : Ren} {h h' : H} {R : List Nat} (hs : List.Sublist h' h) (f : Free ρ h R) : Free ρ h' R := fun k hk => ⟨(f k hk).1, fun e he => (f k hk).2 e (hs.subset he)⟩
theorem WP.weak {c : Code} {t' : T} {h' : H} (k : Wk t h t' h') (x : WP P G c t' h' Q) : WP P G c t h Q := fun ρ a w R s f =>
  wp_mono (x ρ a w R (k.st s) (f.wk k.hs)) fun _ _ _ ⟨t2, h2, ρ2, q, s2, st2, f2⟩ => ⟨t2, h2, ρ2, q, s2, st2.wk k.hs, f2⟩
end
def touches' (ops : Array Oper) (acc : List (List Nat × List Nat)) : List Touch := (ops.toList.zip acc).map fun (o, js, us) => ⟨o.looksAt ops, o.dst.toList, js, us⟩
def ckd (ops : Array Oper) (acc : List (List Nat × List Nat)) : Bool := edgesOk ops && pairs (touches' ops acc) (befs ops.toList []) 0
/-- The walk of a region, with what each operation touches. -/
def RK (P : Program) (G : Nat) (ops : Array Oper) (draw : Bool) (n i : Nat) (s : As) (h : H) (acc : List (List Nat × List Nat)) (K : As → H → Prop) : Prop :=
  ∃ recs s' he, RG P G ops i (mkT n s) h recs (mkT n s') he ∧ (draw = true → ckd ops (acc ++ recs.map fun r => (r.js, r.us.map (·.1))) = true) ∧ K s' he
theorem touches_eq (ops : Array Oper) (recs : List Rec) : touches' ops (recs.map fun r => (r.js, r.us.map (·.1))) = touches ops recs := by
  unfold touches' touches
  rw [List.zip_map_right, List.map_map]
  rfl
section
variable {P : Program} {G : Nat} {ops : Array Oper} {draw : Bool} {n i : Nat} {s : As} {h h' : H} {acc : List (List Nat × List Nat)} {K : As → H → Prop}
theorem RK.done (hi : Nat.ble ops.size i = true) (hc : draw = true → ckd ops acc = true) (k : K s h) : RK P G ops draw n i s h acc K :=
  ⟨[], s, h, .done (Nat.le_of_ble_eq_true hi), fun hd => by simpa using hc hd, k⟩
theorem RK.step {o : Oper} {js : List Nat} {us : List (Nat × AObj)} {v : Option Value} {pre : H} {post : List AObj} (ho : ops[i]? = some o) (j : OPJ P G ops o (mkT n s) h js us v pre post)
    (k : RK P G ops draw n (i + 1) (putA s o.dst v) (upd h us) (acc ++ [(js, us.map (·.1))]) K) : RK P G ops draw n i s h acc K := by
  obtain ⟨recs, s', he, rg, hc, hk⟩ := k
  rw [← putT_mk] at rg
  exact ⟨⟨js, us, v⟩ :: recs, s', he, .step ho j rg, fun hd => by simpa using hc hd, hk⟩
end
def gones : Nat → (Nat → Nat) → H
  | 0, _ => []
  | m + 1, ks => gones m ks ++ [(ks m, .gone)]
theorem gones_mem {m : Nat} {ks : Nat → Nat} {e : Nat × AObj} (h : e ∈ gones m ks) : ∃ i, i < m ∧ e = (ks i, .gone) := by
  induction m with
  | zero => simp [gones] at h
  | succ m ih =>
    simp only [gones, List.mem_append, List.mem_singleton] at h
    rcases h with h | h
    · obtain ⟨i, hi, he⟩ := ih h; exact ⟨i, by omega, he⟩
    · exact ⟨m, by omega, h⟩
theorem gones_len (m : Nat) (ks : Nat → Nat) : (gones m ks).length = m := by
  induction m with
  | zero => rfl
  | succ m ih => simp [gones, ih]
theorem gones_get {m : Nat} {ks : Nat → Nat} {i : Nat} (h : i < m) : (gones m ks)[i]? = some (ks i, .gone) := by
  induction m with
  | zero => omega
  | succ m ih =>
    rw [gones]
    by_cases hi : i < m
    · rw [List.getElem?_append_left (by rw [gones_len]; exact hi)]; exact ih hi
    · obtain rfl : i = m := by omega
      rw [List.getElem?_append_right (by rw [gones_len]; exact Nat.le_refl _), gones_len]; simp
theorem RG.names {P : Program} {G : Nat} {ops : Array Oper} {i : Nat} {t te : T} {h he : H} {recs : List Rec} (g : RG P G ops i t h recs te he) : he.map (·.1) = h.map (·.1) := by
  induction g with
  | done => rfl
  | step _ _ _ ih =>
    rw [ih]
    rename_i us _ _ _ _ _ _ _ _ _
    clear ih
    have : ∀ (us : List (Nat × AObj)) (h : H), (upd h us).map (·.1) = h.map (·.1) := by
      intro us
      induction us with
      | nil => intro h; rfl
      | cons u us ih =>
        intro h
        rw [upd, ih]
        refine List.ext_getElem? fun i => ?_
        rw [List.getElem?_map, List.getElem?_map, List.getElem?_modify]
        cases h[i]? with
        | none => simp
        | some e => simp; split <;> rfl
    exact this _ _

/-- Names that nobody uses. -/
theorem fresh_names {G : Nat} {ρ : Ren} {h : H} {w : World} (s : Sim G ρ h w) (R : List Nat) : ∃ ks : Nat → Nat, (∀ i, ρ (ks i) = none) ∧ (∀ i, ks i ∉ R) ∧ (∀ i, ks i ∉ h.map (·.1)) ∧ ∀ i j, ks i = ks j → i = j := by
  obtain ⟨N, hN⟩ := s.fin
  have big : ∀ (l : List Nat), ∃ M, ∀ x ∈ l, x < M := by
    intro l
    induction l with
    | nil => exact ⟨0, fun x hx => by cases hx⟩
    | cons y l ih =>
      obtain ⟨M, hM⟩ := ih
      refine ⟨max M (y + 1), fun x hx => ?_⟩
      rcases List.mem_cons.1 hx with rfl | hx
      · omega
      · have := hM x hx; omega
  obtain ⟨M1, h1⟩ := big R
  obtain ⟨M2, h2⟩ := big (h.map (·.1))
  refine ⟨fun i => N + M1 + M2 + i, fun i => hN _ (by show N ≤ N + M1 + M2 + i; omega), fun i hi => ?_, fun i hi => ?_, fun i j e => ?_⟩
  · have := h1 _ hi; dsimp only at this; omega
  · have := h2 _ hi; dsimp only at this; omega
  · have e : N + M1 + M2 + i = N + M1 + M2 + j := e
    omega
/-- Fresh names, not used yet. -/
theorem St.more {G : Nat} {ρ : Ren} {t : T} {h : H} {a : Act} {w : World} (s : St G ρ t h a w) {ks : Nat → Nat} (k1 : ∀ i, ρ (ks i) = none) (k3 : ∀ i, ks i ∉ h.map (·.1)) (k4 : ∀ i j, ks i = ks j → i = j) (m : Nat) :
    St G ρ t (h ++ gones m ks) a w := by
  refine ⟨⟨s.sim.dom, ?_, ?_, s.sim.glob, s.sim.fin⟩, s.tr, s.def_⟩
  · intro e he
    rcases List.mem_append.1 he with he | he
    · exact s.sim.ent e he
    · obtain ⟨i, _, rfl⟩ := gones_mem he
      exact ⟨fun _ => k1 i, fun hl => by cases hl⟩
  · have one : ∀ (i j : Nat) (e e' : Nat × AObj), i < j → (h ++ gones m ks)[i]? = some e → (h ++ gones m ks)[j]? = some e' → Sep ρ e e' := by
      intro i j e e' hij hi hj
      by_cases hjl : j < h.length
      · rw [List.getElem?_append_left hjl] at hj
        rw [List.getElem?_append_left (by omega)] at hi
        exact s.sim.sep i j e e' (by omega) hi hj
      · rw [List.getElem?_append_right (by omega)] at hj
        obtain ⟨j', hj', rfl⟩ := gones_mem (List.mem_of_getElem? hj)
        intro hlo _
        by_cases hil : i < h.length
        · rw [List.getElem?_append_left hil] at hi
          refine ⟨fun hw => ?_, fun _ hx => ?_⟩
          · have hwr : e.2.wr = true := by rcases hw with hw | hw; exact hw; cases hw
            obtain ⟨b, _, hb, _⟩ := (s.sim.ent e (List.mem_of_getElem? hi)).2 (AObj.live_of_wr hwr)
            rw [hb, k1 j']; simp
          · exact k3 j' (List.mem_map.2 ⟨e, List.mem_of_getElem? hi, hx⟩)
        · rw [List.getElem?_append_right (by omega)] at hi
          obtain ⟨i', hi', rfl⟩ := gones_mem (List.mem_of_getElem? hi)
          refine ⟨fun hw => absurd hw (by simp [AObj.wr]), fun _ hx => ?_⟩
          have hx : i' = j' := k4 _ _ hx
          subst hx
          have g1 := gones_get (ks := ks) (m := m) (i := i - h.length) (by have := (List.getElem?_eq_some_iff.1 hi).1; rwa [gones_len] at this)
          have g2 := gones_get (ks := ks) (m := m) (i := j - h.length) (by have := (List.getElem?_eq_some_iff.1 hj).1; rwa [gones_len] at this)
          rw [hi] at g1
          rw [hj] at g2
          simp only [Option.some.injEq, Prod.mk.injEq, and_true] at g1 g2
          have := k4 _ _ (g1.symm.trans g2)
          omega
    intro i j e e' hij hi hj
    rcases Nat.lt_or_gt_of_ne hij with hlt | hgt
    · exact one i j e e' hlt hi hj
    · exact (one j i e' e hgt hj hi).symm
section
variable {P : Program} {G : Nat} {Q : Exit → T → H → Prop}
theorem RG.plain {ops : Array Oper} {Qc : Exit → Act → World → Prop} {R : List Nat} : ∀ {i : Nat} {t : T} {h : H} {recs : List Rec} {te : T} {he : H}, RG P G ops i t h recs te he → ∀ {ρ : Ren} {a : Act} {w : World},
    St G ρ t h a w → Free ρ h R → (∀ ρ' a' w', St G ρ' te he a' w' → Stp ρ h w ρ' he w' → Free ρ' he R → Qc .normal a' w') → ∀ l, l = (List.range ops.size).drop i → wpOps P ops Qc l a w := by
  intro i t h recs te he g
  induction g with
  | done hi =>
    intro ρ a w s f hK l hl
    rw [List.drop_eq_nil_of_le (by simpa using hi)] at hl
    subst hl
    exact hK ρ a w s (Stp.refl _ _ _) f
  | @step i t h o js us v pre post recs te he ho j rest ih =>
    intro ρ a w s f hK l hl
    have hlt : i < ops.size := (Array.getElem?_eq_some_iff.1 ho).1
    have : (List.range ops.size).drop i = i :: (List.range ops.size).drop (i + 1) := by
      rw [List.drop_eq_getElem_cons (by simpa using hlt)]; simp
    rw [this] at hl
    subst hl
    rw [wpOps_cons]
    refine opw_wpOp ho ?_ (j.great (fun _ _ => rfl) (fun _ _ => rfl) s f)
    rintro a' w' ⟨ρ', s', st', f'⟩
    exact ih s' f' (fun ρ2 a2 w2 s2 st2 f2 => hK ρ2 a2 w2 s2 (st'.trans st2) f2) _ rfl
/-- A region, with m new names; those that are left over are dropped. -/
theorem WP.region {ops : Array Oper} {draw : Bool} {id n : Nat} {s : As} {h : H} (m : Nat) (hm : P.follows .mixedOrders = true)
    (k : ∀ ks : Nat → Nat, RK P G ops draw n 0 s (h ++ gones m ks) [] fun s' he => ∃ h1, List.Sublist h1 he ∧ (∀ e ∈ h1, e.2 = .gone → e ∈ he.take h.length) ∧ Q .normal (mkT n s') h1) : WP P G (.region id ops draw) (mkT n s) h Q := by
  intro ρ a w R st f
  obtain ⟨ks, k1, k2, k3, k4⟩ := fresh_names st.sim R
  obtain ⟨recs, s', he, rg, hc, h1, hsub, hgo, hq⟩ := k ks
  have st' := st.more k1 k3 k4 m
  have f' : Free ρ (h ++ gones m ks) R := fun k hk => ⟨(f k hk).1, fun e hem hg => by
    rcases List.mem_append.1 hem with hem | hem
    · exact (f k hk).2 e hem hg
    · obtain ⟨i, _, rfl⟩ := gones_mem hem
      exact fun hx => k2 i (by rw [show ks i = k from hx]; exact hk)⟩
  have gn : ∀ e ∈ h1, e.2 = .gone → e ∈ h ++ gones m ks → e ∈ h := by
    intro e hem hg hin
    rcases List.mem_append.1 hin with hin | hin
    · exact hin
    · exfalso
      obtain ⟨i, hi, rfl⟩ := gones_mem hin
      obtain ⟨p, hp⟩ := List.mem_iff_getElem?.1 (hgo _ hem hg)
      rw [List.getElem?_take] at hp
      split at hp
      · rename_i hpl
        have hnm := congrArg (fun l : List Nat => l[p]?) rg.names
        simp only [List.map_append] at hnm
        rw [List.getElem?_map, hp, List.getElem?_append_left (by simpa using hpl), List.getElem?_map, List.getElem?_eq_getElem hpl] at hnm
        simp only [Option.map_some, Option.some.injEq] at hnm
        exact k3 i (List.mem_map.2 ⟨h[p], List.getElem_mem _, hnm.symm⟩)
      · cases hp
  have fin : ∀ ρ' a' w', St G ρ' (mkT n s') he a' w' → Stp ρ (h ++ gones m ks) w ρ' he w' → Free ρ' he R → ∃ t' h' ρ', Q .normal t' h' ∧ St G ρ' t' h' a' w' ∧ Stp ρ h w ρ' h' w' ∧ Free ρ' h' R := by
    intro ρ' a' w' s2 st2 f2
    refine ⟨_, _, ρ', hq, Wk.st ⟨rfl, fun _ _ h => h, hsub⟩ s2, ?_, f2.wk hsub⟩
    have nowr : ∀ e ∈ h ++ gones m ks, e.2.live = true → e ∈ h := by
      intro e he hl
      rcases List.mem_append.1 he with he | he
      · exact he
      · obtain ⟨i, _, rfl⟩ := gones_mem he; cases hl
    exact ⟨st2.ext, fun k b h0 h1 => (st2.new k b h0 h1).imp (fun x => x) fun ⟨e, he, hw, hb⟩ => ⟨e, nowr e he (AObj.live_of_wr hw), hw, hb⟩, st2.size, st2.os, st2.tape, st2.output,
      fun b hb hno => st2.keep b hb fun e he hw => hno e (nowr e he (AObj.live_of_wr hw)) hw,
      fun e' he' hl b hb => (st2.der e' (hsub.subset he') hl b hb).imp (fun x => x) fun ⟨e, he, hle, hw, hbe⟩ => ⟨e, nowr e he hle, hle, hw, hbe⟩,
      fun e' he' hg => gn e' he' hg (st2.gon e' (hsub.subset he') hg)⟩
  cases draw with
  | false => exact wp_region (rg.plain st' f' (fun ρ' a' w' s2 st2 f2 => fin ρ' a' w' s2 st2 f2) _ rfl)
  | true => exact wp_draw hm rg (by have := hc rfl; rw [List.nil_append] at this; unfold ckd at this; rw [touches_eq] at this; exact this) st' f' fun ρ' a' w' s2 st2 f2 => fin ρ' a' w' s2 st2 f2
end
/-- What a function does: called with these values, over this small memory, it returns v and leaves post. -/
structure Ctr (P : Program) (G : Nat) (f : FuncId) (args : List Value) (pre : H) (v : Value) (post : List AObj) : Prop where
  ent : ∃ fn, P.funcs[f]? = some fn ∧ (fn.name == "runtime.NumGoroutine") = false ∧ fn.body.isSome = true
  len : post.length = pre.length
  run : ∀ (R : List Nat) (ρ : Ren) (w : World) (cargs : Array Value), Sim G ρ pre w → VRL ρ args cargs.toList → Free ρ pre R →
    Calls P f cargs w fun e w' => ∃ v' ρ', e = .returned v' ∧ VR ρ' v v' ∧ Sim G ρ' (wth pre post) w' ∧ Stp ρ pre w ρ' (wth pre post) w' ∧ ∀ k ∈ R, ρ' k = none
end Go.Proofs.YtekcchmnncefhaaGreatDoorAB

/-! The laws of the operations. -/
namespace Go.Proofs.YtekcchmnncefhaaGreatDoorAB
open Go
/-- What is told of a type: is it a row of cells; how many; its zero; a struct's fields (place, size); an array's length, element, its size; a slice's element, its size. -/
structure TE where
  agg : Bool
  size : Nat
  zero : List Value
  bytes : Nat := 8
  fs : List (Nat × Nat) := []
  arr : Option (Nat × TypeId × Nat) := none
  sl : Option (TypeId × Nat) := none
abbrev Lay := List (TypeId × TE)
def lkT : Lay → TypeId → Option TE
  | [], _ => none
  | (u, e) :: r, t => if u = t then some e else lkT r t
def eqV : Value → Value → Bool
  | .bool a, .bool b => a == b
  | .int k a, .int l b => k == l && a == b
  | .float k a, .float l b => k == l && a == b
  | .complex k a b, .complex l c d => k == l && a == c && b == d
  | .string a, .string b => decide (a = b)
  | .pointer none, .pointer none => true
  | .slice none a b, .slice none c d => a == c && b == d
  | .map none, .map none => true
  | .nilFunc, .nilFunc => true
  | .nilIface, .nilIface => true
  | _, _ => false
theorem eqV_eq {a b : Value} (h : eqV a b = true) : a = b := by
  unfold eqV at h
  split at h <;> simp_all
def eqVL : List Value → List Value → Bool
  | [], [] => true
  | a :: as, b :: bs => eqV a b && eqVL as bs
  | _, _ => false
theorem eqVL_eq : ∀ {a b : List Value}, eqVL a b = true → a = b
  | [], [], _ => rfl
  | a :: as, b :: bs, h => by
    simp only [eqVL, Bool.and_eq_true] at h
    rw [eqV_eq h.1, eqVL_eq h.2]
def rowD : TypeDesc → Bool
  | .struct _ | .array _ _ => true
  | _ => false
def teOk (P : Program) (t : TypeId) (e : TE) : Bool :=
  match P.info? t, P.underlying t with
  | some i, some d => i.bytes == e.bytes && i.size == e.size && (match i.zero with | some z => eqVL z.cells.toList e.zero | none => false) && flat.flatL e.zero && e.zero.all (·.oneCell') && e.zero.length == e.size && e.agg == rowD d &&
    (match d with
     | .struct fields => (fields.toList.map fun f => (P.info? f.type).map fun j => (f.offset, j.size)) == e.fs.map some && e.arr.isNone && e.sl.isNone
     | .array n el => e.arr == ((P.info? el).map fun j => (n, el, j.size)) && e.arr.isSome && e.sl.isNone
     | .slice el => e.sl == ((P.info? el).map fun j => (el, j.size)) && e.sl.isSome && e.arr.isNone
     | _ => e.arr.isNone && e.sl.isNone)
  | _, _ => false
def LayOk (P : Program) (L : Lay) : Bool := L.all fun (t, e) => teOk P t e
theorem LayOk.get {P : Program} : ∀ {L : Lay} {t : TypeId} {e : TE}, LayOk P L = true → lkT L t = some e → teOk P t e = true
  | [], _, _, _, h => by simp [lkT] at h
  | (u, e') :: r, t, e, ok, h => by
    simp only [LayOk, List.all_cons, Bool.and_eq_true] at ok
    simp only [lkT] at h
    split at h
    · rename_i he; subst he; cases h; exact ok.1
    · exact LayOk.get (L := r) ok.2 h
structure TF (P : Program) (t : TypeId) (e : TE) : Prop where
  size : ∃ i, P.info? t = some i ∧ i.size = e.size ∧ i.bytes = e.bytes ∧ ∃ z, i.zero = some z ∧ z.cells.toList = e.zero
  und : ∃ d, P.underlying t = some d ∧ e.agg = rowD d
  flat : flat.flatL e.zero = true
  one : ∀ v ∈ e.zero, v.oneCell' = true
  len : e.zero.length = e.size
  arr : ∀ n el s, e.arr = some (n, el, s) → P.underlying t = some (.array n el) ∧ ∃ j, P.info? el = some j ∧ j.size = s
  sl : ∀ el s, e.sl = some (el, s) → P.underlying t = some (.slice el) ∧ ∃ j, P.info? el = some j ∧ j.size = s
  str : ∀ fields, P.underlying t = some (.struct fields) → (fields.toList.map fun f => (P.info? f.type).map fun j => (f.offset, j.size)) = e.fs.map some
  isStr : e.agg = true → e.arr = none → ∃ fields, P.underlying t = some (.struct fields)
theorem teOk.tf {P : Program} {t : TypeId} {e : TE} (h : teOk P t e = true) : TF P t e := by
  unfold teOk at h
  split at h
  · rename_i i d hi hd
    simp only [Bool.and_eq_true] at h
    obtain ⟨⟨⟨⟨⟨⟨⟨h0, h1⟩, h2⟩, h3⟩, h4⟩, h5⟩, h6⟩, h7⟩ := h
    have h0 : i.bytes = e.bytes := by simpa using h0
    have h1 : i.size = e.size := by simpa using h1
    have h5 : e.zero.length = e.size := by simpa using h5
    have h6 : e.agg = rowD d := by simpa using h6
    refine ⟨⟨i, hi, h1, h0, ?_⟩, ⟨d, hd, h6⟩, h3, fun v hv => List.all_eq_true.1 h4 v hv, h5, ?_, ?_, ?_, ?_⟩
    · cases hz : i.zero with
      | none => rw [hz] at h2; cases h2
      | some z => rw [hz] at h2; exact ⟨z, rfl, eqVL_eq h2⟩
    · intro n el s he
      cases d <;> try (simp [he] at h7; done)
      rename_i n' el' _
      simp only [he, Bool.and_eq_true] at h7
      have h8 : some (n, el, s) = ((P.info? el').map fun j => (n', el', j.size)) := eq_of_beq h7.1.1
      obtain ⟨j, hj, hh⟩ := Option.map_eq_some_iff.1 h8.symm
      obtain ⟨a, b, c⟩ : n' = n ∧ el' = el ∧ j.size = s := by simpa using hh
      subst a; subst b
      exact ⟨hd, j, hj, c⟩
    · intro el s he
      cases d <;> try (simp [he] at h7; done)
      rename_i el' _
      simp only [he, Bool.and_eq_true] at h7
      have h8 : some (el, s) = ((P.info? el').map fun j => (el', j.size)) := eq_of_beq h7.1.1
      obtain ⟨j, hj, hh⟩ := Option.map_eq_some_iff.1 h8.symm
      obtain ⟨b, c⟩ : el' = el ∧ j.size = s := by simpa using hh
      subst b
      exact ⟨hd, j, hj, c⟩
    · intro fields hf
      rw [hd] at hf
      cases hf
      simp only [Bool.and_eq_true] at h7
      exact eq_of_beq h7.1.1
    · intro ha hn
      rw [ha] at h6
      cases d <;> simp [rowD, hn] at h6 h7
      exact ⟨_, hd⟩
  · cases h
/-! ### operands -/
def EvR (G : Nat) (o : Oper) (t : T) (ρ : Ren) (a : Act) : Prop := ∀ x ∈ o.op.operands, ∀ u, ev G t x = some u → VR ρ u (a.eval x)
theorem EvR.of {G : Nat} {ops : Array Oper} {o : Oper} {t t2 : T} {ρ : Ren} {a : Act} (hg : ∀ g, g < G → ρ g = some g) (ht : ∀ s ∈ o.looksAt ops, t2[s]? = t[s]?) (tr : TR ρ t2 a.tmps.toList) : EvR G o t ρ a := by
  intro x hx u hu
  refine ev_vr hg tr ?_
  rw [ev_congr (t := t) fun i hi => ht i ?_]
  · exact hu
  · subst hi
    exact List.mem_append_left _ (List.mem_filterMap.2 ⟨.tmp i, by simpa using hx, rfl⟩)
/-- Is it carried out? -/
def wantA (ops : Array Oper) (o : Oper) (n : Nat) (s : As) : Option Bool :=
  match o.guard with
  | none => some true
  | some (j, want) => match (ops[j]?).bind (·.dst) with
    | some d => if d < n then (match look s d with
      | some (.bool b) => some (b == want)
      | some (.tuple _) => some false
      | _ => none) else none
    | none => none
theorem wantA_spec {ops : Array Oper} {o : Oper} {n : Nat} {s : As} {b : Bool} (h : wantA ops o n s = some b) {t2 : T} {ρ : Ren} {a : Act} (ht : ∀ sl ∈ o.looksAt ops, t2[sl]? = (mkT n s)[sl]?) (tr : TR ρ t2 a.tmps.toList) :
    Region.wanted o (yielded ops a.tmps) = b := by
  unfold wantA at h
  unfold Region.wanted
  cases hg : o.guard with
  | none => rw [hg] at h; simpa using h
  | some jw =>
    obtain ⟨j, want⟩ := jw
    rw [hg] at h
    simp only at h ⊢
    cases hd : (ops[j]?).bind (·.dst) with
    | none => rw [hd] at h; cases h
    | some d =>
      rw [hd] at h
      simp only at h
      split at h
      · rename_i hdn
        split at h
        · rename_i c hc
          cases h
          have h1 := ht d (by simp [Oper.looksAt, hg, hd])
          rw [mk_get, if_pos hdn, hc] at h1
          obtain ⟨v', h2, h3⟩ := tr.2 d _ h1
          simp only [vr_bool] at h3
          subst h3
          have h4 : a.tmps[d]? = some (.bool c) := by simpa using h2
          unfold yielded
          rw [hd]
          simp only [Option.bind_some, h4]
          cases c <;> cases want <;> rfl
        · rename_i xs hc
          cases h
          have h1 := ht d (by simp [Oper.looksAt, hg, hd])
          rw [mk_get, if_pos hdn, hc] at h1
          obtain ⟨v', h2, h3⟩ := tr.2 d _ h1
          obtain ⟨ys, _, rfl⟩ := vr_tuple.1 h3
          have h4 : a.tmps[d]? = some (.tuple ⟨ys⟩) := by simpa using h2
          unfold yielded
          rw [hd]
          simp only [Option.bind_some, h4]
          rfl
        · cases h
      · cases h
section
variable {P : Program} {G : Nat} {ops : Array Oper} {o : Oper} {n : Nat} {s : As} {h : H}
/-- What an operation leaves. -/
def Lv (o : Oper) (a : Act) (G : Nat) (R : List Nat) (ρ : Ren) (pre : H) (post : List AObj) (v : Option Value) (w : World) (a' : Act) (w' : World) : Prop :=
  ∃ v' ρ', a' = a.put o.dst v' ∧ (∀ x, v = some x → VR ρ' x v') ∧ Sim G ρ' (wth pre post) w' ∧ Stp ρ pre w ρ' (wth pre post) w' ∧ ∀ k ∈ R, ρ' k = none
theorem OPJ.of {js : List Nat} {us : List (Nat × AObj)} {v : Option Value} {pre : H} {post : List AObj} (hw : wantA ops o n s = some true) (fits : Fits h js pre) (len : post.length = pre.length)
    (same : ∀ h2 : H, (∀ j ∈ js, h2[j]? = h[j]?) → upd h2 (js.zip post) = upd h2 us) (sub : ∀ u ∈ us, u.1 ∈ js)
    (run : ∀ (ρ : Ren) (w : World) (a : Act) (R : List Nat), Sim G ρ pre w → EvR G o (mkT n s) ρ a → Free ρ pre R → o.wp P a w (Lv o a G R ρ pre post v w) (fun _ _ _ => False)) : OPJ P G ops o (mkT n s) h js us v pre post :=
  ⟨fits, len, same, sub, fun t2 ρ w a R ht sim tr fr _ => by
    unfold opw
    rw [if_pos (wantA_spec hw ht tr)]
    exact run ρ w a R sim (EvR.of sim.glob ht tr) fr⟩
theorem wp_value {a : Act} {w w1 : World} {v : Value} {K : Act → World → Prop} {Q : Exit → Act → World → Prop} (hrun : (execOp a.eval o).run P w = .ok (.value v) w1) (h : K (a.put o.dst v) w1) : o.wp P a w K Q := by
  unfold Oper.wp; rw [hrun]; exact h
theorem wp_skip' {a : Act} {w w1 : World} {K : Act → World → Prop} {Q : Exit → Act → World → Prop} (hrun : (execOp a.eval o).run P w = .ok .skip w1) (h : K (a.put o.dst undef) w1) : o.wp P a w K Q := by
  unfold Oper.wp; rw [hrun]; exact h
theorem fits_nil : Fits h [] [] := ⟨List.nodup_nil, rfl⟩
theorem Sim.nil {ρ : Ren} {w : World} (s : Sim G ρ [] w) : Sim G ρ (wth [] []) w := s
/-- An operation that only reckons. -/
theorem OPJ.pure {v : Value} (hw : wantA ops o n s = some true)
    (run : ∀ (ρ : Ren) (w : World) (a : Act), (∀ g, g < G → ρ g = some g) → EvR G o (mkT n s) ρ a → ∃ v', (execOp a.eval o).run P w = .ok (.value v') w ∧ VR ρ v v') : OPJ P G ops o (mkT n s) h [] [] (some v) [] [] :=
  OPJ.of hw fits_nil rfl (fun _ _ => rfl) (fun _ h => by cases h) fun ρ w a R sim er fr => by
    obtain ⟨v', hr, hv⟩ := run ρ w a sim.glob er
    exact wp_value hr ⟨v', ρ, rfl, fun x hx => by cases hx; exact hv, sim, Stp.refl ρ _ w, fun k hk => (fr k hk).1⟩
/-- An operation that its guard leaves out. -/
theorem OPJ.off (hw : wantA ops o n s = some false) : OPJ P G ops o (mkT n s) h [] [] (some (.tuple #[])) [] [] :=
  ⟨fits_nil, rfl, fun _ _ => rfl, fun _ h => (by cases h), fun t2 ρ w a R ht sim tr fr _ => by
    unfold opw
    rw [wantA_spec hw ht tr]
    exact ⟨undef, ρ, rfl, fun x hx => (by cases hx; exact .tuple .nil), sim, Stp.refl ρ _ w, fun k hk => (fr k hk).1⟩⟩
theorem EvR.get {ρ : Ren} {a : Act} (er : EvR G o (mkT n s) ρ a) {x : Operand} {u : Value} (hx : x ∈ o.op.operands) (hu : evA G n s x = some u) : VR ρ u (a.eval x) := er x hx u (by rw [ev_mk]; exact hu)
theorem o_move {x : Operand} {v : Value} (ho : o.op = .move x) (hw : wantA ops o n s = some true) (hx : evA G n s x = some v) : OPJ P G ops o (mkT n s) h [] [] (some v) [] [] :=
  OPJ.pure hw fun ρ w a _ er => ⟨a.eval x, by simp [execOp, ho], er.get (by simp [ho, Op.operands]) hx⟩
theorem o_assign {x : Operand} {v : Value} (ho : o.op = .assign x) (hw : wantA ops o n s = some true) (hx : evA G n s x = some v) : OPJ P G ops o (mkT n s) h [] [] (some v) [] [] :=
  OPJ.pure hw fun ρ w a _ er => ⟨a.eval x, by simp [execOp, ho], er.get (by simp [ho, Op.operands]) hx⟩
theorem o_pick_t {c x y : Operand} {v : Value} (ho : o.op = .pick c x y) (hw : wantA ops o n s = some true) (hc : evA G n s c = some (.bool true)) (hx : evA G n s x = some v) : OPJ P G ops o (mkT n s) h [] [] (some v) [] [] :=
  OPJ.pure hw fun ρ w a _ er => ⟨a.eval x, by
    have h1 := er.get (by simp [ho, Op.operands]) hc
    simp only [vr_bool] at h1
    simp [execOp, ho, h1, asBool], er.get (by simp [ho, Op.operands]) hx⟩
theorem o_pick_f {c x y : Operand} {v : Value} (ho : o.op = .pick c x y) (hw : wantA ops o n s = some true) (hc : evA G n s c = some (.bool false)) (hx : evA G n s y = some v) : OPJ P G ops o (mkT n s) h [] [] (some v) [] [] :=
  OPJ.pure hw fun ρ w a _ er => ⟨a.eval y, by
    have h1 := er.get (by simp [ho, Op.operands]) hc
    simp only [vr_bool] at h1
    simp [execOp, ho, h1, asBool], er.get (by simp [ho, Op.operands]) hx⟩
/-- What an operator of two numbers of one kind gives. -/
def intOp (op : BinOp) (k : IntKind) (x y : Int) : Option Value :=
  match op with
  | .add => some (.int k (k.wrap (x + y)))
  | .sub => some (.int k (k.wrap (x - y)))
  | .mul => some (.int k (k.wrap (x * y)))
  | .eql => some (.bool (x == y))
  | .neq => some (.bool (x != y))
  | .lss => some (.bool (x < y))
  | .leq => some (.bool (x ≤ y))
  | .gtr => some (.bool (x > y))
  | .geq => some (.bool (x ≥ y))
  | .and => some (.int k (k.wrap (BitVec.ofInt k.bits x &&& BitVec.ofInt k.bits y).toNat))
  | .or => some (.int k (k.wrap (BitVec.ofInt k.bits x ||| BitVec.ofInt k.bits y).toNat))
  | .xor => some (.int k (k.wrap (BitVec.ofInt k.bits x ^^^ BitVec.ofInt k.bits y).toNat))
  | .andNot => some (.int k (k.wrap (BitVec.ofInt k.bits x &&& ~~~ BitVec.ofInt k.bits y).toNat))
  | _ => none
theorem o_int {op : BinOp} {xt yt : TypeId} {x y : Operand} {k : IntKind} {p q : Int} {v : Value} (ho : o.op = .binOp op xt x y yt) (hw : wantA ops o n s = some true) (hx : evA G n s x = some (.int k p)) (hy : evA G n s y = some (.int k q))
    (hv : intOp op k p q = some v) : OPJ P G ops o (mkT n s) h [] [] (some v) [] [] :=
  OPJ.pure hw fun ρ w a _ er => by
    have h1 := er.get (by simp [ho, Op.operands]) hx
    have h2 := er.get (by simp [ho, Op.operands]) hy
    simp only [vr_int] at h1 h2
    cases op <;> simp only [intOp, Option.some.injEq] at hv <;> first | (cases hv; done) | (subst hv; exact ⟨_, by simp [execOp, ho, h1, h2, eqGuard, binOp, Op.intArith, Op.intCmp, Op.intBits]; rfl, by simp⟩)
theorem o_quo {xt yt : TypeId} {x y : Operand} {k : IntKind} {p q : Int} (ho : o.op = .binOp .quo xt x y yt) (hw : wantA ops o n s = some true) (hx : evA G n s x = some (.int k p)) (hy : evA G n s y = some (.int k q)) (hq : q ≠ 0) :
    OPJ P G ops o (mkT n s) h [] [] (some (.int k (k.wrap (p.tdiv q)))) [] [] :=
  OPJ.pure hw fun ρ w a _ er => by
    have h1 := er.get (by simp [ho, Op.operands]) hx
    have h2 := er.get (by simp [ho, Op.operands]) hy
    simp only [vr_int] at h1 h2
    exact ⟨_, by simp [execOp, ho, h1, h2, eqGuard, binOp, Op.intDiv, hq]; rfl, by simp⟩
theorem o_rem {xt yt : TypeId} {x y : Operand} {k : IntKind} {p q : Int} (ho : o.op = .binOp .rem xt x y yt) (hw : wantA ops o n s = some true) (hx : evA G n s x = some (.int k p)) (hy : evA G n s y = some (.int k q)) (hq : q ≠ 0) :
    OPJ P G ops o (mkT n s) h [] [] (some (.int k (p.tmod q))) [] [] :=
  OPJ.pure hw fun ρ w a _ er => by
    have h1 := er.get (by simp [ho, Op.operands]) hx
    have h2 := er.get (by simp [ho, Op.operands]) hy
    simp only [vr_int] at h1 h2
    exact ⟨_, by simp [execOp, ho, h1, h2, eqGuard, binOp, Op.intDiv, hq]; rfl, by simp⟩
theorem o_shl {xt yt : TypeId} {x y : Operand} {k l : IntKind} {p q : Int} (ho : o.op = .binOp .shl xt x y yt) (hw : wantA ops o n s = some true) (hx : evA G n s x = some (.int k p)) (hy : evA G n s y = some (.int l q)) (hq : 0 ≤ q) :
    OPJ P G ops o (mkT n s) h [] [] (some (.int k (k.wrap (p * 2 ^ min q.toNat k.bits)))) [] [] :=
  OPJ.pure hw fun ρ w a _ er => by
    have h1 := er.get (by simp [ho, Op.operands]) hx
    have h2 := er.get (by simp [ho, Op.operands]) hy
    simp only [vr_int] at h1 h2
    have hq' : ¬ q < 0 := by omega
    exact ⟨_, by simp [execOp, ho, h1, h2, eqGuard, binOp, Op.shift, hq']; rfl, by simp⟩
theorem o_shr {xt yt : TypeId} {x y : Operand} {k l : IntKind} {p q : Int} (ho : o.op = .binOp .shr xt x y yt) (hw : wantA ops o n s = some true) (hx : evA G n s x = some (.int k p)) (hy : evA G n s y = some (.int l q)) (hq : 0 ≤ q) :
    OPJ P G ops o (mkT n s) h [] [] (some (.int k (p.fdiv (2 ^ min q.toNat k.bits)))) [] [] :=
  OPJ.pure hw fun ρ w a _ er => by
    have h1 := er.get (by simp [ho, Op.operands]) hx
    have h2 := er.get (by simp [ho, Op.operands]) hy
    simp only [vr_int] at h1 h2
    have hq' : ¬ q < 0 := by omega
    exact ⟨_, by simp [execOp, ho, h1, h2, eqGuard, binOp, Op.shift, hq']; rfl, by simp⟩
theorem o_neg {xt : TypeId} {x : Operand} {k : IntKind} {p : Int} (ho : o.op = .unOp .neg xt x) (hw : wantA ops o n s = some true) (hx : evA G n s x = some (.int k p)) :
    OPJ P G ops o (mkT n s) h [] [] (some (.int k (k.wrap (0 - p)))) [] [] :=
  OPJ.pure hw fun ρ w a _ er => by
    have h1 := er.get (by simp [ho, Op.operands]) hx
    simp only [vr_int] at h1
    exact ⟨_, by simp [execOp, ho, h1, Op.unary, Op.intArith]; rfl, by simp⟩
theorem o_not {xt : TypeId} {x : Operand} {b : Bool} (ho : o.op = .unOp .not xt x) (hw : wantA ops o n s = some true) (hx : evA G n s x = some (.bool b)) :
    OPJ P G ops o (mkT n s) h [] [] (some (.bool (!b))) [] [] :=
  OPJ.pure hw fun ρ w a _ er => by
    have h1 := er.get (by simp [ho, Op.operands]) hx
    simp only [vr_bool] at h1
    exact ⟨_, by simp [execOp, ho, h1, Op.unary]; rfl, by simp⟩
theorem o_nilCheck {x : Operand} {i f : Nat} {sp : Option Nat} (ho : o.op = .nilCheck x) (hw : wantA ops o n s = some true) (hx : evA G n s x = some (.pointer (some ⟨i, f, sp⟩))) :
    OPJ P G ops o (mkT n s) h [] [] (some (.pointer (some ⟨i, f, sp⟩))) [] [] :=
  OPJ.pure hw fun ρ w a _ er => by
    have h1 := er.get (by simp [ho, Op.operands]) hx
    obtain ⟨b, hb, h2⟩ := vr_ptr.1 h1
    exact ⟨.pointer (some ⟨b, f, sp⟩), by simp [execOp, ho, h2], .ptr f sp hb⟩
end
end Go.Proofs.YtekcchmnncefhaaGreatDoorAB

/-! The laws of the operations on memory, and of calls. -/
namespace Go.Proofs.YtekcchmnncefhaaGreatDoorAB
open Go
theorem tfOf {P : Program} {L : Lay} {t : TypeId} {e : TE} (hL : LayOk P L = true) (ht : lkT L t = some e) : TF P t e := teOk.tf (LayOk.get hL ht)
/-! lists, so that a normal form comes out at once -/
def setO {α : Type} : List α → Nat → α → Option (List α)
  | [], _, _ => none
  | _ :: xs, 0, v => some (v :: xs)
  | x :: xs, n + 1, v => match setO xs n v with
    | some ys => some (x :: ys)
    | none => none
theorem setO_eq {α : Type} : ∀ {l : List α} {n : Nat} {v : α} {r : List α}, setO l n v = some r → r = l.set n v ∧ n < l.length
  | [], _, _, _, h => by simp [setO] at h
  | x :: xs, 0, v, r, h => by simp [setO] at h; simp [h]
  | x :: xs, n + 1, v, r, h => by
    simp only [setO] at h
    split at h
    · rename_i ys hy
      obtain ⟨h1, h2⟩ := setO_eq hy
      cases h
      simp [h1, h2]
    · cases h
def putO : List Value → Nat → List Value → Option (List Value)
  | l, _, [] => some l
  | l, o, v :: vs => match setO l o v with
    | some l' => putO l' (o + 1) vs
    | none => none
def takeO {α : Type} : Nat → List α → Option (List α)
  | 0, _ => some []
  | n + 1, x :: xs => match takeO n xs with
    | some ys => some (x :: ys)
    | none => none
  | _ + 1, [] => none
theorem takeO_eq {α : Type} : ∀ {n : Nat} {l r : List α}, takeO n l = some r → r = l.take n ∧ n ≤ l.length
  | 0, _, _, h => by simp [takeO] at h; simp [h]
  | n + 1, x :: xs, r, h => by
    simp only [takeO] at h
    split at h
    · rename_i ys hy
      obtain ⟨h1, h2⟩ := takeO_eq hy
      cases h
      simp [h1, h2]
    · cases h
  | _ + 1, [], _, h => by simp [takeO] at h
def segO : List Value → Nat → Nat → Option (List Value)
  | l, 0, n => takeO n l
  | _ :: xs, o + 1, n => segO xs o n
  | [], _ + 1, _ => none
theorem segO_eq : ∀ {l : List Value} {o n : Nat} {r : List Value}, segO l o n = some r → r = (l.drop o).take n ∧ o + n ≤ l.length
  | l, 0, n, r, h => by
    have h' : takeO n l = some r := by cases l <;> simpa [segO] using h
    obtain ⟨h1, h2⟩ := takeO_eq h'
    simp [h1, h2]
  | x :: xs, o + 1, n, r, h => by
    obtain ⟨h1, h2⟩ := segO_eq (l := xs) (by simpa [segO] using h)
    simp [h1]; omega
  | [], _ + 1, _, _, h => by simp [segO] at h
def updO : H → List (Nat × AObj) → Option H
  | h, [] => some h
  | h, (j, o) :: us => match h[j]? with
    | some (k, _) => match setO h j (k, o) with
      | some h' => updO h' us
      | none => none
    | none => none
theorem updO_eq : ∀ {us : List (Nat × AObj)} {h h' : H}, updO h us = some h' → upd h us = h'
  | [], h, h', e => by simp [updO] at e; exact e
  | (j, o) :: us, h, h', e => by
    simp only [updO] at e
    split at e
    · rename_i k0 o0 hx
      split at e
      · rename_i h1 hs
        obtain ⟨h2, h3⟩ := setO_eq hs
        rw [upd, ← updO_eq e, h2]
        congr 1
        refine List.ext_getElem? fun i => ?_
        rw [List.getElem?_modify, List.getElem?_set]
        by_cases hi : j = i
        · subst hi; rw [hx]; simp [h3]
        · simp [hi]
      · cases e
    · cases e
def vcells : Value → List Value
  | .agg cs => cs.toList
  | v => [v]
theorem vcells_eq (v : Value) : vcells v = v.cells.toList := by cases v <;> rfl
theorem VR.cells {ρ : Ren} {v v' : Value} (h : VR ρ v v') : VRL ρ (vcells v) (vcells v') := by
  cases h with
  | agg h => exact h
  | _ => simp only [vcells]; exact .cons (by constructor <;> assumption) .nil
theorem VR.one {ρ : Ren} {v v' : Value} (h : VR ρ v v') : v'.oneCell' = v.oneCell' := by cases h <;> rfl
theorem VRL.ones {ρ : Ren} : ∀ {vs vs' : List Value}, VRL ρ vs vs' → vs.all (·.oneCell') = true → ∀ v ∈ vs', v.oneCell' = true
  | _, _, .nil, _, _, hv => by cases hv
  | _, _, .cons h hs, ha, v, hv => by
    simp only [List.all_cons, Bool.and_eq_true] at ha
    rcases List.mem_cons.1 hv with rfl | hv
    · rw [h.one]; exact ha.1
    · exact hs.ones ha.2 v hv
theorem putO_eq : ∀ {vs l : List Value} {o : Nat} {r : List Value}, putO l o vs = some r → r = l.take o ++ vs ++ l.drop (o + vs.length) ∧ (vs ≠ [] → o + vs.length ≤ l.length)
  | [], l, o, r, h => by simp [putO] at h; simp [h]
  | v :: vs, l, o, r, h => by
    simp only [putO] at h
    split at h
    · rename_i l' hl
      obtain ⟨h1, h2⟩ := setO_eq hl
      obtain ⟨h3, h4⟩ := putO_eq h
      subst h1
      have hlen : o + (vs.length + 1) ≤ l.length := by
        cases vs with
        | nil => simp; omega
        | cons => have := h4 (by simp); simp at this ⊢; omega
      refine ⟨?_, fun _ => by simpa using hlen⟩
      rw [h3]
      have e1 : (l.set o v).take (o + 1) = l.take o ++ [v] := by
        rw [List.take_succ_eq_append_getElem (by simp; omega), List.take_set_of_le (Nat.le_refl _)]
        simp
      have e2 : (l.set o v).drop (o + 1 + vs.length) = l.drop (o + (v :: vs).length) := by
        rw [List.drop_set_of_lt (by omega)]
        congr 1
        simp; omega
      rw [e1, e2]
      simp
    · cases h
def AObj.at : AObj → Nat → Option Value
  | .cells cs _, o => cs[o]?
  | .row cs _ _, o => cs[o]?
  | .ro off cs, o => if off ≤ o then cs[o - off]? else none
  | _, _ => none
def AObj.seg : AObj → Nat → Nat → Option (List Value)
  | .cells cs _, o, n => segO cs o n
  | .row cs _ _, o, n => segO cs o n
  | .ro off cs, o, n => if off ≤ o then segO cs (o - off) n else none
  | _, _, _ => none
def AObj.put : AObj → Nat → List Value → Option AObj
  | .cells cs t, o, vs => match putO cs o vs with
    | some r => some (.cells r t)
    | none => none
  | .row cs t sz, o, vs => match putO cs o vs with
    | some r => some (.row r t sz)
    | none => none
  | _, _, _ => none
theorem add_none (b o n : Nat) : (⟨b, o, none⟩ : Addr).add n = ⟨b, o + n, none⟩ := by
  unfold Addr.add; split
  · rename_i h; subst h; rfl
  · rfl
theorem OR.at_ {ρ : Ren} {k : Nat} {ob : AObj} {o : Obj} {w : World} {b f : Nat} {v : Value} (h : OR ρ k ob o) (hb : w.heap[b]? = some o) (hv : ob.at f = some v) : ∃ v', w.cell? ⟨b, f, none⟩ = some v' ∧ VR ρ v v' := by
  cases ob with
  | cells cs t =>
    obtain ⟨cs', hc, rfl⟩ := h
    obtain ⟨v', h1, h2⟩ := hc.get f hv
    exact ⟨v', by simp [World.cell?, hb, h1], h2⟩
  | row cs t sz =>
    obtain ⟨cs', ex, hc, _, rfl⟩ := h
    obtain ⟨v', h1, h2⟩ := hc.get f hv
    refine ⟨v', ?_, h2⟩
    simp only [World.cell?, hb]
    simp [List.getElem?_append_left (List.getElem?_eq_some_iff.1 h1).1, h1]
  | ro off cs =>
    obtain ⟨arr, ty, fr, rfl, hc⟩ := h
    simp only [AObj.at] at hv
    split at hv
    · rename_i hle
      obtain ⟨v', h1, h2⟩ := hc.get _ hv
      refine ⟨v', ?_, h2⟩
      rw [List.getElem?_take] at h1
      split at h1
      · rw [List.getElem?_drop, show off + (f - off) = f from by omega] at h1
        simp [World.cell?, hb]
        simpa using h1
      · cases h1
    · cases hv
  | _ => simp [AObj.at] at hv
theorem OR.seg {ρ : Ren} {k : Nat} {ob : AObj} {o : Obj} {w : World} {b f m : Nat} {vs : List Value} (h : OR ρ k ob o) (hb : w.heap[b]? = some o) (hv : ob.seg f m = some vs) :
    ∃ vs', vs'.length = m ∧ VRL ρ vs vs' ∧ ∀ (j : Nat) v, vs'[j]? = some v → w.cell? ⟨b, f + j, none⟩ = some v := by
  cases ob with
  | cells cs t =>
    obtain ⟨cs', hc, rfl⟩ := h
    obtain ⟨h1, h2⟩ := segO_eq (show segO cs f m = some vs from hv)
    have hl := hc.length
    refine ⟨(cs'.drop f).take m, by simp; omega, by rw [h1]; exact (hc.drop f).take m, fun j v hj => ?_⟩
    rw [List.getElem?_take] at hj
    split at hj
    · rw [List.getElem?_drop] at hj
      simp [World.cell?, hb, hj]
    · cases hj
  | row cs t sz =>
    obtain ⟨cs', ex, hc, _, rfl⟩ := h
    obtain ⟨h1, h2⟩ := segO_eq (show segO cs f m = some vs from hv)
    have hl := hc.length
    refine ⟨(cs'.drop f).take m, by simp; omega, by rw [h1]; exact (hc.drop f).take m, fun j v hj => ?_⟩
    rw [List.getElem?_take] at hj
    split at hj
    · rw [List.getElem?_drop] at hj
      simp only [World.cell?, hb]
      simp [List.getElem?_append_left (List.getElem?_eq_some_iff.1 hj).1, hj]
    · cases hj
  | ro off cs =>
    obtain ⟨arr, ty, fr, rfl, hc⟩ := h
    simp only [AObj.seg] at hv
    split at hv
    · rename_i hle
      obtain ⟨h1, h2⟩ := segO_eq hv
      have hl := hc.length
      refine ⟨((((arr.toList.drop off).take cs.length)).drop (f - off)).take m, ?_, by rw [h1]; exact (hc.drop _).take m, fun j v hj => ?_⟩
      · rw [List.length_take, List.length_drop, hl]; omega
      · rw [List.getElem?_take] at hj
        split at hj
        · rw [List.getElem?_drop, List.getElem?_take] at hj
          split at hj
          · rw [List.getElem?_drop, show off + (f - off + j) = f + j from by omega] at hj
            simp [World.cell?, hb]
            simpa using hj
          · cases hj
        · cases hj
    · cases hv
  | _ => simp [AObj.seg] at hv
section
variable {P : Program} {L : Lay}
theorem run_isAgg {t : TypeId} {e : TE} (tf : TF P t e) (w : World) : (isAgg t).run P w = .ok e.agg w := by
  obtain ⟨d, hd, he⟩ := tf.und
  unfold isAgg
  rw [Sem.run_bind, run_underlying hd w, he]
  cases d <;> rfl
theorem run_sizeT {t : TypeId} {e : TE} (tf : TF P t e) (w : World) : (sizeOf t).run P w = .ok e.size w := by
  obtain ⟨i, hi, hs, _⟩ := tf.size
  simp [sizeOf, typeInfo, hi, hs]
theorem run_zeroT {t : TypeId} {e : TE} (tf : TF P t e) (w : World) : ∃ z, (zeroValue t).run P w = .ok z w ∧ z.cells.toList = e.zero := by
  obtain ⟨i, hi, hs, _, z, hz, hc⟩ := tf.size
  exact ⟨z, by simp [zeroValue, typeInfo, hi, hz], hc⟩
theorem run_load_cell {t : TypeId} {e : TE} (tf : TF P t e) (ha : e.agg = false) {w : World} {b f : Nat} {v : Value} (hc : w.cell? ⟨b, f, none⟩ = some v) : (Instr.loadAt t (.pointer (some ⟨b, f, none⟩))).run P w = .ok v w := by
  simp [Instr.loadAt, Instr.sureAddr, loadVar, run_isAgg tf, ha, hc]
theorem run_load_row {t : TypeId} {e : TE} (tf : TF P t e) (ha : e.agg = true) {w : World} {b f : Nat} {vs : List Value} (hl : vs.length = e.size) (hc : ∀ (j : Nat) v, vs[j]? = some v → w.cell? ⟨b, f + j, none⟩ = some v) :
    (Instr.loadAt t (.pointer (some ⟨b, f, none⟩))).run P w = .ok (.agg ⟨vs⟩) w := by
  have h1 := run_loadCells_list (P := P) w ⟨b, f, none⟩ vs (fun j v hj => by rw [add_none]; exact hc j v hj)
  rw [hl] at h1
  simp [Instr.loadAt, Instr.sureAddr, loadVar, run_isAgg tf, ha, run_sizeT tf, h1]
end
section
variable {P : Program} {G : Nat} {ops : Array Oper} {o : Oper} {n : Nat} {s : As} {h : H} {L : Lay}
theorem fits_one {j : Nat} {e : Nat × AObj} (hl : h[j]? = some e) : Fits h [j] [e] := ⟨by simp, by simp [hl]⟩
theorem same_read {j : Nat} {e : Nat × AObj} (hl : h[j]? = some e) : ∀ h2 : H, (∀ i ∈ [j], h2[i]? = h[i]?) → upd h2 ([j].zip [e.2]) = upd h2 [] := by
  intro h2 hh
  have := hh j (by simp)
  rw [hl] at this
  show h2.modify j _ = h2
  refine List.ext_getElem? fun i => ?_
  rw [List.getElem?_modify]
  by_cases hi : j = i
  · subst hi; simp [this]
  · simp [hi]
theorem fa_val {st : TypeId} {x : Operand} {fld k f off sz : Nat} {e : TE} (hL : LayOk P L = true) (ho : o.op = .fieldAddr st x fld) (hw : wantA ops o n s = some true) (hx : evA G n s x = some (.pointer (some ⟨k, f, none⟩)))
    (ht : lkT L st = some e) (ha : e.agg = true) (hn : e.arr = none) (hf : e.fs[fld]? = some (off, sz + 1)) : OPJ P G ops o (mkT n s) h [] [] (some (.pointer (some ⟨k, f + off, none⟩))) [] [] :=
  OPJ.pure hw fun ρ w a _ er => by
    have tf := tfOf hL ht
    obtain ⟨fields, hu⟩ := tf.isStr ha hn
    have hm := tf.str fields hu
    have h1 := congrArg (·[fld]?) hm
    simp only [List.getElem?_map, hf, Option.map_some] at h1
    obtain ⟨b, hb, hv⟩ := vr_ptr.1 (er.get (by simp [ho, Op.operands]) hx)
    cases hq : fields.toList[fld]? with
    | none => rw [hq] at h1; simp at h1
    | some fd =>
      rw [hq] at h1
      simp only [Option.map_some, Option.some.injEq] at h1
      obtain ⟨i, hi, hh⟩ := Option.map_eq_some_iff.1 h1
      obtain ⟨h2, h3⟩ : fd.offset = off ∧ i.size = sz + 1 := by simpa using hh
      have hq' : fields[fld]? = some fd := by simpa using hq
      refine ⟨.pointer (some ⟨b, f + off, none⟩), ?_, .ptr _ _ hb⟩
      simp [execOp, ho, hv, Instr.fieldAt, run_underlying hu, hq', Instr.sureAddr, fieldPlace, sizeOf, typeInfo, hi, h3, h2, add_none]
theorem o_load {ty : TypeId} {x : Operand} {k f j : Nat} {ob : AObj} {v : Value} {e : TE} (hL : LayOk P L = true) (ho : o.op = .load ty x) (hw : wantA ops o n s = some true) (hx : evA G n s x = some (.pointer (some ⟨k, f, none⟩)))
    (ht : lkT L ty = some e) (ha : e.agg = false) (hl : h[j]? = some (k, ob)) (hv : ob.at f = some v) : OPJ P G ops o (mkT n s) h [j] [] (some v) [(k, ob)] [ob] :=
  OPJ.of hw (fits_one hl) rfl (same_read hl) (fun _ h => by cases h) fun ρ w a R sim er fr => by
    have tf := tfOf hL ht
    obtain ⟨b, hb, hp⟩ := vr_ptr.1 (er.get (by simp [ho, Op.operands]) hx)
    have live : ob.live = true := by cases ob <;> simp_all [AObj.at, AObj.live]
    obtain ⟨b', ob', hb', hh, hor⟩ := (sim.ent (k, ob) (by simp)).2 live
    rw [hb] at hb'
    cases hb'
    obtain ⟨v', hc, hvr⟩ := hor.at_ hh hv
    exact wp_value (v := v') (w1 := w) (by simp [execOp, ho, hp, run_load_cell tf ha hc]) ⟨v', ρ, rfl, fun x hx => by cases hx; exact hvr, sim, Stp.refl ρ _ w, fun k hk => (fr k hk).1⟩
theorem o_loadr {ty : TypeId} {x : Operand} {k f j : Nat} {ob : AObj} {vs : List Value} {e : TE} (hL : LayOk P L = true) (ho : o.op = .load ty x) (hw : wantA ops o n s = some true) (hx : evA G n s x = some (.pointer (some ⟨k, f, none⟩)))
    (ht : lkT L ty = some e) (ha : e.agg = true) (hl : h[j]? = some (k, ob)) (hv : ob.seg f e.size = some vs) : OPJ P G ops o (mkT n s) h [j] [] (some (.agg ⟨vs⟩)) [(k, ob)] [ob] :=
  OPJ.of hw (fits_one hl) rfl (same_read hl) (fun _ h => by cases h) fun ρ w a R sim er fr => by
    have tf := tfOf hL ht
    obtain ⟨b, hb, hp⟩ := vr_ptr.1 (er.get (by simp [ho, Op.operands]) hx)
    have live : ob.live = true := by cases ob <;> simp_all [AObj.seg, AObj.live]
    obtain ⟨b', ob', hb', hh, hor⟩ := (sim.ent (k, ob) (by simp)).2 live
    rw [hb] at hb'
    cases hb'
    obtain ⟨vs', hlen, hvr, hc⟩ := hor.seg hh hv
    exact wp_value (v := .agg ⟨vs'⟩) (w1 := w) (by simp [execOp, ho, hp, run_load_row tf ha hlen hc]) ⟨_, ρ, rfl, fun x hx => by cases hx; exact .agg hvr, sim, Stp.refl ρ _ w, fun k hk => (fr k hk).1⟩
end
end Go.Proofs.YtekcchmnncefhaaGreatDoorAB

namespace Go.Proofs.YtekcchmnncefhaaGreatDoorAB
open Go
section
variable {P : Program} {G : Nat} {ops : Array Oper} {o : Oper} {n : Nat} {s : As} {h : H} {L : Lay}
/-- One block is written. -/
theorem lv_put {ρ : Ren} {w : World} {a : Act} {R : List Nat} {k b : Nat} {ob ob' : AObj} {cs : Array Value} {ty : TypeId} {old : Array Value} (sim : Sim G ρ [(k, ob)] w) (hb : ρ k = some b) (hh : w.heap[b]? = some (.cells old ty (0, 0)))
    (hwr : ob.wr = true) (hwr' : ob'.wr = true) (hor : OR ρ k ob' (.cells cs ty (0, 0))) (fr : Free ρ [(k, ob)] R) : Lv o a G R ρ [(k, ob)] [ob'] none w (a.put o.dst undef) (w.setRow b cs) := by
  have hb' : b < w.heap.size := sim.dom k b hb
  have hnew : (w.setRow b cs).heap[b]? = some (.cells cs ty (0, 0)) := setRow_heap w b old cs ty (0, 0) hh
  refine ⟨undef, ρ, rfl, fun x hx => (by cases hx), ⟨fun i c hi => by rw [size_setRow]; exact sim.dom i c hi, ?_, ?_, sim.glob, sim.fin⟩, ⟨Ext.refl ρ, fun q c h0 h1 => absurd (h0.symm.trans h1) (by simp), by simp, rfl, rfl, rfl, ?_, ?_, ?_⟩, fun q hq => (fr q hq).1⟩
  · intro e he
    have he : e = (k, ob') := by simpa [wth] using he
    subst he
    exact ⟨fun hg => (by have hg : ob' = .gone := hg; rw [hg] at hwr'; cases hwr'), fun _ => ⟨b, _, hb, hnew, hor⟩⟩
  · intro i j e e' hij hi hj
    have h1 : i < 1 := by have := (List.getElem?_eq_some_iff.1 hi).1; simpa [wth] using this
    have h2 : j < 1 := by have := (List.getElem?_eq_some_iff.1 hj).1; simpa [wth] using this
    omega
  · intro c hc hno
    refine setRow_other w b c cs ?_
    intro hx
    subst hx
    exact hno (k, ob) (by simp) hwr hb
  · intro e' he' hl c hc
    have he : e' = (k, ob') := by simpa [wth] using he'
    subst he
    exact .inr ⟨(k, ob), by simp, AObj.live_of_wr hwr, fun _ => hwr, hc⟩
  · intro e' he' hg
    have he : e' = (k, ob') := by simpa [wth] using he'
    subst he
    simp only at hg
    rw [hg] at hwr'
    cases hwr'
theorem run_storeT {t : TypeId} {e : TE} (tf : TF P t e) {w : World} {b f : Nat} {v : Value} {old : Array Value} {ty : TypeId} (hB : w.heap[b]? = some (.cells old ty (0, 0))) (hs : v.cells.size = e.size) (hf : f + v.cells.size ≤ old.size)
    (h1 : ∀ x ∈ v.cells.toList, x.oneCell' = true) : (Instr.storeAt t (.pointer (some ⟨b, f, none⟩)) v).run P w = .ok () (w.setRow b (old.toList.take f ++ v.cells.toList ++ old.toList.drop (f + v.cells.toList.length)).toArray) := by
  have hst := run_storeCells_at (P := P) b f ty v.cells.toList 0 old w hB (by simpa using hf) h1
  simp only [Nat.add_zero] at hst
  simp [Instr.storeAt, Instr.sureAddr, storeVar, run_sizeT tf, hs, hst]
theorem o_store {ty : TypeId} {x y : Operand} {k f j : Nat} {ob ob' : AObj} {v : Value} {e : TE} (hL : LayOk P L = true) (ho : o.op = .store ty x y) (hw : wantA ops o n s = some true) (hx : evA G n s x = some (.pointer (some ⟨k, f, none⟩))) (hy : evA G n s y = some v)
    (ht : lkT L ty = some e) (hl : h[j]? = some (k, ob)) (hz : Nat.beq (vcells v).length e.size = true) (h1 : (vcells v).all (·.oneCell') = true) (hne : Nat.ble 1 e.size = true) (hv : ob.put f (vcells v) = some ob') :
    OPJ P G ops o (mkT n s) h [j] [(j, ob')] none [(k, ob)] [ob'] :=
  OPJ.of hw (fits_one hl) rfl (fun _ _ => rfl) (fun u hu => by simp at hu; simp [hu]) fun ρ w a R sim er fr => by
    have tf := tfOf hL ht
    have hz : (vcells v).length = e.size := Nat.eq_of_beq_eq_true hz
    have hne : 1 ≤ e.size := Nat.le_of_ble_eq_true hne
    obtain ⟨b, hb, hp⟩ := vr_ptr.1 (er.get (by simp [ho, Op.operands]) hx)
    have hvr := er.get (by simp [ho, Op.operands]) hy
    have hc := hvr.cells
    have hlen := hc.length
    have hones := hc.ones h1
    rw [vcells_eq (a.eval y)] at hc hlen hones
    have hsz : (a.eval y).cells.size = e.size := by have : (a.eval y).cells.toList.length = (vcells v).length := hlen; simpa [hz] using this
    have hvne : vcells v ≠ [] := by intro hx; rw [hx] at hz; simp at hz; omega
    cases ob with
    | cells cs t =>
      simp only [AObj.put] at hv
      split at hv
      · rename_i r hr
        cases hv
        obtain ⟨h2, h3⟩ := putO_eq hr
        have h3 := h3 hvne
        obtain ⟨b', ob', hb', hh, cs', hcs, rfl⟩ := (sim.ent (k, .cells cs t) (by simp)).2 rfl
        rw [hb] at hb'; cases hb'
        have hl2 := hcs.length
        have hrun := run_storeT tf (v := a.eval y) (f := f) hh hsz (by simp; omega) hones
        refine wp_skip' (show (execOp a.eval o).run P w = .ok .skip _ by unfold execOp; simp only [ho, hp, Sem.run_bind, hrun, Result.andThen_ok, Sem.run_pure]; rfl) ?_
        refine lv_put sim hb hh rfl rfl ⟨_, ?_, rfl⟩ fr
        rw [h2]
        refine ((hcs.take f).append hc).append ?_
        rw [hlen]
        exact hcs.drop _
      · cases hv
    | row cs t sz =>
      simp only [AObj.put] at hv
      split at hv
      · rename_i r hr
        cases hv
        obtain ⟨h2, h3⟩ := putO_eq hr
        have h3 := h3 hvne
        obtain ⟨b', ob', hb', hh, cs', ex, hcs, hcap, rfl⟩ := (sim.ent (k, .row cs t sz) (by simp)).2 rfl
        rw [hb] at hb'; cases hb'
        have hl2 := hcs.length
        have hrun := run_storeT tf (v := a.eval y) (f := f) hh hsz (by simp; omega) hones
        refine wp_skip' (show (execOp a.eval o).run P w = .ok .skip _ by unfold execOp; simp only [ho, hp, Sem.run_bind, hrun, Result.andThen_ok, Sem.run_pure]; rfl) ?_
        refine lv_put sim hb hh rfl rfl ⟨cs'.take f ++ (a.eval y).cells.toList ++ cs'.drop (f + (a.eval y).cells.toList.length), ex, ?_, ?_, ?_⟩ fr
        · rw [h2]
          refine ((hcs.take f).append hc).append ?_
          rw [hlen]
          exact hcs.drop _
        · rw [hcap]; simp; omega
        · congr 1
          have e1 : (cs' ++ ex).take f = cs'.take f := by rw [List.take_append_of_le_length (by omega)]
          have e2 : (cs' ++ ex).drop (f + (a.eval y).cells.toList.length) = cs'.drop (f + (a.eval y).cells.toList.length) ++ ex := by rw [List.drop_append_of_le_length (by omega)]
          show (((cs' ++ ex).take f ++ (a.eval y).cells.toList ++ (cs' ++ ex).drop (f + (a.eval y).cells.toList.length)).toArray) = _
          rw [e1, e2]
          simp
      · cases hv
    | _ => simp [AObj.put] at hv
/-- A new block. -/
theorem lv_new (cap : Nat) {ρ : Ren} {w : World} {a : Act} {R : List Nat} {k : Nat} {ob : AObj} {obj : Obj} {v v' : Value} (sim : Sim G ρ [(k, .gone)] w) (hlv : ob.live = true) (hor : ∀ ρ' : Ren, Ext ρ ρ' → ρ' k = some w.heap.size → ρ'.c k = cap → OR ρ' k ob obj)
    (hv : ∀ ρ' : Ren, Ext ρ ρ' → ρ' k = some w.heap.size → ρ'.c k = cap → VR ρ' v v') (fr : Free ρ [(k, .gone)] R) : Lv o a G R ρ [(k, .gone)] [ob] (some v) w (a.put o.dst v') { w with heap := w.heap.push obj } := by
  have hk : ρ k = none := (sim.ent (k, .gone) (by simp)).1 rfl
  let ρ' : Ren := ⟨fun i => if i = k then some w.heap.size else ρ i, fun i => if i = k then cap else ρ.c i⟩
  have hk' : ρ' k = some w.heap.size := by simp [ρ']
  have hc' : ρ'.c k = cap := by simp [ρ']
  have hext : Ext ρ ρ' := ⟨fun i b hi => by
    have : i ≠ k := fun hx => by rw [hx, hk] at hi; cases hi
    simp [ρ', this, hi], fun i b hi => by
    have : i ≠ k := fun hx => by rw [hx, hk] at hi; cases hi
    simp [ρ', this]⟩
  refine ⟨v', ρ', rfl, fun x hx => (by cases hx; exact hv ρ' hext hk' hc'), ⟨?_, ?_, ?_, fun g hg => hext.b g g (sim.glob g hg), ?_⟩, ⟨hext, ?_, by simp, rfl, rfl, rfl, ?_, ?_, ?_⟩, ?_⟩
  · intro i b hi
    simp only [ρ'] at hi
    split at hi
    · cases hi; simp
    · have := sim.dom i b hi; simp; omega
  · intro e he
    have he : e = (k, ob) := by simpa [wth] using he
    subst he
    exact ⟨fun hg => (by have hg : ob = .gone := hg; rw [hg] at hlv; cases hlv), fun _ => ⟨_, obj, hk', by simp, hor ρ' hext hk' hc'⟩⟩
  · intro i j e e' hij hi hj
    have h1 : i < 1 := by have := (List.getElem?_eq_some_iff.1 hi).1; simpa [wth] using this
    have h2 : j < 1 := by have := (List.getElem?_eq_some_iff.1 hj).1; simpa [wth] using this
    omega
  · obtain ⟨N, hN⟩ := sim.fin
    refine ⟨max N (k + 1), fun i hi => ?_⟩
    have : i ≠ k := by omega
    simp only [ρ', if_neg this]
    exact hN i (by omega)
  · intro q c h0 h1
    simp only [ρ'] at h1
    split at h1
    · cases h1; exact .inl (Nat.le_refl _)
    · rw [h0] at h1; cases h1
  · intro c hc _
    show (w.heap.push obj)[c]? = w.heap[c]?
    rw [Array.getElem?_push, if_neg (Nat.ne_of_lt hc)]
  · intro e' he' hl c hc
    have he : e' = (k, ob) := by simpa [wth] using he'
    subst he
    simp only at hc
    rw [hk'] at hc
    cases hc
    exact .inl (Nat.le_refl _)
  · intro e' he' hg
    have he : e' = (k, ob) := by simpa [wth] using he'
    subst he
    simp only at hg
    rw [hg] at hlv
    cases hlv
  · intro r hr
    have hne : r ≠ k := fun hx => (fr r hr).2 (k, .gone) (by simp) rfl hx.symm
    simp only [ρ', if_neg hne]
    exact (fr r hr).1
theorem o_box {ty : TypeId} {x : Operand} {j k : Nat} {v : Value} (ho : o.op = .box ty x) (hw : wantA ops o n s = some true) (hx : evA G n s x = some v) (hl : h[j]? = some (k, .gone)) :
    OPJ P G ops o (mkT n s) h [j] [(j, .cells (vcells v) ty)] (some (.pointer (some ⟨k, 0, none⟩))) [(k, .gone)] [.cells (vcells v) ty] :=
  OPJ.of hw (fits_one hl) rfl (fun _ _ => rfl) (fun u hu => by simp at hu; simp [hu]) fun ρ w a R sim er fr => by
    have hvr := er.get (by simp [ho, Op.operands]) hx
    refine wp_value (v := .pointer (some ⟨w.heap.size, 0, none⟩)) (w1 := { w with heap := w.heap.push (.cells (a.eval x).cells ty) }) (by simp [execOp, ho, Instr.box, newVar, newRow]) ?_
    exact lv_new 0 sim rfl (fun ρ' he _ _ => ⟨vcells (a.eval x), (hvr.mono he).cells, by rw [vcells_eq]⟩) (fun ρ' _ hk _ => .ptr _ _ hk) fr
theorem o_alloc {ty : TypeId} {j k : Nat} {e : TE} (hL : LayOk P L = true) (ho : o.op = .alloc ty) (hw : wantA ops o n s = some true) (ht : lkT L ty = some e) (hl : h[j]? = some (k, .gone)) :
    OPJ P G ops o (mkT n s) h [j] [(j, .cells e.zero ty)] (some (.pointer (some ⟨k, 0, none⟩))) [(k, .gone)] [.cells e.zero ty] :=
  OPJ.of hw (fits_one hl) rfl (fun _ _ => rfl) (fun u hu => by simp at hu; simp [hu]) fun ρ w a R sim er fr => by
    have tf := tfOf hL ht
    obtain ⟨z, hz, hc⟩ := run_zeroT tf w
    refine wp_value (v := .pointer (some ⟨w.heap.size, 0, none⟩)) (w1 := { w with heap := w.heap.push (.cells z.cells ty) }) (by simp [execOp, ho, Instr.alloc, hz, newVar, newRow]) ?_
    exact lv_new 0 sim rfl (fun ρ' he _ _ => ⟨e.zero, flatL_vr tf.flat, by rw [← hc]⟩) (fun ρ' _ hk _ => .ptr _ _ hk) fr
/-! building -/
def evP (G n : Nat) (s : As) : List (Nat × Operand) → Option (List (Nat × Value))
  | [] => some []
  | (i, x) :: r => match evA G n s x with
    | some v => match evP G n s r with
      | some vs => some ((i, v) :: vs)
      | none => none
    | none => none
def evL (G n : Nat) (s : As) : List Operand → Option (List Value)
  | [] => some []
  | x :: r => match evA G n s x with
    | some v => match evL G n s r with
      | some vs => some (v :: vs)
      | none => none
    | none => none
theorem evL_vr {ρ : Ren} {a : Act} (er : EvR G o (mkT n s) ρ a) : ∀ {xs : List Operand} {vs : List Value}, (∀ x ∈ xs, x ∈ o.op.operands) → evL G n s xs = some vs → VRL ρ vs (xs.map a.eval)
  | [], vs, _, h => by simp [evL] at h; subst h; exact .nil
  | x :: xs, vs, hm, h => by
    simp only [evL] at h
    split at h
    · rename_i v hv
      split at h
      · rename_i r hr
        cases h
        exact .cons (er.get (hm x (by simp)) hv) (evL_vr er (fun y hy => hm y (by simp [hy])) hr)
      · cases h
    · cases h
/-- Parts over names and over blocks. -/
def VRP (ρ : Ren) : List (Nat × Value) → List (Nat × Value) → Prop
  | [], [] => True
  | (i, v) :: r, (j, u) :: q => i = j ∧ VR ρ v u ∧ VRP ρ r q
  | _, _ => False
theorem evP_vr {ρ : Ren} {a : Act} (er : EvR G o (mkT n s) ρ a) : ∀ {xs : List (Nat × Operand)} {vs : List (Nat × Value)}, (∀ x ∈ xs, x.2 ∈ o.op.operands) → evP G n s xs = some vs → VRP ρ vs (xs.map fun (i, x) => (i, a.eval x))
  | [], vs, _, h => by simp [evP] at h; subst h; trivial
  | (i, x) :: xs, vs, hm, h => by
    simp only [evP] at h
    split at h
    · rename_i v hv
      split at h
      · rename_i r hr
        cases h
        exact ⟨rfl, er.get (hm (i, x) (by simp)) hv, evP_vr er (fun y hy => hm y (by simp [hy])) hr⟩
      · cases h
    · cases h
def fillO (pl : Nat → Option (Nat × Nat)) : List Value → List (Nat × Value) → Option (List Value)
  | cells, [] => some cells
  | cells, (i, v) :: r => match pl i with
    | some (off, sz) => match Nat.beq (vcells v).length sz && Nat.ble (off + sz) cells.length with
      | true => match putO cells off (vcells v) with
        | some c => fillO pl c r
        | none => none
      | false => none
    | none => none
theorem foldl_put (off : Nat) : ∀ (vs : List Value) (k : Nat) (arr : Array Value) (r : List Value), putO arr.toList (off + k) vs = some r →
    ((vs.zipIdx k).foldl (fun (cs : Array Value) (x : Value × Nat) => cs.setIfInBounds (off + x.2) x.1) arr).toList = r
  | [], k, arr, r, h => by simp [putO] at h; simp [h]
  | v :: vs, k, arr, r, h => by
    simp only [putO] at h
    split at h
    · rename_i l' hl
      obtain ⟨h1, h2⟩ := setO_eq hl
      subst h1
      rw [List.zipIdx_cons, List.foldl_cons]
      exact foldl_put off vs (k + 1) (arr.setIfInBounds (off + k) v) r (by simpa [Nat.add_assoc] using h)
    · cases h
theorem putO_rel {ρ : Ren} : ∀ {vs vs' l l' : List Value} {o : Nat} {r : List Value}, VRL ρ l l' → VRL ρ vs vs' → putO l o vs = some r → ∃ r', putO l' o vs' = some r' ∧ VRL ρ r r'
  | _, _, l, l', o, r, hl, .nil, h => by simp [putO] at h ⊢; subst h; exact hl
  | _, _, l, l', o, r, hl, .cons (x := v) (x' := v') (xs := vs) (xs' := vs') hv hs, h => by
    simp only [putO] at h
    split at h
    · rename_i l2 h2
      obtain ⟨h3, h4⟩ := setO_eq h2
      have hs' : setO l' o v' = some (l'.set o v') := by
        have : ∀ (l : List Value) (o : Nat), o < l.length → setO l o v' = some (l.set o v') := by
          intro l
          induction l with
          | nil => intro o h; simp at h
          | cons x xs ih =>
            intro o h
            cases o with
            | zero => rfl
            | succ o => simp [setO, ih o (by simpa using h)]
        exact this l' o (by have := hl.length; omega)
      simp only [putO, hs']
      exact putO_rel (hl.set hv o) hs (h3 ▸ h)
    · cases h
theorem fill_rel {ρ : Ren} {pl : Nat → Option (Nat × Nat)} : ∀ {ps ps' : List (Nat × Value)} {l : List Value} {l' : Array Value} {r : List Value}, VRP ρ ps ps' → VRL ρ l l'.toList → fillO pl l ps = some r →
    ∃ r', Instr.fill pl l' ps' = some ⟨r'⟩ ∧ VRL ρ r r'
  | [], [], l, l', r, _, hl, h => by simp [fillO] at h; subst h; exact ⟨l'.toList, rfl, hl⟩
  | [], _ :: _, _, _, _, hp, _, _ => hp.elim
  | _ :: _, [], _, _, _, hp, _, _ => hp.elim
  | (i, v) :: ps, (j, u) :: ps', l, l', r, hp, hl, h => by
    obtain ⟨rfl, hv, hps⟩ := hp
    simp only [fillO] at h
    split at h
    · rename_i off sz hpl
      split at h
      · rename_i hc
        simp only [Bool.and_eq_true] at hc
        have h1 : (vcells v).length = sz := Nat.eq_of_beq_eq_true hc.1
        have h2 : off + sz ≤ l.length := Nat.le_of_ble_eq_true hc.2
        split at h
        · rename_i c hput
          obtain ⟨c', hc', hcv⟩ := putO_rel hl hv.cells hput
          have hlen := hv.cells.length
          have hll := hl.length
          have hsz : u.cells.size = sz := by
            have : (vcells u).length = sz := by rw [hlen, h1]
            rw [vcells_eq] at this
            simpa using this
          have hf := foldl_put off u.cells.toList 0 l' c' (by rw [← vcells_eq]; simpa using hc')
          have harr : (u.cells.zipIdx.foldl (fun cs (x : Value × Nat) => cs.setIfInBounds (off + x.2) x.1) l').toList = c' := by
            rw [← hf, ← Array.foldl_toList]
            simp
          obtain ⟨r', hr', hrv⟩ := fill_rel (l' := u.cells.zipIdx.foldl (fun cs (x : Value × Nat) => cs.setIfInBounds (off + x.2) x.1) l') hps (by rw [harr]; exact hcv) h
          refine ⟨r', ?_, hrv⟩
          have hle : ¬ (u.cells.size ≠ sz ∨ off + u.cells.size > l'.size) := by
            have : l'.size = l.length := by simpa using hll
            omega
          simp only [Instr.fill, hpl]
          rw [if_neg (by simpa [hsz] using hle)]
          exact hr'
        · cases h
      · cases h
    · cases h
theorem mapM_some {α β : Type} {f : α → Option β} : ∀ {l : List α} {r : List β}, l.map f = r.map some → l.mapM f = some r
  | [], [], _ => rfl
  | [], _ :: _, h => by simp at h
  | _ :: _, [], h => by simp at h
  | x :: xs, y :: ys, h => by
    simp only [List.map_cons, List.cons.injEq] at h
    simp [List.mapM_cons, h.1, mapM_some h.2]
def TE.pl (e : TE) : Nat → Option (Nat × Nat) := fun i => match e.arr with
  | some (_, _, sz) => some (i * sz, sz)
  | none => e.fs[i]?
theorem o_build {ty : TypeId} {parts : Array (Nat × Operand)} {ps : List (Nat × Value)} {r : List Value} {e : TE} (hL : LayOk P L = true) (ho : o.op = .build ty parts) (hw : wantA ops o n s = some true) (hp : evP G n s parts.toList = some ps)
    (ht : lkT L ty = some e) (ha : e.agg = true) (hr : fillO e.pl e.zero ps = some r) : OPJ P G ops o (mkT n s) h [] [] (some (.agg ⟨r⟩)) [] [] :=
  OPJ.pure hw fun ρ w a _ er => by
    have tf := tfOf hL ht
    have hvp := evP_vr er (fun x hx => by simp only [ho, Op.operands]; exact List.mem_toArray.2 (List.mem_map.2 ⟨x, hx, rfl⟩)) hp
    obtain ⟨i, hi, hs, _, z, hz, hzc⟩ := tf.size
    obtain ⟨r', hr', hrv⟩ := fill_rel (l' := z.cells) hvp (by rw [hzc]; exact flatL_vr tf.flat) hr
    refine ⟨.agg ⟨r'⟩, ?_, .agg hrv⟩
    have hb : P.built ty (parts.map fun (i, x) => (i, a.eval x)).toList = some ⟨r'⟩ := by
      rw [Array.toList_map]
      unfold Program.built
      cases harr : e.arr with
      | some q =>
        obtain ⟨m, el, sz⟩ := q
        obtain ⟨hu, j, hj, hjs⟩ := tf.arr m el sz harr
        simp only [hi, hu, hz, hj, hjs]
        have : (fun i => some (i * sz, sz)) = e.pl := by funext i; simp [TE.pl, harr]
        rw [this]
        exact hr'
      | none =>
        obtain ⟨fields, hu⟩ := tf.isStr ha harr
        have hm := mapM_some (tf.str fields hu)
        simp only [hi, hu, hz, hm]
        have : (fun x => e.fs.toArray[x]?) = e.pl := by funext i; simp [TE.pl, harr]
        rw [this]
        exact hr'
    simp [execOp, ho, run_build w ty _ _ hb]
end
end Go.Proofs.YtekcchmnncefhaaGreatDoorAB

namespace Go.Proofs.YtekcchmnncefhaaGreatDoorAB
open Go
section
variable {P : Program} {G : Nat} {ops : Array Oper} {o : Oper} {n : Nat} {s : As} {h : H} {L : Lay}
/-- A call of a function by its contract. -/
theorem o_call {f : FuncId} {as : Array Operand} {ts : Array TypeId} {args : List Value} {pre : H} {v : Value} {post : List AObj} {js : List Nat} {us : List (Nat × AObj)}
    (ho : o.op = .call { callee := .value (.func f), args := as, argTypes := ts }) (hw : wantA ops o n s = some true) (ha : evL G n s as.toList = some args) (sp : Ctr P G f args pre v post) (fits : Fits h js pre)
    (same : ∀ h2 : H, (∀ j ∈ js, h2[j]? = h[j]?) → upd h2 (js.zip post) = upd h2 us) (sub : ∀ u ∈ us, u.1 ∈ js) : OPJ P G ops o (mkT n s) h js us (some v) pre post :=
  OPJ.of hw fits sp.len same sub fun ρ w a R sim er fr => by
    have hv := evL_vr er (xs := as.toList) (fun x hx => by simp only [ho, Op.operands, Call.operands]; exact Array.mem_append.2 (.inr (by simpa using hx))) ha
    obtain ⟨fn, hf, hname, hb⟩ := sp.ent
    have hrun : (execOp a.eval o).run P w = .ok (.enter f (as.map a.eval)) w := by
      have h1 : fn.name ≠ "runtime.NumGoroutine" := by simpa using hname
      obtain ⟨c, hc⟩ := Option.isSome_iff_exists.1 hb
      unfold execOp
      simp [ho, resolve, Deferred.ofValue, invoke, Act.eval, callFunc, hf, h1, hc]
    unfold Oper.wp
    rw [hrun, Oper.upon_enter]
    refine (sp.run R ρ w (as.map a.eval) sim (by simpa using hv) fr).mono fun e w' hh => ?_
    obtain ⟨v', ρ', rfl, hv', sim', st', fr'⟩ := hh
    exact ⟨v', ρ', rfl, fun x hx => by cases hx; exact hv', sim', st', fr'⟩
/-- A call that leaves memory alone. -/
theorem o_call0 {f : FuncId} {as : Array Operand} {ts : Array TypeId} {args : List Value} {v : Value}
    (ho : o.op = .call { callee := .value (.func f), args := as, argTypes := ts }) (hw : wantA ops o n s = some true) (ha : evL G n s as.toList = some args) (sp : Ctr P G f args [] v []) : OPJ P G ops o (mkT n s) h [] [] (some v) [] [] :=
  o_call ho hw ha sp fits_nil (fun _ _ => rfl) (fun _ h => by cases h)
/-- A call that reads, and may write, one block. -/
theorem o_call1 {f : FuncId} {as : Array Operand} {ts : Array TypeId} {args : List Value} {v : Value} {k j : Nat} {ob ob' : AObj}
    (ho : o.op = .call { callee := .value (.func f), args := as, argTypes := ts }) (hw : wantA ops o n s = some true) (ha : evL G n s as.toList = some args) (sp : Ctr P G f args [(k, ob)] v [ob']) (hl : h[j]? = some (k, ob)) :
    OPJ P G ops o (mkT n s) h [j] [(j, ob')] (some v) [(k, ob)] [ob'] :=
  o_call ho hw ha sp (fits_one hl) (fun _ _ => rfl) (fun u hu => by simp at hu; simp [hu])
theorem o_call1r {f : FuncId} {as : Array Operand} {ts : Array TypeId} {args : List Value} {v : Value} {k j : Nat} {ob : AObj}
    (ho : o.op = .call { callee := .value (.func f), args := as, argTypes := ts }) (hw : wantA ops o n s = some true) (ha : evL G n s as.toList = some args) (sp : Ctr P G f args [(k, ob)] v [ob]) (hl : h[j]? = some (k, ob)) :
    OPJ P G ops o (mkT n s) h [j] [] (some v) [(k, ob)] [ob] :=
  o_call ho hw ha sp (fits_one hl) (same_read hl) (fun _ h => by cases h)
def isPtr (P : Program) (t : TypeId) : Bool := match P.underlying t with
  | some (.pointer _) => true
  | _ => false
theorem isPtr.get {t : TypeId} (h : isPtr P t = true) : ∃ e, P.underlying t = some (.pointer e) := by
  unfold isPtr at h
  split at h
  · exact ⟨_, by assumption⟩
  · cases h
theorem run_ptr_nil {t e : TypeId} (hu : P.underlying t = some (.pointer e)) (a : Addr) (w : World) : (Op.equal t (.pointer (some a)) (.pointer none)).run P w = .ok false w := by
  show (Op.equalIn (9999 + 1) t (.pointer (some a)) (.pointer none)).run P w = .ok false w
  rw [Op.equalIn]
  simp [run_underlying hu]
theorem o_eqnil {t u : TypeId} {x y : Operand} {k f : Nat} {sp : Option Nat} (ho : o.op = .binOp .eql t x y u) (hw : wantA ops o n s = some true) (hp : isPtr P t = true) (hx : evA G n s x = some (.pointer (some ⟨k, f, sp⟩))) (hy : evA G n s y = some (.pointer none)) :
    OPJ P G ops o (mkT n s) h [] [] (some (.bool false)) [] [] :=
  OPJ.pure hw fun ρ w a _ er => by
    obtain ⟨b, _, h1⟩ := vr_ptr.1 (er.get (by simp [ho, Op.operands]) hx)
    have h2 := vr_ptrNil.1 (er.get (by simp [ho, Op.operands]) hy)
    obtain ⟨e, hu⟩ := isPtr.get hp
    exact ⟨.bool false, by simp [execOp, ho, h1, h2, eqGuard, binOp, run_ptr_nil hu], by simp⟩
theorem o_nenil {t u : TypeId} {x y : Operand} {k f : Nat} {sp : Option Nat} (ho : o.op = .binOp .neq t x y u) (hw : wantA ops o n s = some true) (hp : isPtr P t = true) (hx : evA G n s x = some (.pointer (some ⟨k, f, sp⟩))) (hy : evA G n s y = some (.pointer none)) :
    OPJ P G ops o (mkT n s) h [] [] (some (.bool true)) [] [] :=
  OPJ.pure hw fun ρ w a _ er => by
    obtain ⟨b, _, h1⟩ := vr_ptr.1 (er.get (by simp [ho, Op.operands]) hx)
    have h2 := vr_ptrNil.1 (er.get (by simp [ho, Op.operands]) hy)
    obtain ⟨e, hu⟩ := isPtr.get hp
    exact ⟨.bool true, by simp [execOp, ho, h1, h2, eqGuard, binOp, run_ptr_nil hu], by simp⟩
end
section
variable {P : Program} {G : Nat} {ops : Array Oper} {draw : Bool} {n i d : Nat} {s : As} {h h' : H} {acc : List (List Nat × List Nat)} {K : As → H → Prop} {o : Oper} {js : List Nat} {us : List (Nat × AObj)} {v : Option Value} {pre : H} {post : List AObj}
theorem RK.val (ho : ops[i]? = some o) (hd : o.dst = some d) (j : OPJ P G ops o (mkT n s) h js us v pre post) (hu : updO h us = some h')
    (k : RK P G ops draw n (i + 1) ((d, v) :: s) h' (acc ++ [(js, us.map (·.1))]) K) : RK P G ops draw n i s h acc K :=
  RK.step ho j (by rw [hd, updO_eq hu]; exact k)
theorem RK.eff (ho : ops[i]? = some o) (hd : o.dst = none) (j : OPJ P G ops o (mkT n s) h js us v pre post) (hu : updO h us = some h')
    (k : RK P G ops draw n (i + 1) s h' (acc ++ [(js, us.map (·.1))]) K) : RK P G ops draw n i s h acc K :=
  RK.step ho j (by rw [hd, updO_eq hu]; exact k)
theorem look_here {k : Nat} {ob : AObj} {h : H} : ((k, ob) :: h)[0]? = some (k, ob) := rfl
theorem look_there {j k : Nat} {ob : AObj} {e : Nat × AObj} {h : H} (x : h[j]? = some (k, ob)) : (e :: h)[j + 1]? = some (k, ob) := by simpa using x
end
/-! ### a function's end, its contract -/
def asOf : Nat → List Value → As
  | _, [] => []
  | i, v :: vs => (i, some v) :: asOf (i + 1) vs
theorem look_asOf : ∀ (vs : List Value) (i j : Nat), look (asOf i vs) j = if i ≤ j then vs[j - i]? else none
  | [], i, j => by simp [asOf, look]
  | v :: vs, i, j => by
    simp only [asOf, look]
    split
    · rename_i h; subst h; simp
    · rename_i h
      rw [look_asOf vs (i + 1) j]
      by_cases hle : i ≤ j
      · rw [if_pos (by omega), if_pos hle, show j - i = (j - (i + 1)) + 1 from by omega]; simp
      · rw [if_neg (by omega), if_neg hle]
/-- What a result reads. -/
inductive RV1 (L : Lay) (n : Nat) (s : As) (h : H) : ResultVar → Value → Prop
  | tmp {i : Nat} {v : Value} (hi : evA 0 n s (.tmp i) = some v) : RV1 L n s h (.tmp i) v
  | cell {i ty k j : Nat} {e : TE} {ob : AObj} {v : Value} (hi : evA 0 n s (.tmp i) = some (.pointer (some ⟨k, 0, none⟩))) (ht : lkT L ty = some e) (ha : e.agg = false) (hl : h[j]? = some (k, ob)) (hv : ob.at 0 = some v) : RV1 L n s h (.cell i ty) v
  | row {i ty k j : Nat} {e : TE} {ob : AObj} {vs : List Value} (hi : evA 0 n s (.tmp i) = some (.pointer (some ⟨k, 0, none⟩))) (ht : lkT L ty = some e) (ha : e.agg = true) (hl : h[j]? = some (k, ob)) (hv : ob.seg 0 e.size = some vs) :
      RV1 L n s h (.cell i ty) (.agg ⟨vs⟩)
inductive RVs (L : Lay) (n : Nat) (s : As) (h : H) : List ResultVar → List Value → Prop
  | nil : RVs L n s h [] []
  | cons {r : ResultVar} {v : Value} {rs : List ResultVar} {vs : List Value} (a : RV1 L n s h r v) (b : RVs L n s h rs vs) : RVs L n s h (r :: rs) (v :: vs)
def tup : List Value → Value
  | [v] => v
  | vs => .tuple ⟨vs⟩
def resF (tmps : Array Value) : ResultVar → Sem Value
  | .tmp t => pure (tmps.getD t undef)
  | .cell a t => do loadVar t (← asAddr (tmps.getD a undef))
section
variable {P : Program} {G : Nat} {n : Nat} {s : As} {h : H} {L : Lay}
theorem tmp_get {i : Nat} {v : Value} (hi : evA 0 n s (.tmp i) = some v) {ρ : Ren} {a : Act} (tr : TR ρ (mkT n s) a.tmps.toList) : ∃ v', a.tmps.getD i undef = v' ∧ VR ρ v v' := by
  simp only [evA] at hi
  split at hi
  · rename_i hlt
    obtain ⟨v', h1, h2⟩ := tr.2 i v (by rw [mk_get, if_pos hlt, hi])
    have : a.tmps[i]? = some v' := by simpa using h1
    exact ⟨v', by simp [Array.getD_eq_getD_getElem?, this], h2⟩
  · cases hi
theorem RV1.run (hL : LayOk P L = true) {r : ResultVar} {v : Value} (q : RV1 L n s h r v) {ρ : Ren} {a : Act} {w : World} (st : St G ρ (mkT n s) h a w) : ∃ v', (resF a.tmps r).run P w = .ok v' w ∧ VR ρ v v' := by
  cases q with
  | tmp hi =>
    obtain ⟨v', h1, h2⟩ := tmp_get hi st.tr
    exact ⟨v', by simp [resF, ← h1], h2⟩
  | cell hi ht ha hl hv =>
    rename_i i ty k j e ob
    obtain ⟨v1, h1, h2⟩ := tmp_get hi st.tr
    obtain ⟨b, hb, rfl⟩ := vr_ptr.1 h2
    have live : ob.live = true := by cases ob <;> simp_all [AObj.at, AObj.live]
    obtain ⟨b', ob', hb', hh, hor⟩ := (st.sim.ent (k, ob) (List.mem_of_getElem? hl)).2 live
    rw [hb] at hb'
    cases hb'
    obtain ⟨v', hc, hvr⟩ := hor.at_ hh hv
    have := run_load_cell (tfOf hL ht) ha hc
    simp only [Instr.loadAt, Instr.sureAddr, Sem.run_bind, Sem.run_pure, Result.andThen_ok] at this
    refine ⟨v', ?_, hvr⟩
    simp only [resF, h1, asAddr, Sem.run_bind, Sem.run_pure, Result.andThen_ok]
    exact this
  | row hi ht ha hl hv =>
    rename_i i ty k j e ob vs
    obtain ⟨v1, h1, h2⟩ := tmp_get hi st.tr
    obtain ⟨b, hb, rfl⟩ := vr_ptr.1 h2
    have live : ob.live = true := by cases ob <;> simp_all [AObj.seg, AObj.live]
    obtain ⟨b', ob', hb', hh, hor⟩ := (st.sim.ent (k, ob) (List.mem_of_getElem? hl)).2 live
    rw [hb] at hb'
    cases hb'
    obtain ⟨vs', hlen, hvr, hc⟩ := hor.seg hh hv
    have := run_load_row (tfOf hL ht) ha hlen hc
    simp only [Instr.loadAt, Instr.sureAddr, Sem.run_bind, Sem.run_pure, Result.andThen_ok] at this
    refine ⟨.agg ⟨vs'⟩, ?_, .agg hvr⟩
    simp only [resF, h1, asAddr, Sem.run_bind, Sem.run_pure, Result.andThen_ok]
    exact this
theorem RVs.run (hL : LayOk P L = true) {rs : List ResultVar} {vs : List Value} (q : RVs L n s h rs vs) {ρ : Ren} {a : Act} {w : World} (st : St G ρ (mkT n s) h a w) : ∃ vs', (rs.mapM (resF a.tmps)).run P w = .ok vs' w ∧ VRL ρ vs vs' := by
  induction q with
  | nil => exact ⟨[], rfl, .nil⟩
  | cons a b ih =>
    obtain ⟨v', h1, h2⟩ := a.run hL st
    obtain ⟨vs', h3, h4⟩ := ih
    exact ⟨v' :: vs', by simp [List.mapM_cons, h1, h3], .cons h2 h4⟩
theorem run_results (hL : LayOk P L = true) {fn : Func} {vs : List Value} (q : RVs L n s h fn.results.toList vs) {ρ : Ren} {a : Act} {w : World} (st : St G ρ (mkT n s) h a w) : ∃ v', (results fn a.tmps).run P w = .ok v' w ∧ VR ρ (tup vs) v' := by
  obtain ⟨vs', h1, h2⟩ := q.run hL st
  have h3 : (results fn a.tmps).run P w = .ok (if h : (Array.mk vs').size = 1 then (Array.mk vs')[0] else .tuple ⟨vs'⟩) w := by
    have e : (results fn a.tmps) = (fn.results.mapM (resF a.tmps)) >>= fun vs => pure (if h : vs.size = 1 then vs[0] else .tuple vs) := by
      unfold results
      congr 1
    rw [e, Array.mapM_eq_mapM_toList]
    simp [h1]
  refine ⟨_, h3, ?_⟩
  cases h2 with
  | nil => simp [tup]
  | cons a b =>
    cases b with
    | nil => simpa [tup] using a
    | cons c d =>
      simp only [tup]
      rw [dif_neg (by simp)]
      exact .tuple (.cons a (.cons c d))
/-- The contract out of the walk of the body. -/
theorem Ctr.of {f : FuncId} {fn : Func} {c : Code} {args : List Value} {pre : H} {v : Value} {post : List AObj} (hL : LayOk P L = true) (hf : P.funcs[f]? = some fn) (hb : fn.body = some c) (hnm : (fn.name == "runtime.NumGoroutine") = false)
    (hn : Nat.ble args.length fn.ntmps = true) (len : post.length = pre.length)
    (k : WP P G c (mkT fn.ntmps (asOf 0 args)) pre fun e t h' => (e = .normal ∨ e = .ret) ∧ ∃ s vs, t = mkT fn.ntmps s ∧ RVs L fn.ntmps s h' fn.results.toList vs ∧ tup vs = v ∧ List.Sublist (wth pre post) h') : Ctr P G f args pre v post := by
  refine ⟨⟨fn, hf, hnm, by simp [hb]⟩, len, fun R ρ w cargs sim hv fr => ?_⟩
  have hn : args.length ≤ fn.ntmps := Nat.le_of_ble_eq_true hn
  have hcl : cargs.size = args.length := by have := hv.length; simpa using this
  refine calls_of_wp hf hb ?_
  have st : St G ρ (mkT fn.ntmps (asOf 0 args)) pre { tmps := cargs ++ Array.replicate (fn.ntmps - cargs.size) undef, defers := [] } w := by
    refine ⟨sim, ⟨?_, fun i v hi => ?_⟩, rfl⟩
    · simp [mkT]; omega
    · rw [mk_get] at hi
      split at hi
      · simp only [Option.some.injEq] at hi
        rw [look_asOf] at hi
        simp only [Nat.zero_le, if_true, Nat.sub_zero] at hi
        obtain ⟨v', h1, h2⟩ := hv.get i hi
        refine ⟨v', ?_, h2⟩
        rw [Array.toList_append, List.getElem?_append_left (List.getElem?_eq_some_iff.1 h1).1]
        exact h1
      · cases hi
  refine wp_mono (k ρ _ w R st fr) ?_
  rintro e a' w' ⟨t', h', ρ', ⟨he, s, vs, rfl, hrv, rfl, hsub⟩, st', stp, fr'⟩
  obtain ⟨v', hr, hvr⟩ := run_results hL hrv st'
  have wk : Wk (mkT fn.ntmps s) h' (mkT fn.ntmps s) (wth pre post) := ⟨rfl, fun _ _ h => h, hsub⟩
  have st2 := wk.st st'
  have fin : a'.defers = [] ∧ ∃ v, (results fn a'.tmps).run P w' = .ok v w' ∧ ∃ v' ρ', Ending.returned v = .returned v' ∧ VR ρ' (tup vs) v' ∧ Sim G ρ' (wth pre post) w' ∧ Stp ρ pre w ρ' (wth pre post) w' ∧ ∀ k ∈ R, ρ' k = none := by
    refine ⟨st'.def_, v', hr, v', ρ', rfl, hvr, st2.sim, ?_, fun k hk => (fr' k hk).1⟩
    exact ⟨stp.ext, stp.new, stp.size, stp.os, stp.tape, stp.output, stp.keep, fun e' he' => stp.der e' (hsub.subset he'), fun e' he' => stp.gon e' (hsub.subset he')⟩
  rcases he with rfl | rfl
  · exact fin
  · exact fin
end
end Go.Proofs.YtekcchmnncefhaaGreatDoorAB

/-! What the walks are written with. -/
namespace Go.Proofs.YtekcchmnncefhaaGreatDoorAB
open Go
def mn (a b : Int) : Int := if b < a then b else a
def mx (a b : Int) : Int := if b > a then b else a
def cntA (ops : Array Oper) : Nat := ops.toList.foldl (fun k o => match o.op with
  | .box .. | .alloc .. | .buildSlice .. | .makeSlice .. | .makeMap .. => k + 1
  | .call { callee := .builtin .append, .. } => k + 1
  | .call { callee := .value _, .. } => k + 3
  | _ => k) 0
def newO (ks : Nat → Nat) : Nat → Nat → Option H
  | _, 0 => some []
  | i, m + 1 => match newO ks (i + 1) m with
    | some r => some ((ks i, .gone) :: r)
    | none => none
def extO (ks : Nat → Nat) : H → Nat → Option H
  | [], m => newO ks 0 m
  | e :: h, m => match extO ks h m with
    | some r => some (e :: r)
    | none => none
/-- Names that were not used are dropped. -/
def cleanO : Nat → H → Option H
  | _, [] => some []
  | n + 1, e :: h => match cleanO n h with
    | some r => some (e :: r)
    | none => none
  | 0, (k, o) :: h => match cleanO 0 h with
    | some r => match o with
      | .gone => some r
      | o => some ((k, o) :: r)
    | none => none
theorem cleanO_eq : ∀ {n : Nat} {h r : H}, cleanO n h = some r → List.Sublist r h ∧ ∀ e ∈ r, e.2 = .gone → e ∈ h.take n
  | n, [], r, e => by cases n <;> simp [cleanO] at e <;> subst e <;> simp
  | n + 1, x :: h, r, e => by
    simp only [cleanO] at e
    split at e
    · rename_i q hq
      cases e
      obtain ⟨h1, h2⟩ := cleanO_eq hq
      refine ⟨h1.cons_cons x, fun e he hg => ?_⟩
      rcases List.mem_cons.1 he with rfl | he
      · simp
      · simp [h2 e he hg]
    · cases e
  | 0, (k, o) :: h, r, e => by
    simp only [cleanO] at e
    split at e
    · rename_i q hq
      obtain ⟨h1, h2⟩ := cleanO_eq hq
      simp only [List.take_zero, List.not_mem_nil, imp_false] at h2 ⊢
      split at e
      · cases e; exact ⟨h1.cons _, h2⟩
      · rename_i hne
        cases e
        refine ⟨h1.cons_cons _, fun e he hg => ?_⟩
        rcases List.mem_cons.1 he with rfl | he
        · exact hne hg
        · exact h2 e he hg
    · cases e
theorem gones_front (m : Nat) (ks : Nat → Nat) (i : Nat) : gones (m + 1) (fun j => ks (i + j)) = (ks i, .gone) :: gones m (fun j => ks (i + 1 + j)) := by
  induction m with
  | zero => simp [gones]
  | succ m ih =>
    rw [gones, ih]
    simp only [gones, List.cons_append]
    rw [show i + (m + 1) = i + 1 + m from by omega]
theorem newO_eq {ks : Nat → Nat} : ∀ {i m : Nat} {r : H}, newO ks i m = some r → r = gones m (fun j => ks (i + j))
  | i, 0, r, e => by simp [newO] at e; simp [e, gones]
  | i, m + 1, r, e => by
    simp only [newO] at e
    split at e
    · rename_i q hq
      cases e
      rw [gones_front, newO_eq hq]
    · cases e
theorem extO_eq {ks : Nat → Nat} : ∀ {h : H} {m : Nat} {r : H}, extO ks h m = some r → r = h ++ gones m ks
  | [], m, r, e => by
    have := newO_eq (ks := ks) (i := 0) (m := m) (r := r) (by simpa only [extO] using e)
    simpa using this
  | x :: h, m, r, e => by
    simp only [extO] at e
    split at e
    · rename_i q hq
      cases e
      rw [extO_eq hq]
      rfl
    · cases e
section
variable {P : Program} {G : Nat} {ops : Array Oper} {draw : Bool} {n i d : Nat} {s : As} {h h' : H} {acc : List (List Nat × List Nat)} {K : As → H → Prop} {o : Oper} {Q : Exit → T → H → Prop}
theorem WP.reg {id : Nat} (hm : P.follows .mixedOrders = true) (h0 : (Nat → Nat) → H) (hh : ∀ ks, extO ks h (cntA ops) = some (h0 ks))
    (k : ∀ ks : Nat → Nat, RK P G ops draw n 0 s (h0 ks) [] fun s' he => ∃ h1, cleanO h.length he = some h1 ∧ Q .normal (mkT n s') h1) : WP P G (.region id ops draw) (mkT n s) h Q :=
  WP.region (cntA ops) hm fun ks => by
    rw [← extO_eq (hh ks)]
    obtain ⟨recs, s', he, rg, hc, h1, hcl, hq⟩ := k ks
    exact ⟨recs, s', he, rg, hc, h1, (cleanO_eq hcl).1, (cleanO_eq hcl).2, hq⟩
theorem RK.donef (hi : Nat.ble ops.size i = true) (k : K s h) : RK P G ops false n i s h acc K := RK.done hi (fun h => by cases h) k
theorem RK.donet (hi : Nat.ble ops.size i = true) (hc : ckd ops acc = true) (k : K s h) : RK P G ops true n i s h acc K := RK.done hi (fun _ => hc) k
theorem RK.gsplit {j : Nat} {want b : Bool} (_ho : ops[i]? = some o) (_hg : o.guard = some (j, want)) (_hd : (ops[j]?).bind (·.dst) = some d) (hb : look s d = some (.bool b)) (hn : Nat.ble n 1000 = true)
    (k1 : b = true → RK P G ops draw n i ((1000 + d, some .nilFunc) :: (d, some (.bool true)) :: s) h acc K) (k2 : b = false → RK P G ops draw n i ((1000 + d, some .nilFunc) :: (d, some (.bool false)) :: s) h acc K) : RK P G ops draw n i s h acc K := by
  have hn : n ≤ 1000 := Nat.le_of_ble_eq_true hn
  have e : ∀ b', b = b' → mkT n ((1000 + d, some .nilFunc) :: (d, some (.bool b')) :: s) = mkT n s := by
    intro b' he
    subst he
    unfold mkT
    refine List.map_congr_left fun x hx => ?_
    have hx : x < n := List.mem_range.1 hx
    simp only [look]
    rw [if_neg (by omega)]
    split
    · rename_i hx; subst hx; exact hb.symm
    · rfl
  have tr : ∀ b', b = b' → RK P G ops draw n i ((1000 + d, some .nilFunc) :: (d, some (.bool b')) :: s) h acc K → RK P G ops draw n i s h acc K := by
    intro b' he ⟨recs, s', he', rg, hc, hk⟩
    rw [e b' he] at rg
    exact ⟨recs, s', he', rg, hc, hk⟩
  cases hb2 : b with
  | true => exact tr true hb2 (k1 hb2)
  | false => exact tr false hb2 (k2 hb2)
/-- One operation is at its turn. -/
def RKo (P : Program) (G : Nat) (ops : Array Oper) (draw : Bool) (n i : Nat) (s : As) (h : H) (acc : List (List Nat × List Nat)) (K : As → H → Prop) (o : Oper) : Prop := ops[i]? = some o → RK P G ops draw n i s h acc K
theorem RK.peel (ho : ops[i]? = some o) (k : RKo P G ops draw n i s h acc K o) : RK P G ops draw n i s h acc K := k ho
section
variable {js : List Nat} {us : List (Nat × AObj)} {v : Option Value} {pre : H} {post : List AObj}
theorem RKo.val (j : OPJ P G ops o (mkT n s) h js us v pre post) (hd : o.dst = some d) (hu : updO h us = some h')
    (k : RK P G ops draw n (i + 1) ((d, v) :: s) h' (acc ++ [(js, us.map (·.1))]) K) : RKo P G ops draw n i s h acc K o := fun ho => RK.val ho hd j hu k
theorem RKo.eff (j : OPJ P G ops o (mkT n s) h js us v pre post) (hd : o.dst = none) (hu : updO h us = some h')
    (k : RK P G ops draw n (i + 1) s h' (acc ++ [(js, us.map (·.1))]) K) : RKo P G ops draw n i s h acc K o := fun ho => RK.eff ho hd j hu k
theorem RKo.gsplit {j : Nat} {want b : Bool} (hg : o.guard = some (j, want)) (hd : (ops[j]?).bind (·.dst) = some d) (hb : look s d = some (.bool b)) (hn : Nat.ble n 1000 = true)
    (k1 : b = true → RKo P G ops draw n i ((1000 + d, some .nilFunc) :: (d, some (.bool true)) :: s) h acc K o) (k2 : b = false → RKo P G ops draw n i ((1000 + d, some .nilFunc) :: (d, some (.bool false)) :: s) h acc K o) : RKo P G ops draw n i s h acc K o :=
  fun ho => RK.gsplit ho hg hd hb hn (fun e => k1 e ho) (fun e => k2 e ho)
theorem RKo.gsplitD {j : Nat} {want : Bool} {p : Prop} [Decidable p] (hg : o.guard = some (j, want)) (hd : (ops[j]?).bind (·.dst) = some d) (hb : look s d = some (.bool (decide p))) (hn : Nat.ble n 1000 = true)
    (k1 : p → RKo P G ops draw n i ((1000 + d, some .nilFunc) :: (d, some (.bool true)) :: s) h acc K o) (k2 : ¬p → RKo P G ops draw n i ((1000 + d, some .nilFunc) :: (d, some (.bool false)) :: s) h acc K o) : RKo P G ops draw n i s h acc K o :=
  RKo.gsplit hg hd hb hn (fun e => k1 (of_decide_eq_true e)) (fun e => k2 (of_decide_eq_false e))
theorem RKo.gsplitE {j : Nat} {want : Bool} {a b : Int} (hg : o.guard = some (j, want)) (hd : (ops[j]?).bind (·.dst) = some d) (hb : look s d = some (.bool (a == b))) (hn : Nat.ble n 1000 = true)
    (k1 : a = b → RKo P G ops draw n i ((1000 + d, some .nilFunc) :: (d, some (.bool true)) :: s) h acc K o) (k2 : ¬a = b → RKo P G ops draw n i ((1000 + d, some .nilFunc) :: (d, some (.bool false)) :: s) h acc K o) : RKo P G ops draw n i s h acc K o :=
  RKo.gsplit hg hd hb hn (fun e => k1 (eq_of_beq e)) (fun e => k2 (by simpa using e))
theorem RKo.gsplitN {j : Nat} {want : Bool} {a b : Int} (hg : o.guard = some (j, want)) (hd : (ops[j]?).bind (·.dst) = some d) (hb : look s d = some (.bool (a != b))) (hn : Nat.ble n 1000 = true)
    (k1 : ¬a = b → RKo P G ops draw n i ((1000 + d, some .nilFunc) :: (d, some (.bool true)) :: s) h acc K o) (k2 : a = b → RKo P G ops draw n i ((1000 + d, some .nilFunc) :: (d, some (.bool false)) :: s) h acc K o) : RKo P G ops draw n i s h acc K o :=
  RKo.gsplit hg hd hb hn (fun e => k1 (by simpa using e)) (fun e => k2 (by simpa using e))
end
theorem gK {x : Oper} (k : RKo P G ops draw n i s h acc K x) : RKo P G ops draw n i s h acc K x := k
theorem gR (k : RK P G ops draw n i s h acc K) : RK P G ops draw n i s h acc K := k
theorem gW {c : Code} {t : T} (k : WP P G c t h Q) : WP P G c t h Q := k
theorem wn (hg : o.guard = none) : wantA ops o n s = some true := by unfold wantA; rw [hg]
theorem wg {j : Nat} {want b r : Bool} {m : Value} (hg : o.guard = some (j, want)) (hd : (ops[j]?).bind (·.dst) = some d) (_hm : look s (1000 + d) = some m) (hb : look s d = some (.bool b)) (hn : Nat.blt d n = true) (hr : (b == want) = r) : wantA ops o n s = some r := by
  unfold wantA
  rw [hg]
  simp only [hd, hb, hr]
  rw [if_pos (by simpa [Nat.blt_eq] using hn)]
/-- Its guard was left out itself. -/
theorem wz {j : Nat} {want : Bool} {xs : Array Value} (hg : o.guard = some (j, want)) (hd : (ops[j]?).bind (·.dst) = some d) (hb : look s d = some (.tuple xs)) (hn : Nat.blt d n = true) : wantA ops o n s = some false := by
  unfold wantA
  rw [hg]
  simp only [hd, hb]
  rw [if_pos (by simpa [Nat.blt_eq] using hn)]
theorem ff {p : Prop} (h : true = false) : p := by cases h
theorem ff' {p : Prop} (h : false = true) : p := by cases h
theorem thn_n {K : T → H → Prop} {t : T} (k : K t h) : thn K Q .normal t h := k
theorem thn_r {K : T → H → Prop} {t : T} (k : Q .ret t h) : thn K Q .ret t h := k
theorem thn_e {K : T → H → Prop} {t : T} {i : Nat} (k : Q (.exit i) t h) : thn K Q (.exit i) t h := k
theorem thn_g {K : T → H → Prop} {t : T} {i : Nat} (k : Q (.goto i) t h) : thn K Q (.goto i) t h := k
theorem blk_n {t : T} {id : Nat} (k : Q .normal t h) : blk id Q .normal t h := k
theorem blk_r {t : T} {id : Nat} (k : Q .ret t h) : blk id Q .ret t h := k
theorem blk_e {t : T} {id : Nat} (k : Q .normal t h) : blk id Q (.exit id) t h := by simpa [blk] using k
theorem blk_o {t : T} {id j : Nat} (hne : Nat.beq j id = false) (k : Q (.exit j) t h) : blk id Q (.exit j) t h := by
  have : j ≠ id := by intro e; subst e; simp at hne
  simpa [blk, this] using k
theorem blk_g {t : T} {id l : Nat} (k : Q (.goto l) t h) : blk id Q (.goto l) t h := k
theorem WP.condA {c : Operand} {x y : Code} {b : Bool} (hc : evA G n s c = some (.bool b)) (k1 : b = true → WP P G x (mkT n s) h Q) (k2 : b = false → WP P G y (mkT n s) h Q) : WP P G (.cond c x y) (mkT n s) h Q :=
  WP.cond (by rw [ev_mk]; exact hc) k1 k2
theorem WP.condD {c : Operand} {x y : Code} {p : Prop} [Decidable p] (hc : evA G n s c = some (.bool (decide p))) (k1 : p → WP P G x (mkT n s) h Q) (k2 : ¬p → WP P G y (mkT n s) h Q) : WP P G (.cond c x y) (mkT n s) h Q :=
  WP.condA hc (fun h => k1 (of_decide_eq_true h)) (fun h => k2 (of_decide_eq_false h))
theorem WP.condE {c : Operand} {x y : Code} {a b : Int} (hc : evA G n s c = some (.bool (a == b))) (k1 : a = b → WP P G x (mkT n s) h Q) (k2 : ¬a = b → WP P G y (mkT n s) h Q) : WP P G (.cond c x y) (mkT n s) h Q :=
  WP.condA hc (fun h => k1 (eq_of_beq h)) (fun h => k2 (by simpa using h))
theorem WP.condN {c : Operand} {x y : Code} {a b : Int} (hc : evA G n s c = some (.bool (a != b))) (k1 : ¬a = b → WP P G x (mkT n s) h Q) (k2 : a = b → WP P G y (mkT n s) h Q) : WP P G (.cond c x y) (mkT n s) h Q :=
  WP.condA hc (fun h => k1 (by simpa using h)) (fun h => k2 (by simpa using h))
theorem o_min {as : Array Operand} {ts : Array TypeId} {k : IntKind} {p q : Int} (ho : o.op = .call { callee := .builtin .min, args := as, argTypes := ts }) (hw : wantA ops o n s = some true) (ha : evL G n s as.toList = some [.int k p, .int k q]) :
    OPJ P G ops o (mkT n s) h [] [] (some (.int k (mn p q))) [] [] :=
  OPJ.pure hw fun ρ w a _ er => by
    have hv := evL_vr er (xs := as.toList) (fun x hx => by simp only [ho, Op.operands, Call.operands]; exact Array.mem_append.2 (.inr (by simpa using hx))) ha
    simp only [vrl_cons, vrl_nil, vr_int] at hv
    obtain ⟨x, xs, rfl, ⟨y, ys, rfl, rfl, rfl⟩, hl⟩ := hv
    exact ⟨.int k (mn p q), by simp [execOp, ho, resolve, invoke, builtin, Builtin.min_, hl, Builtin.min2, mn], by simp⟩
theorem o_max {as : Array Operand} {ts : Array TypeId} {k : IntKind} {p q : Int} (ho : o.op = .call { callee := .builtin .max, args := as, argTypes := ts }) (hw : wantA ops o n s = some true) (ha : evL G n s as.toList = some [.int k p, .int k q]) :
    OPJ P G ops o (mkT n s) h [] [] (some (.int k (mx p q))) [] [] :=
  OPJ.pure hw fun ρ w a _ er => by
    have hv := evL_vr er (xs := as.toList) (fun x hx => by simp only [ho, Op.operands, Call.operands]; exact Array.mem_append.2 (.inr (by simpa using hx))) ha
    simp only [vrl_cons, vrl_nil, vr_int] at hv
    obtain ⟨x, xs, rfl, ⟨y, ys, rfl, rfl, rfl⟩, hl⟩ := hv
    exact ⟨.int k (mx p q), by simp [execOp, ho, resolve, invoke, builtin, Builtin.max_, hl, Builtin.max2, mx], by simp⟩
/-- How a function ends. -/
structure Endz (L : Lay) (nt : Nat) (rs : List ResultVar) (v : Value) (q : H) (e : Exit) (t : T) (h' : H) : Prop where
  e : e = .normal ∨ e = .ret
  r : ∃ s vs, t = mkT nt s ∧ RVs L nt s h' rs vs ∧ tup vs = v
  s : List.Sublist q h'
theorem Endz.mk' {L : Lay} {nt : Nat} {rs : List ResultVar} {v : Value} {q : H} {e : Exit} {s : As} {h' : H} {vs : List Value} (he : e = .normal ∨ e = .ret) (hr : RVs L nt s h' rs vs) (hv : tup vs = v) (hs : List.Sublist q h') : Endz L nt rs v q e (mkT nt s) h' :=
  ⟨he, ⟨s, vs, rfl, hr, hv⟩, hs⟩
/-- The contract out of the walk, with the numbers written out. -/
theorem Ctr.by {L : Lay} {f nt : Nat} {fn : Func} {c : Code} {args : List Value} {pre : H} {v : Value} {post : List AObj} {rs : List ResultVar} (hL : LayOk P L = true) (hf : P.funcs[f]? = some fn) (hnt : fn.ntmps = nt) (hb : fn.body = some c)
    (hnm : (fn.name == "runtime.NumGoroutine") = false) (hrs : fn.results = ⟨rs⟩) (hn : Nat.ble args.length nt = true) (len : post.length = pre.length)
    (k : WP P G c (mkT nt (asOf 0 args)) pre (Endz L nt rs v (wth pre post))) : Ctr P G f args pre v post := by
  subst hnt
  have hrs' : fn.results.toList = rs := by rw [hrs]
  subst hrs'
  exact Ctr.of hL hf hb hnm hn len (k.mono fun e t h' ⟨he, ⟨s, vs, ht, hr, hv⟩, hs⟩ => ⟨he, s, vs, ht, hr, hv, hs⟩)
end

end Go.Proofs.YtekcchmnncefhaaGreatDoorAB

/-! Slices. -/
namespace Go.Proofs.YtekcchmnncefhaaGreatDoorAB
open Go
theorem Sim.two {G : Nat} {ρ : Ren} {w : World} {a b : Nat × AObj} (dom : ∀ i c, ρ i = some c → c < w.heap.size) (glob : ∀ g, g < G → ρ g = some g) (fin : ∃ N, ∀ i, N ≤ i → ρ i = none) (ea : ER ρ w a) (eb : ER ρ w b) (sab : Sep ρ a b) : Sim G ρ [a, b] w := by
  refine ⟨dom, ?_, ?_, glob, fin⟩
  · intro e he
    simp only [List.mem_cons, List.not_mem_nil, or_false] at he
    rcases he with rfl | rfl <;> assumption
  · intro i j e e' hij hi hj
    rcases i with _ | _ | i <;> rcases j with _ | _ | j <;> simp at hi hj hij <;> subst hi hj <;> first | exact sab | exact sab.symm
theorem Sim.three {G : Nat} {ρ : Ren} {w : World} {a b c : Nat × AObj} (dom : ∀ i c, ρ i = some c → c < w.heap.size) (glob : ∀ g, g < G → ρ g = some g) (fin : ∃ N, ∀ i, N ≤ i → ρ i = none) (ea : ER ρ w a) (eb : ER ρ w b) (ec : ER ρ w c)
    (sab : Sep ρ a b) (sac : Sep ρ a c) (sbc : Sep ρ b c) : Sim G ρ [a, b, c] w := by
  refine ⟨dom, ?_, ?_, glob, fin⟩
  · intro e he
    simp only [List.mem_cons, List.not_mem_nil, or_false] at he
    rcases he with rfl | rfl | rfl <;> assumption
  · intro i j e e' hij hi hj
    rcases i with _ | _ | _ | i <;> rcases j with _ | _ | _ | j <;> simp at hi hj hij <;> subst hi hj <;> first | exact sab | exact sab.symm | exact sac | exact sac.symm | exact sbc | exact sbc.symm
section
variable {P : Program} {G : Nat} {ops : Array Oper} {o : Oper} {n : Nat} {s : As} {h : H} {L : Lay}
theorem o_len {as : Array Operand} {t : TypeId} {x : Operand} {a : Option Addr} {l c : Nat} {e : TE} {q : TypeId × Nat} (hL : LayOk P L = true) (ho : o.op = .call { callee := .builtin .len, args := as, argTypes := #[t] }) (hw : wantA ops o n s = some true) (has : as = #[x]) (hx : evA G n s x = some (.slice a l c))
    (ht : lkT L t = some e) (hs : e.sl = some q) : OPJ P G ops o (mkT n s) h [] [] (some (.int .i64 l)) [] [] :=
  OPJ.pure hw fun ρ w ac _ er => by
    subst has
    obtain ⟨hu, _⟩ := (tfOf hL ht).sl q.1 q.2 hs
    have hv := er.get (by simp [ho, Op.operands, Call.operands]) hx
    have : ∃ a' c', ac.eval x = .slice a' l c' := by
      cases a with
      | none => exact ⟨none, c, vr_sliceNil.1 hv⟩
      | some a => obtain ⟨b, c', r⟩ := vr_sliceSome hv; exact ⟨_, c', r⟩
    obtain ⟨a', c', hv'⟩ := this
    exact ⟨.int .i64 l, by simp [execOp, ho, resolve, invoke, builtin, Builtin.len_, hv', run_underlying hu, goInt], by simp⟩
theorem o_idx {t : TypeId} {x y : Operand} {k f l c sz : Nat} {el : TypeId} {kd : IntKind} {i : Int} {e : TE} (hL : LayOk P L = true) (ho : o.op = .indexAddr t x y) (hw : wantA ops o n s = some true) (hx : evA G n s x = some (.slice (some ⟨k, f, none⟩) l c)) (hy : evA G n s y = some (.int kd i))
    (ht : lkT L t = some e) (hs : e.sl = some (el, sz)) (h0 : 0 ≤ i) (h1 : i < l) : OPJ P G ops o (mkT n s) h [] [] (some (.pointer (some ⟨k, f + i.toNat * sz, none⟩))) [] [] :=
  OPJ.pure hw fun ρ w a _ er => by
    obtain ⟨hu, j, hj, hjs⟩ := (tfOf hL ht).sl el sz hs
    obtain ⟨b, c', hb, hc, hv⟩ := vr_slice.1 (er.get (by simp [ho, Op.operands]) hx)
    have h2 := vr_int.1 (er.get (by simp [ho, Op.operands]) hy)
    refine ⟨.pointer (some ⟨b, f + i.toNat * sz, none⟩), ?_, .ptr _ _ hb⟩
    simp [execOp, ho, hv, h2, Instr.indexAt, asIntOf, run_underlying hu, h0, h1, sizeOf, typeInfo, hj, hjs, add_none]
theorem o_conv {t u : TypeId} {x : Operand} {k d : IntKind} {i : Int} {ds : TypeDesc} (ho : o.op = .convert t u x) (hw : wantA ops o n s = some true) (hx : evA G n s x = some (.int k i)) (hs : P.underlying t = some ds) (hd : P.underlying u = some (.int d)) :
    OPJ P G ops o (mkT n s) h [] [] (some (.int d (d.wrap i))) [] [] :=
  OPJ.pure hw fun ρ w a _ er => by
    have h2 := vr_int.1 (er.get (by simp [ho, Op.operands]) hx)
    refine ⟨.int d (d.wrap i), ?_, by simp⟩
    simp only [execOp, ho, h2, convert, Sem.run_bind, run_underlying hs, run_underlying hd, Result.andThen_ok]
    cases ds <;> simp [Conv.intToInt]
def rowZ (z : List Value) : Nat → List Value
  | 0 => []
  | m + 1 => z ++ rowZ z m
theorem o_buildS {t el : TypeId} {m sz j k : Nat} {parts : Array (Nat × Operand)} {ps : List (Nat × Value)} {r : List Value} {e ee : TE} (hL : LayOk P L = true) (ho : o.op = .buildSlice t m parts) (hw : wantA ops o n s = some true) (hp : evP G n s parts.toList = some ps)
    (ht : lkT L t = some e) (hs : e.sl = some (el, sz)) (hel : lkT L el = some ee) (hsz : ee.size = sz) (hm : Nat.ble (m * sz) 16777216 = true) (hz : Nat.ble 1 (m * sz) = true) (hr : fillO (fun i => some (i * sz, sz)) (rowZ ee.zero m) ps = some r) (hl : h[j]? = some (k, .gone)) :
    OPJ P G ops o (mkT n s) h [j] [(j, .cells r el)] (some (.slice (some ⟨k, 0, none⟩) m m)) [(k, .gone)] [.cells r el] :=
  OPJ.of hw (fits_one hl) rfl (fun _ _ => rfl) (fun u hu => by simp at hu; simp [hu]) fun ρ w a R sim er fr => by
    obtain ⟨hu, i, hi, his⟩ := (tfOf hL ht).sl el sz hs
    have tf := tfOf hL hel
    have hm := Nat.le_of_ble_eq_true hm
    have hz1 := Nat.le_of_ble_eq_true hz
    have hvp := evP_vr er (fun x hx => by simp only [ho, Op.operands]; exact List.mem_toArray.2 (List.mem_map.2 ⟨x, hx, rfl⟩)) hp
    obtain ⟨z, hzr, hzc⟩ := run_zeroT tf w
    have hzlen : z.cells.size = sz := by have := tf.len; rw [← hzc, hsz] at this; simpa using this
    have hrow : ((Array.range (m * sz)).map (z.cells[· % z.cells.size]!)).toList = rowZ ee.zero m := by
      rw [← hzc, hzlen]
      have hpos : 0 < sz := by rcases Nat.eq_zero_or_pos sz with h | h; (rw [h] at hz1; simp at hz1); exact h
      have gen : ∀ m : Nat, ((List.range (m * sz)).map (z.cells[· % sz]!)) = rowZ z.cells.toList m := by
        intro m
        induction m with
        | zero => simp [rowZ]
        | succ m ih =>
          rw [rowZ, ← ih, Nat.succ_mul, Nat.add_comm (m * sz) sz, List.range_add, List.map_append, List.map_map]
          congr 1
          · refine List.ext_getElem? fun i => ?_
            rw [List.getElem?_map]
            by_cases hi : i < sz
            · rw [List.getElem?_range hi]
              simp [Nat.mod_eq_of_lt hi]
              rw [getElem!_pos z.cells i (by omega)]
              exact (Array.getElem?_eq_getElem (by omega)).symm
            · rw [List.getElem?_eq_none (by simpa using hi)]
              simp
              omega
          · refine List.map_congr_left fun i _ => ?_
            simp
      simpa using gen m
    obtain ⟨r', hr', hrv⟩ := fill_rel (l' := (Array.range (m * sz)).map (z.cells[· % z.cells.size]!)) hvp (by rw [hrow]; have hf := tf.flat; clear hr hrow; induction m with
      | zero => exact .nil
      | succ m ih => exact (flatL_vr hf).append (by
          have : ∀ m, VRL ρ (rowZ ee.zero m) (rowZ ee.zero m) := by
            intro m
            induction m with
            | zero => exact .nil
            | succ m ih => exact (flatL_vr hf).append ih
          exact this m)) hr
    refine wp_value (v := .slice (some ⟨w.heap.size, 0, none⟩) m m) (w1 := { w with heap := w.heap.push (.cells ⟨r'⟩ el) }) ?_ ?_
    · have h0 : m * sz ≠ 0 := by omega
      have h24 : ¬ (16777216 < m * sz) := by omega
      have hsize : (sizeOf el).run P w = .ok sz w := by simp [sizeOf, typeInfo, hi, his]
      have hpl : (parts.map fun (i, x) => (i, a.eval x)).toList = parts.toList.map fun (i, x) => (i, a.eval x) := by simp
      unfold execOp
      simp only [ho, Instr.buildSlice, Sem.run_bind, run_underlying hu, Result.andThen_ok, hsize, Sem.run_ite, Sem.run_pure]
      simp only [h0, if_false, Sem.run_bind, hzr, Result.andThen_ok, Sem.run_pure]
      rw [if_neg (by simpa using h24)]
      simp only [Sem.run_pure, Result.andThen_ok, hpl, hr', newRow, Sem.run_bind, run_newObj]
    · exact lv_new 0 sim rfl (fun ρ' he _ _ => ⟨r', hrv.mono he, rfl⟩) (fun ρ' _ hk _ => .slice _ none _ _ _ hk ⟨id, fun hx => by
        have h1 : m ≤ m * sz := by
          rcases Nat.eq_zero_or_pos sz with h | h
          · rw [h] at hz1; simp at hz1
          · exact Nat.le_mul_of_pos_right m h
        have h2 : m = 1180591620717411303424 := hx
        omega⟩) fr
/-- What append leaves, where the slice was none. -/
theorem o_app0 {as : Array Operand} {t el : TypeId} {x y : Operand} {kx jx jn kn m c sz : Nat} {ox : AObj} {vs : List Value} {e ee : TE} (hL : LayOk P L = true) (ho : o.op = .call { callee := .builtin .append, args := as, argTypes := #[t, t] }) (hw : wantA ops o n s = some true) (has : as = #[x, y])
    (hx : evA G n s x = some (.slice none 0 0)) (hy : evA G n s y = some (.slice (some ⟨kx, 0, none⟩) m c)) (ht : lkT L t = some e) (hs : e.sl = some (el, sz)) (hel : lkT L el = some ee) (hsz : ee.size = sz) (hm : Nat.ble 1 m = true) (hb : Nat.ble (m * ee.bytes) 1099511627776 = true) (hbb : Nat.ble m 1099511627776 = true)
    (hlx : h[jx]? = some (kx, ox)) (hln : h[jn]? = some (kn, .gone)) (hv : ox.seg 0 (m * sz) = some vs) :
    OPJ P G ops o (mkT n s) h [jx, jn] [(jn, .row vs el sz)] (some (.slice (some ⟨kn, 0, none⟩) m grown)) [(kx, ox), (kn, .gone)] [ox, .row vs el sz] := by
  have hne : jx ≠ jn := by
    intro hx; subst hx; rw [hlx] at hln; cases hln; simp [AObj.seg] at hv
  refine OPJ.of hw ⟨by simp [hne], by simp [hlx, hln]⟩ rfl ?_ (fun u hu => by simp at hu; simp [hu]) fun ρ w a R sim er fr => ?_
  · intro h2 hh
    have h1 := hh jx (by simp)
    show ((h2.modify jx fun e => (e.1, ox)).modify jn fun e => (e.1, .row vs el sz)) = h2.modify jn _
    congr 1
    refine List.ext_getElem? fun i => ?_
    rw [List.getElem?_modify]
    by_cases hi : jx = i
    · subst hi; simp [h1, hlx]
    · simp [hi]
  · subst has
    obtain ⟨hu, i0, hi0, hi0s⟩ := (tfOf hL ht).sl el sz hs
    have tf := tfOf hL hel
    obtain ⟨i, hi, his, hib, z, hz, hzc⟩ := tf.size
    have hm := Nat.le_of_ble_eq_true hm
    have hb := Nat.le_of_ble_eq_true hb
    have hbb := Nat.le_of_ble_eq_true hbb
    have hx' := vr_sliceNil.1 (er.get (by simp [ho, Op.operands, Call.operands]) hx)
    obtain ⟨b, c', hbk, hc, hy'⟩ := vr_slice.1 (er.get (by simp [ho, Op.operands, Call.operands]) hy)
    have live : ox.live = true := by cases ox <;> simp_all [AObj.seg, AObj.live]
    obtain ⟨b', ob, hb', hh, hor⟩ := (sim.ent (kx, ox) (by simp)).2 live
    rw [hbk] at hb'
    cases hb'
    obtain ⟨vs', hlen, hvr, hcell⟩ := hor.seg hh hv
    have hkn : ρ kn = none := (sim.ent (kn, .gone) (by simp)).1 rfl
    have hr := run_append_nil (P := P) w t o.type el i z hu hi hz ⟨b, 0, none⟩ m c' vs' (by rw [hlen, his, hsz]) (fun j v hj => by rw [add_none]; exact hcell j v hj) (by omega) (by omega) (by rw [hib]; omega)
    generalize hcap : grownCap w m 0 el = cap at hr
    have hge : m ≤ cap := by rw [← hcap]; exact grownCap_ge w m 0 el
    let B := w.heap.size
    let ρ' : Ren := ⟨fun i => if i = kn then some B else ρ i, fun i => if i = kn then cap else ρ.c i⟩
    have hk' : ρ' kn = some B := by simp [ρ']
    have hne' : ∀ i c, ρ i = some c → i ≠ kn := fun i c hi hx => by rw [hx, hkn] at hi; cases hi
    have hext : Ext ρ ρ' := ⟨fun i c hi => by simp [ρ', hne' i c hi, hi], fun i c hi => by simp [ρ', hne' i c hi]⟩
    refine wp_value (v := .slice (some ⟨B, 0, none⟩) m cap) (w1 := w.drew.alloc (.cells (vs'.toArray ++ Builtin.zeroCells z.cells (cap - m)) el)) (by simp [execOp, ho, resolve, invoke, builtin, hx', hy', hr, B]) ?_
    have old : ∀ c, c < B → (w.drew.alloc (.cells (vs'.toArray ++ Builtin.zeroCells z.cells (cap - m)) el)).heap[c]? = w.heap[c]? := fun c hc => heap_alloc_old w.drew _ c hc
    have new : (w.drew.alloc (.cells (vs'.toArray ++ Builtin.zeroCells z.cells (cap - m)) el)).heap[B]? = some (.cells (vs'.toArray ++ Builtin.zeroCells z.cells (cap - m)) el) := heap_alloc_new w.drew _
    have size : (w.drew.alloc (.cells (vs'.toArray ++ Builtin.zeroCells z.cells (cap - m)) el)).heap.size = B + 1 := by show (w.heap.push _).size = _; simp [B]
    have hzs : z.cells.size = sz := by have := tf.len; rw [← hzc, hsz] at this; simpa using this
    refine ⟨_, ρ', rfl, fun x hx => by cases hx; exact .slice _ none _ _ _ hk' ⟨fun _ => hge, fun _ => by simp [ρ']⟩, ?_, ?_, ?_⟩
    · refine Sim.two ?_ (fun g hg => hext.b g g (sim.glob g hg)) ?_ ?_ ?_ ?_
      · intro i c hi
        rw [size]
        simp only [ρ'] at hi
        split at hi
        · cases hi; omega
        · have := sim.dom i c hi; omega
      · obtain ⟨N, hN⟩ := sim.fin
        refine ⟨max N (kn + 1), fun i hi => ?_⟩
        simp only [ρ', if_neg (show i ≠ kn by omega)]
        exact hN i (by omega)
      · exact ⟨fun hg => (by have hg : ox = .gone := hg; rw [hg] at live; cases live), fun _ => ⟨b, ob, hext.b _ _ hbk, by rw [old b (sim.dom _ _ hbk)]; exact hh, hor.mono hext hbk⟩⟩
      · refine ⟨fun hg => (by cases hg), fun _ => ⟨B, _, hk', new, vs', (Builtin.zeroCells z.cells (cap - m)).toList, hvr.mono hext, ?_, ?_⟩⟩
        · show (if kn = kn then cap else ρ.c kn) * sz = _
          rw [if_pos rfl, List.length_append, hlen, Array.length_toList, size_zeroCells, hzs, ← Nat.add_mul]
          congr 1; omega
        · congr 1
          simp
      · intro _ _
        refine ⟨fun _ => ?_, fun hg => ?_⟩
        · show ρ' kx ≠ ρ' kn
          rw [hext.b _ _ hbk, hk']
          have := sim.dom _ _ hbk
          intro hx; have := Option.some.inj hx; omega
        · rcases hg with hg | hg
          · have hg : ox = .gone := hg; rw [hg] at live; cases live
          · cases hg
    · refine ⟨hext, ?_, by rw [size]; omega, rfl, rfl, rfl, fun c hc _ => old c hc, ?_, ?_⟩
      · intro k c h0 h1
        simp only [ρ'] at h1
        split at h1
        · cases h1; exact .inl (Nat.le_refl _)
        · rw [h0] at h1; cases h1
      · intro e' he' hl c hc
        have he' : e' = (kx, ox) ∨ e' = (kn, .row vs el sz) := by simpa [wth] using he'
        rcases he' with rfl | rfl
        · have hc : ρ' kx = some c := hc
          rw [hext.b _ _ hbk] at hc
          cases hc
          exact .inr ⟨(kx, ox), by simp, live, id, hbk⟩
        · have hc : ρ' kn = some c := hc
          rw [hk'] at hc
          cases hc
          exact .inl (Nat.le_refl _)
      · intro e' he' hg
        have he' : e' = (kx, ox) ∨ e' = (kn, .row vs el sz) := by simpa [wth] using he'
        rcases he' with rfl | rfl
        · simp
        · cases hg
    · intro r hr
      have hne : r ≠ kn := fun hx => (fr r hr).2 (kn, .gone) (by simp) rfl hx.symm
      simp only [ρ', if_neg hne]
      exact (fr r hr).1
/-- What append leaves, where the slice had grown before: the old name is lost. -/
theorem o_app1 {as : Array Operand} {t el : TypeId} {x y : Operand} {kx ks jx js jn kn l m c sz : Nat} {ox : AObj} {cs vs : List Value} {e ee : TE} (hL : LayOk P L = true) (ho : o.op = .call { callee := .builtin .append, args := as, argTypes := #[t, t] }) (hw : wantA ops o n s = some true) (has : as = #[x, y])
    (hx : evA G n s x = some (.slice (some ⟨ks, 0, none⟩) l grown)) (hy : evA G n s y = some (.slice (some ⟨kx, 0, none⟩) m c)) (ht : lkT L t = some e) (hs : e.sl = some (el, sz)) (hel : lkT L el = some ee) (hsz : ee.size = sz) (hpos : Nat.ble 1 sz = true) (hm : Nat.ble 1 m = true)
    (hlx : h[jx]? = some (kx, ox)) (hls : h[js]? = some (ks, .row cs el sz)) (hln : h[jn]? = some (kn, .gone)) (hne1 : jx ≠ js)
    (hb : (l + m) * ee.bytes ≤ 1099511627776) (hbb : l + m ≤ 1099511627776) (hcl : cs.length = l * sz) (hv : ox.seg 0 (m * sz) = some vs) (hone : vs.all (·.oneCell') = true) :
    OPJ P G ops o (mkT n s) h [jx, js, jn] [(js, .lost), (jn, .row (cs ++ vs) el sz)] (some (.slice (some ⟨kn, 0, none⟩) (l + m) grown)) [(kx, ox), (ks, .row cs el sz), (kn, .gone)] [ox, .lost, .row (cs ++ vs) el sz] := by
  have hne : jx ≠ jn := by
    intro hx; subst hx; rw [hlx] at hln; cases hln; simp [AObj.seg] at hv
  have hne2 : js ≠ jn := by
    intro hx; subst hx; rw [hls] at hln; cases hln
  refine OPJ.of hw ⟨by simp [hne, hne1, hne2], by simp [hlx, hln, hls]⟩ rfl ?_ (fun u hu => by simp at hu; rcases hu with rfl | rfl <;> simp) fun ρ w a R sim er fr => ?_
  · intro h2 hh
    have h1 := hh jx (by simp)
    show (((h2.modify jx fun e => (e.1, ox)).modify js fun e => (e.1, AObj.lost)).modify jn fun e => (e.1, .row (cs ++ vs) el sz)) = ((h2.modify js _).modify jn _)
    congr 2
    refine List.ext_getElem? fun i => ?_
    rw [List.getElem?_modify]
    by_cases hi : jx = i
    · subst hi; simp [h1, hlx]
    · simp [hi]
  · subst has
    obtain ⟨hu, i0, hi0, hi0s⟩ := (tfOf hL ht).sl el sz hs
    have tf := tfOf hL hel
    obtain ⟨i, hi, his, hib, z, hz, hzc⟩ := tf.size
    have hm := Nat.le_of_ble_eq_true hm
    have hpos := Nat.le_of_ble_eq_true hpos
    have hisz : i.size = sz := by rw [his, hsz]
    obtain ⟨bs, cap0, hbs, hcs0, hx'⟩ := vr_slice.1 (er.get (by simp [ho, Op.operands, Call.operands]) hx)
    have hcapeq : cap0 = ρ.c ks := hcs0.2 rfl
    obtain ⟨b, c', hbk, hc, hy'⟩ := vr_slice.1 (er.get (by simp [ho, Op.operands, Call.operands]) hy)
    have live : ox.live = true := by cases ox <;> simp_all [AObj.seg, AObj.live]
    obtain ⟨b', ob, hb', hh, hor⟩ := (sim.ent (kx, ox) (by simp)).2 live
    rw [hbk] at hb'
    cases hb'
    obtain ⟨vs', hlen, hvr, hcell⟩ := hor.seg hh hv
    obtain ⟨bs', obs, hbs', hhs, cs', ex, hcvr, hcapsz, rfl⟩ := (sim.ent (ks, .row cs el sz) (by simp)).2 rfl
    rw [hbs] at hbs'
    cases hbs'
    have hbne : b ≠ bs := by
      have := (sim.sep 0 1 (kx, ox) (ks, .row cs el sz) (by simp) rfl rfl (AObj.nl live) (by simp)).1 (.inr rfl)
      intro hx; exact this (by show ρ kx = ρ ks; rw [hbk, hbs, hx])
    have hkn : ρ kn = none := (sim.ent (kn, .gone) (by simp)).1 rfl
    have hcl' : cs'.length = l * sz := by rw [hcvr.length, hcl]
    have h1 : ∀ u ∈ vs', u.oneCell' = true := hvr.ones hone
    have hnews : ∀ (j : Nat) v, vs'[j]? = some v → w.cell? ((⟨b, 0, none⟩ : Addr).add j) = some v := fun j v hj => by rw [add_none]; exact hcell j v hj
    have holds : ∀ (j : Nat) v, cs'[j]? = some v → w.cell? ((⟨bs, 0, none⟩ : Addr).add j) = some v := fun j v hj => by
      rw [add_none]
      simp only [World.cell?, hhs]
      simp [List.getElem?_append_left (List.getElem?_eq_some_iff.1 hj).1, hj]
    have hne' : ∀ i c, ρ i = some c → i ≠ kn := fun i c hi hx => by rw [hx, hkn] at hi; cases hi
    have goal : ∀ (B cap : Nat) (w1 : World) (ex1 : List Value), (B = bs ∨ B = w.heap.size) → l + m ≤ cap → (∀ c, c < w.heap.size → c ≠ bs → w1.heap[c]? = w.heap[c]?) → w.heap.size ≤ w1.heap.size → B < w1.heap.size →
        w1.heap[B]? = some (.cells ⟨(cs' ++ vs') ++ ex1⟩ el (0, 0)) → cap * sz = ((cs' ++ vs') ++ ex1).length → w1.os = w.os → w1.tape = w.tape → w1.output = w.output →
        Lv o a G R ρ [(kx, ox), (ks, .row cs el sz), (kn, .gone)] [ox, .lost, .row (cs ++ vs) el sz] (some (.slice (some ⟨kn, 0, none⟩) (l + m) grown)) w (a.put o.dst (.slice (some ⟨B, 0, none⟩) (l + m) cap)) w1 := by
      intro B cap w1 ex1 hB hle old hsz1 hBlt new hcap1 hos htape hout
      let ρ' : Ren := ⟨fun i => if i = kn then some B else ρ i, fun i => if i = kn then cap else ρ.c i⟩
      have hk' : ρ' kn = some B := by simp [ρ']
      have hext : Ext ρ ρ' := ⟨fun i c hi => by simp [ρ', hne' i c hi, hi], fun i c hi => by simp [ρ', hne' i c hi]⟩
      have hbB : b ≠ B := by
        rcases hB with rfl | rfl
        · exact hbne
        · have := sim.dom _ _ hbk; omega
      refine ⟨_, ρ', rfl, fun x hx => by cases hx; exact .slice _ none _ _ _ hk' ⟨fun _ => hle, fun _ => by simp [ρ']⟩, ?_, ?_, ?_⟩
      · refine Sim.three ?_ (fun g hg => hext.b g g (sim.glob g hg)) ?_ ?_ ?_ ?_ ?_ ?_ ?_
        · intro i c hi
          simp only [ρ'] at hi
          split at hi
          · cases hi; exact hBlt
          · have := sim.dom i c hi; omega
        · obtain ⟨N, hN⟩ := sim.fin
          refine ⟨max N (kn + 1), fun i hi => ?_⟩
          simp only [ρ', if_neg (show i ≠ kn by omega)]
          exact hN i (by omega)
        · exact ⟨fun hg => (by have hg : ox = .gone := hg; rw [hg] at live; cases live), fun _ => ⟨b, ob, hext.b _ _ hbk, by rw [old b (sim.dom _ _ hbk) hbne]; exact hh, hor.mono hext hbk⟩⟩
        · exact ⟨fun hg => (by cases hg), fun hl => (by cases hl)⟩
        · refine ⟨fun hg => (by cases hg), fun _ => ⟨B, _, hk', new, cs' ++ vs', ex1, (hcvr.mono hext).append (hvr.mono hext), ?_, rfl⟩⟩
          show (if kn = kn then cap else ρ.c kn) * sz = _
          rw [if_pos rfl]; exact hcap1
        · intro _ hl; exact absurd rfl hl
        · intro _ _
          refine ⟨fun _ => ?_, fun hg => ?_⟩
          · show ρ' kx ≠ ρ' kn
            rw [hext.b _ _ hbk, hk']
            intro hx; exact hbB (Option.some.inj hx)
          · rcases hg with hg | hg
            · have hg : ox = .gone := hg; rw [hg] at live; cases live
            · cases hg
        · intro hl; exact absurd rfl hl
      · refine ⟨hext, ?_, hsz1, hos, htape, hout, ?_, ?_, ?_⟩
        · intro k c h0 h1
          simp only [ρ'] at h1
          split at h1
          · cases h1
            rcases hB with rfl | rfl
            · exact .inr ⟨(ks, .row cs el sz), by simp, rfl, hbs⟩
            · exact .inl (Nat.le_refl _)
          · rw [h0] at h1; cases h1
        · intro c hc hno
          refine old c hc fun hx => ?_
          subst hx
          exact hno (ks, .row cs el sz) (by simp) rfl hbs
        · intro e' he' hl c hc
          have he' : e' = (kx, ox) ∨ e' = (ks, .lost) ∨ e' = (kn, .row (cs ++ vs) el sz) := by simpa [wth] using he'
          rcases he' with rfl | rfl | rfl
          · have hc : ρ' kx = some c := hc
            rw [hext.b _ _ hbk] at hc
            cases hc
            exact .inr ⟨(kx, ox), by simp, live, id, hbk⟩
          · cases hl
          · have hc : ρ' kn = some c := hc
            rw [hk'] at hc
            cases hc
            rcases hB with rfl | rfl
            · exact .inr ⟨(ks, .row cs el sz), by simp, rfl, fun _ => rfl, hbs⟩
            · exact .inl (Nat.le_refl _)
        · intro e' he' hg
          have he' : e' = (kx, ox) ∨ e' = (ks, .lost) ∨ e' = (kn, .row (cs ++ vs) el sz) := by simpa [wth] using he'
          rcases he' with rfl | rfl | rfl
          · simp
          · cases hg
          · cases hg
      · intro r hr
        have hne : r ≠ kn := fun hx => (fr r hr).2 (kn, .gone) (by simp) rfl hx.symm
        simp only [ρ', if_neg hne]
        exact (fr r hr).1
    by_cases hroom : l + m ≤ cap0
    · have hfit : l * i.size + vs'.length ≤ (Array.mk (cs' ++ ex)).size := by
        show _ ≤ (cs' ++ ex).length
        rw [← hcapsz, hlen, hisz, ← Nat.add_mul, ← hcapeq]; exact Nat.mul_le_mul_right _ hroom
      have hr := run_append_room (P := P) w t o.type el i hu hi bs l cap0 ⟨cs' ++ ex⟩ hhs ⟨b, 0, none⟩ m c' vs' (by rw [hlen, hisz]) hnews h1 hroom hfit
      have e1 : (cs' ++ ex).take (l * i.size) = cs' := by rw [hisz, ← hcl']; exact List.take_left
      have e2 : (cs' ++ ex).drop (l * i.size + vs'.length) = ex.drop vs'.length := by rw [hisz, ← hcl', ← List.drop_drop, List.drop_left]
      rw [show (Array.mk (cs' ++ ex)).toList = cs' ++ ex from rfl, e1, e2] at hr
      refine wp_value (v := .slice (some ⟨bs, 0, none⟩) (l + m) cap0) (w1 := w.setRow bs (cs' ++ vs' ++ ex.drop vs'.length).toArray) (by simp [execOp, ho, resolve, invoke, builtin, hx', hy', hr]) ?_
      have hset := setRow_heap w bs ⟨cs' ++ ex⟩ (cs' ++ vs' ++ ex.drop vs'.length).toArray el (0, 0) hhs
      refine goal bs cap0 _ (ex.drop vs'.length) (.inl rfl) hroom (fun c _ hc => setRow_other w bs c _ hc) (by simp) (by simp; exact sim.dom _ _ hbs) hset ?_ rfl rfl rfl
      have h9 : (cs' ++ ex).length = cap0 * sz := by rw [← hcapsz, hcapeq]
      have h8 : l * sz + vs'.length ≤ cap0 * sz := by rw [hlen, ← Nat.add_mul]; exact Nat.mul_le_mul_right _ hroom
      simp only [List.length_append, List.length_drop] at h9 ⊢
      omega
    · have hib2 : i.bytes = ee.bytes := hib
      have hlim : Builtin.nextslicecap (l + m) cap0 * i.bytes ≤ 281474976710656 := growslice_fits (by omega) (by rw [hib2]; omega)
      have hr := run_append_grow (P := P) w t o.type el i z hu hi hz ⟨bs, 0, none⟩ l cap0 cs' (by rw [hcl', hisz]) holds ⟨b, 0, none⟩ m c' vs' (by rw [hlen, hisz]) hnews (by omega) (by omega) hlim
      have hge : l + m ≤ grownCap w (l + m) cap0 el := grownCap_ge w (l + m) cap0 el
      generalize grownCap w (l + m) cap0 el = cap at hr hge
      have hzs : z.cells.size = sz := by have := tf.len; rw [← hzc, hsz] at this; simpa using this
      refine wp_value (v := .slice (some ⟨w.heap.size, 0, none⟩) (l + m) cap) (w1 := w.drew.alloc (.cells (cs'.toArray ++ vs'.toArray ++ Builtin.zeroCells z.cells (cap - (l + m))) el)) (by simp [execOp, ho, resolve, invoke, builtin, hx', hy', hr]) ?_
      have new := heap_alloc_new w.drew (.cells (cs'.toArray ++ vs'.toArray ++ Builtin.zeroCells z.cells (cap - (l + m))) el)
      refine goal w.heap.size cap _ (Builtin.zeroCells z.cells (cap - (l + m))).toList (.inr rfl) hge (fun c hc _ => heap_alloc_old w.drew _ c hc) (by show _ ≤ (w.heap.push _).size; simp) (by show _ < (w.heap.push _).size; simp) ?_ ?_ rfl rfl rfl
      · have e : cs'.toArray ++ vs'.toArray ++ Builtin.zeroCells z.cells (cap - (l + m)) = ⟨cs' ++ vs' ++ (Builtin.zeroCells z.cells (cap - (l + m))).toList⟩ := by
          apply Array.ext'
          simp
        rw [e] at new ⊢
        exact new
      · rw [List.length_append, List.length_append, hlen, hcl', Array.length_toList, size_zeroCells, hzs, ← Nat.add_mul, ← Nat.add_mul]
        congr 1; omega
end
end Go.Proofs.YtekcchmnncefhaaGreatDoorAB

/-! A block's name is turned at the end; loops. -/
namespace Go.Proofs.YtekcchmnncefhaaGreatDoorAB
open Go
mutual
/-- The name p is turned to q, at some places. -/
inductive RN (p q : Nat) : Value → Value → Prop
  | refl (v : Value) : RN p q v v
  | ptr (o : Nat) (s : Option Nat) : RN p q (.pointer (some ⟨p, o, s⟩)) (.pointer (some ⟨q, o, s⟩))
  | slice (o l c : Nat) : RN p q (.slice (some ⟨p, o, none⟩) l c) (.slice (some ⟨q, o, none⟩) l c)
  | agg {xs ys : List Value} (h : RNL p q xs ys) : RN p q (.agg ⟨xs⟩) (.agg ⟨ys⟩)
  | tuple {xs ys : List Value} (h : RNL p q xs ys) : RN p q (.tuple ⟨xs⟩) (.tuple ⟨ys⟩)
inductive RNL (p q : Nat) : List Value → List Value → Prop
  | nil : RNL p q [] []
  | cons {x y : Value} {xs ys : List Value} (h : RN p q x y) (hs : RNL p q xs ys) : RNL p q (x :: xs) (y :: ys)
end
/-- q stands for the block of p. -/
def alias (ρ : Ren) (p q : Nat) : Ren := ⟨fun i => if i = q then ρ p else ρ i, fun i => if i = q then ρ.c p else ρ.c i⟩
theorem alias_ext {ρ : Ren} {p q : Nat} (hq : ρ q = none) : Ext ρ (alias ρ p q) :=
  ⟨fun i b hi => by
    have : i ≠ q := fun hx => by rw [hx, hq] at hi; cases hi
    simp [alias, this, hi], fun i b hi => by
    have : i ≠ q := fun hx => by rw [hx, hq] at hi; cases hi
    simp [alias, this]⟩
theorem alias_b {ρ : Ren} {p q : Nat} : alias ρ p q q = ρ p := by simp [alias]
mutual
theorem RN.vr {ρ : Ren} {p q : Nat} (hq : ρ q = none) : ∀ {v u x : Value}, RN p q v u → VR ρ v x → VR (alias ρ p q) u x
  | _, _, _, .refl _, h => h.mono (alias_ext hq)
  | _, _, _, .ptr o s, h => by
    obtain ⟨b, hb, rfl⟩ := vr_ptr.1 h
    exact .ptr o s (by rw [alias_b, hb])
  | _, _, _, .slice o l c, h => by
    obtain ⟨b, c', hb, hc, rfl⟩ := vr_slice.1 h
    exact .slice o none l c c' (by rw [alias_b, hb]) ⟨hc.1, fun hx => by rw [hc.2 hx]; simp [alias]⟩
  | _, _, _, .agg r, h => by
    obtain ⟨ys, hy, rfl⟩ := vr_agg.1 h
    exact .agg (r.vr hq hy)
  | _, _, _, .tuple r, h => by
    obtain ⟨ys, hy, rfl⟩ := vr_tuple.1 h
    exact .tuple (r.vr hq hy)
theorem RNL.vr {ρ : Ren} {p q : Nat} (hq : ρ q = none) : ∀ {v u x : List Value}, RNL p q v u → VRL ρ v x → VRL (alias ρ p q) u x
  | _, _, _, .nil, h => by cases h; exact .nil
  | _, _, _, .cons r rs, .cons a b => .cons (r.vr hq a) (rs.vr hq b)
end
section
variable {P : Program} {G : Nat} {L : Lay}
/-- The contract out of the walk, where the block p that the function made, the last of those that are kept, is handed on under the name q. -/
theorem Ctr.ren {f nt : Nat} {fn : Func} {c : Code} {args : List Value} {A : H} {q : Nat} {v : Value} {postA : List AObj} {ob : AObj} {rs : List ResultVar} (hL : LayOk P L = true) (hf : P.funcs[f]? = some fn) (hnt : fn.ntmps = nt) (hb : fn.body = some c)
    (hnm : (fn.name == "runtime.NumGoroutine") = false) (hrs : fn.results = ⟨rs⟩) (hn : Nat.ble args.length nt = true) (lenA : postA.length = A.length)
    (k : WP P G c (mkT nt (asOf 0 args)) (A ++ [(q, .gone)]) fun e t h' => (e = .normal ∨ e = .ret) ∧ ∃ s vs p, t = mkT nt s ∧ RVs L nt s h' rs vs ∧ RN p q (tup vs) v ∧ ob.wr = true ∧ List.Sublist (wth A postA ++ [(q, .gone), (p, ob)]) h') :
    Ctr P G f args (A ++ [(q, .gone)]) v (postA ++ [ob]) := by
  subst hnt
  have hrs' : fn.results.toList = rs := by rw [hrs]
  subst hrs'
  have wthe : wth (A ++ [(q, AObj.gone)]) (postA ++ [ob]) = wth A postA ++ [(q, ob)] := by
    unfold wth
    rw [List.zip_append lenA.symm, List.map_append]
    rfl
  refine ⟨⟨fn, hf, hnm, by simp [hb]⟩, by simp [lenA], fun R ρ w cargs sim hv fr => ?_⟩
  have hn : args.length ≤ fn.ntmps := Nat.le_of_ble_eq_true hn
  have hcl : cargs.size = args.length := by have := hv.length; simpa using this
  refine calls_of_wp hf hb ?_
  have st : St G ρ (mkT fn.ntmps (asOf 0 args)) (A ++ [(q, .gone)]) { tmps := cargs ++ Array.replicate (fn.ntmps - cargs.size) undef, defers := [] } w := by
    refine ⟨sim, ⟨?_, fun i v hi => ?_⟩, rfl⟩
    · simp [mkT]; omega
    · rw [mk_get] at hi
      split at hi
      · simp only [Option.some.injEq] at hi
        rw [look_asOf] at hi
        simp only [Nat.zero_le, if_true, Nat.sub_zero] at hi
        obtain ⟨v', h1, h2⟩ := hv.get i hi
        refine ⟨v', ?_, h2⟩
        rw [Array.toList_append, List.getElem?_append_left (List.getElem?_eq_some_iff.1 h1).1]
        exact h1
      · cases hi
  refine wp_mono (k ρ _ w R st fr) ?_
  rintro e a' w' ⟨t', h', ρ', ⟨he, s, vs, p, rfl, hrv, hrn, hwr, hsub⟩, st', stp, fr'⟩
  obtain ⟨v', hr, hvr⟩ := run_results hL hrv st'
  have wk : Wk (mkT fn.ntmps s) h' (mkT fn.ntmps s) (wth A postA ++ [(q, .gone), (p, ob)]) := ⟨rfl, fun _ _ h => h, hsub⟩
  have st2 := wk.st st'
  have hq : ρ' q = none := (st2.sim.ent (q, .gone) (by simp)).1 rfl
  obtain ⟨b, obj, hpb, hh, hor⟩ := (st2.sim.ent (p, ob) (by simp)).2 (AObj.live_of_wr hwr)
  have hext := alias_ext (p := p) hq
  have hnames : ∀ e ∈ wth A postA, e.1 ≠ q ∨ e.2 = .lost := by
    intro e he
    by_cases hlo : e.2 = .lost
    · exact .inr hlo
    · left
      intro hx
      obtain ⟨i, hi⟩ := List.mem_iff_getElem?.1 he
      have hil : i < (wth A postA).length := (List.getElem?_eq_some_iff.1 hi).1
      have := (st2.sim.sep i (wth A postA).length e (q, .gone) (by omega) (by rw [List.getElem?_append_left hil]; exact hi) (by rw [List.getElem?_append_right (Nat.le_refl _)]; simp) hlo (by simp)).2 (.inr rfl)
      exact this hx
  have sim3 : Sim G (alias ρ' p q) (wth A postA ++ [(q, ob)]) w' := by
    refine ⟨?_, ?_, ?_, fun g hg => hext.b g g (st2.sim.glob g hg), ?_⟩
    · intro i c hi
      simp only [alias] at hi
      split at hi
      · exact st2.sim.dom p c hi
      · exact st2.sim.dom i c hi
    · intro e he
      rcases List.mem_append.1 he with he | he
      · have h1 := st2.sim.ent e (List.mem_append_left _ he)
        refine ⟨fun hg => ?_, fun hl => ?_⟩
        · rcases hnames e he with h2 | h2
          · simp only [alias, if_neg h2]; exact h1.1 hg
          · rw [hg] at h2; cases h2
        · obtain ⟨c, o, hc, ho, hor⟩ := h1.2 hl
          exact ⟨c, o, hext.b _ _ hc, ho, hor.mono hext hc⟩
      · have he : e = (q, ob) := by simpa using he
        subst he
        refine ⟨fun hg => (by have hg : ob = .gone := hg; rw [hg] at hwr; cases hwr), fun _ => ⟨b, obj, by rw [alias_b]; exact hpb, hh, ?_⟩⟩
        have h3 : OR (alias ρ' p q) p ob obj := hor.mono hext hpb
        cases ob with
        | row cs ty sz =>
          obtain ⟨cs', ex, h4, h5, h6⟩ := h3
          refine ⟨cs', ex, h4, ?_, h6⟩
          rw [← h5]
          by_cases hpq : p = q
          · rw [hpq]
          · simp [alias, hpq]
        | cells cs ty => exact h3
        | obj o => exact h3
        | _ => cases hwr
    · have hlenL : ∀ {x : Nat × AObj}, (wth A postA ++ [(q, AObj.gone), (p, ob)])[(wth A postA).length + 1]? = some (p, ob) := by
        intro x
        rw [List.getElem?_append_right (by omega)]
        simp
      have key : ∀ (i j : Nat) (e e' : Nat × AObj), i < j → (wth A postA ++ [(q, ob)])[i]? = some e → (wth A postA ++ [(q, ob)])[j]? = some e' → Sep (alias ρ' p q) e e' := by
        intro i j e e' hij hi hj
        have hjl : j < (wth A postA ++ [(q, ob)]).length := (List.getElem?_eq_some_iff.1 hj).1
        have hil : i < (wth A postA).length := by simp at hjl; omega
        rw [List.getElem?_append_left hil] at hi
        have hi' : (wth A postA ++ [(q, AObj.gone), (p, ob)])[i]? = some e := by rw [List.getElem?_append_left hil]; exact hi
        have emem : e ∈ wth A postA := List.mem_of_getElem? hi
        -- a live name keeps its block, a name not used yet stays so
        have val : ∀ e ∈ wth A postA, e.2 ≠ .lost → alias ρ' p q e.1 = ρ' e.1 := by
          intro e he hlo
          rcases hnames e he with h2 | h2
          · simp [alias, h2]
          · exact absurd h2 hlo
        by_cases hjl2 : j < (wth A postA).length
        · rw [List.getElem?_append_left hjl2] at hj
          have hj' : (wth A postA ++ [(q, AObj.gone), (p, ob)])[j]? = some e' := by rw [List.getElem?_append_left hjl2]; exact hj
          have hs := st2.sim.sep i j e e' (by omega) hi' hj'
          intro l1 l2
          obtain ⟨x, y⟩ := hs l1 l2
          refine ⟨fun h => ?_, y⟩
          rw [val e emem l1, val e' (List.mem_of_getElem? hj) l2]
          exact x h
        · rw [List.getElem?_append_right (by omega)] at hj
          have hjj : j - (wth A postA).length = 0 := by simp at hjl; omega
          rw [hjj] at hj
          have hj : (q, ob) = e' := by simpa using hj
          subst hj
          have hs := st2.sim.sep i ((wth A postA).length + 1) e (p, ob) (by omega) hi' (hlenL (x := e))
          intro l1 l2
          obtain ⟨x, y⟩ := hs l1 l2
          refine ⟨fun h => ?_, fun hg => ?_⟩
          · show alias ρ' p q e.1 ≠ alias ρ' p q q
            rw [val e emem l1, alias_b]
            exact x (by rcases h with h | h; exact .inl h; exact .inr h)
          · rcases hg with hg | hg
            · rcases hnames e emem with h2 | h2
              · exact h2
              · exact absurd h2 l1
            · have hg : ob = .gone := hg
              rw [hg] at hwr; cases hwr
      intro i j e e' hij hi hj
      rcases Nat.lt_or_gt_of_ne hij with hlt | hgt
      · exact key i j e e' hlt hi hj
      · exact (key j i e' e hgt hj hi).symm
    · obtain ⟨N, hN⟩ := st2.sim.fin
      refine ⟨max N (q + 1), fun i hi => ?_⟩
      simp only [alias, if_neg (show i ≠ q by omega)]
      exact hN i (by omega)
  have fin : a'.defers = [] ∧ ∃ v0, (results fn a'.tmps).run P w' = .ok v0 w' ∧ ∃ v' ρ', Ending.returned v0 = .returned v' ∧ VR ρ' v v' ∧ Sim G ρ' (wth (A ++ [(q, .gone)]) (postA ++ [ob])) w' ∧ Stp ρ (A ++ [(q, .gone)]) w ρ' (wth (A ++ [(q, .gone)]) (postA ++ [ob])) w' ∧ ∀ k ∈ R, ρ' k = none := by
    rw [wthe]
    refine ⟨st'.def_, v', hr, v', alias ρ' p q, rfl, hrn.vr hq hvr, sim3, ?_, fun k hk => ?_⟩
    · have hpmem : (p, ob) ∈ h' := hsub.subset (by simp)
      refine ⟨stp.ext.trans hext, ?_, stp.size, stp.os, stp.tape, stp.output, stp.keep, ?_, ?_⟩
      · intro i c h0 h1
        simp only [alias] at h1
        split at h1
        · rcases stp.der (p, ob) hpmem (AObj.live_of_wr hwr) c h1 with h2 | ⟨e, he, _, hw2, hb2⟩
          · exact .inl h2
          · exact .inr ⟨e, he, hw2 hwr, hb2⟩
        · exact stp.new i c h0 h1
      · intro e' he' hl c hc
        rcases List.mem_append.1 he' with he' | he'
        · obtain ⟨c', o, hc', _⟩ := (st2.sim.ent e' (List.mem_append_left _ he')).2 hl
          have h5 := hext.b _ _ hc'
          rw [h5] at hc
          cases hc
          exact stp.der e' (hsub.subset (List.mem_append_left _ he')) hl c hc'
        · have he' : e' = (q, ob) := by simpa using he'
          subst he'
          have hc : alias ρ' p q q = some c := hc
          rw [alias_b] at hc
          exact stp.der (p, ob) hpmem (AObj.live_of_wr hwr) c hc
      · intro e' he' hg
        rcases List.mem_append.1 he' with he' | he'
        · exact stp.gon e' (hsub.subset (List.mem_append_left _ he')) hg
        · have he' : e' = (q, ob) := by simpa using he'
          subst he'
          have hg : ob = .gone := hg
          rw [hg] at hwr; cases hwr
    · have hkq : k ≠ q := fun hx => (fr k hk).2 (q, .gone) (by simp) rfl hx.symm
      simp only [alias, if_neg hkq]
      exact (fr' k hk).1
  rcases he with rfl | rfl
  · exact fin
  · exact fin
end
/-! ### loops -/
/-- What a list of slots says, of another one. -/
def SubA (s : As) : As → Prop
  | [] => True
  | (d, v) :: r => look s d = v ∧ SubA s r
theorem SubA.look {s : As} : ∀ {r : As}, SubA s r → ∀ (d : Nat) v, YtekcchmnncefhaaGreatDoorAB.look r d = some v → YtekcchmnncefhaaGreatDoorAB.look s d = some v
  | [], _, _, _, h => by simp [YtekcchmnncefhaaGreatDoorAB.look] at h
  | (e, u) :: r, h, d, v, hl => by
    simp only [YtekcchmnncefhaaGreatDoorAB.look] at hl
    split at hl
    · rename_i he; subst he; rw [h.1]; exact hl
    · exact h.2.look d v hl
theorem Wk.of {n : Nat} {s s' : As} {h h' : H} (a : SubA s s') (b : List.Sublist h' h) : Wk (mkT n s) h (mkT n s') h' := by
  refine ⟨by simp [mkT], fun i v hi => ?_, b⟩
  rw [mk_get] at hi ⊢
  split at hi
  · rename_i hlt
    rw [if_pos hlt]
    simp only [Option.some.injEq] at hi ⊢
    exact a.look i v hi
  · cases hi
section
variable {P : Program} {G : Nat} {Q : Exit → T → H → Prop} {h : H} {t : T}
theorem WP.loopI {α : Type} {c : Code} {n : Nat} (S : α → As) (Hh : α → H) (I : α → Prop) (μ : α → Nat) (x0 : α) (w0 : Wk t h (mkT n (S x0)) (Hh x0)) (i0 : I x0)
    (round : ∀ x, I x → WP P G c (mkT n (S x)) (Hh x) (thn (fun t' h' => ∃ y, I y ∧ μ y < μ x ∧ Wk t' h' (mkT n (S y)) (Hh y)) Q)) : WP P G (.loop c) t h Q :=
  WP.loop (fun m t h => ∃ x, I x ∧ μ x = m ∧ Wk t h (mkT n (S x)) (Hh x)) ⟨x0, i0, rfl, w0⟩ fun m t h ⟨x, ix, hm, wk⟩ =>
    WP.weak wk (WP.mono (fun e t h q => by
      cases e with
      | normal =>
        obtain ⟨y, iy, hlt, wky⟩ := q
        exact ⟨μ y, hm ▸ hlt, y, iy, rfl, wky⟩
      | _ => exact q) (round x ix))
end
end Go.Proofs.YtekcchmnncefhaaGreatDoorAB

/-! This work's data. -/
namespace Go.Proofs.YtekcchmnncefhaaGreatDoorAB
open Go
section
variable {P : Program} {G : Nat} {ops : Array Oper} {o : Oper} {n : Nat} {s : As} {h : H}
/-- A contract over one block more, that is left as it is. -/
theorem Ctr.more {f : FuncId} {args : List Value} {pre : H} {v : Value} {post : List AObj} (c : Ctr P G f args pre v post) (e : Nat × AObj) : Ctr P G f args (pre ++ [e]) v (post ++ [e.2]) := by
  classical
  refine ⟨c.ent, by simp [c.len], fun R ρ w cargs sim hv fr => ?_⟩
  have fits : Fits (pre ++ [e]) (List.range pre.length) pre := ⟨List.nodup_range, by
    refine List.ext_getElem? fun i => ?_
    rw [List.getElem?_map, List.getElem?_map]
    by_cases hi : i < pre.length
    · rw [List.getElem?_range hi, Option.map_some, List.getElem?_append_left hi, List.getElem?_eq_getElem hi]; rfl
    · rw [List.getElem?_eq_none (by simpa using hi), List.getElem?_eq_none (by simpa using hi)]; rfl⟩
  have hgone : ∀ (e0 : Nat × AObj), e0 ∈ pre → e0.2 = .gone → e.2 = .gone → e0.1 ≠ e.1 := by
    intro e0 he0 hg0 hg
    obtain ⟨i, hi⟩ := List.mem_iff_getElem?.1 he0
    have hil : i < pre.length := (List.getElem?_eq_some_iff.1 hi).1
    exact (sim.sep i pre.length e0 e (by omega) (by rw [List.getElem?_append_left hil]; exact hi) (by rw [List.getElem?_append_right (Nat.le_refl _)]; simp) (by rw [hg0]; simp) (by rw [hg]; simp)).2 (.inl hg0)
  have fr2 : Free ρ pre (if e.2 = .gone then e.1 :: R else R) := by
    intro k hk
    split at hk
    · rename_i hg
      rcases List.mem_cons.1 hk with rfl | hk
      · exact ⟨(sim.ent e (by simp)).1 hg, fun e0 he0 hg0 => hgone e0 he0 hg0 hg⟩
      · exact ⟨(fr k hk).1, fun e0 he0 => (fr k hk).2 e0 (List.mem_append_left _ he0)⟩
    · exact ⟨(fr k hk).1, fun e0 he0 => (fr k hk).2 e0 (List.mem_append_left _ he0)⟩
  have decGone : e.2 = .gone ∨ e.2 ≠ .gone := Classical.em _
  refine (c.run _ ρ w cargs (sim.small fits) hv fr2).mono fun e' w' ⟨v', ρ', he', hvr, sim', st', fr'⟩ => ?_
  have h1 := sim.frame fits c.len sim' st' fun i e0 hi hj hg => by
    have hil : i = pre.length := by
      have hl := (List.getElem?_eq_some_iff.1 hi).1
      simp at hl hj
      omega
    subst hil
    rw [List.getElem?_append_right (Nat.le_refl _)] at hi
    have hi : e = e0 := by simpa using hi
    subst hi
    exact fr' _ (by rw [if_pos hg]; exact List.mem_cons_self ..)
  have h2 : upd (pre ++ [e]) ((List.range pre.length).zip post) = wth (pre ++ [e]) (post ++ [e.2]) := by
    refine List.ext_getElem? fun i => ?_
    have hw : wth (pre ++ [e]) (post ++ [e.2]) = wth pre post ++ [e] := by
      unfold wth
      rw [List.zip_append c.len.symm, List.map_append]; rfl
    have hm : ((List.range pre.length).zip post).map (·.1) = List.range pre.length := by rw [List.map_fst_zip]; simp [c.len]
    rw [hw]
    by_cases hi : i < pre.length
    · obtain ⟨o, ho, hwg⟩ := wth_get c.len (List.getElem?_eq_getElem hi)
      rw [upd_at _ _ (j := i) (o := o) (e := pre[i]) (by rw [hm]; exact List.nodup_range) (List.mem_of_getElem? (i := i) ((List.getElem?_zip_eq_some (z := (i, o))).2 ⟨List.getElem?_range hi, ho⟩)) (by rw [List.getElem?_append_left hi]; exact List.getElem?_eq_getElem hi)]
      rw [List.getElem?_append_left (by simp [wth, c.len]; exact hi), hwg]
    · rw [upd_other _ _ (by rw [hm]; simpa using hi)]
      have hwl : (wth pre post).length = pre.length := by simp [wth, c.len]
      rw [List.getElem?_append_right (by omega), List.getElem?_append_right (by omega), hwl]
  rw [h2] at h1
  refine ⟨v', ρ', he', hvr, h1.1, h1.2, fun k hk => fr' k ?_⟩
  split
  · exact List.mem_cons_of_mem _ hk
  · exact hk
end
structure Cfg where
  D : Int
  B : Int
  S : Int
  P : Int
  H : Int
  Cap : Int
  Qmin : Int
  Imax : Int
  Trip : Int
  Vmin : Int
  Vdark : Int
  CellMin : Int
  CellMax : Int
  CellGap : Int
  TempMax : Int
  Coil : Int
  Ohm : Int
  SagErr : Int
  AmpErr : Int
  Drift : Int
  ocA : Option Addr
  ocL : Nat
  ocC : Nat
  GenMax : Int
  BatMax : Int
  ExtMax : Int
  Eland : Int
  Margin : Int
  fdA : Option Addr
  fdL : Nat
  fdC : Nat
abbrev I64 (n : Int) : Value := .int .i64 n
def Cfg.cells (c : Cfg) : List Value := [I64 c.D, I64 c.B, I64 c.S, I64 c.P, I64 c.H, I64 c.Cap, I64 c.Qmin, I64 c.Imax, I64 c.Trip, I64 c.Vmin, I64 c.Vdark, I64 c.CellMin, I64 c.CellMax, I64 c.CellGap, I64 c.TempMax, I64 c.Coil, I64 c.Ohm, I64 c.SagErr, I64 c.AmpErr, I64 c.Drift,
  .slice c.ocA c.ocL c.ocC, I64 c.GenMax, I64 c.BatMax, I64 c.ExtMax, I64 c.Eland, I64 c.Margin, .slice c.fdA c.fdL c.fdC]
end Go.Proofs.YtekcchmnncefhaaGreatDoorAB

/-! A law's call, out of its contract. -/
namespace Go.Proofs.YtekcchmnncefhaaGreatDoorAB
open Go
/-- The names 0, 1, .. of the blocks that the input brings. -/
def blks (bs : List Nat) : Ren := ⟨fun i => bs[i]?, fun _ => 0⟩
/-- The input's rows, each only read. -/
def inp : Nat → List (Nat × List Value) → H
  | _, [] => []
  | i, (f, cs) :: r => (i, .ro f cs) :: inp (i + 1) r
theorem inp_get : ∀ {r : List (Nat × List Value)} {i : Nat} {e : Nat × AObj}, e ∈ inp i r → ∃ j p, r[j]? = some p ∧ e = (i + j, .ro p.1 p.2)
  | (f, cs) :: r, i, e, h => by
    rcases List.mem_cons.1 h with rfl | h
    · exact ⟨0, (f, cs), rfl, rfl⟩
    · obtain ⟨j, p, h1, h2⟩ := inp_get h
      exact ⟨j + 1, p, h1, by rw [h2]; congr 1; omega⟩
/-- What a row of the input has in the world. -/
def Rd (w : World) (b : Nat) (f : Nat) (cs : List Value) : Prop := b < w.heap.size ∧ ∃ arr ty fr, w.heap[b]? = some (.cells arr ty fr) ∧ (∀ ρ, VRL ρ cs ((arr.toList.drop f).take cs.length))
theorem sim_inp {w : World} (bs : List Nat) (rows : List (Nat × List Value)) (hl : bs.length = rows.length) (hr : ∀ (j : Nat) (b : Nat) (p : Nat × List Value), bs[j]? = some b → rows[j]? = some p → Rd w b p.1 p.2) : Sim 0 (blks bs) (inp 0 rows) w := by
  refine ⟨?_, ?_, ?_, fun g hg => absurd hg (Nat.not_lt_zero g), bs.length, fun i hi => List.getElem?_eq_none hi⟩
  · intro i b hi
    have hi : bs[i]? = some b := hi
    have hil : i < rows.length := hl ▸ (List.getElem?_eq_some_iff.1 hi).1
    exact (hr i b _ hi (List.getElem?_eq_getElem hil)).1
  · intro e he
    obtain ⟨j, p, hp, rfl⟩ := inp_get he
    refine ⟨fun h => (by cases h), fun _ => ?_⟩
    have hjl : j < bs.length := hl ▸ (List.getElem?_eq_some_iff.1 hp).1
    obtain ⟨_, arr, ty, fr, hh, hv⟩ := hr j _ p (List.getElem?_eq_getElem hjl) hp
    refine ⟨bs[j], _, ?_, hh, arr, ty, fr, rfl, hv _⟩
    show bs[0 + j]? = _
    rw [Nat.zero_add]; exact List.getElem?_eq_getElem hjl
  · intro i j e e' _ hi hj
    obtain ⟨_, p, _, rfl⟩ := inp_get (List.mem_of_getElem? hi)
    obtain ⟨_, q, _, rfl⟩ := inp_get (List.mem_of_getElem? hj)
    refine fun _ _ => ⟨fun h => ?_, fun h => ?_⟩
    · rcases h with h | h <;> cases h
    · rcases h with h | h <;> cases h
/-- A law that reads its input and makes blocks of its own: what the row asks for. -/
theorem Ctr.top {P : Program} {f : FuncId} {args : List Value} {cargs : Array Value} {b : Bool} {post : List AObj} {w : World} (bs : List Nat) (rows : List (Nat × List Value)) (c : Ctr P 0 f args (inp 0 rows) (.bool b) post)
    (hl : bs.length = rows.length) (hr : ∀ (j : Nat) (b : Nat) (p : Nat × List Value), bs[j]? = some b → rows[j]? = some p → Rd w b p.1 p.2) (hv : VRL (blks bs) args cargs.toList) :
    Calls P f cargs w fun e w' => e = .returned (.bool b) ∧ RowKit.Below w.heap.size w w' := by
  refine (c.run [] (blks bs) w cargs (sim_inp bs rows hl hr) hv (fun k hk => (by cases hk))).mono ?_
  rintro e w' ⟨v', ρ', rfl, hvr, _, st, _⟩
  rw [vr_bool.1 hvr]
  refine ⟨rfl, st.os, st.tape, st.output, st.size, fun k hk => st.keep k hk fun e he hw => ?_⟩
  obtain ⟨_, p, _, rfl⟩ := inp_get he
  cases hw
theorem vrl_map {ρ : Ren} {α : Type} (g : α → Value) (hg : ∀ x, VR ρ (g x) (g x)) : ∀ l : List α, VRL ρ (l.map g) (l.map g)
  | [] => .nil
  | a :: l => .cons (hg a) (vrl_map g hg l)
/-- A row of one cell each. -/
theorem Rd.of {w : World} {x : Addr} {α : Type} (g : α → Value) (hg : ∀ ρ x, VR ρ (g x) (g x)) (zs : List α) (hx : x.block < w.heap.size) (hz : 0 < zs.length) (h : ∀ (i : Nat) (hi : i < zs.length), w.cell? (x.add i) = some (g zs[i])) :
    x = ⟨x.block, x.off, none⟩ ∧ Rd w x.block x.off (zs.map g) := by
  have h0 := h 0 hz
  unfold World.cell? at h0
  split at h0
  · rename_i arr ty fr hh
    have hsp : x.spot = none := by
      cases hs : x.spot with
      | none => rfl
      | some j => simp [Addr.add, hs] at h0
    refine ⟨by cases x; simp_all, hx, arr, ty, fr, (by exact hh), fun ρ => ?_⟩
    have : (arr.toList.drop x.off).take (zs.map g).length = zs.map g := by
      refine List.ext_getElem? fun i => ?_
      rw [List.getElem?_take]
      split
      · rename_i hi
        have hi' : i < zs.length := by simpa using hi
        have h1 := h i hi'
        unfold World.cell? at h1
        have hb : (x.add i).block = x.block := by unfold Addr.add; split <;> rfl
        have hs : (x.add i).spot = none := by unfold Addr.add; split <;> first | exact hsp | rfl
        have ho : (x.add i).off = x.off + i := by unfold Addr.add; split <;> first | (subst_vars; rfl) | rfl
        have hh : w.heap[x.block]? = some (.cells arr ty fr) := hh
        rw [hb, hh] at h1
        simp only [hs, ho, Option.isSome_none, Bool.false_eq_true, if_false] at h1
        rw [List.getElem?_drop, Array.getElem?_toList, h1, List.getElem?_map, List.getElem?_eq_getElem hi']
        rfl
      · rename_i hi
        rw [List.getElem?_eq_none (by simpa using hi)]
    rw [this]
    exact vrl_map g (hg ρ) zs
  · cases h0
attribute [irreducible] RK RKo WP thn blk
end Go.Proofs.YtekcchmnncefhaaGreatDoorAB
