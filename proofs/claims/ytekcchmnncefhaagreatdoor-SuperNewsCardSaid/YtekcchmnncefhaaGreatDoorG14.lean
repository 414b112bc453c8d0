/- What functions of this program do, each as a contract that its callers use, and what follows of it in plain numbers.
   By an AI agent. -/
import Derived.Test.YtekcchmnncefhaaGreatDoorG3
import Derived.Test.YtekcchmnncefhaaGreatDoorG1
import Derived.Test.YtekcchmnncefhaaGreatDoorRows
import Derived.WalkKit
import Derived.ProofKit
import Derived.OpenShut
import Derived.SizedLaws
import Derived.LaidLaws
import Derived.LaidHandle
import Derived.FnData
import Derived.Stop.Joined
import Derived.WideShapes
import Derived.Test.YtekcchmnncefhaaGreatDoorG13
import Derived.Test.YtekcchmnncefhaaGreatDoorG2
namespace Go.Proofs.YtekcchmnncefhaaGreatDoor.Top
open Go Go.Proofs.YtekcchmnncefhaaGreatDoorAB Go.ChangeShapes Go.WideShapes Go.ChangeAt Go.RowKit Go.Proofs.YtekcchmnncefhaaGreatDoor
set_option linter.unusedVariables false
set_option linter.unusedSimpArgs false
set_option maxRecDepth 100000
theorem eg4 : Tryz.prog.globalNamed "dynamo/api.ErrRange" = some 4 := by kernel_rfl
theorem et4 : (Tryz.prog.globals[4]?).map (·.type) = some 36 := by kernel_rfl
theorem eg1 : Tryz.prog.globalNamed "dynamo/api.ErrLong" = some 1 := by kernel_rfl
theorem et1 : (Tryz.prog.globals[1]?).map (·.type) = some 36 := by kernel_rfl
theorem eg0 : Tryz.prog.globalNamed "dynamo/api.ErrShort" = some 0 := by kernel_rfl
theorem et0 : (Tryz.prog.globals[0]?).map (·.type) = some 36 := by kernel_rfl
theorem eg6 : Tryz.prog.globalNamed "dynamo/api.ErrSum" = some 6 := by kernel_rfl
theorem et6 : (Tryz.prog.globals[6]?).map (·.type) = some 36 := by kernel_rfl
theorem eg5 : Tryz.prog.globalNamed "dynamo/api.ErrTable" = some 5 := by kernel_rfl
theorem et5 : (Tryz.prog.globals[5]?).map (·.type) = some 36 := by kernel_rfl
theorem eg2 : Tryz.prog.globalNamed "dynamo/api.ErrConfig" = some 2 := by kernel_rfl
theorem et2 : (Tryz.prog.globals[2]?).map (·.type) = some 36 := by kernel_rfl
theorem eg3 : Tryz.prog.globalNamed "dynamo/api.ErrNone" = some 3 := by kernel_rfl
theorem et3 : (Tryz.prog.globals[3]?).map (·.type) = some 36 := by kernel_rfl
def laidE : List (String × DataW Unit) := [("dynamo/api.ErrRange", Rows.laid_dynamo_api_ErrRange), ("dynamo/api.ErrLong", Rows.laid_dynamo_api_ErrLong), ("dynamo/api.ErrShort", Rows.laid_dynamo_api_ErrShort), ("dynamo/api.ErrSum", Rows.laid_dynamo_api_ErrSum), ("dynamo/api.ErrTable", Rows.laid_dynamo_api_ErrTable), ("dynamo/api.ErrConfig", Rows.laid_dynamo_api_ErrConfig), ("dynamo/api.ErrNone", Rows.laid_dynamo_api_ErrNone)]
theorem ptr_row (u : TypeId) (hu : Tryz.prog.typeName? 3 u = some ("*" ++ "errors.errorString")) : u = 245 :=
  typeName_ptr_named (P := Tryz.prog) (nm := "errors.errorString") (by kernel_rfl) (by kernel_rfl) (by decide) u hu
theorem str_eq : ("*errors.errorString" : String) = "*" ++ "errors.errorString" := by decide
theorem one_err {W : World} {n : String} {g : Nat} {text : List UInt8} {r : List (String × DataW Unit)} {ps ps0 : List MemPlace}
    (hH : ∀ b off, MemPlace.cell b off ∈ ps0 → (∃ c t, W.heap[b]? = some (.cells c t (0, 0))) ∧ ∀ u v, W.cell? ⟨b, off, none⟩ = some (.iface u v) → Value.okWide Tryz.prog W .any 0 u v)
    (hsub : ∀ x ∈ ps, x ∈ ps0) (hg : Tryz.prog.globalNamed n = some g) (ht : (Tryz.prog.globals[g]?).map (·.type) = some 36)
    {nm : String} (hnm : nm = "*" ++ "errors.errorString") (h : DataW.LaidVars Tryz.prog W ((n, .iface nm (.ptr (.agg [.lit (.string text)]))) :: r) ps) :
    ∃ (a : Addr) (q : List MemPlace), ps = .cell g 0 :: .cell a.block a.off :: q ∧ a.spot = none ∧ W.cell? ⟨g, 0, none⟩ = some (.iface 245 (.pointer (some a))) ∧ DataW.LaidVars Tryz.prog W r q ∧ (∀ x ∈ q, x ∈ ps0) ∧ ∃ c t, W.heap[a.block]? = some (.cells c t (0, 0)) := by
  subst hnm
  obtain ⟨g', t, cs, fuel, p, q, hg', ht', hvar, hd, hr, rfl⟩ := h
  rw [hg] at hg'; cases hg'
  rw [ht] at ht'; cases ht'
  obtain ⟨f1, u, v, hcs, _, _⟩ := iface_of_trod Tryz.underlying36 hd
  have hsz : cs.size = 1 := by have := congrArg List.length hcs; simpa using this
  have hcell : ∀ j : Nat, W.cell? ⟨g, j, none⟩ = cs[j]? := fun j => World.var?_cell hg hvar j
  have hc0 : cs[0]? = some (.iface u v) := by have := congrArg (·[0]?) hcs; simpa using this
  have e0 : MemPlace.row ⟨g, 0, none⟩ cs.size = [.cell g 0] := by rw [hsz]; rfl
  rw [e0] at hsub ⊢
  have ok := (hH g 0 (hsub _ (by simp))).2 u v ((hcell 0).trans hc0)
  obtain ⟨a, s, h1, h2, _, _, rfl⟩ := errorString_of_trod Tryz.underlying36 ptr_row Tryz.underlying245 Tryz.underlying273 rfl rfl Tryz.underlying9 (by kernel_rfl) (by kernel_rfl) hd (fun u' v' e => by rw [hcs] at e; cases e; exact ok)
  have hp : MemPlace.row a 1 = [.cell a.block a.off] := by
    show [MemPlace.cell a.block (a.off + 0)] = _; rw [Nat.add_zero]
  rw [hp] at hsub ⊢
  have hs : a.spot = none := by
    unfold World.cell? at h2
    split at h2
    · split at h2
      · cases h2
      · rename_i hn; simpa using hn
    · cases h2
  refine ⟨a, q, rfl, hs, ?_, hr, fun x hx => hsub x (by simp [hx]), (hH a.block a.off (hsub _ (by simp))).1⟩
  rw [hcell 0, hc0]
  rw [h1] at hcs
  cases hcs
  rfl
/-- Where api's errors stand. -/
def adr (a0 a1 a2 a3 a4 a5 a6 : Addr) : Nat → Addr
  | 0 => a0
  | 1 => a1
  | 2 => a2
  | 3 => a3
  | 4 => a4
  | 5 => a5
  | 6 => a6
  | _ => a0
theorem isE_no (g : Nat) : ¬ isE (g + 7) = true := by intro q; unfold isE at q; simp only [Bool.and_eq_true, decide_eq_true_eq] at q; omega
theorem errs_of {W : World} (h : laidMetH Tryz.prog laidE W) : ∃ A : Nat → Addr, (∀ g, (A g).spot = none ∧ ∃ c t, W.heap[(A g).block]? = some (.cells c t (0, 0))) ∧ (∀ g, isE g = true → W.cell? ⟨g, 0, none⟩ = some (.iface 245 (.pointer (some (A g))))) ∧
    ∀ g h, isE g = true → isE h = true → g ≠ h → ((A g).block, (A g).off) ≠ ((A h).block, (A h).off) := by
  have h' : laidMet Tryz.prog laidE W := h
  obtain ⟨ps, hl, hn, hH⟩ := h'
  have hsA : ∀ x ∈ ps, x ∈ ps := fun _ h => h
  obtain ⟨a4, q4, rfl, sp4, ce4, hl4, hs4, hb4⟩ := one_err hH hsA eg4 et4 str_eq hl
  obtain ⟨a1, q1, rfl, sp1, ce1, hl1, hs1, hb1⟩ := one_err hH hs4 eg1 et1 str_eq hl4
  obtain ⟨a0, q0, rfl, sp0, ce0, hl0, hs0, hb0⟩ := one_err hH hs1 eg0 et0 str_eq hl1
  obtain ⟨a6, q6, rfl, sp6, ce6, hl6, hs6, hb6⟩ := one_err hH hs0 eg6 et6 str_eq hl0
  obtain ⟨a5, q5, rfl, sp5, ce5, hl5, hs5, hb5⟩ := one_err hH hs6 eg5 et5 str_eq hl6
  obtain ⟨a2, q2, rfl, sp2, ce2, hl2, hs2, hb2⟩ := one_err hH hs5 eg2 et2 str_eq hl5
  obtain ⟨a3, q3, rfl, sp3, ce3, hl3, hs3, hb3⟩ := one_err hH hs2 eg3 et3 str_eq hl2
  have hl3 : q3 = [] := hl3
  subst hl3
  simp only [List.nodup_cons, List.mem_cons, not_or, MemPlace.cell.injEq, List.not_mem_nil, not_false_eq_true, and_true, List.nodup_nil] at hn
  refine ⟨adr a0 a1 a2 a3 a4 a5 a6, fun g => ?_, fun g hg => ?_, fun g h hg hh hne => ?_⟩
  · match g with
    | 0 => exact ⟨sp0, hb0⟩
    | 1 => exact ⟨sp1, hb1⟩
    | 2 => exact ⟨sp2, hb2⟩
    | 3 => exact ⟨sp3, hb3⟩
    | 4 => exact ⟨sp4, hb4⟩
    | 5 => exact ⟨sp5, hb5⟩
    | 6 => exact ⟨sp6, hb6⟩
    | g + 7 => exact ⟨sp0, hb0⟩
  · match g, hg with
    | 0, _ => exact ce0
    | 1, _ => exact ce1
    | 2, _ => exact ce2
    | 3, _ => exact ce3
    | 4, _ => exact ce4
    | 5, _ => exact ce5
    | 6, _ => exact ce6
    | g + 7, hg => exact absurd hg (isE_no g)
  · match g, hg, h, hh with
    | 0, _, 0, _ => exact absurd rfl hne
    | 0, _, 1, _ => intro e; have e := Prod.mk.inj e; have e1 : a0.block = a1.block := e.1; have e2 : a0.off = a1.off := e.2; simp [e1, e2] at hn
    | 0, _, 2, _ => intro e; have e := Prod.mk.inj e; have e1 : a0.block = a2.block := e.1; have e2 : a0.off = a2.off := e.2; simp [e1, e2] at hn
    | 0, _, 3, _ => intro e; have e := Prod.mk.inj e; have e1 : a0.block = a3.block := e.1; have e2 : a0.off = a3.off := e.2; simp [e1, e2] at hn
    | 0, _, 4, _ => intro e; have e := Prod.mk.inj e; have e1 : a0.block = a4.block := e.1; have e2 : a0.off = a4.off := e.2; simp [e1, e2] at hn
    | 0, _, 5, _ => intro e; have e := Prod.mk.inj e; have e1 : a0.block = a5.block := e.1; have e2 : a0.off = a5.off := e.2; simp [e1, e2] at hn
    | 0, _, 6, _ => intro e; have e := Prod.mk.inj e; have e1 : a0.block = a6.block := e.1; have e2 : a0.off = a6.off := e.2; simp [e1, e2] at hn
    | 1, _, 0, _ => intro e; have e := Prod.mk.inj e; have e1 : a1.block = a0.block := e.1; have e2 : a1.off = a0.off := e.2; simp [e1, e2] at hn
    | 1, _, 1, _ => exact absurd rfl hne
    | 1, _, 2, _ => intro e; have e := Prod.mk.inj e; have e1 : a1.block = a2.block := e.1; have e2 : a1.off = a2.off := e.2; simp [e1, e2] at hn
    | 1, _, 3, _ => intro e; have e := Prod.mk.inj e; have e1 : a1.block = a3.block := e.1; have e2 : a1.off = a3.off := e.2; simp [e1, e2] at hn
    | 1, _, 4, _ => intro e; have e := Prod.mk.inj e; have e1 : a1.block = a4.block := e.1; have e2 : a1.off = a4.off := e.2; simp [e1, e2] at hn
    | 1, _, 5, _ => intro e; have e := Prod.mk.inj e; have e1 : a1.block = a5.block := e.1; have e2 : a1.off = a5.off := e.2; simp [e1, e2] at hn
    | 1, _, 6, _ => intro e; have e := Prod.mk.inj e; have e1 : a1.block = a6.block := e.1; have e2 : a1.off = a6.off := e.2; simp [e1, e2] at hn
    | 2, _, 0, _ => intro e; have e := Prod.mk.inj e; have e1 : a2.block = a0.block := e.1; have e2 : a2.off = a0.off := e.2; simp [e1, e2] at hn
    | 2, _, 1, _ => intro e; have e := Prod.mk.inj e; have e1 : a2.block = a1.block := e.1; have e2 : a2.off = a1.off := e.2; simp [e1, e2] at hn
    | 2, _, 2, _ => exact absurd rfl hne
    | 2, _, 3, _ => intro e; have e := Prod.mk.inj e; have e1 : a2.block = a3.block := e.1; have e2 : a2.off = a3.off := e.2; simp [e1, e2] at hn
    | 2, _, 4, _ => intro e; have e := Prod.mk.inj e; have e1 : a2.block = a4.block := e.1; have e2 : a2.off = a4.off := e.2; simp [e1, e2] at hn
    | 2, _, 5, _ => intro e; have e := Prod.mk.inj e; have e1 : a2.block = a5.block := e.1; have e2 : a2.off = a5.off := e.2; simp [e1, e2] at hn
    | 2, _, 6, _ => intro e; have e := Prod.mk.inj e; have e1 : a2.block = a6.block := e.1; have e2 : a2.off = a6.off := e.2; simp [e1, e2] at hn
    | 3, _, 0, _ => intro e; have e := Prod.mk.inj e; have e1 : a3.block = a0.block := e.1; have e2 : a3.off = a0.off := e.2; simp [e1, e2] at hn
    | 3, _, 1, _ => intro e; have e := Prod.mk.inj e; have e1 : a3.block = a1.block := e.1; have e2 : a3.off = a1.off := e.2; simp [e1, e2] at hn
    | 3, _, 2, _ => intro e; have e := Prod.mk.inj e; have e1 : a3.block = a2.block := e.1; have e2 : a3.off = a2.off := e.2; simp [e1, e2] at hn
    | 3, _, 3, _ => exact absurd rfl hne
    | 3, _, 4, _ => intro e; have e := Prod.mk.inj e; have e1 : a3.block = a4.block := e.1; have e2 : a3.off = a4.off := e.2; simp [e1, e2] at hn
    | 3, _, 5, _ => intro e; have e := Prod.mk.inj e; have e1 : a3.block = a5.block := e.1; have e2 : a3.off = a5.off := e.2; simp [e1, e2] at hn
    | 3, _, 6, _ => intro e; have e := Prod.mk.inj e; have e1 : a3.block = a6.block := e.1; have e2 : a3.off = a6.off := e.2; simp [e1, e2] at hn
    | 4, _, 0, _ => intro e; have e := Prod.mk.inj e; have e1 : a4.block = a0.block := e.1; have e2 : a4.off = a0.off := e.2; simp [e1, e2] at hn
    | 4, _, 1, _ => intro e; have e := Prod.mk.inj e; have e1 : a4.block = a1.block := e.1; have e2 : a4.off = a1.off := e.2; simp [e1, e2] at hn
    | 4, _, 2, _ => intro e; have e := Prod.mk.inj e; have e1 : a4.block = a2.block := e.1; have e2 : a4.off = a2.off := e.2; simp [e1, e2] at hn
    | 4, _, 3, _ => intro e; have e := Prod.mk.inj e; have e1 : a4.block = a3.block := e.1; have e2 : a4.off = a3.off := e.2; simp [e1, e2] at hn
    | 4, _, 4, _ => exact absurd rfl hne
    | 4, _, 5, _ => intro e; have e := Prod.mk.inj e; have e1 : a4.block = a5.block := e.1; have e2 : a4.off = a5.off := e.2; simp [e1, e2] at hn
    | 4, _, 6, _ => intro e; have e := Prod.mk.inj e; have e1 : a4.block = a6.block := e.1; have e2 : a4.off = a6.off := e.2; simp [e1, e2] at hn
    | 5, _, 0, _ => intro e; have e := Prod.mk.inj e; have e1 : a5.block = a0.block := e.1; have e2 : a5.off = a0.off := e.2; simp [e1, e2] at hn
    | 5, _, 1, _ => intro e; have e := Prod.mk.inj e; have e1 : a5.block = a1.block := e.1; have e2 : a5.off = a1.off := e.2; simp [e1, e2] at hn
    | 5, _, 2, _ => intro e; have e := Prod.mk.inj e; have e1 : a5.block = a2.block := e.1; have e2 : a5.off = a2.off := e.2; simp [e1, e2] at hn
    | 5, _, 3, _ => intro e; have e := Prod.mk.inj e; have e1 : a5.block = a3.block := e.1; have e2 : a5.off = a3.off := e.2; simp [e1, e2] at hn
    | 5, _, 4, _ => intro e; have e := Prod.mk.inj e; have e1 : a5.block = a4.block := e.1; have e2 : a5.off = a4.off := e.2; simp [e1, e2] at hn
    | 5, _, 5, _ => exact absurd rfl hne
    | 5, _, 6, _ => intro e; have e := Prod.mk.inj e; have e1 : a5.block = a6.block := e.1; have e2 : a5.off = a6.off := e.2; simp [e1, e2] at hn
    | 6, _, 0, _ => intro e; have e := Prod.mk.inj e; have e1 : a6.block = a0.block := e.1; have e2 : a6.off = a0.off := e.2; simp [e1, e2] at hn
    | 6, _, 1, _ => intro e; have e := Prod.mk.inj e; have e1 : a6.block = a1.block := e.1; have e2 : a6.off = a1.off := e.2; simp [e1, e2] at hn
    | 6, _, 2, _ => intro e; have e := Prod.mk.inj e; have e1 : a6.block = a2.block := e.1; have e2 : a6.off = a2.off := e.2; simp [e1, e2] at hn
    | 6, _, 3, _ => intro e; have e := Prod.mk.inj e; have e1 : a6.block = a3.block := e.1; have e2 : a6.off = a3.off := e.2; simp [e1, e2] at hn
    | 6, _, 4, _ => intro e; have e := Prod.mk.inj e; have e1 : a6.block = a4.block := e.1; have e2 : a6.off = a4.off := e.2; simp [e1, e2] at hn
    | 6, _, 5, _ => intro e; have e := Prod.mk.inj e; have e1 : a6.block = a5.block := e.1; have e2 : a6.off = a5.off := e.2; simp [e1, e2] at hn
    | 6, _, 6, _ => exact absurd rfl hne
    | g + 7, hg, _, _ => exact absurd hg (isE_no g)
    | _, _, h + 7, hh => exact absurd hh (isE_no h)
theorem hob_of {W : World} {ob : AObj} {r : Option Nat} (h : OnIn W ob r) : (ob = .lost ∧ r = none) ∨ ∃ fo cs bk, ob = .ro fo cs ∧ r = some bk ∧ Rd W bk fo cs := by
  rcases h with h | ⟨b', f, cs, h1, h2, h3⟩
  · exact .inl h
  · exact .inr ⟨f, cs, b', h2, h1, h3⟩
/-- The names of the globals, of the errors, of the rows. -/
def ρE3 (A : Nat → Addr) (r0 r1 r2 : Option Nat) : Ren := ⟨fun i => if i < 7 then some i else if i < 14 then some (A (i - 7)).block else if i = 14 then r0 else if i = 15 then r1 else if i = 16 then r2 else none, fun _ => 0⟩
theorem topE3 {f : FuncId} {args : List Value} {cargs : Array Value} {b : Bool} {W : World} {A : Nat → Addr} (hA : ∀ g, (A g).spot = none ∧ ∃ c t, W.heap[(A g).block]? = some (.cells c t (0, 0))) (hG : ∀ g, isE g = true → W.cell? ⟨g, 0, none⟩ = some (.iface 245 (.pointer (some (A g))))) (ob0 : AObj) (r0 : Option Nat) (hob0 : (ob0 = .lost ∧ r0 = none) ∨ ∃ fo cs bk, ob0 = .ro fo cs ∧ r0 = some bk ∧ Rd W bk fo cs) (ob1 : AObj) (r1 : Option Nat) (hob1 : (ob1 = .lost ∧ r1 = none) ∨ ∃ fo cs bk, ob1 = .ro fo cs ∧ r1 = some bk ∧ Rd W bk fo cs) (ob2 : AObj) (r2 : Option Nat) (hob2 : (ob2 = .lost ∧ r2 = none) ∨ ∃ fo cs bk, ob2 = .ro fo cs ∧ r2 = some bk ∧ Rd W bk fo cs)
    (c : Ctr Tryz.prog 7 f args [(0, .ro 0 [.iface 245 (.pointer (some ⟨7 + 0, (A 0).off, none⟩))]), (1, .ro 0 [.iface 245 (.pointer (some ⟨7 + 1, (A 1).off, none⟩))]), (2, .ro 0 [.iface 245 (.pointer (some ⟨7 + 2, (A 2).off, none⟩))]), (3, .ro 0 [.iface 245 (.pointer (some ⟨7 + 3, (A 3).off, none⟩))]), (4, .ro 0 [.iface 245 (.pointer (some ⟨7 + 4, (A 4).off, none⟩))]), (5, .ro 0 [.iface 245 (.pointer (some ⟨7 + 5, (A 5).off, none⟩))]), (6, .ro 0 [.iface 245 (.pointer (some ⟨7 + 6, (A 6).off, none⟩))]), (7 + 0, .mark (A 0).block), (7 + 1, .mark (A 1).block), (7 + 2, .mark (A 2).block), (7 + 3, .mark (A 3).block), (7 + 4, .mark (A 4).block), (7 + 5, .mark (A 5).block), (7 + 6, .mark (A 6).block), (14, ob0), (15, ob1), (16, ob2)] (.bool b) [.ro 0 [.iface 245 (.pointer (some ⟨7 + 0, (A 0).off, none⟩))], .ro 0 [.iface 245 (.pointer (some ⟨7 + 1, (A 1).off, none⟩))], .ro 0 [.iface 245 (.pointer (some ⟨7 + 2, (A 2).off, none⟩))], .ro 0 [.iface 245 (.pointer (some ⟨7 + 3, (A 3).off, none⟩))], .ro 0 [.iface 245 (.pointer (some ⟨7 + 4, (A 4).off, none⟩))], .ro 0 [.iface 245 (.pointer (some ⟨7 + 5, (A 5).off, none⟩))], .ro 0 [.iface 245 (.pointer (some ⟨7 + 6, (A 6).off, none⟩))], .mark (A 0).block, .mark (A 1).block, .mark (A 2).block, .mark (A 3).block, .mark (A 4).block, .mark (A 5).block, .mark (A 6).block, ob0, ob1, ob2]) (hv : VRL (ρE3 A r0 r1 r2) args cargs.toList) :
    Calls Tryz.prog f cargs W fun e w' => e = .returned (.bool b) ∧ RowKit.Below W.heap.size W w' := by
  have hg9 : 7 ≤ W.heap.size := by
    have h8 := hG 6 rfl
    unfold World.cell? at h8
    split at h8
    · rename_i c t fr hh
      have := (Array.getElem?_eq_some_iff.1 hh).1
      exact this
    · cases h8
  have eG : ∀ g, isE g = true → ER (ρE3 A r0 r1 r2) W (g, .ro 0 [.iface 245 (.pointer (some ⟨7 + g, (A g).off, none⟩))]) := fun g hg => by
    have h9 : g < 7 := by unfold isE at hg; simp at hg; omega
    refine ⟨fun h => (by cases h), fun _ => ?_⟩
    have hc := hG g hg
    unfold World.cell? at hc
    split at hc
    · rename_i c t fr hh
      refine ⟨g, _, by show (if g < 7 then some g else _) = some g; rw [if_pos h9], hh, c, t, fr, rfl, ?_⟩
      simp at hc
      have hl : c.toList = (.iface 245 (.pointer (some (A g)))) :: c.toList.drop 1 := by
        have h0 : c.toList[0]? = some (.iface 245 (.pointer (some (A g)))) := by simpa using hc
        cases hcl : c.toList with
        | nil => rw [hcl] at h0; cases h0
        | cons x xs => rw [hcl] at h0; cases h0; rfl
      rw [hl]
      refine .cons (.iface _ ?_) .nil
      have hsp := (hA g).1
      generalize hag : A g = ag at hsp ⊢
      obtain ⟨ab, ao, asp⟩ := ag
      cases hsp
      refine .ptr _ _ ?_
      show (if 7 + g < 7 then _ else if 7 + g < 14 then some (A (7 + g - 7)).block else _) = _
      rw [if_neg (by omega), if_pos (by omega), Nat.add_sub_cancel_left, hag]
    · cases hc
  have eM : ∀ g, g < 7 → ER (ρE3 A r0 r1 r2) W (7 + g, .mark (A g).block) := fun g h9 => by
    refine ⟨fun h => (by cases h), fun _ => ?_⟩
    obtain ⟨c, t, hh⟩ := (hA g).2
    have e : (ρE3 A r0 r1 r2) (7 + g) = some (A g).block := by
      show (if 7 + g < 7 then _ else if 7 + g < 14 then some (A (7 + g - 7)).block else _) = _
      rw [if_neg (by omega), if_pos (by omega), Nat.add_sub_cancel_left]
    exact ⟨_, _, e, hh, e, c, t, rfl⟩
  have eI0 : ER (ρE3 A r0 r1 r2) W (14, ob0) := by
    rcases hob0 with ⟨rfl, _⟩ | ⟨fo, cs, bk, rfl, rfl, hb, a2, t2, f2, g2, g3⟩
    · exact ⟨fun h => (by cases h), fun h => (by cases h)⟩
    · exact ⟨fun h => (by cases h), fun _ => ⟨bk, _, rfl, g2, a2, t2, f2, rfl, g3 _⟩⟩
  have nw0 : ob0.wr = false := by rcases hob0 with ⟨rfl, _⟩ | ⟨fo, cs, bk, rfl, _⟩ <;> rfl
  have ng0 : ob0 ≠ .gone := by rcases hob0 with ⟨rfl, _⟩ | ⟨fo, cs, bk, rfl, _⟩ <;> simp
  have nb0 : ∀ bk, r0 = some bk → bk < W.heap.size := fun bk hr => by
    rcases hob0 with ⟨_, rfl⟩ | ⟨fo, cs, b2, _, rfl, hb, _⟩
    · cases hr
    · cases hr; exact hb
  have eI1 : ER (ρE3 A r0 r1 r2) W (15, ob1) := by
    rcases hob1 with ⟨rfl, _⟩ | ⟨fo, cs, bk, rfl, rfl, hb, a2, t2, f2, g2, g3⟩
    · exact ⟨fun h => (by cases h), fun h => (by cases h)⟩
    · exact ⟨fun h => (by cases h), fun _ => ⟨bk, _, rfl, g2, a2, t2, f2, rfl, g3 _⟩⟩
  have nw1 : ob1.wr = false := by rcases hob1 with ⟨rfl, _⟩ | ⟨fo, cs, bk, rfl, _⟩ <;> rfl
  have ng1 : ob1 ≠ .gone := by rcases hob1 with ⟨rfl, _⟩ | ⟨fo, cs, bk, rfl, _⟩ <;> simp
  have nb1 : ∀ bk, r1 = some bk → bk < W.heap.size := fun bk hr => by
    rcases hob1 with ⟨_, rfl⟩ | ⟨fo, cs, b2, _, rfl, hb, _⟩
    · cases hr
    · cases hr; exact hb
  have eI2 : ER (ρE3 A r0 r1 r2) W (16, ob2) := by
    rcases hob2 with ⟨rfl, _⟩ | ⟨fo, cs, bk, rfl, rfl, hb, a2, t2, f2, g2, g3⟩
    · exact ⟨fun h => (by cases h), fun h => (by cases h)⟩
    · exact ⟨fun h => (by cases h), fun _ => ⟨bk, _, rfl, g2, a2, t2, f2, rfl, g3 _⟩⟩
  have nw2 : ob2.wr = false := by rcases hob2 with ⟨rfl, _⟩ | ⟨fo, cs, bk, rfl, _⟩ <;> rfl
  have ng2 : ob2 ≠ .gone := by rcases hob2 with ⟨rfl, _⟩ | ⟨fo, cs, bk, rfl, _⟩ <;> simp
  have nb2 : ∀ bk, r2 = some bk → bk < W.heap.size := fun bk hr => by
    rcases hob2 with ⟨_, rfl⟩ | ⟨fo, cs, b2, _, rfl, hb, _⟩
    · cases hr
    · cases hr; exact hb
  have all : ∀ e ∈ ([(0, .ro 0 [.iface 245 (.pointer (some ⟨7 + 0, (A 0).off, none⟩))]), (1, .ro 0 [.iface 245 (.pointer (some ⟨7 + 1, (A 1).off, none⟩))]), (2, .ro 0 [.iface 245 (.pointer (some ⟨7 + 2, (A 2).off, none⟩))]), (3, .ro 0 [.iface 245 (.pointer (some ⟨7 + 3, (A 3).off, none⟩))]), (4, .ro 0 [.iface 245 (.pointer (some ⟨7 + 4, (A 4).off, none⟩))]), (5, .ro 0 [.iface 245 (.pointer (some ⟨7 + 5, (A 5).off, none⟩))]), (6, .ro 0 [.iface 245 (.pointer (some ⟨7 + 6, (A 6).off, none⟩))]), (7 + 0, .mark (A 0).block), (7 + 1, .mark (A 1).block), (7 + 2, .mark (A 2).block), (7 + 3, .mark (A 3).block), (7 + 4, .mark (A 4).block), (7 + 5, .mark (A 5).block), (7 + 6, .mark (A 6).block), (14, ob0), (15, ob1), (16, ob2)] : H), ER (ρE3 A r0 r1 r2) W e ∧ e.2.wr = false ∧ e.2 ≠ .gone := fun e he => by
    simp only [List.mem_cons, List.not_mem_nil, or_false] at he
    rcases he with rfl | rfl | rfl | rfl | rfl | rfl | rfl | rfl | rfl | rfl | rfl | rfl | rfl | rfl | rfl | rfl | rfl
    · exact ⟨eG 0 rfl, rfl, by simp⟩
    · exact ⟨eG 1 rfl, rfl, by simp⟩
    · exact ⟨eG 2 rfl, rfl, by simp⟩
    · exact ⟨eG 3 rfl, rfl, by simp⟩
    · exact ⟨eG 4 rfl, rfl, by simp⟩
    · exact ⟨eG 5 rfl, rfl, by simp⟩
    · exact ⟨eG 6 rfl, rfl, by simp⟩
    · exact ⟨eM 0 (by decide), rfl, by simp⟩
    · exact ⟨eM 1 (by decide), rfl, by simp⟩
    · exact ⟨eM 2 (by decide), rfl, by simp⟩
    · exact ⟨eM 3 (by decide), rfl, by simp⟩
    · exact ⟨eM 4 (by decide), rfl, by simp⟩
    · exact ⟨eM 5 (by decide), rfl, by simp⟩
    · exact ⟨eM 6 (by decide), rfl, by simp⟩
    · exact ⟨eI0, nw0, ng0⟩
    · exact ⟨eI1, nw1, ng1⟩
    · exact ⟨eI2, nw2, ng2⟩
  refine Ctr.topR (ρ := ρE3 A r0 r1 r2) (sim_top (fun i x hx => ?_) (fun e he => (all e he).1) (fun e he => (all e he).2.2) (fun i j e e' hij hi hj hw => ?_) (fun g hg => ?_) ⟨17, fun i hi => ?_⟩) c rfl (fun e he hw => ?_) hv
  · have hx : (if i < 7 then some i else if i < 14 then some (A (i - 7)).block else if i = 14 then r0 else if i = 15 then r1 else if i = 16 then r2 else none) = some x := hx
    split at hx
    · cases hx; omega
    · split at hx
      · cases hx
        obtain ⟨c', t', hh⟩ := (hA (i - 7)).2
        exact (Array.getElem?_eq_some_iff.1 hh).1
      · split at hx
        · exact nb0 _ hx
        · split at hx
          · exact nb1 _ hx
          · split at hx
            · exact nb2 _ hx
            · cases hx
  · rw [(all e (List.mem_of_getElem? hi)).2.1, (all e' (List.mem_of_getElem? hj)).2.1] at hw
    rcases hw with hw | hw <;> cases hw
  · show (if g < 7 then some g else _) = some g; rw [if_pos hg]
  · show (if i < 7 then some i else if i < 14 then some (A (i - 7)).block else if i = 14 then r0 else if i = 15 then r1 else if i = 16 then r2 else none) = none
    rw [if_neg (by omega), if_neg (by omega), if_neg (by omega), if_neg (by omega), if_neg (by omega)]
  · rw [(all e he).2.1] at hw; cases hw
end Go.Proofs.YtekcchmnncefhaaGreatDoor.Top
namespace Go.Proofs.YtekcchmnncefhaaGreatDoor.Top
open Go Go.Proofs.YtekcchmnncefhaaGreatDoorAB Go.ChangeShapes Go.WideShapes Go.ChangeAt Go.RowKit Go.Proofs.YtekcchmnncefhaaGreatDoor
set_option linter.unusedVariables false
set_option linter.unusedSimpArgs false
set_option maxRecDepth 100000
/-- The forms of a row of the input. -/
def Fm (i : Nat) (o : Option Addr) (l c : Nat) (ob : AObj) (f n : Nat) (cs : List Value) : Prop := (o = none ∧ l = 0 ∧ c = 0) ∨ (o = some ⟨0, 0, some 0⟩ ∧ l = 0 ∧ c = 0) ∨ (o = some ⟨i, f, none⟩ ∧ ob = .ro f cs ∧ l ≤ n ∧ l ≤ c)
theorem slF {α : Type} {w : World} (i sz : Nat) (hsz : 0 < sz) (g : α → List Value) (hl : ∀ x, (g x).length = sz) (hg : ∀ ρ x, VRL ρ (g x) (g x)) {a : Option Addr} {len cap : Nat}
    (h : (a = none ∧ len = 0 ∧ cap = 0) ∨ ∃ (x : Addr) (zs : List α), a = some x ∧ len ≤ cap ∧ cap ≤ maxLen ∧ zs.length = cap ∧ ∀ (i : Nat) (hi : i < zs.length) (j : Nat), j < sz → w.cell? (x.add (i * sz + j)) = (g zs[i])[j]?) :
    ∃ (zs : List α) (o : Option Addr) (ob : AObj) (b : Option Nat) (f : Nat), (∀ ρ : Ren, ρ i = b → VR ρ (.slice o len cap) (.slice a len cap)) ∧ OnIn w ob b ∧ Fm i o len cap ob f zs.length (zs.flatMap g) := by
  rcases h with ⟨rfl, rfl, rfl⟩ | ⟨x, zs, rfl, h1, h2, h3, h4⟩
  · exact ⟨[], none, .lost, none, 0, fun ρ _ => .sliceNil _ _, .inl ⟨rfl, rfl⟩, .inl ⟨rfl, rfl, rfl⟩⟩
  · by_cases hz : 0 < zs.length
    · have hlen := flat_len hl zs
      have hpos : 0 < (zs.flatMap g).length := by rw [hlen]; exact Nat.mul_pos hz hsz
      obtain ⟨e, r⟩ := Rd.ofc (x := x) (cs := zs.flatMap g) (fun ρ => vrl_flat (hg ρ) zs) hpos (fun k hk => by
        rw [hlen] at hk
        have hi : k / sz < zs.length := Nat.div_lt_of_lt_mul (by rw [Nat.mul_comm]; exact hk)
        have hj : k % sz < sz := Nat.mod_lt _ hsz
        have hk2 : k / sz * sz + k % sz = k := by rw [Nat.mul_comm]; exact Nat.div_add_mod k sz
        have h5 := h4 (k / sz) hi (k % sz) hj
        have h6 := flat_get hl hi hj
        rw [hk2] at h5 h6
        rw [h5, h6])
      refine ⟨zs, some ⟨i, x.off, none⟩, .ro x.off (zs.flatMap g), some x.block, x.off, fun ρ hρ => ?_, .inr ⟨_, _, _, rfl, rfl, r⟩, .inr (.inr ⟨rfl, rfl, by omega, h1⟩)⟩
      rw [e]
      exact .slice _ none _ _ _ hρ ⟨id, fun h => absurd h (by unfold grown; unfold maxLen at h2; omega)⟩
    · have hl : len = 0 := by omega
      have hc : cap = 0 := by omega
      subst hl hc
      exact ⟨[], some ⟨0, 0, some 0⟩, .lost, none, 0, fun ρ _ => .dead x, .inl ⟨rfl, rfl⟩, .inr (.inl ⟨rfl, rfl, rfl⟩)⟩
theorem in_ptsF {H : Type} {enc : TypeId × Value → H} {P : Program} {w : World} {base : Nat} {held : Bool} {t e : TypeId} {f0 f1 : Field} {a : Option Addr} {len cap : Nat} {d : DataW H} {ps : List MemPlace} (i : Nat) (ht : P.underlying t = some (.slice e)) (he : P.underlying e = some (.struct #[f0, f1])) (hc : P.cellsOf e = 2) (o0 : f0.offset = 0) (o1 : f1.offset = 1) (c0 : P.cellsOf f0.type = 1) (c1 : P.cellsOf f1.type = 1) (e0 : P.underlying f0.type = some (.int .i64)) (e1 : P.underlying f1.type = some (.int .i64))
    (h : DataW.Trod enc P w base (fun _ => true) held t (.slice a len cap) d ps) : ∃ (zs : List (Int × Int)) (o : Option Addr) (ob : AObj) (b : Option Nat) (f : Nat), (∀ ρ : Ren, ρ i = b → VR ρ (.slice o len cap) (.slice a len cap)) ∧ OnIn w ob b ∧ Fm i o len cap ob f zs.length (zs.flatMap pp) := by
  obtain ⟨fuel, hf⟩ := h
  refine slF i 2 (by omega) _ (fun x => rfl) (fun ρ x => .cons (.int _ _) (.cons (.int _ _) .nil)) ?_
  rcases open_elems 2 pp ht hc (fun _ => rfl) (fun n c y hy => (by
    obtain ⟨y0, y1, m, _, hl, h0, h1⟩ := ChangeShapes.trod_struct2 he hy
    rw [hc] at hl
    rw [o0, c0] at h0
    rw [o1, c1] at h1
    match c, hl with
    | [u, v], _ =>
      obtain ⟨p, hp, _⟩ := DataW.trod_int e0 h0
      obtain ⟨q, hq, _⟩ := DataW.trod_int e1 h1
      simp at hp hq
      exact ⟨(p, q), by rw [hp, hq]⟩)) hf with h | ⟨x, l, c, zs, hcs, h1, h2, h3, h4⟩
  · left
    simpa [Value.cells] using h
  · right
    simp [Value.cells] at hcs
    obtain ⟨rfl, rfl, rfl⟩ := hcs
    exact ⟨x, zs, rfl, h1, h2, h3, h4⟩
/-- A feeder, as cells. -/
abbrev f3 (x : Int × Int × Int) : List Value := [I64 x.1, I64 x.2.1, I64 x.2.2]
/-- A byte, as a cell. -/
abbrev b8 (x : Int) : List Value := [.int .u8 x]
theorem trod_t3 {H : Type} {enc : TypeId × Value → H} {P : Program} {w : World} {base : Nat} {spare : Nat → Bool} {held : Bool} {t : TypeId} {f0 f1 f2 : Field} {fuel : Nat} {cs : List Value} {x : DataW H × List MemPlace} (ht : P.underlying t = some (.struct #[f0, f1, f2])) (h : DataW.trod enc P w base spare held fuel t cs = some x) :
    ∃ y0 y1 y2 n, cs.length = P.cellsOf t ∧ DataW.trod enc P w base spare held n f0.type ((cs.drop f0.offset).take (P.cellsOf f0.type)) = some y0 ∧
      DataW.trod enc P w base spare held n f1.type ((cs.drop f1.offset).take (P.cellsOf f1.type)) = some y1 ∧ DataW.trod enc P w base spare held n f2.type ((cs.drop f2.offset).take (P.cellsOf f2.type)) = some y2 := by
  obtain ⟨xs, n, _, rfl, hl, hlen, hf⟩ := DataW.trod_struct ht h
  match xs, hlen with
  | [y0, y1, y2], _ => exact ⟨y0, y1, y2, n, hl, by simpa using hf 0 f0 rfl, by simpa using hf 1 f1 rfl, by simpa using hf 2 f2 rfl⟩
theorem in_fdsF {H : Type} {enc : TypeId × Value → H} {P : Program} {w : World} {base : Nat} {held : Bool} {t e : TypeId} {f0 f1 f2 : Field} {a : Option Addr} {len cap : Nat} {d : DataW H} {ps : List MemPlace} (i : Nat) (ht : P.underlying t = some (.slice e)) (he : P.underlying e = some (.struct #[f0, f1, f2])) (hc : P.cellsOf e = 3) (o0 : f0.offset = 0) (c0 : P.cellsOf f0.type = 1) (e0 : P.underlying f0.type = some (.int .i64)) (o1 : f1.offset = 1) (c1 : P.cellsOf f1.type = 1) (e1 : P.underlying f1.type = some (.int .i64)) (o2 : f2.offset = 2) (c2 : P.cellsOf f2.type = 1) (e2 : P.underlying f2.type = some (.int .i64))
    (h : DataW.Trod enc P w base (fun _ => true) held t (.slice a len cap) d ps) : ∃ (zs : List (Int × Int × Int)) (o : Option Addr) (ob : AObj) (b : Option Nat) (f : Nat), (∀ ρ : Ren, ρ i = b → VR ρ (.slice o len cap) (.slice a len cap)) ∧ OnIn w ob b ∧ Fm i o len cap ob f zs.length (zs.flatMap f3) := by
  obtain ⟨fuel, hf⟩ := h
  refine slF i 3 (by omega) _ (fun x => rfl) (fun ρ x => .cons (.int _ _) (.cons (.int _ _) (.cons (.int _ _) .nil))) ?_
  rcases open_elems 3 f3 ht hc (fun _ => rfl) (fun n c y hy => (by
    obtain ⟨y0, y1, y2, m, hl, h0, h1, h2⟩ := trod_t3 he hy
    rw [hc] at hl
    rw [o0, c0] at h0
    rw [o1, c1] at h1
    rw [o2, c2] at h2
    match c, hl with
    | [u, v, x], _ =>
      obtain ⟨p, hp, _⟩ := DataW.trod_int e0 h0
      obtain ⟨q, hq, _⟩ := DataW.trod_int e1 h1
      obtain ⟨r, hr, _⟩ := DataW.trod_int e2 h2
      simp at hp hq hr
      exact ⟨(p, q, r), by rw [hp, hq, hr]⟩)) hf with h | ⟨x, l, c, zs, hcs, h1, h2, h3, h4⟩
  · left
    simpa [Value.cells] using h
  · right
    simp [Value.cells] at hcs
    obtain ⟨rfl, rfl, rfl⟩ := hcs
    exact ⟨x, zs, rfl, h1, h2, h3, h4⟩
theorem in_btsF {H : Type} {enc : TypeId × Value → H} {P : Program} {w : World} {base : Nat} {held : Bool} {t e : TypeId} {a : Option Addr} {len cap : Nat} {d : DataW H} {ps : List MemPlace} (i : Nat) (ht : P.underlying t = some (.slice e)) (he : P.underlying e = some (.int .u8)) (hc : P.cellsOf e = 1)
    (h : DataW.Trod enc P w base (fun _ => true) held t (.slice a len cap) d ps) : ∃ (zs : List (Int)) (o : Option Addr) (ob : AObj) (b : Option Nat) (f : Nat), (∀ ρ : Ren, ρ i = b → VR ρ (.slice o len cap) (.slice a len cap)) ∧ OnIn w ob b ∧ Fm i o len cap ob f zs.length (zs.flatMap b8) := by
  obtain ⟨fuel, hf⟩ := h
  refine slF i 1 (by omega) _ (fun x => rfl) (fun ρ x => .cons (.int _ _) .nil) ?_
  rcases open_elems 1 b8 ht hc (fun _ => rfl) (fun n c y hy => (by
    obtain ⟨m, rfl, _⟩ := DataW.trod_int he hy
    exact ⟨m, rfl⟩)) hf with h | ⟨x, l, c, zs, hcs, h1, h2, h3, h4⟩
  · left
    simpa [Value.cells] using h
  · right
    simp [Value.cells] at hcs
    obtain ⟨rfl, rfl, rfl⟩ := hcs
    exact ⟨x, zs, rfl, h1, h2, h3, h4⟩
theorem open_cfg {w : World} {r : Reach} {base : Nat} {v : Value} (hv : Value.okWide Tryz.prog w r base 25 v) : ∃ (n0 n1 n2 n3 n4 n5 n6 n7 n8 n9 n10 n11 n12 n13 n14 n15 n16 n17 n18 n19 n20 n21 n22 n23 n24 : Int) (s1 : Option Addr) (l1 c1 : Nat) (s2 : Option Addr) (l2 c2 : Nat), v = .agg ⟨[.int .i64 n0, .int .i64 n1, .int .i64 n2, .int .i64 n3, .int .i64 n4, .int .i64 n5, .int .i64 n6, .int .i64 n7, .int .i64 n8, .int .i64 n9, .int .i64 n10, .int .i64 n11, .int .i64 n12, .int .i64 n13, .int .i64 n14, .int .i64 n15, .int .i64 n16, .int .i64 n17, .int .i64 n18, .int .i64 n19, .slice s1 l1 c1, .int .i64 n20, .int .i64 n21, .int .i64 n22, .int .i64 n23, .int .i64 n24, .slice s2 l2 c2]⟩ := by
  have cell2 : ∀ x, Cell.okWide Tryz.prog w r base 2 x → ∃ n, x = .int .i64 n ∧ IntKind.has .i64 n := fun x hx => by
    simp only [Cell.okWide, Tryz.underlying2] at hx
    cases x <;> simp_all [Cell.ok]
  have cell3 : ∀ x, Cell.okWide Tryz.prog w r base 3 x → ∃ n, x = .int .i64 n ∧ IntKind.has .i64 n := fun x hx => by
    simp only [Cell.okWide, Tryz.underlying3] at hx
    cases x <;> simp_all [Cell.ok]
  have cell22 : ∀ x, Cell.okWide Tryz.prog w r base 22 x → ∃ a l c, x = .slice a l c := fun x hx => by
    simp only [Cell.okWide, Tryz.underlying22] at hx
    cases x <;> simp_all [Cell.ok]
  have cell23 : ∀ x, Cell.okWide Tryz.prog w r base 23 x → ∃ a l c, x = .slice a l c := fun x hx => by
    simp only [Cell.okWide, Tryz.underlying23] at hx
    cases x <;> simp_all [Cell.ok]
  simp only [Value.okWide, Tryz.underlying25] at hv
  obtain ⟨⟨cs⟩, rfl, hs, ts, h1, _, h2⟩ := hv
  have hc : Tryz.prog.cellTypes Tryz.prog.depth 25 = some [3, 3, 3, 3, 3, 2, 2, 2, 2, 2, 2, 2, 2, 2, 2, 2, 2, 2, 2, 2, 22, 2, 2, 2, 2, 2, 23] := by kernel_rfl
  have hn : Tryz.prog.cellsOf 25 = 27 := by kernel_rfl
  rw [hc] at h1
  cases h1
  rw [hn] at hs
  match cs, hs with
  | [x0, x1, x2, x3, x4, x5, x6, x7, x8, x9, x10, x11, x12, x13, x14, x15, x16, x17, x18, x19, x20, x21, x22, x23, x24, x25, x26], _ =>
    obtain ⟨u0, hu0, hx0⟩ := h2 0 x0 rfl
    cases hu0
    obtain ⟨n0, rfl, _⟩ := cell3 x0 hx0
    obtain ⟨u1, hu1, hx1⟩ := h2 1 x1 rfl
    cases hu1
    obtain ⟨n1, rfl, _⟩ := cell3 x1 hx1
    obtain ⟨u2, hu2, hx2⟩ := h2 2 x2 rfl
    cases hu2
    obtain ⟨n2, rfl, _⟩ := cell3 x2 hx2
    obtain ⟨u3, hu3, hx3⟩ := h2 3 x3 rfl
    cases hu3
    obtain ⟨n3, rfl, _⟩ := cell3 x3 hx3
    obtain ⟨u4, hu4, hx4⟩ := h2 4 x4 rfl
    cases hu4
    obtain ⟨n4, rfl, _⟩ := cell3 x4 hx4
    obtain ⟨u5, hu5, hx5⟩ := h2 5 x5 rfl
    cases hu5
    obtain ⟨n5, rfl, _⟩ := cell2 x5 hx5
    obtain ⟨u6, hu6, hx6⟩ := h2 6 x6 rfl
    cases hu6
    obtain ⟨n6, rfl, _⟩ := cell2 x6 hx6
    obtain ⟨u7, hu7, hx7⟩ := h2 7 x7 rfl
    cases hu7
    obtain ⟨n7, rfl, _⟩ := cell2 x7 hx7
    obtain ⟨u8, hu8, hx8⟩ := h2 8 x8 rfl
    cases hu8
    obtain ⟨n8, rfl, _⟩ := cell2 x8 hx8
    obtain ⟨u9, hu9, hx9⟩ := h2 9 x9 rfl
    cases hu9
    obtain ⟨n9, rfl, _⟩ := cell2 x9 hx9
    obtain ⟨u10, hu10, hx10⟩ := h2 10 x10 rfl
    cases hu10
    obtain ⟨n10, rfl, _⟩ := cell2 x10 hx10
    obtain ⟨u11, hu11, hx11⟩ := h2 11 x11 rfl
    cases hu11
    obtain ⟨n11, rfl, _⟩ := cell2 x11 hx11
    obtain ⟨u12, hu12, hx12⟩ := h2 12 x12 rfl
    cases hu12
    obtain ⟨n12, rfl, _⟩ := cell2 x12 hx12
    obtain ⟨u13, hu13, hx13⟩ := h2 13 x13 rfl
    cases hu13
    obtain ⟨n13, rfl, _⟩ := cell2 x13 hx13
    obtain ⟨u14, hu14, hx14⟩ := h2 14 x14 rfl
    cases hu14
    obtain ⟨n14, rfl, _⟩ := cell2 x14 hx14
    obtain ⟨u15, hu15, hx15⟩ := h2 15 x15 rfl
    cases hu15
    obtain ⟨n15, rfl, _⟩ := cell2 x15 hx15
    obtain ⟨u16, hu16, hx16⟩ := h2 16 x16 rfl
    cases hu16
    obtain ⟨n16, rfl, _⟩ := cell2 x16 hx16
    obtain ⟨u17, hu17, hx17⟩ := h2 17 x17 rfl
    cases hu17
    obtain ⟨n17, rfl, _⟩ := cell2 x17 hx17
    obtain ⟨u18, hu18, hx18⟩ := h2 18 x18 rfl
    cases hu18
    obtain ⟨n18, rfl, _⟩ := cell2 x18 hx18
    obtain ⟨u19, hu19, hx19⟩ := h2 19 x19 rfl
    cases hu19
    obtain ⟨n19, rfl, _⟩ := cell2 x19 hx19
    obtain ⟨u20, hu20, hx20⟩ := h2 20 x20 rfl
    cases hu20
    obtain ⟨s1, l1, c1, rfl⟩ := cell22 x20 hx20
    obtain ⟨u21, hu21, hx21⟩ := h2 21 x21 rfl
    cases hu21
    obtain ⟨n20, rfl, _⟩ := cell2 x21 hx21
    obtain ⟨u22, hu22, hx22⟩ := h2 22 x22 rfl
    cases hu22
    obtain ⟨n21, rfl, _⟩ := cell2 x22 hx22
    obtain ⟨u23, hu23, hx23⟩ := h2 23 x23 rfl
    cases hu23
    obtain ⟨n22, rfl, _⟩ := cell2 x23 hx23
    obtain ⟨u24, hu24, hx24⟩ := h2 24 x24 rfl
    cases hu24
    obtain ⟨n23, rfl, _⟩ := cell2 x24 hx24
    obtain ⟨u25, hu25, hx25⟩ := h2 25 x25 rfl
    cases hu25
    obtain ⟨n24, rfl, _⟩ := cell2 x25 hx25
    obtain ⟨u26, hu26, hx26⟩ := h2 26 x26 rfl
    cases hu26
    obtain ⟨s2, l2, c2, rfl⟩ := cell23 x26 hx26
    exact ⟨n0, n1, n2, n3, n4, n5, n6, n7, n8, n9, n10, n11, n12, n13, n14, n15, n16, n17, n18, n19, n20, n21, n22, n23, n24, s1, l1, c1, s2, l2, c2, rfl⟩
theorem open_rec {w : World} {r : Reach} {base : Nat} {v : Value} (hv : Value.okWide Tryz.prog w r base 31 v) : ∃ (sq md lk q1 q2 q3 q4 : Int), v = .agg ⟨[.int .u32 sq, .int .i64 md, .int .u32 lk, .int .i64 q1, .int .i64 q2, .int .i64 q3, .int .i64 q4]⟩ ∧ 0 ≤ lk := by
  have cell2 : ∀ x, Cell.okWide Tryz.prog w r base 2 x → ∃ n, x = .int .i64 n ∧ IntKind.has .i64 n := fun x hx => by
    simp only [Cell.okWide, Tryz.underlying2] at hx
    cases x <;> simp_all [Cell.ok]
  have cell3 : ∀ x, Cell.okWide Tryz.prog w r base 3 x → ∃ n, x = .int .i64 n ∧ IntKind.has .i64 n := fun x hx => by
    simp only [Cell.okWide, Tryz.underlying3] at hx
    cases x <;> simp_all [Cell.ok]
  have cell27 : ∀ x, Cell.okWide Tryz.prog w r base 27 x → ∃ n, x = .int .u32 n ∧ IntKind.has .u32 n := fun x hx => by
    simp only [Cell.okWide, Tryz.underlying27] at hx
    cases x <;> simp_all [Cell.ok]
  simp only [Value.okWide, Tryz.underlying31] at hv
  obtain ⟨⟨cs⟩, rfl, hs, ts, h1, _, h2⟩ := hv
  have hc : Tryz.prog.cellTypes Tryz.prog.depth 31 = some [27, 3, 27, 2, 2, 2, 2] := by kernel_rfl
  have hn : Tryz.prog.cellsOf 31 = 7 := by kernel_rfl
  rw [hc] at h1
  cases h1
  rw [hn] at hs
  match cs, hs with
  | [x0, x1, x2, x3, x4, x5, x6], _ =>
    obtain ⟨u0, hu0, hx0⟩ := h2 0 x0 rfl
    cases hu0
    obtain ⟨sq, rfl, r0⟩ := cell27 x0 hx0
    obtain ⟨u1, hu1, hx1⟩ := h2 1 x1 rfl
    cases hu1
    obtain ⟨md, rfl, r1⟩ := cell3 x1 hx1
    obtain ⟨u2, hu2, hx2⟩ := h2 2 x2 rfl
    cases hu2
    obtain ⟨lk, rfl, r2⟩ := cell27 x2 hx2
    obtain ⟨u3, hu3, hx3⟩ := h2 3 x3 rfl
    cases hu3
    obtain ⟨q1, rfl, r3⟩ := cell2 x3 hx3
    obtain ⟨u4, hu4, hx4⟩ := h2 4 x4 rfl
    cases hu4
    obtain ⟨q2, rfl, r4⟩ := cell2 x4 hx4
    obtain ⟨u5, hu5, hx5⟩ := h2 5 x5 rfl
    cases hu5
    obtain ⟨q3, rfl, r5⟩ := cell2 x5 hx5
    obtain ⟨u6, hu6, hx6⟩ := h2 6 x6 rfl
    cases hu6
    obtain ⟨q4, rfl, r6⟩ := cell2 x6 hx6
    exact ⟨sq, md, lk, q1, q2, q3, q4, rfl, show (0 : Int) ≤ lk from r2.1⟩
theorem cfg_rows {H : Type} {enc : TypeId × Value → H} {w : World} {base : Nat} {sp : Nat → Bool} {held : Bool} {cs : List Value} {d : DataW H} {ps : List MemPlace} (h : DataW.Trod enc Tryz.prog w base sp held 25 (.agg ⟨cs⟩) d ps) :
    (∃ d1 p1, ∃ n, DataW.trod enc Tryz.prog w base sp held n 22 ((cs.drop 20).take 1) = some (d1, p1)) ∧ ∃ d2 p2, ∃ n, DataW.trod enc Tryz.prog w base sp held n 23 ((cs.drop 26).take 1) = some (d2, p2) := by
  obtain ⟨fuel, hf⟩ := h
  obtain ⟨xs, n, _, hx, hl, hlen, hi⟩ := DataW.trod_struct Tryz.underlying25 hf
  have c1 : Tryz.prog.cellsOf 22 = 1 := by kernel_rfl
  have c2 : Tryz.prog.cellsOf 23 = 1 := by kernel_rfl
  have hs : xs.length = 27 := hlen
  have h1 := hi 20 _ rfl
  have h2 := hi 26 _ rfl
  rw [List.getElem?_eq_getElem (by omega)] at h1 h2
  refine ⟨⟨(xs[20]'(by omega)).1, (xs[20]'(by omega)).2, n, ?_⟩, (xs[26]'(by omega)).1, (xs[26]'(by omega)).2, n, ?_⟩
  · rw [← c1]; exact h1
  · rw [← c2]; exact h2
theorem takeO_le : ∀ {m : Nat} {l : List Value}, m ≤ l.length → takeO m l = some (l.take m)
  | 0, l, _ => by cases l <;> rfl
  | m + 1, [], h => by simp at h
  | m + 1, x :: l, h => by
    simp only [takeO]
    rw [takeO_le (m := m) (l := l) (by simpa using h)]; rfl
theorem ro_segN {f m : Nat} {cs : List Value} (h : m ≤ cs.length) : (AObj.ro f cs).seg f m = some (cs.take m) := by
  show (if f ≤ f then segO cs (f - f) m else none) = _
  rw [if_pos (Nat.le_refl f), Nat.sub_self]
  have e : ∀ l : List Value, segO l 0 m = takeO m l := fun l => by cases l <;> simp only [segO]
  rw [e, takeO_le h]
theorem Fm.tb {i l c f : Nat} {o : Option Addr} {ob : AObj} {z : List (Int × Int)} (h : Fm i o l c ob f z.length (z.flatMap pp)) : (∃ X Y, Tb ob f l X Y) ∧ (0 < l → o = some ⟨i, f, none⟩) ∧ (0 < l → ∃ vs, ob.seg f (l * 2) = some vs) := by
  rcases h with ⟨_, rfl, _⟩ | ⟨_, rfl, _⟩ | ⟨rfl, rfl, hl, _⟩
  · exact ⟨⟨_, _, tb_nil _ _ (fun _ => 0) (fun _ => 0)⟩, fun h => absurd h (Nat.lt_irrefl 0), fun h => absurd h (Nat.lt_irrefl 0)⟩
  · exact ⟨⟨_, _, tb_nil _ _ (fun _ => 0) (fun _ => 0)⟩, fun h => absurd h (Nat.lt_irrefl 0), fun h => absurd h (Nat.lt_irrefl 0)⟩
  · exact ⟨⟨_, _, tb_pts z hl⟩, fun _ => rfl, fun _ => ⟨_, ro_segN (by rw [flat_len (sz := 2) (fun _ => rfl)]; omega)⟩⟩
theorem Fm.br {i l c f : Nat} {o : Option Addr} {ob : AObj} {z : List (Int × Int × Int)} (h : Fm i o l c ob f z.length (z.flatMap f3)) : (∃ U W V, Br ob f l U W V) ∧ (0 < l → o = some ⟨i, f, none⟩) ∧
    (l ≤ 20 → ∀ k : Nat, ∃ (fa : Option Addr) (fc : Nat) (oo : AObj), Ctr Tryz.prog 7 20 [.slice o l c] [(i, ob), (k, .gone)] (.slice fa l fc) [ob, oo]) := by
  rcases h with ⟨rfl, rfl, rfl⟩ | ⟨rfl, rfl, rfl⟩ | ⟨rfl, rfl, hl, _⟩
  · exact ⟨⟨fun _ => 0, fun _ => 0, fun _ => 0, ⟨fun i h => absurd h (Nat.not_lt_zero i)⟩⟩, fun h => absurd h (Nat.lt_irrefl 0), fun _ k => ⟨_, _, _, ((clone_fds_nil ()).more (i, ob)).more (k, .gone)⟩⟩
  · exact ⟨⟨fun _ => 0, fun _ => 0, fun _ => 0, ⟨fun i h => absurd h (Nat.not_lt_zero i)⟩⟩, fun h => absurd h (Nat.lt_irrefl 0), fun _ k => ⟨_, _, _, ((clone_fds_dead ()).more (i, ob)).more (k, .gone)⟩⟩
  · have hg : ∀ x : Int × Int × Int, (f3 x).length = 3 := fun _ => rfl
    refine ⟨⟨fun j => (z.getD j (0, 0, 0)).1, fun j => (z.getD j (0, 0, 0)).2.1, fun j => (z.getD j (0, 0, 0)).2.2, ⟨fun j hj => ro_segD hg (0, 0, 0) (by omega)⟩⟩, fun _ => rfl, fun h20 k => ?_⟩
    by_cases h0 : l = 0
    · subst h0
      exact ⟨_, _, _, ((clone_fds_zero i f c).more (i, _)).more (k, .gone)⟩
    · exact ⟨_, _, _, clone_fds k (by omega) (by omega) (ro_segN (by rw [flat_len (sz := 3) hg]; omega))⟩
theorem Fm.bt {i l c f : Nat} {o : Option Addr} {ob : AObj} {z : List Int} (h : Fm i o l c ob f z.length (z.flatMap b8)) : (∃ B, Bt ob f l B) ∧ (0 < l → o = some ⟨i, f, none⟩) ∧ l ≤ c := by
  rcases h with ⟨rfl, rfl, rfl⟩ | ⟨rfl, rfl, rfl⟩ | ⟨rfl, rfl, hl, hc⟩
  · exact ⟨⟨fun _ => 0, ⟨fun i h => absurd h (Nat.not_lt_zero i)⟩⟩, fun h => absurd h (Nat.lt_irrefl 0), Nat.le_refl _⟩
  · exact ⟨⟨fun _ => 0, ⟨fun i h => absurd h (Nat.not_lt_zero i)⟩⟩, fun h => absurd h (Nat.lt_irrefl 0), Nat.le_refl _⟩
  · have hg : ∀ x : Int, (b8 x).length = 1 := fun _ => rfl
    refine ⟨⟨fun j => z.getD j 0, ⟨fun j hj => ?_⟩⟩, fun _ => rfl, hc⟩
    have e := ro_cellD (f := f) hg (zs := z) (i := j) (j := 0) 0 (by omega) (by omega)
    show (if f ≤ f + j * 1 then (z.flatMap b8)[f + j * 1 - f]? else none) = _
    rw [if_pos (by omega), show f + j * 1 - f = j * 1 + 0 by omega, e]; rfl
theorem news_top (E O B : Nat → Nat) (hne : ∀ g h : Nat, isE g = true → isE h = true → g ≠ h → (B g, O g) ≠ (B h, O h)) (n0 n1 n2 n3 n4 n5 n6 n7 n8 n9 n10 n11 n12 n13 n14 n15 n16 n17 n18 n19 n20 n21 n22 n23 n24 n m k sq md lk q1 q2 q3 q4 : Int) (o1 o2 o3 : Option Addr) (l1 c1 l2 c2 l3 c3 f1 f2 f3_ : Nat) (ob1 ob2 ob3 : AObj) (z1 : List (Int × Int)) (z2 : List (Int × Int × Int)) (z3 : List Int)
    (F1 : Fm 14 o1 l1 c1 ob1 f1 z1.length (z1.flatMap pp)) (F2 : Fm 15 o2 l2 c2 ob2 f2 z2.length (z2.flatMap f3)) (F3 : Fm 16 o3 l3 c3 ob3 f3_ z3.length (z3.flatMap b8)) (hlk : 0 ≤ lk) :
    Ctr Tryz.prog 7 3 [.agg ⟨(⟨n0, n1, n2, n3, n4, n5, n6, n7, n8, n9, n10, n11, n12, n13, n14, n15, n16, n17, n18, n19, o1, l1, c1, n20, n21, n22, n23, n24, o2, l2, c2⟩ : Cfg).cells⟩, I64 n, I64 m, I64 k, .slice o3 l3 c3, .agg #[.int .u32 sq, I64 md, .int .u32 lk, I64 q1, I64 q2, I64 q3, I64 q4]] [(0, .ro 0 [(errG E O 0)]), (1, .ro 0 [(errG E O 1)]), (2, .ro 0 [(errG E O 2)]), (3, .ro 0 [(errG E O 3)]), (4, .ro 0 [(errG E O 4)]), (5, .ro 0 [(errG E O 5)]), (6, .ro 0 [(errG E O 6)]), (E 0, .mark (B 0)), (E 1, .mark (B 1)), (E 2, .mark (B 2)), (E 3, .mark (B 3)), (E 4, .mark (B 4)), (E 5, .mark (B 5)), (E 6, .mark (B 6)), (14, ob1), (15, ob2), (16, ob3)] (.bool true) [.ro 0 [(errG E O 0)], .ro 0 [(errG E O 1)], .ro 0 [(errG E O 2)], .ro 0 [(errG E O 3)], .ro 0 [(errG E O 4)], .ro 0 [(errG E O 5)], .ro 0 [(errG E O 6)], .mark (B 0), .mark (B 1), .mark (B 2), .mark (B 3), .mark (B 4), .mark (B 5), .mark (B 6), ob1, ob2, ob3] := by
  obtain ⟨⟨X, Y, tb⟩, ha, sg⟩ := F1.tb
  obtain ⟨⟨U, W, V, br⟩, hf, cp⟩ := F2.br
  obtain ⟨⟨Bv, bt⟩, hav, hc⟩ := F3.bt
  exact (news_ctr E O B hne (⟨n0, n1, n2, n3, n4, n5, n6, n7, n8, n9, n10, n11, n12, n13, n14, n15, n16, n17, n18, n19, o1, l1, c1, n20, n21, n22, n23, n24, o2, l2, c2⟩ : Cfg) n m k sq md lk q1 q2 q3 q4 tb ha br hf sg cp bt hav hc hlk).frame (js := [14, 15, 16, 0, 1, 2, 3, 4, 5, 6, 7, 8, 9, 10, 11, 12, 13]) (by repeat (first | exact Fd.nil | apply Fd.cons | exact look_here | apply look_there)) (by decide) rfl
end Go.Proofs.YtekcchmnncefhaaGreatDoor.Top
