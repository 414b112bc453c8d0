/- What functions of this program do, each as a contract that its callers use, and what follows of it in plain numbers.
   By an AI agent. -/
import Derived.Test.YtlhhcongoplfpaaDoorETA
import Derived.Test.YtlhhcongoplfpaaDoorABM
import Derived.Test.YtlhhcongoplfpaaDoorRows
import Derived.WalkKit
import Derived.ProofKit
import Derived.OpenShut
import Derived.SizedLaws
import Derived.LaidLaws
import Derived.LaidHandle
import Derived.FnData
import Derived.Stop.Joined
import Derived.WideShapes
namespace Go.Proofs.YtlhhcongoplfpaaDoor.Top
open Go Go.Proofs.YtlhhcongoplfpaaDoorAB Go.ChangeShapes Go.WideShapes Go.ChangeAt Go.RowKit Go.Proofs.YtlhhcongoplfpaaDoor
set_option linter.unusedVariables false
set_option linter.unusedSimpArgs false
set_option maxRecDepth 100000
theorem eg2 : Tryd.prog.globalNamed "dynamo/api.ErrRange" = some 2 := by kernel_rfl
theorem et2 : (Tryd.prog.globals[2]?).map (·.type) = some 30 := by kernel_rfl
theorem eg1 : Tryd.prog.globalNamed "dynamo/api.ErrLong" = some 1 := by kernel_rfl
theorem et1 : (Tryd.prog.globals[1]?).map (·.type) = some 30 := by kernel_rfl
theorem eg0 : Tryd.prog.globalNamed "dynamo/api.ErrShort" = some 0 := by kernel_rfl
theorem et0 : (Tryd.prog.globals[0]?).map (·.type) = some 30 := by kernel_rfl
theorem eg6 : Tryd.prog.globalNamed "dynamo/api.ErrSum" = some 6 := by kernel_rfl
theorem et6 : (Tryd.prog.globals[6]?).map (·.type) = some 30 := by kernel_rfl
theorem eg3 : Tryd.prog.globalNamed "dynamo/api.ErrTable" = some 3 := by kernel_rfl
theorem et3 : (Tryd.prog.globals[3]?).map (·.type) = some 30 := by kernel_rfl
theorem eg7 : Tryd.prog.globalNamed "dynamo/api.ErrConfig" = some 7 := by kernel_rfl
theorem et7 : (Tryd.prog.globals[7]?).map (·.type) = some 30 := by kernel_rfl
theorem eg8 : Tryd.prog.globalNamed "dynamo/api.ErrNone" = some 8 := by kernel_rfl
theorem et8 : (Tryd.prog.globals[8]?).map (·.type) = some 30 := by kernel_rfl
def laidE : List (String × DataW Unit) := [("dynamo/api.ErrRange", Rows.laid_dynamo_api_ErrRange), ("dynamo/api.ErrLong", Rows.laid_dynamo_api_ErrLong), ("dynamo/api.ErrShort", Rows.laid_dynamo_api_ErrShort), ("dynamo/api.ErrSum", Rows.laid_dynamo_api_ErrSum), ("dynamo/api.ErrTable", Rows.laid_dynamo_api_ErrTable), ("dynamo/api.ErrConfig", Rows.laid_dynamo_api_ErrConfig), ("dynamo/api.ErrNone", Rows.laid_dynamo_api_ErrNone)]
theorem ptr_row (u : TypeId) (hu : Tryd.prog.typeName? 3 u = some ("*" ++ "errors.errorString")) : u = 171 :=
  typeName_ptr_named (P := Tryd.prog) (nm := "errors.errorString") (by kernel_rfl) (by kernel_rfl) (by decide) u hu
theorem str_eq : ("*errors.errorString" : String) = "*" ++ "errors.errorString" := by decide
theorem one_err {W : World} {n : String} {g : Nat} {text : List UInt8} {r : List (String × DataW Unit)} {ps ps0 : List MemPlace}
    (hH : ∀ b off, MemPlace.cell b off ∈ ps0 → (∃ c t, W.heap[b]? = some (.cells c t (0, 0))) ∧ ∀ u v, W.cell? ⟨b, off, none⟩ = some (.iface u v) → Value.okWide Tryd.prog W .any 0 u v)
    (hsub : ∀ x ∈ ps, x ∈ ps0) (hg : Tryd.prog.globalNamed n = some g) (ht : (Tryd.prog.globals[g]?).map (·.type) = some 30)
    {nm : String} (hnm : nm = "*" ++ "errors.errorString") (h : DataW.LaidVars Tryd.prog W ((n, .iface nm (.ptr (.agg [.lit (.string text)]))) :: r) ps) :
    ∃ (a : Addr) (q : List MemPlace), ps = .cell g 0 :: .cell a.block a.off :: q ∧ a.spot = none ∧ W.cell? ⟨g, 0, none⟩ = some (.iface 171 (.pointer (some a))) ∧ DataW.LaidVars Tryd.prog W r q ∧ (∀ x ∈ q, x ∈ ps0) ∧ ∃ c t, W.heap[a.block]? = some (.cells c t (0, 0)) := by
  subst hnm
  obtain ⟨g', t, cs, fuel, p, q, hg', ht', hvar, hd, hr, rfl⟩ := h
  rw [hg] at hg'; cases hg'
  rw [ht] at ht'; cases ht'
  obtain ⟨f1, u, v, hcs, _, _⟩ := iface_of_trod Tryd.underlying30 hd
  have hsz : cs.size = 1 := by have := congrArg List.length hcs; simpa using this
  have hcell : ∀ j : Nat, W.cell? ⟨g, j, none⟩ = cs[j]? := fun j => World.var?_cell hg hvar j
  have hc0 : cs[0]? = some (.iface u v) := by have := congrArg (·[0]?) hcs; simpa using this
  have e0 : MemPlace.row ⟨g, 0, none⟩ cs.size = [.cell g 0] := by rw [hsz]; rfl
  rw [e0] at hsub ⊢
  have ok := (hH g 0 (hsub _ (by simp))).2 u v ((hcell 0).trans hc0)
  obtain ⟨a, s, h1, h2, _, _, rfl⟩ := errorString_of_trod Tryd.underlying30 ptr_row Tryd.underlying171 Tryd.underlying187 rfl rfl Tryd.underlying9 (by kernel_rfl) (by kernel_rfl) hd (fun u' v' e => by rw [hcs] at e; cases e; exact ok)
  have hp : MemPlace.row a 1 = [.cell a.block a.off] := by
    show [MemPlace.cell a.block (a.off + 0)] = _; rw [Nat.add_zero]
  rw [hp] at hsub ⊢
  have hs : a.spot = none := by
    unfold World.cell? at h2
    split at h2
    · split at h2
      · cases h2
      · rename_i hn; simpa using hn
    · cases h2
  refine ⟨a, q, rfl, hs, ?_, hr, fun x hx => hsub x (by simp [hx]), (hH a.block a.off (hsub _ (by simp))).1⟩
  rw [hcell 0, hc0]
  rw [h1] at hcs
  cases hcs
  rfl
/-- Where api's errors stand. -/
def adr (a0 a1 a2 a3 a6 a7 a8 : Addr) : Nat → Addr
  | 0 => a0
  | 1 => a1
  | 2 => a2
  | 3 => a3
  | 6 => a6
  | 7 => a7
  | 8 => a8
  | _ => a0
theorem isE_no (g : Nat) : ¬ isE (g + 9) = true := by intro q; unfold isE at q; simp only [Bool.and_eq_true, decide_eq_true_eq] at q; omega
theorem errs_of {W : World} (h : laidMetH Tryd.prog laidE W) : ∃ A : Nat → Addr, (∀ g, (A g).spot = none ∧ ∃ c t, W.heap[(A g).block]? = some (.cells c t (0, 0))) ∧ (∀ g, isE g = true → W.cell? ⟨g, 0, none⟩ = some (.iface 171 (.pointer (some (A g))))) ∧
    ∀ g h, isE g = true → isE h = true → g ≠ h → ((A g).block, (A g).off) ≠ ((A h).block, (A h).off) := by
  have h' : laidMet Tryd.prog laidE W := h
  obtain ⟨ps, hl, hn, hH⟩ := h'
  have hsA : ∀ x ∈ ps, x ∈ ps := fun _ h => h
  obtain ⟨a2, q2, rfl, sp2, ce2, hl2, hs2, hb2⟩ := one_err hH hsA eg2 et2 str_eq hl
  obtain ⟨a1, q1, rfl, sp1, ce1, hl1, hs1, hb1⟩ := one_err hH hs2 eg1 et1 str_eq hl2
  obtain ⟨a0, q0, rfl, sp0, ce0, hl0, hs0, hb0⟩ := one_err hH hs1 eg0 et0 str_eq hl1
  obtain ⟨a6, q6, rfl, sp6, ce6, hl6, hs6, hb6⟩ := one_err hH hs0 eg6 et6 str_eq hl0
  obtain ⟨a3, q3, rfl, sp3, ce3, hl3, hs3, hb3⟩ := one_err hH hs6 eg3 et3 str_eq hl6
  obtain ⟨a7, q7, rfl, sp7, ce7, hl7, hs7, hb7⟩ := one_err hH hs3 eg7 et7 str_eq hl3
  obtain ⟨a8, q8, rfl, sp8, ce8, hl8, hs8, hb8⟩ := one_err hH hs7 eg8 et8 str_eq hl7
  have hl8 : q8 = [] := hl8
  subst hl8
  simp only [List.nodup_cons, List.mem_cons, not_or, MemPlace.cell.injEq, List.not_mem_nil, not_false_eq_true, and_true, List.nodup_nil] at hn
  refine ⟨adr a0 a1 a2 a3 a6 a7 a8, fun g => ?_, fun g hg => ?_, fun g h hg hh hne => ?_⟩
  · match g with
    | 0 => exact ⟨sp0, hb0⟩
    | 1 => exact ⟨sp1, hb1⟩
    | 2 => exact ⟨sp2, hb2⟩
    | 3 => exact ⟨sp3, hb3⟩
    | 4 => exact ⟨sp0, hb0⟩
    | 5 => exact ⟨sp0, hb0⟩
    | 6 => exact ⟨sp6, hb6⟩
    | 7 => exact ⟨sp7, hb7⟩
    | 8 => exact ⟨sp8, hb8⟩
    | g + 9 => exact ⟨sp0, hb0⟩
  · match g, hg with
    | 0, _ => exact ce0
    | 1, _ => exact ce1
    | 2, _ => exact ce2
    | 3, _ => exact ce3
    | 4, hg => cases hg
    | 5, hg => cases hg
    | 6, _ => exact ce6
    | 7, _ => exact ce7
    | 8, _ => exact ce8
    | g + 9, hg => exact absurd hg (isE_no g)
  · match g, hg, h, hh with
    | 0, _, 0, _ => exact absurd rfl hne
    | 0, _, 1, _ => intro e; have e := Prod.mk.inj e; have e1 : a0.block = a1.block := e.1; have e2 : a0.off = a1.off := e.2; simp [e1, e2] at hn
    | 0, _, 2, _ => intro e; have e := Prod.mk.inj e; have e1 : a0.block = a2.block := e.1; have e2 : a0.off = a2.off := e.2; simp [e1, e2] at hn
    | 0, _, 3, _ => intro e; have e := Prod.mk.inj e; have e1 : a0.block = a3.block := e.1; have e2 : a0.off = a3.off := e.2; simp [e1, e2] at hn
    | 0, _, 6, _ => intro e; have e := Prod.mk.inj e; have e1 : a0.block = a6.block := e.1; have e2 : a0.off = a6.off := e.2; simp [e1, e2] at hn
    | 0, _, 7, _ => intro e; have e := Prod.mk.inj e; have e1 : a0.block = a7.block := e.1; have e2 : a0.off = a7.off := e.2; simp [e1, e2] at hn
    | 0, _, 8, _ => intro e; have e := Prod.mk.inj e; have e1 : a0.block = a8.block := e.1; have e2 : a0.off = a8.off := e.2; simp [e1, e2] at hn
    | 1, _, 0, _ => intro e; have e := Prod.mk.inj e; have e1 : a1.block = a0.block := e.1; have e2 : a1.off = a0.off := e.2; simp [e1, e2] at hn
    | 1, _, 1, _ => exact absurd rfl hne
    | 1, _, 2, _ => intro e; have e := Prod.mk.inj e; have e1 : a1.block = a2.block := e.1; have e2 : a1.off = a2.off := e.2; simp [e1, e2] at hn
    | 1, _, 3, _ => intro e; have e := Prod.mk.inj e; have e1 : a1.block = a3.block := e.1; have e2 : a1.off = a3.off := e.2; simp [e1, e2] at hn
    | 1, _, 6, _ => intro e; have e := Prod.mk.inj e; have e1 : a1.block = a6.block := e.1; have e2 : a1.off = a6.off := e.2; simp [e1, e2] at hn
    | 1, _, 7, _ => intro e; have e := Prod.mk.inj e; have e1 : a1.block = a7.block := e.1; have e2 : a1.off = a7.off := e.2; simp [e1, e2] at hn
    | 1, _, 8, _ => intro e; have e := Prod.mk.inj e; have e1 : a1.block = a8.block := e.1; have e2 : a1.off = a8.off := e.2; simp [e1, e2] at hn
    | 2, _, 0, _ => intro e; have e := Prod.mk.inj e; have e1 : a2.block = a0.block := e.1; have e2 : a2.off = a0.off := e.2; simp [e1, e2] at hn
    | 2, _, 1, _ => intro e; have e := Prod.mk.inj e; have e1 : a2.block = a1.block := e.1; have e2 : a2.off = a1.off := e.2; simp [e1, e2] at hn
    | 2, _, 2, _ => exact absurd rfl hne
    | 2, _, 3, _ => intro e; have e := Prod.mk.inj e; have e1 : a2.block = a3.block := e.1; have e2 : a2.off = a3.off := e.2; simp [e1, e2] at hn
    | 2, _, 6, _ => intro e; have e := Prod.mk.inj e; have e1 : a2.block = a6.block := e.1; have e2 : a2.off = a6.off := e.2; simp [e1, e2] at hn
    | 2, _, 7, _ => intro e; have e := Prod.mk.inj e; have e1 : a2.block = a7.block := e.1; have e2 : a2.off = a7.off := e.2; simp [e1, e2] at hn
    | 2, _, 8, _ => intro e; have e := Prod.mk.inj e; have e1 : a2.block = a8.block := e.1; have e2 : a2.off = a8.off := e.2; simp [e1, e2] at hn
    | 3, _, 0, _ => intro e; have e := Prod.mk.inj e; have e1 : a3.block = a0.block := e.1; have e2 : a3.off = a0.off := e.2; simp [e1, e2] at hn
    | 3, _, 1, _ => intro e; have e := Prod.mk.inj e; have e1 : a3.block = a1.block := e.1; have e2 : a3.off = a1.off := e.2; simp [e1, e2] at hn
    | 3, _, 2, _ => intro e; have e := Prod.mk.inj e; have e1 : a3.block = a2.block := e.1; have e2 : a3.off = a2.off := e.2; simp [e1, e2] at hn
    | 3, _, 3, _ => exact absurd rfl hne
    | 3, _, 6, _ => intro e; have e := Prod.mk.inj e; have e1 : a3.block = a6.block := e.1; have e2 : a3.off = a6.off := e.2; simp [e1, e2] at hn
    | 3, _, 7, _ => intro e; have e := Prod.mk.inj e; have e1 : a3.block = a7.block := e.1; have e2 : a3.off = a7.off := e.2; simp [e1, e2] at hn
    | 3, _, 8, _ => intro e; have e := Prod.mk.inj e; have e1 : a3.block = a8.block := e.1; have e2 : a3.off = a8.off := e.2; simp [e1, e2] at hn
    | 6, _, 0, _ => intro e; have e := Prod.mk.inj e; have e1 : a6.block = a0.block := e.1; have e2 : a6.off = a0.off := e.2; simp [e1, e2] at hn
    | 6, _, 1, _ => intro e; have e := Prod.mk.inj e; have e1 : a6.block = a1.block := e.1; have e2 : a6.off = a1.off := e.2; simp [e1, e2] at hn
    | 6, _, 2, _ => intro e; have e := Prod.mk.inj e; have e1 : a6.block = a2.block := e.1; have e2 : a6.off = a2.off := e.2; simp [e1, e2] at hn
    | 6, _, 3, _ => intro e; have e := Prod.mk.inj e; have e1 : a6.block = a3.block := e.1; have e2 : a6.off = a3.off := e.2; simp [e1, e2] at hn
    | 6, _, 6, _ => exact absurd rfl hne
    | 6, _, 7, _ => intro e; have e := Prod.mk.inj e; have e1 : a6.block = a7.block := e.1; have e2 : a6.off = a7.off := e.2; simp [e1, e2] at hn
    | 6, _, 8, _ => intro e; have e := Prod.mk.inj e; have e1 : a6.block = a8.block := e.1; have e2 : a6.off = a8.off := e.2; simp [e1, e2] at hn
    | 7, _, 0, _ => intro e; have e := Prod.mk.inj e; have e1 : a7.block = a0.block := e.1; have e2 : a7.off = a0.off := e.2; simp [e1, e2] at hn
    | 7, _, 1, _ => intro e; have e := Prod.mk.inj e; have e1 : a7.block = a1.block := e.1; have e2 : a7.off = a1.off := e.2; simp [e1, e2] at hn
    | 7, _, 2, _ => intro e; have e := Prod.mk.inj e; have e1 : a7.block = a2.block := e.1; have e2 : a7.off = a2.off := e.2; simp [e1, e2] at hn
    | 7, _, 3, _ => intro e; have e := Prod.mk.inj e; have e1 : a7.block = a3.block := e.1; have e2 : a7.off = a3.off := e.2; simp [e1, e2] at hn
    | 7, _, 6, _ => intro e; have e := Prod.mk.inj e; have e1 : a7.block = a6.block := e.1; have e2 : a7.off = a6.off := e.2; simp [e1, e2] at hn
    | 7, _, 7, _ => exact absurd rfl hne
    | 7, _, 8, _ => intro e; have e := Prod.mk.inj e; have e1 : a7.block = a8.block := e.1; have e2 : a7.off = a8.off := e.2; simp [e1, e2] at hn
    | 8, _, 0, _ => intro e; have e := Prod.mk.inj e; have e1 : a8.block = a0.block := e.1; have e2 : a8.off = a0.off := e.2; simp [e1, e2] at hn
    | 8, _, 1, _ => intro e; have e := Prod.mk.inj e; have e1 : a8.block = a1.block := e.1; have e2 : a8.off = a1.off := e.2; simp [e1, e2] at hn
    | 8, _, 2, _ => intro e; have e := Prod.mk.inj e; have e1 : a8.block = a2.block := e.1; have e2 : a8.off = a2.off := e.2; simp [e1, e2] at hn
    | 8, _, 3, _ => intro e; have e := Prod.mk.inj e; have e1 : a8.block = a3.block := e.1; have e2 : a8.off = a3.off := e.2; simp [e1, e2] at hn
    | 8, _, 6, _ => intro e; have e := Prod.mk.inj e; have e1 : a8.block = a6.block := e.1; have e2 : a8.off = a6.off := e.2; simp [e1, e2] at hn
    | 8, _, 7, _ => intro e; have e := Prod.mk.inj e; have e1 : a8.block = a7.block := e.1; have e2 : a8.off = a7.off := e.2; simp [e1, e2] at hn
    | 8, _, 8, _ => exact absurd rfl hne
    | 4, hg, _, _ => cases hg
    | 5, hg, _, _ => cases hg
    | _, _, 4, hh => cases hh
    | _, _, 5, hh => cases hh
    | g + 9, hg, _, _ => exact absurd hg (isE_no g)
    | _, _, h + 9, hh => exact absurd hh (isE_no h)
theorem hob_of {W : World} {ob : AObj} {r : Option Nat} (h : OnIn W ob r) : (ob = .lost ∧ r = none) ∨ ∃ fo cs bk, ob = .ro fo cs ∧ r = some bk ∧ Rd W bk fo cs := by
  rcases h with h | ⟨b', f, cs, h1, h2, h3⟩
  · exact .inl h
  · exact .inr ⟨f, cs, b', h2, h1, h3⟩
/-- The names of the globals, of the errors, of the rows. -/
def ρE1 (A : Nat → Addr) (r0 : Option Nat) : Ren := ⟨fun i => if i < 9 then some i else if i < 18 then some (A (i - 9)).block else if i = 18 then r0 else none, fun _ => 0⟩
theorem topE1 {f : FuncId} {args : List Value} {cargs : Array Value} {b : Bool} {W : World} {A : Nat → Addr} (hA : ∀ g, (A g).spot = none ∧ ∃ c t, W.heap[(A g).block]? = some (.cells c t (0, 0))) (hG : ∀ g, isE g = true → W.cell? ⟨g, 0, none⟩ = some (.iface 171 (.pointer (some (A g))))) (ob0 : AObj) (r0 : Option Nat) (hob0 : (ob0 = .lost ∧ r0 = none) ∨ ∃ fo cs bk, ob0 = .ro fo cs ∧ r0 = some bk ∧ Rd W bk fo cs)
    (c : Ctr Tryd.prog 9 f args [(0, .ro 0 [.iface 171 (.pointer (some ⟨9 + 0, (A 0).off, none⟩))]), (1, .ro 0 [.iface 171 (.pointer (some ⟨9 + 1, (A 1).off, none⟩))]), (2, .ro 0 [.iface 171 (.pointer (some ⟨9 + 2, (A 2).off, none⟩))]), (3, .ro 0 [.iface 171 (.pointer (some ⟨9 + 3, (A 3).off, none⟩))]), (6, .ro 0 [.iface 171 (.pointer (some ⟨9 + 6, (A 6).off, none⟩))]), (7, .ro 0 [.iface 171 (.pointer (some ⟨9 + 7, (A 7).off, none⟩))]), (8, .ro 0 [.iface 171 (.pointer (some ⟨9 + 8, (A 8).off, none⟩))]), (9 + 0, .mark (A 0).block), (9 + 1, .mark (A 1).block), (9 + 2, .mark (A 2).block), (9 + 3, .mark (A 3).block), (9 + 6, .mark (A 6).block), (9 + 7, .mark (A 7).block), (9 + 8, .mark (A 8).block), (18, ob0)] (.bool b) [.ro 0 [.iface 171 (.pointer (some ⟨9 + 0, (A 0).off, none⟩))], .ro 0 [.iface 171 (.pointer (some ⟨9 + 1, (A 1).off, none⟩))], .ro 0 [.iface 171 (.pointer (some ⟨9 + 2, (A 2).off, none⟩))], .ro 0 [.iface 171 (.pointer (some ⟨9 + 3, (A 3).off, none⟩))], .ro 0 [.iface 171 (.pointer (some ⟨9 + 6, (A 6).off, none⟩))], .ro 0 [.iface 171 (.pointer (some ⟨9 + 7, (A 7).off, none⟩))], .ro 0 [.iface 171 (.pointer (some ⟨9 + 8, (A 8).off, none⟩))], .mark (A 0).block, .mark (A 1).block, .mark (A 2).block, .mark (A 3).block, .mark (A 6).block, .mark (A 7).block, .mark (A 8).block, ob0]) (hv : VRL (ρE1 A r0) args cargs.toList) :
    Calls Tryd.prog f cargs W fun e w' => e = .returned (.bool b) ∧ RowKit.Below W.heap.size W w' := by
  have hg9 : 9 ≤ W.heap.size := by
    have h8 := hG 8 rfl
    unfold World.cell? at h8
    split at h8
    · rename_i c t fr hh
      have := (Array.getElem?_eq_some_iff.1 hh).1
      exact this
    · cases h8
  have eG : ∀ g, isE g = true → ER (ρE1 A r0) W (g, .ro 0 [.iface 171 (.pointer (some ⟨9 + g, (A g).off, none⟩))]) := fun g hg => by
    have h9 : g < 9 := by unfold isE at hg; simp at hg; omega
    refine ⟨fun h => (by cases h), fun _ => ?_⟩
    have hc := hG g hg
    unfold World.cell? at hc
    split at hc
    · rename_i c t fr hh
      refine ⟨g, _, by show (if g < 9 then some g else _) = some g; rw [if_pos h9], hh, c, t, fr, rfl, ?_⟩
      simp at hc
      have hl : c.toList = (.iface 171 (.pointer (some (A g)))) :: c.toList.drop 1 := by
        have h0 : c.toList[0]? = some (.iface 171 (.pointer (some (A g)))) := by simpa using hc
        cases hcl : c.toList with
        | nil => rw [hcl] at h0; cases h0
        | cons x xs => rw [hcl] at h0; cases h0; rfl
      rw [hl]
      refine .cons (.iface _ ?_) .nil
      have hsp := (hA g).1
      generalize hag : A g = ag at hsp ⊢
      obtain ⟨ab, ao, asp⟩ := ag
      cases hsp
      refine .ptr _ _ ?_
      show (if 9 + g < 9 then _ else if 9 + g < 18 then some (A (9 + g - 9)).block else _) = _
      rw [if_neg (by omega), if_pos (by omega), Nat.add_sub_cancel_left, hag]
    · cases hc
  have eM : ∀ g, g < 9 → ER (ρE1 A r0) W (9 + g, .mark (A g).block) := fun g h9 => by
    refine ⟨fun h => (by cases h), fun _ => ?_⟩
    obtain ⟨c, t, hh⟩ := (hA g).2
    have e : (ρE1 A r0) (9 + g) = some (A g).block := by
      show (if 9 + g < 9 then _ else if 9 + g < 18 then some (A (9 + g - 9)).block else _) = _
      rw [if_neg (by omega), if_pos (by omega), Nat.add_sub_cancel_left]
    exact ⟨_, _, e, hh, e, c, t, rfl⟩
  have eI0 : ER (ρE1 A r0) W (18, ob0) := by
    rcases hob0 with ⟨rfl, _⟩ | ⟨fo, cs, bk, rfl, rfl, hb, a2, t2, f2, g2, g3⟩
    · exact ⟨fun h => (by cases h), fun h => (by cases h)⟩
    · exact ⟨fun h => (by cases h), fun _ => ⟨bk, _, rfl, g2, a2, t2, f2, rfl, g3 _⟩⟩
  have nw0 : ob0.wr = false := by rcases hob0 with ⟨rfl, _⟩ | ⟨fo, cs, bk, rfl, _⟩ <;> rfl
  have ng0 : ob0 ≠ .gone := by rcases hob0 with ⟨rfl, _⟩ | ⟨fo, cs, bk, rfl, _⟩ <;> simp
  have nb0 : ∀ bk, r0 = some bk → bk < W.heap.size := fun bk hr => by
    rcases hob0 with ⟨_, rfl⟩ | ⟨fo, cs, b2, _, rfl, hb, _⟩
    · cases hr
    · cases hr; exact hb
  have all : ∀ e ∈ ([(0, .ro 0 [.iface 171 (.pointer (some ⟨9 + 0, (A 0).off, none⟩))]), (1, .ro 0 [.iface 171 (.pointer (some ⟨9 + 1, (A 1).off, none⟩))]), (2, .ro 0 [.iface 171 (.pointer (some ⟨9 + 2, (A 2).off, none⟩))]), (3, .ro 0 [.iface 171 (.pointer (some ⟨9 + 3, (A 3).off, none⟩))]), (6, .ro 0 [.iface 171 (.pointer (some ⟨9 + 6, (A 6).off, none⟩))]), (7, .ro 0 [.iface 171 (.pointer (some ⟨9 + 7, (A 7).off, none⟩))]), (8, .ro 0 [.iface 171 (.pointer (some ⟨9 + 8, (A 8).off, none⟩))]), (9 + 0, .mark (A 0).block), (9 + 1, .mark (A 1).block), (9 + 2, .mark (A 2).block), (9 + 3, .mark (A 3).block), (9 + 6, .mark (A 6).block), (9 + 7, .mark (A 7).block), (9 + 8, .mark (A 8).block), (18, ob0)] : H), ER (ρE1 A r0) W e ∧ e.2.wr = false ∧ e.2 ≠ .gone := fun e he => by
    simp only [List.mem_cons, List.not_mem_nil, or_false] at he
    rcases he with rfl | rfl | rfl | rfl | rfl | rfl | rfl | rfl | rfl | rfl | rfl | rfl | rfl | rfl | rfl
    · exact ⟨eG 0 rfl, rfl, by simp⟩
    · exact ⟨eG 1 rfl, rfl, by simp⟩
    · exact ⟨eG 2 rfl, rfl, by simp⟩
    · exact ⟨eG 3 rfl, rfl, by simp⟩
    · exact ⟨eG 6 rfl, rfl, by simp⟩
    · exact ⟨eG 7 rfl, rfl, by simp⟩
    · exact ⟨eG 8 rfl, rfl, by simp⟩
    · exact ⟨eM 0 (by decide), rfl, by simp⟩
    · exact ⟨eM 1 (by decide), rfl, by simp⟩
    · exact ⟨eM 2 (by decide), rfl, by simp⟩
    · exact ⟨eM 3 (by decide), rfl, by simp⟩
    · exact ⟨eM 6 (by decide), rfl, by simp⟩
    · exact ⟨eM 7 (by decide), rfl, by simp⟩
    · exact ⟨eM 8 (by decide), rfl, by simp⟩
    · exact ⟨eI0, nw0, ng0⟩
  refine Ctr.topR (ρ := ρE1 A r0) (sim_top (fun i x hx => ?_) (fun e he => (all e he).1) (fun e he => (all e he).2.2) (fun i j e e' hij hi hj hw => ?_) (fun g hg => ?_) ⟨19, fun i hi => ?_⟩) c rfl (fun e he hw => ?_) hv
  · have hx : (if i < 9 then some i else if i < 18 then some (A (i - 9)).block else if i = 18 then r0 else none) = some x := hx
    split at hx
    · cases hx; omega
    · split at hx
      · cases hx
        obtain ⟨c', t', hh⟩ := (hA (i - 9)).2
        exact (Array.getElem?_eq_some_iff.1 hh).1
      · split at hx
        · exact nb0 _ hx
        · cases hx
  · rw [(all e (List.mem_of_getElem? hi)).2.1, (all e' (List.mem_of_getElem? hj)).2.1] at hw
    rcases hw with hw | hw <;> cases hw
  · show (if g < 9 then some g else _) = some g; rw [if_pos hg]
  · show (if i < 9 then some i else if i < 18 then some (A (i - 9)).block else if i = 18 then r0 else none) = none
    rw [if_neg (by omega), if_neg (by omega), if_neg (by omega)]
  · rw [(all e he).2.1] at hw; cases hw
/-- The names of the globals, of the errors, of the rows. -/
def ρE2 (A : Nat → Addr) (r0 r1 : Option Nat) : Ren := ⟨fun i => if i < 9 then some i else if i < 18 then some (A (i - 9)).block else if i = 18 then r0 else if i = 19 then r1 else none, fun _ => 0⟩
theorem topE2 {f : FuncId} {args : List Value} {cargs : Array Value} {b : Bool} {W : World} {A : Nat → Addr} (hA : ∀ g, (A g).spot = none ∧ ∃ c t, W.heap[(A g).block]? = some (.cells c t (0, 0))) (hG : ∀ g, isE g = true → W.cell? ⟨g, 0, none⟩ = some (.iface 171 (.pointer (some (A g))))) (ob0 : AObj) (r0 : Option Nat) (hob0 : (ob0 = .lost ∧ r0 = none) ∨ ∃ fo cs bk, ob0 = .ro fo cs ∧ r0 = some bk ∧ Rd W bk fo cs) (ob1 : AObj) (r1 : Option Nat) (hob1 : (ob1 = .lost ∧ r1 = none) ∨ ∃ fo cs bk, ob1 = .ro fo cs ∧ r1 = some bk ∧ Rd W bk fo cs)
    (c : Ctr Tryd.prog 9 f args [(0, .ro 0 [.iface 171 (.pointer (some ⟨9 + 0, (A 0).off, none⟩))]), (1, .ro 0 [.iface 171 (.pointer (some ⟨9 + 1, (A 1).off, none⟩))]), (2, .ro 0 [.iface 171 (.pointer (some ⟨9 + 2, (A 2).off, none⟩))]), (3, .ro 0 [.iface 171 (.pointer (some ⟨9 + 3, (A 3).off, none⟩))]), (6, .ro 0 [.iface 171 (.pointer (some ⟨9 + 6, (A 6).off, none⟩))]), (7, .ro 0 [.iface 171 (.pointer (some ⟨9 + 7, (A 7).off, none⟩))]), (8, .ro 0 [.iface 171 (.pointer (some ⟨9 + 8, (A 8).off, none⟩))]), (9 + 0, .mark (A 0).block), (9 + 1, .mark (A 1).block), (9 + 2, .mark (A 2).block), (9 + 3, .mark (A 3).block), (9 + 6, .mark (A 6).block), (9 + 7, .mark (A 7).block), (9 + 8, .mark (A 8).block), (18, ob0), (19, ob1)] (.bool b) [.ro 0 [.iface 171 (.pointer (some ⟨9 + 0, (A 0).off, none⟩))], .ro 0 [.iface 171 (.pointer (some ⟨9 + 1, (A 1).off, none⟩))], .ro 0 [.iface 171 (.pointer (some ⟨9 + 2, (A 2).off, none⟩))], .ro 0 [.iface 171 (.pointer (some ⟨9 + 3, (A 3).off, none⟩))], .ro 0 [.iface 171 (.pointer (some ⟨9 + 6, (A 6).off, none⟩))], .ro 0 [.iface 171 (.pointer (some ⟨9 + 7, (A 7).off, none⟩))], .ro 0 [.iface 171 (.pointer (some ⟨9 + 8, (A 8).off, none⟩))], .mark (A 0).block, .mark (A 1).block, .mark (A 2).block, .mark (A 3).block, .mark (A 6).block, .mark (A 7).block, .mark (A 8).block, ob0, ob1]) (hv : VRL (ρE2 A r0 r1) args cargs.toList) :
    Calls Tryd.prog f cargs W fun e w' => e = .returned (.bool b) ∧ RowKit.Below W.heap.size W w' := by
  have hg9 : 9 ≤ W.heap.size := by
    have h8 := hG 8 rfl
    unfold World.cell? at h8
    split at h8
    · rename_i c t fr hh
      have := (Array.getElem?_eq_some_iff.1 hh).1
      exact this
    · cases h8
  have eG : ∀ g, isE g = true → ER (ρE2 A r0 r1) W (g, .ro 0 [.iface 171 (.pointer (some ⟨9 + g, (A g).off, none⟩))]) := fun g hg => by
    have h9 : g < 9 := by unfold isE at hg; simp at hg; omega
    refine ⟨fun h => (by cases h), fun _ => ?_⟩
    have hc := hG g hg
    unfold World.cell? at hc
    split at hc
    · rename_i c t fr hh
      refine ⟨g, _, by show (if g < 9 then some g else _) = some g; rw [if_pos h9], hh, c, t, fr, rfl, ?_⟩
      simp at hc
      have hl : c.toList = (.iface 171 (.pointer (some (A g)))) :: c.toList.drop 1 := by
        have h0 : c.toList[0]? = some (.iface 171 (.pointer (some (A g)))) := by simpa using hc
        cases hcl : c.toList with
        | nil => rw [hcl] at h0; cases h0
        | cons x xs => rw [hcl] at h0; cases h0; rfl
      rw [hl]
      refine .cons (.iface _ ?_) .nil
      have hsp := (hA g).1
      generalize hag : A g = ag at hsp ⊢
      obtain ⟨ab, ao, asp⟩ := ag
      cases hsp
      refine .ptr _ _ ?_
      show (if 9 + g < 9 then _ else if 9 + g < 18 then some (A (9 + g - 9)).block else _) = _
      rw [if_neg (by omega), if_pos (by omega), Nat.add_sub_cancel_left, hag]
    · cases hc
  have eM : ∀ g, g < 9 → ER (ρE2 A r0 r1) W (9 + g, .mark (A g).block) := fun g h9 => by
    refine ⟨fun h => (by cases h), fun _ => ?_⟩
    obtain ⟨c, t, hh⟩ := (hA g).2
    have e : (ρE2 A r0 r1) (9 + g) = some (A g).block := by
      show (if 9 + g < 9 then _ else if 9 + g < 18 then some (A (9 + g - 9)).block else _) = _
      rw [if_neg (by omega), if_pos (by omega), Nat.add_sub_cancel_left]
    exact ⟨_, _, e, hh, e, c, t, rfl⟩
  have eI0 : ER (ρE2 A r0 r1) W (18, ob0) := by
    rcases hob0 with ⟨rfl, _⟩ | ⟨fo, cs, bk, rfl, rfl, hb, a2, t2, f2, g2, g3⟩
    · exact ⟨fun h => (by cases h), fun h => (by cases h)⟩
    · exact ⟨fun h => (by cases h), fun _ => ⟨bk, _, rfl, g2, a2, t2, f2, rfl, g3 _⟩⟩
  have nw0 : ob0.wr = false := by rcases hob0 with ⟨rfl, _⟩ | ⟨fo, cs, bk, rfl, _⟩ <;> rfl
  have ng0 : ob0 ≠ .gone := by rcases hob0 with ⟨rfl, _⟩ | ⟨fo, cs, bk, rfl, _⟩ <;> simp
  have nb0 : ∀ bk, r0 = some bk → bk < W.heap.size := fun bk hr => by
    rcases hob0 with ⟨_, rfl⟩ | ⟨fo, cs, b2, _, rfl, hb, _⟩
    · cases hr
    · cases hr; exact hb
  have eI1 : ER (ρE2 A r0 r1) W (19, ob1) := by
    rcases hob1 with ⟨rfl, _⟩ | ⟨fo, cs, bk, rfl, rfl, hb, a2, t2, f2, g2, g3⟩
    · exact ⟨fun h => (by cases h), fun h => (by cases h)⟩
    · exact ⟨fun h => (by cases h), fun _ => ⟨bk, _, rfl, g2, a2, t2, f2, rfl, g3 _⟩⟩
  have nw1 : ob1.wr = false := by rcases hob1 with ⟨rfl, _⟩ | ⟨fo, cs, bk, rfl, _⟩ <;> rfl
  have ng1 : ob1 ≠ .gone := by rcases hob1 with ⟨rfl, _⟩ | ⟨fo, cs, bk, rfl, _⟩ <;> simp
  have nb1 : ∀ bk, r1 = some bk → bk < W.heap.size := fun bk hr => by
    rcases hob1 with ⟨_, rfl⟩ | ⟨fo, cs, b2, _, rfl, hb, _⟩
    · cases hr
    · cases hr; exact hb
  have all : ∀ e ∈ ([(0, .ro 0 [.iface 171 (.pointer (some ⟨9 + 0, (A 0).off, none⟩))]), (1, .ro 0 [.iface 171 (.pointer (some ⟨9 + 1, (A 1).off, none⟩))]), (2, .ro 0 [.iface 171 (.pointer (some ⟨9 + 2, (A 2).off, none⟩))]), (3, .ro 0 [.iface 171 (.pointer (some ⟨9 + 3, (A 3).off, none⟩))]), (6, .ro 0 [.iface 171 (.pointer (some ⟨9 + 6, (A 6).off, none⟩))]), (7, .ro 0 [.iface 171 (.pointer (some ⟨9 + 7, (A 7).off, none⟩))]), (8, .ro 0 [.iface 171 (.pointer (some ⟨9 + 8, (A 8).off, none⟩))]), (9 + 0, .mark (A 0).block), (9 + 1, .mark (A 1).block), (9 + 2, .mark (A 2).block), (9 + 3, .mark (A 3).block), (9 + 6, .mark (A 6).block), (9 + 7, .mark (A 7).block), (9 + 8, .mark (A 8).block), (18, ob0), (19, ob1)] : H), ER (ρE2 A r0 r1) W e ∧ e.2.wr = false ∧ e.2 ≠ .gone := fun e he => by
    simp only [List.mem_cons, List.not_mem_nil, or_false] at he
    rcases he with rfl | rfl | rfl | rfl | rfl | rfl | rfl | rfl | rfl | rfl | rfl | rfl | rfl | rfl | rfl | rfl
    · exact ⟨eG 0 rfl, rfl, by simp⟩
    · exact ⟨eG 1 rfl, rfl, by simp⟩
    · exact ⟨eG 2 rfl, rfl, by simp⟩
    · exact ⟨eG 3 rfl, rfl, by simp⟩
    · exact ⟨eG 6 rfl, rfl, by simp⟩
    · exact ⟨eG 7 rfl, rfl, by simp⟩
    · exact ⟨eG 8 rfl, rfl, by simp⟩
    · exact ⟨eM 0 (by decide), rfl, by simp⟩
    · exact ⟨eM 1 (by decide), rfl, by simp⟩
    · exact ⟨eM 2 (by decide), rfl, by simp⟩
    · exact ⟨eM 3 (by decide), rfl, by simp⟩
    · exact ⟨eM 6 (by decide), rfl, by simp⟩
    · exact ⟨eM 7 (by decide), rfl, by simp⟩
    · exact ⟨eM 8 (by decide), rfl, by simp⟩
    · exact ⟨eI0, nw0, ng0⟩
    · exact ⟨eI1, nw1, ng1⟩
  refine Ctr.topR (ρ := ρE2 A r0 r1) (sim_top (fun i x hx => ?_) (fun e he => (all e he).1) (fun e he => (all e he).2.2) (fun i j e e' hij hi hj hw => ?_) (fun g hg => ?_) ⟨20, fun i hi => ?_⟩) c rfl (fun e he hw => ?_) hv
  · have hx : (if i < 9 then some i else if i < 18 then some (A (i - 9)).block else if i = 18 then r0 else if i = 19 then r1 else none) = some x := hx
    split at hx
    · cases hx; omega
    · split at hx
      · cases hx
        obtain ⟨c', t', hh⟩ := (hA (i - 9)).2
        exact (Array.getElem?_eq_some_iff.1 hh).1
      · split at hx
        · exact nb0 _ hx
        · split at hx
          · exact nb1 _ hx
          · cases hx
  · rw [(all e (List.mem_of_getElem? hi)).2.1, (all e' (List.mem_of_getElem? hj)).2.1] at hw
    rcases hw with hw | hw <;> cases hw
  · show (if g < 9 then some g else _) = some g; rw [if_pos hg]
  · show (if i < 9 then some i else if i < 18 then some (A (i - 9)).block else if i = 18 then r0 else if i = 19 then r1 else none) = none
    rw [if_neg (by omega), if_neg (by omega), if_neg (by omega), if_neg (by omega)]
  · rw [(all e he).2.1] at hw; cases hw
end Go.Proofs.YtlhhcongoplfpaaDoor.Top
