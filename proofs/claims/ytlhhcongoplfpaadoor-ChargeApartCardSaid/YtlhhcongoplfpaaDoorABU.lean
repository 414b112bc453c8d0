/- What functions of this program do, each as a contract that its callers use.
   By an AI agent. -/
import Derived.Test.YtlhhcongoplfpaaDoorABV
/-! Interfaces, function values. -/
namespace Go.Proofs.YtlhhcongoplfpaaDoorAB
open Go
section
variable {P : Program} {G : Nat} {L : Lay} {ops : Array Oper} {o : Oper} {n : Nat} {s : As} {h : H}
def isIface (P : Program) (t : TypeId) : Bool := match P.underlying t with | some (.interface _) => true | _ => false
def hasTy (P : Program) (t : TypeId) : Bool := (P.underlying t).isSome && !isIface P t
theorem o_mkIface {t : TypeId} {x : Operand} {v : Value} (ho : o.op = .makeInterface t x) (hw : wantA ops o n s = some true) (ht : hasTy P t = true) (hx : evA G n s x = some v) : OPJ P G ops o (mkT n s) h [] [] (some (.iface t v)) [] [] :=
  OPJ.pure hw fun ρ w a _ er => by
    have h1 := er.get (by simp [ho, Op.operands]) hx
    unfold hasTy isIface at ht
    cases hu : P.underlying t with
    | none => simp [hu] at ht
    | some d =>
      refine ⟨.iface t (a.eval x), ?_, .iface t h1⟩
      simp only [execOp, ho, Instr.makeInterface, Sem.run_bind, run_underlying hu, Result.andThen_ok]
      cases d <;> simp_all
theorem o_mkFunc {f : Fn} {a b : Array Operand} {xs ys : List Value} (ho : o.op = .makeFunc f a b) (hw : wantA ops o n s = some true) (hx : evL G n s a.toList = some xs) (hy : evL G n s b.toList = some ys) : OPJ P G ops o (mkT n s) h [] [] (some (.func f ⟨xs⟩ ⟨ys⟩)) [] [] :=
  OPJ.pure hw fun ρ w ac _ er => by
    have h1 := evL_vr er (xs := a.toList) (fun x hx => by simp only [ho, Op.operands]; exact Array.mem_append.2 (.inl (by simpa using hx))) hx
    have h2 := evL_vr er (xs := b.toList) (fun x hx => by simp only [ho, Op.operands]; exact Array.mem_append.2 (.inr (by simpa using hx))) hy
    refine ⟨.func f (a.map ac.eval) (b.map ac.eval), by simp [execOp, ho, Instr.makeFunc], ?_⟩
    have e1 : a.map ac.eval = ⟨a.toList.map ac.eval⟩ := by cases a; simp
    have e2 : b.map ac.eval = ⟨b.toList.map ac.eval⟩ := by cases b; simp
    rw [e1, e2]
    exact .func f h1 h2
/-- A call of a function value: its captured cells' pointers come last. -/
theorem o_callF {x : Operand} {f : FuncId} {as : Array Operand} {ts : Array TypeId} {args caps : List Value} {pre : H} {v : Value} {post : List AObj} {js : List Nat} {us : List (Nat × AObj)}
    (ho : o.op = .call { callee := .value x, args := as, argTypes := ts }) (hw : wantA ops o n s = some true) (hx : evA G n s x = some (.func (.func f) ⟨[]⟩ ⟨caps⟩)) (ha : evL G n s as.toList = some args) (sp : Ctr P G f (args ++ caps) pre v post) (fits : Fits h js pre)
    (same : ∀ h2 : H, (∀ j ∈ js, h2[j]? = h[j]?) → upd h2 (js.zip post) = upd h2 us) (sub : ∀ u ∈ us, u.1 ∈ js) : OPJ P G ops o (mkT n s) h js us (some v) pre post :=
  OPJ.of hw fits sp.len same sub fun ρ w a R sim er fr => by
    have hv := evL_vr er (xs := as.toList) (fun x hx => by simp only [ho, Op.operands, Call.operands]; exact Array.mem_append.2 (.inr (by simpa using hx))) ha
    have hfx := er.get (by simp only [ho, Op.operands, Call.operands]; exact Array.mem_append.2 (.inl (by simp))) hx
    obtain ⟨fn, hf, hname, hb⟩ := sp.ent
    obtain ⟨caps', hval, hcaps⟩ : ∃ caps', a.eval x = .func (.func f) ⟨[]⟩ ⟨caps'⟩ ∧ VRL ρ caps caps' := by
      generalize a.eval x = u at hfx
      cases hfx with
      | func _ hx1 hy1 => cases hx1; exact ⟨_, rfl, hy1⟩
    have hrun : (execOp a.eval o).run P w = .ok (.enter f (as.map a.eval ++ ⟨caps'⟩)) w := by
      have h1 : fn.name ≠ "runtime.NumGoroutine" := by simpa using hname
      obtain ⟨c, hc⟩ := Option.isSome_iff_exists.1 hb
      unfold execOp
      simp [ho, resolve, Deferred.ofValue, invoke, hval, callFunc, hf, h1, hc]
    unfold Oper.wp
    rw [hrun, Oper.upon_enter]
    have hvv : VRL ρ (args ++ caps) (as.map a.eval ++ (⟨caps'⟩ : Array Value)).toList := by
      rw [Array.toList_append]
      exact VRL.append (by simpa using hv) hcaps
    refine (sp.run R ρ w (as.map a.eval ++ (⟨caps'⟩ : Array Value)) sim hvv fr).mono fun e w' hh => ?_
    obtain ⟨v', ρ', rfl, hv', sim', st', fr'⟩ := hh
    exact ⟨v', ρ', rfl, fun x hx => by cases hx; exact hv', sim', st', fr'⟩
theorem isIface.get {t : TypeId} (h : isIface P t = true) : ∃ ms, P.underlying t = some (.interface ms) := by
  unfold isIface at h
  split at h
  · exact ⟨_, by assumption⟩
  · cases h
theorem run_if_nil {t u : TypeId} {ms : Array (String × TypeId)} {v : Value} (hu : P.underlying t = some (.interface ms)) (w : World) : (Op.equal t (.iface u v) .nilIface).run P w = .ok false w := by
  show (Op.equalIn (9999 + 1) t (.iface u v) .nilIface).run P w = .ok false w
  rw [Op.equalIn]
  simp [run_underlying hu]
theorem run_nil_nil {t : TypeId} {ms : Array (String × TypeId)} (hu : P.underlying t = some (.interface ms)) (w : World) : (Op.equal t .nilIface .nilIface).run P w = .ok true w := by
  show (Op.equalIn (9999 + 1) t .nilIface .nilIface).run P w = .ok true w
  rw [Op.equalIn]
  simp [run_underlying hu]
/-- An interface that is not nil, beside nil. -/
theorem o_ifeq {t u q : TypeId} {x : Operand} {v : Value} (ho : o.op = .binOp .eql t x (.const .nilIface) u) (hw : wantA ops o n s = some true) (hp : isIface P t = true) (hx : evA G n s x = some (.iface q v)) :
    OPJ P G ops o (mkT n s) h [] [] (some (.bool false)) [] [] :=
  OPJ.pure hw fun ρ w a _ er => by
    obtain ⟨v', _, h1⟩ := vr_iface.1 (er.get (by simp [ho, Op.operands]) hx)
    obtain ⟨e, hu⟩ := isIface.get hp
    exact ⟨.bool false, by simp [execOp, ho, h1, show a.eval (.const .nilIface) = .nilIface from rfl, eqGuard, binOp, run_if_nil hu], by simp⟩
theorem o_ifne {t u q : TypeId} {x : Operand} {v : Value} (ho : o.op = .binOp .neq t x (.const .nilIface) u) (hw : wantA ops o n s = some true) (hp : isIface P t = true) (hx : evA G n s x = some (.iface q v)) :
    OPJ P G ops o (mkT n s) h [] [] (some (.bool true)) [] [] :=
  OPJ.pure hw fun ρ w a _ er => by
    obtain ⟨v', _, h1⟩ := vr_iface.1 (er.get (by simp [ho, Op.operands]) hx)
    obtain ⟨e, hu⟩ := isIface.get hp
    exact ⟨.bool true, by simp [execOp, ho, h1, show a.eval (.const .nilIface) = .nilIface from rfl, eqGuard, binOp, run_if_nil hu], by simp⟩
theorem o_nileq {t u : TypeId} {x : Operand} (ho : o.op = .binOp .eql t x (.const .nilIface) u) (hw : wantA ops o n s = some true) (hp : isIface P t = true) (hx : evA G n s x = some .nilIface) :
    OPJ P G ops o (mkT n s) h [] [] (some (.bool true)) [] [] :=
  OPJ.pure hw fun ρ w a _ er => by
    have h1 := vr_nilIface.1 (er.get (by simp [ho, Op.operands]) hx)
    obtain ⟨e, hu⟩ := isIface.get hp
    exact ⟨.bool true, by simp [execOp, ho, h1, show a.eval (.const .nilIface) = .nilIface from rfl, eqGuard, binOp, run_nil_nil hu], by simp⟩
theorem o_nilne {t u : TypeId} {x : Operand} (ho : o.op = .binOp .neq t x (.const .nilIface) u) (hw : wantA ops o n s = some true) (hp : isIface P t = true) (hx : evA G n s x = some .nilIface) :
    OPJ P G ops o (mkT n s) h [] [] (some (.bool false)) [] [] :=
  OPJ.pure hw fun ρ w a _ er => by
    have h1 := vr_nilIface.1 (er.get (by simp [ho, Op.operands]) hx)
    obtain ⟨e, hu⟩ := isIface.get hp
    exact ⟨.bool false, by simp [execOp, ho, h1, show a.eval (.const .nilIface) = .nilIface from rfl, eqGuard, binOp, run_nil_nil hu], by simp⟩
end
end Go.Proofs.YtlhhcongoplfpaaDoorAB
