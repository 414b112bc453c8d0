/- What functions of this program do, each as a contract that its callers use.
   By an AI agent. -/
import Derived.Test.YtlhhcongoplfpaaDoorABT
/-! Parts of records, of tuples, of arrays. -/
namespace Go.Proofs.YtlhhcongoplfpaaDoorAB
set_option linter.unusedVariables false
set_option linter.unusedSimpArgs false
open Go
section
variable {P : Program} {G : Nat} {L : Lay} {ops : Array Oper} {o : Oper} {n : Nat} {s : As} {h : H}
theorem run_partc {t : TypeId} {e : TE} (tf : TF P t e) (ha : e.agg = false) {cs : Array Value} {off : Nat} {v : Value} (hv : cs[off]? = some v) (w : World) : (part t cs off).run P w = .ok v w := by
  simp [part, run_isAgg tf, ha, hv]
theorem run_partr {t : TypeId} {e : TE} (tf : TF P t e) (ha : e.agg = true) {cs : Array Value} {off : Nat} (w : World) : (part t cs off).run P w = .ok (.agg (cs.extract off (off + e.size))) w := by
  simp [part, run_isAgg tf, ha, run_sizeT tf]
theorem vr_extract {ρ : Ren} {xs : Array Value} {ys : List Value} {i m : Nat} (h : VRL ρ xs.toList ys) : VR ρ (.agg ⟨(xs.toList.drop i).take m⟩) (.agg ((⟨ys⟩ : Array Value).extract i (i + m))) := by
  have e : (⟨ys⟩ : Array Value).extract i (i + m) = ⟨(ys.drop i).take m⟩ := by
    apply Array.ext'
    simp [List.extract]
  rw [e]
  exact .agg ((h.drop i).take m)
/-- One cell of a record. -/
theorem o_fieldc {t : TypeId} {x : Operand} {fld : Nat} {fields : Array Field} {fd : Field} {xs : Array Value} {v : Value} {e : TE} (hL : LayOk P L = true) (ho : o.op = .field t x fld) (hw : wantA ops o n s = some true) (hx : evA G n s x = some (.agg xs))
    (hu : P.underlying t = some (.struct fields)) (hf : fields[fld]? = some fd) (ht : lkT L fd.type = some e) (ha : e.agg = false) (hv : xs.toList[fd.offset]? = some v) : OPJ P G ops o (mkT n s) h [] [] (some v) [] [] :=
  OPJ.pure hw fun ρ w a _ er => by
    obtain ⟨ys, hl, h1⟩ := vr_agg.1 (er.get (by simp [ho, Op.operands]) hx)
    obtain ⟨v', hv', hvr⟩ := hl.get fd.offset hv
    have hv2 : (⟨ys⟩ : Array Value)[fd.offset]? = some v' := by simpa using hv'
    refine ⟨v', ?_, hvr⟩
    simp [execOp, ho, h1, Instr.field, run_underlying hu, hf, asAgg, run_partc (tfOf hL ht) ha hv2]
/-- A record in a record. -/
theorem o_fieldr {t : TypeId} {x : Operand} {fld : Nat} {fields : Array Field} {fd : Field} {xs : Array Value} {vs : List Value} {e : TE} (hL : LayOk P L = true) (ho : o.op = .field t x fld) (hw : wantA ops o n s = some true) (hx : evA G n s x = some (.agg xs))
    (hu : P.underlying t = some (.struct fields)) (hf : fields[fld]? = some fd) (ht : lkT L fd.type = some e) (ha : e.agg = true) (hv : (xs.toList.drop fd.offset).take e.size = vs) : OPJ P G ops o (mkT n s) h [] [] (some (.agg ⟨vs⟩)) [] [] :=
  OPJ.pure hw fun ρ w a _ er => by
    obtain ⟨ys, hl, h1⟩ := vr_agg.1 (er.get (by simp [ho, Op.operands]) hx)
    subst hv
    refine ⟨_, ?_, vr_extract (i := fd.offset) (m := e.size) hl⟩
    simp [execOp, ho, h1, Instr.field, run_underlying hu, hf, asAgg, run_partr (tfOf hL ht) ha]
/-- A part of a tuple. -/
theorem o_extract {x : Operand} {i : Nat} {xs : Array Value} {v : Value} (ho : o.op = .extract x i) (hw : wantA ops o n s = some true) (hx : evA G n s x = some (.tuple xs)) (hv : xs.toList[i]? = some v) : OPJ P G ops o (mkT n s) h [] [] (some v) [] [] :=
  OPJ.pure hw fun ρ w a _ er => by
    obtain ⟨ys, hl, h1⟩ := vr_tuple.1 (er.get (by simp [ho, Op.operands]) hx)
    obtain ⟨v', hv', hvr⟩ := hl.get i hv
    have hv2 : (⟨ys⟩ : Array Value)[i]? = some v' := by simpa using hv'
    refine ⟨v', ?_, hvr⟩
    simp [execOp, ho, h1, Instr.extract]
    have hv3 : ys[i]? = some v' := hv'
    simp [hv3]
/-- A cell of an array. -/
theorem o_indexc {t el : TypeId} {x y : Operand} {len : Nat} {xs : Array Value} {v : Value} {e ea : TE} {kd : IntKind} {i : Int} (hL : LayOk P L = true) (ho : o.op = .index t x y) (hw : wantA ops o n s = some true) (hx : evA G n s x = some (.agg xs)) (hy : evA G n s y = some (.int kd i))
    (hta : lkT L t = some ea) (harr : ea.arr = some (len, el, 1)) (ht : lkT L el = some e) (ha : e.agg = false) (h0 : 0 ≤ i) (h1 : i < len) (hv : xs.toList[i.toNat]? = some v) : OPJ P G ops o (mkT n s) h [] [] (some v) [] [] :=
  OPJ.pure hw fun ρ w a _ er => by
    obtain ⟨ys, hl, hx1⟩ := vr_agg.1 (er.get (by simp [ho, Op.operands]) hx)
    have hy1 := vr_int.1 (er.get (by simp [ho, Op.operands]) hy)
    obtain ⟨hu, j, hj, hjs⟩ := (tfOf hL hta).arr _ _ _ harr
    obtain ⟨v', hv', hvr⟩ := hl.get i.toNat hv
    have hv2 : (⟨ys⟩ : Array Value)[i.toNat]? = some v' := by simpa using hv'
    have hsz : (sizeOf el).run P w = .ok 1 w := by simp [sizeOf, typeInfo, hj, hjs]
    refine ⟨v', ?_, hvr⟩
    simp [execOp, ho, hx1, hy1, Instr.index, run_underlying hu, asIntOf, h0, h1, hsz, run_partc (tfOf hL ht) ha hv2]
/-- Where entries are found. -/
inductive Fd (h : H) : List Nat → H → Prop
  | nil : Fd h [] []
  | cons {j : Nat} {e : Nat × AObj} {js : List Nat} {pre : H} (hj : h[j]? = some e) (r : Fd h js pre) : Fd h (j :: js) (e :: pre)
theorem Fd.at_ {h : H} : ∀ {js : List Nat} {pre : H}, Fd h js pre → js.map (h[·]?) = pre.map some
  | _, _, .nil => rfl
  | _, _, .cons hj r => by simp [hj, r.at_]
theorem Fd.same {h : H} : ∀ {js : List Nat} {pre : H}, Fd h js pre → ∀ h2 : H, (∀ j ∈ js, h2[j]? = h[j]?) → upd h2 (js.zip (pre.map (·.2))) = h2
  | _, _, .nil, h2, _ => rfl
  | _, _, .cons (j := j) (e := e) (js := js) (pre := pre) hj r, h2, hh => by
    have h1 := hh j (by simp)
    rw [hj] at h1
    have h3 : h2.modify j (fun x => (x.1, e.2)) = h2 := by
      refine List.ext_getElem? fun i => ?_
      rw [List.getElem?_modify]
      by_cases hi : j = i
      · subst hi; simp [h1]
      · simp [hi]
    show upd (h2.modify j fun x => (x.1, e.2)) (js.zip (pre.map (·.2))) = h2
    rw [h3]
    exact r.same h2 fun i hi => hh i (by simp [hi])
theorem zip_fst {α β : Type} {a : α} {b : β} : ∀ {l : List α} {m : List β}, (a, b) ∈ l.zip m → a ∈ l
  | x :: l, y :: m, h => by
    rw [List.zip_cons_cons, List.mem_cons] at h
    rcases h with h | h
    · cases h; simp
    · exact List.mem_cons_of_mem _ (zip_fst h)
/-- A call that changes nothing of what it is given. -/
theorem o_callR {f : FuncId} {as : Array Operand} {ts : Array TypeId} {args : List Value} {pre : H} {v : Value} {post : List AObj} {js : List Nat}
    (ho : o.op = .call { callee := .value (.func f), args := as, argTypes := ts }) (hw : wantA ops o n s = some true) (ha : evL G n s as.toList = some args) (sp : Ctr P G f args pre v post) (hp : post = pre.map (·.2)) (fd : Fd h js pre) (nd : js.Nodup) : OPJ P G ops o (mkT n s) h js [] (some v) pre post := by
  subst hp
  exact o_call ho hw ha sp ⟨nd, fd.at_⟩ (fun h2 hh => fd.same h2 hh) (fun _ h => by cases h)
theorem o_callRF {x : Operand} {f : FuncId} {as : Array Operand} {ts : Array TypeId} {args caps : List Value} {pre : H} {v : Value} {post : List AObj} {js : List Nat}
    (ho : o.op = .call { callee := .value x, args := as, argTypes := ts }) (hw : wantA ops o n s = some true) (hx : evA G n s x = some (.func (.func f) ⟨[]⟩ ⟨caps⟩)) (ha : evL G n s as.toList = some args) (sp : Ctr P G f (args ++ caps) pre v post) (hp : post = pre.map (·.2)) (fd : Fd h js pre) (nd : js.Nodup) : OPJ P G ops o (mkT n s) h js [] (some v) pre post := by
  subst hp
  exact o_callF ho hw hx ha sp ⟨nd, fd.at_⟩ (fun h2 hh => fd.same h2 hh) (fun _ h => by cases h)
/-- A call that may write all that it is given. -/
theorem o_callW {f : FuncId} {as : Array Operand} {ts : Array TypeId} {args : List Value} {pre : H} {v : Value} {post : List AObj} {js : List Nat} {us : List (Nat × AObj)}
    (ho : o.op = .call { callee := .value (.func f), args := as, argTypes := ts }) (hw : wantA ops o n s = some true) (ha : evL G n s as.toList = some args) (sp : Ctr P G f args pre v post) (fd : Fd h js pre) (nd : js.Nodup) (hu : us = js.zip post) : OPJ P G ops o (mkT n s) h js us (some v) pre post := by
  subst hu
  exact o_call ho hw ha sp ⟨nd, fd.at_⟩ (fun _ _ => rfl) (fun u hu => zip_fst (a := u.1) (b := u.2) hu)
theorem run_bool_eq {t : TypeId} (hu : P.underlying t = some .bool) (x y : Bool) (w : World) : (Op.equal t (.bool x) (.bool y)).run P w = .ok (x == y) w := by
  show (Op.equalIn (9999 + 1) t (.bool x) (.bool y)).run P w = .ok (x == y) w
  rw [Op.equalIn]
  simp [run_underlying hu]
/-- Two truth values. -/
theorem o_beq {t u : TypeId} {x y : Operand} {p q : Bool} (ho : o.op = .binOp .eql t x y u) (hw : wantA ops o n s = some true) (hp : P.underlying t = some .bool) (hx : evA G n s x = some (.bool p)) (hy : evA G n s y = some (.bool q)) :
    OPJ P G ops o (mkT n s) h [] [] (some (.bool (p == q))) [] [] :=
  OPJ.pure hw fun ρ w a _ er => by
    have h1 := vr_bool.1 (er.get (by simp [ho, Op.operands]) hx)
    have h2 := vr_bool.1 (er.get (by simp [ho, Op.operands]) hy)
    exact ⟨.bool (p == q), by simp [execOp, ho, h1, h2, eqGuard, binOp, run_bool_eq hp], by simp⟩
theorem o_bne {t u : TypeId} {x y : Operand} {p q : Bool} (ho : o.op = .binOp .neq t x y u) (hw : wantA ops o n s = some true) (hp : P.underlying t = some .bool) (hx : evA G n s x = some (.bool p)) (hy : evA G n s y = some (.bool q)) :
    OPJ P G ops o (mkT n s) h [] [] (some (.bool (!(p == q)))) [] [] :=
  OPJ.pure hw fun ρ w a _ er => by
    have h1 := vr_bool.1 (er.get (by simp [ho, Op.operands]) hx)
    have h2 := vr_bool.1 (er.get (by simp [ho, Op.operands]) hy)
    exact ⟨.bool (!(p == q)), by simp [execOp, ho, h1, h2, eqGuard, binOp, run_bool_eq hp], by simp⟩
end
end Go.Proofs.YtlhhcongoplfpaaDoorAB
