/- What functions of this program do, each as a contract that its callers use.
   By an AI agent. -/
import Derived.Test.YtlhhcongoplfpaaDoorABQ
/-! More operations: arrays behind pointers, slices of arrays; the top of a law that reads globals. -/
namespace Go.Proofs.YtlhhcongoplfpaaDoorAB
open Go
set_option linter.unusedVariables false
set_option linter.unusedSimpArgs false
section
variable {P : Program} {G : Nat} {L : Lay} {ops : Array Oper} {o : Oper} {n : Nat} {s : As} {h : H}
/-- An element's place in an array. -/
theorem o_idxP {t el : TypeId} {x y : Operand} {k f len sz : Nat} {kd : IntKind} {i : Int} {e : TE} (hL : LayOk P L = true) (ho : o.op = .indexAddr t x y) (hw : wantA ops o n s = some true) (hx : evA G n s x = some (.pointer (some ⟨k, f, none⟩))) (hy : evA G n s y = some (.int kd i))
    (ht : lkT L t = some e) (hs : e.arr = some (len, el, sz)) (h0 : 0 ≤ i) (h1 : i < len) : OPJ P G ops o (mkT n s) h [] [] (some (.pointer (some ⟨k, f + i.toNat * sz, none⟩))) [] [] :=
  OPJ.pure hw fun ρ w a _ er => by
    obtain ⟨hu, j, hj, hjs⟩ := (tfOf hL ht).arr len el sz hs
    obtain ⟨b, hb, hv⟩ := vr_ptr.1 (er.get (by simp [ho, Op.operands]) hx)
    have h2 := vr_int.1 (er.get (by simp [ho, Op.operands]) hy)
    refine ⟨.pointer (some ⟨b, f + i.toNat * sz, none⟩), ?_, .ptr _ _ hb⟩
    simp [execOp, ho, hv, h2, Instr.indexAt, Instr.sureAddr, asIntOf, run_underlying hu, h0, h1, sizeOf, typeInfo, hj, hjs, add_none]
/-- The same, where the number is a literal or known to be its place. -/
theorem o_idxPN {t el : TypeId} {x y : Operand} {k f len sz m : Nat} {kd : IntKind} {i : Int} {e : TE} (hL : LayOk P L = true) (ho : o.op = .indexAddr t x y) (hw : wantA ops o n s = some true) (hx : evA G n s x = some (.pointer (some ⟨k, f, none⟩))) (hy : evA G n s y = some (.int kd i))
    (ht : lkT L t = some e) (hs : e.arr = some (len, el, sz)) (hi : i = (m : Int)) (h1 : m < len) : OPJ P G ops o (mkT n s) h [] [] (some (.pointer (some ⟨k, f + m * sz, none⟩))) [] [] := by
  subst hi
  exact o_idxP hL ho hw hx hy ht hs (by omega) (by omega)
/-- An array as a slice. -/
theorem o_sliceA {t el : TypeId} {x : Operand} {k f len sz : Nat} {e : TE} (hL : LayOk P L = true) (ho : o.op = .slice t x none none none) (hw : wantA ops o n s = some true) (hx : evA G n s x = some (.pointer (some ⟨k, f, none⟩)))
    (ht : lkT L t = some e) (hs : e.arr = some (len, el, sz)) (hg : Nat.ble len 100000 = true) : OPJ P G ops o (mkT n s) h [] [] (some (.slice (some ⟨k, f, none⟩) len len)) [] [] :=
  OPJ.pure hw fun ρ w a _ er => by
    obtain ⟨hu, j, hj, hjs⟩ := (tfOf hL ht).arr len el sz hs
    obtain ⟨b, hb, hv⟩ := vr_ptr.1 (er.get (by simp [ho, Op.operands]) hx)
    have hg := Nat.le_of_ble_eq_true hg
    refine ⟨.slice (some ⟨b, f, none⟩) len len, ?_, .slice _ _ _ _ _ hb ⟨id, fun h => absurd h (by unfold grown; omega)⟩⟩
    simp [execOp, ho, hv, Instr.sliceAt, Instr.sureAddr, Instr.sliceBounds, run_underlying hu, sizeOf, typeInfo, hj, hjs, add_none]
end
/-- The top of a law: blocks that may be written stand as they stood. -/
theorem Ctr.topR {P : Program} {G : Nat} {f : FuncId} {args : List Value} {cargs : Array Value} {b : Bool} {pre : H} {post : List AObj} {w : World} {ρ : Ren} (sim : Sim G ρ pre w) (c : Ctr P G f args pre (.bool b) post) (hp : post = pre.map (·.2))
    (hw : ∀ e ∈ pre, e.2.wr = true → ∃ x ty, e.2 = .cells [.string x] ty) (hv : VRL ρ args cargs.toList) : Calls P f cargs w fun e w' => e = .returned (.bool b) ∧ RowKit.Below w.heap.size w w' := by
  refine (c.run [] ρ w cargs sim hv (fun k hk => (by cases hk))).mono ?_
  rintro e w' ⟨v', ρ', rfl, hvr, sim', st, _⟩
  rw [vr_bool.1 hvr]
  refine ⟨rfl, st.os, st.tape, st.output, st.size, fun k hk => ?_⟩
  by_cases hx : ∃ e ∈ pre, e.2.wr = true ∧ ρ e.1 = some k
  · obtain ⟨e, he, hwr, hek⟩ := hx
    obtain ⟨x, ty, ho⟩ := hw e he hwr
    have he' : e ∈ wth pre post := by
      rw [hp]
      obtain ⟨i, hi, rfl⟩ := List.getElem_of_mem he
      have hl : (pre.map (·.2)).length = pre.length := by simp
      obtain ⟨o', ho', hw'⟩ := wth_get hl (List.getElem?_eq_getElem hi)
      rw [List.getElem?_map, List.getElem?_eq_getElem hi] at ho'
      cases ho'
      exact List.mem_of_getElem? hw'
    obtain ⟨b0, o0, h1, h2, h3⟩ := (sim.ent e he).2 (AObj.live_of_wr hwr)
    obtain ⟨b1, o1, g1, g2, g3⟩ := (sim'.ent e he').2 (AObj.live_of_wr hwr)
    have := st.ext.b _ _ hek
    rw [this] at g1
    rw [hek] at h1
    cases g1; cases h1
    rw [ho] at h3 g3
    obtain ⟨cs, hc, rfl⟩ := h3
    obtain ⟨ds, hd, rfl⟩ := g3
    have e1 : cs = [.string x] := by simpa using hc
    have e2 : ds = [.string x] := by simpa using hd
    rw [g2, h2, e1, e2]
  · exact st.keep k hk fun e he hwr hek => hx ⟨e, he, hwr, hek⟩
/-- What the top's memory says of the world. -/
theorem sim_top {G : Nat} {pre : H} {w : World} {ρ : Ren} (hdom : ∀ i b, ρ i = some b → b < w.heap.size) (ent : ∀ e ∈ pre, ER ρ w e) (nog : ∀ e ∈ pre, e.2 ≠ .gone)
    (wrs : ∀ (i j : Nat) (e e' : Nat × AObj), i ≠ j → pre[i]? = some e → pre[j]? = some e' → e.2.wr = true ∨ e'.2.wr = true → ρ e.1 ≠ ρ e'.1) (glob : ∀ g, g < G → ρ g = some g) (fin : ∃ N, ∀ i, N ≤ i → ρ i = none) : Sim G ρ pre w :=
  ⟨hdom, ent, fun i j e e' hij hi hj _ _ => ⟨wrs i j e e' hij hi hj, fun h => by
    rcases h with h | h
    · exact absurd h (nog e (List.mem_of_getElem? hi))
    · exact absurd h (nog e' (List.mem_of_getElem? hj))⟩, glob, fin⟩
end Go.Proofs.YtlhhcongoplfpaaDoorAB
