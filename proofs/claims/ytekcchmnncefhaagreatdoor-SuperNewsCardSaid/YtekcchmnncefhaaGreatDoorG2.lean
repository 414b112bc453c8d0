/- What functions of this program do, each as a contract that its callers use, and what follows of it in plain numbers.
   By an AI agent. -/
import Derived.Test.YtekcchmnncefhaaGreatDoorG1
/-! A slice made anew. -/
namespace Go.Proofs.YtekcchmnncefhaaGreatDoorAB
open Go
set_option linter.unusedVariables false
set_option linter.unusedSimpArgs false
section
variable {P : Program} {G : Nat} {L : Lay} {ops : Array Oper} {o : Oper} {n : Nat} {s : As} {h : H}
theorem rowZ_eq (z : List Value) (sz : Nat) (hz : z.length = sz) (hpos : 0 < sz) : ∀ m : Nat, ((List.range (m * sz)).map (fun i => z.toArray[i % sz]!)) = rowZ z m
  | 0 => by simp [rowZ]
  | m + 1 => by
    rw [rowZ, ← rowZ_eq z sz hz hpos m, Nat.succ_mul, Nat.add_comm (m * sz) sz, List.range_add, List.map_append, List.map_map]
    congr 1
    · refine List.ext_getElem? fun i => ?_
      rw [List.getElem?_map]
      by_cases hi : i < sz
      · rw [List.getElem?_range hi]
        simp [Nat.mod_eq_of_lt hi]
        rw [List.getElem?_eq_getElem (show i < z.length by omega)]; rfl
      · rw [List.getElem?_eq_none (by simpa using hi)]
        simp
        omega
    · refine List.map_congr_left fun i _ => ?_
      simp
theorem o_makeS {t el : TypeId} {x y : Operand} {m sz j k : Nat} {kd kd2 : IntKind} {i i2 : Int} {e ee : TE} (hL : LayOk P L = true) (ho : o.op = .makeSlice t x y) (hw : wantA ops o n s = some true) (hx : evA G n s x = some (.int kd i)) (hy : evA G n s y = some (.int kd2 i2))
    (ht : lkT L t = some e) (hs : e.sl = some (el, sz)) (hel : lkT L el = some ee) (hsz : ee.size = sz) (hi : i = (m : Int)) (hi2 : i2 = (m : Int)) (hb : ee.bytes ≤ 1048576) (hm : m ≤ 1024) (hz : Nat.ble 1 sz = true) (hl : h[j]? = some (k, .gone)) :
    OPJ P G ops o (mkT n s) h [j] [(j, .cells (rowZ ee.zero m) el)] (some (.slice (some ⟨k, 0, none⟩) m m)) [(k, .gone)] [.cells (rowZ ee.zero m) el] :=
  OPJ.of hw (fits_one hl) rfl (fun _ _ => rfl) (fun u hu => by simp at hu; simp [hu]) fun ρ w a R sim er fr => by
    obtain ⟨hu, i0, hi0, his0⟩ := (tfOf hL ht).sl el sz hs
    have tf := tfOf hL hel
    obtain ⟨q, hq, hqs, hqb, z, hzz, hzc⟩ := tf.size
    have hz1 := Nat.le_of_ble_eq_true hz
    have h1 := vr_int.1 (er.get (by simp [ho, Op.operands]) hx)
    have h2 := vr_int.1 (er.get (by simp [ho, Op.operands]) hy)
    subst hi hi2
    obtain ⟨z', hzr, hzc'⟩ := run_zeroT tf w
    have hzlen : z'.cells.size = sz := by have := tf.len; rw [← hzc', hsz] at this; simpa using this
    have hrow : ((Array.range (m * sz)).map (z'.cells[· % z'.cells.size]!)).toList = rowZ ee.zero m := by
      rw [← hzc', hzlen]
      have := rowZ_eq z'.cells.toList sz (by simpa using hzlen) (by omega) m
      simpa using this
    have hwm : IntKind.i64.wrap (m : Int) = (m : Int) := by rw [IntKind.wrap_i64]; omega
    have hty : (typeInfo el).run P w = .ok q w := by simp [typeInfo, hq]
    have hsize : (sizeOf el).run P w = .ok sz w := by simp [sizeOf, typeInfo, hi0, his0]
    have hbm : ee.bytes * m ≤ 1048576 * 1024 := Nat.mul_le_mul hb hm
    refine wp_value (v := .slice (some ⟨w.heap.size, 0, none⟩) m m) (w1 := { w with heap := w.heap.push (.cells ⟨rowZ ee.zero m⟩ el) }) ?_ ?_
    · unfold execOp
      simp only [ho, Instr.makeSlice, Sem.run_bind, run_underlying hu, Result.andThen_ok, hsize, h1, h2, asInt, asIntOf, Sem.run_pure, hty, hqb, hwm]
      have c0 : ¬ ((decide ((m : Int) < 0) || decide (((ee.bytes : Nat) : Int) * (m : Int) > 2 ^ 48) || decide ((m : Int) < 0) || decide ((m : Int) > (m : Int))) = true) := by
        have hbi := Int.ofNat_le.2 hbm
        rw [Int.natCast_mul, show (((1048576 * 1024 : Nat)) : Int) = 1073741824 from by decide] at hbi
        simp only [Bool.or_eq_true, decide_eq_true_eq]
        omega
      rw [if_neg c0]
      have hroom : ¬ (m * ee.bytes > roomBytes) := by
        rw [Nat.mul_comm]; unfold roomBytes; omega
      simp only [Sem.run_bind, askRoom, Int.toNat_natCast]
      rw [if_neg hroom]
      simp only [Sem.run_pure, Result.andThen_ok, hsize]
      by_cases hm0 : m * sz = 0
      · rw [if_pos hm0]
        have m0 : m = 0 := by rcases Nat.mul_eq_zero.1 hm0 with h | h <;> omega
        subst m0
        have e0 : ∀ f : Nat → Value, Array.map f (Array.range 0) = ⟨[]⟩ := fun f => by apply Array.ext'; simp
        simp [newRow, run_newObj, rowZ, Instr.makeSlice]
        rw [e0]
      · rw [if_neg hm0]
        simp only [Sem.run_bind, hzr, Result.andThen_ok, Sem.run_pure, newRow, run_newObj]
        have : (Array.range (m * sz)).map (fun x => z'.cells[x % z'.cells.size]!) = ⟨rowZ ee.zero m⟩ := by
          rw [← hrow]
        rw [this]
    · refine lv_new 0 sim rfl (fun ρ' he _ _ => ⟨rowZ ee.zero m, ?_, rfl⟩) (fun ρ' _ hk _ => .slice _ none _ _ _ hk ⟨id, fun hx => by
        have h2 : m = 1180591620717411303424 := hx
        omega⟩) fr
      have hf := tf.flat
      have rep : ∀ m, VRL ρ' (rowZ ee.zero m) (rowZ ee.zero m) := by
        intro m
        induction m with
        | zero => exact .nil
        | succ m ih => exact (flatL_vr hf).append ih
      exact rep m
variable {pc : Nat} {draw : Bool} {acc : List (List Nat × List Nat)} {KK : As → H → Prop}
theorem q_makeS {t el : TypeId} {x y : Operand} {m sz j k : Nat} {kd kd2 : IntKind} {i i2 : Int} {e ee : TE} (hL : LayOk P L = true) (hx : evA G n s x = some (.int kd i)) (hy : evA G n s y = some (.int kd2 i2))
    (ht : lkT L t = some e) (hs : e.sl = some (el, sz)) (hel : lkT L el = some ee) (hsz : ee.size = sz) (hi : i = (m : Int)) (hi2 : i2 = (m : Int)) (hb : ee.bytes ≤ 1048576) (hm : m ≤ 1024) (hz : Nat.ble 1 sz = true) (hl : h[j]? = some (k, .gone))
    {dd : Nat} {hx' : H} (hux : updO h [(j, .cells (rowZ ee.zero m) el)] = some hx') (kk : RK P G ops draw n (pc + 1) ((dd, (some (.slice (some ⟨k, 0, none⟩) m m))) :: s) hx' (acc ++ [([j], ([(j, .cells (rowZ ee.zero m) el)] : List (Nat × AObj)).map (·.1))]) KK) : RKq P G ops draw n pc s h acc KK o (some dd) (.makeSlice t x y) := by
  unfold RKq
  exact fun hd_ ho hw hi_ => RK.val hi_ hd_ (o_makeS hL ho hw hx hy ht hs hel hsz hi hi2 hb hm hz hl) hux kk
end
end Go.Proofs.YtekcchmnncefhaaGreatDoorAB
/-! A slice made with room and no element. -/
namespace Go.Proofs.YtekcchmnncefhaaGreatDoorAB
open Go
set_option linter.unusedVariables false
set_option linter.unusedSimpArgs false
section
variable {P : Program} {G : Nat} {L : Lay} {ops : Array Oper} {o : Oper} {n : Nat} {s : As} {h : H}
theorem o_makeR {t el : TypeId} {x y : Operand} {m sz j k : Nat} {kd kd2 : IntKind} {i i2 : Int} {e ee : TE} (hL : LayOk P L = true) (ho : o.op = .makeSlice t x y) (hw : wantA ops o n s = some true) (hx : evA G n s x = some (.int kd i)) (hy : evA G n s y = some (.int kd2 i2))
    (ht : lkT L t = some e) (hs : e.sl = some (el, sz)) (hel : lkT L el = some ee) (hsz : ee.size = sz) (hi : i = ((0 : Nat) : Int)) (hi2 : i2 = (m : Int)) (hb : ee.bytes ≤ 1048576) (hm : m ≤ 1024) (hz : Nat.ble 1 sz = true) (hl : h[j]? = some (k, .gone)) :
    OPJ P G ops o (mkT n s) h [j] [(j, .row [] el sz)] (some (.slice (some ⟨k, 0, none⟩) 0 grown)) [(k, .gone)] [.row [] el sz] :=
  OPJ.of hw (fits_one hl) rfl (fun _ _ => rfl) (fun u hu => by simp at hu; simp [hu]) fun ρ w a R sim er fr => by
    obtain ⟨hu, i0, hi0, his0⟩ := (tfOf hL ht).sl el sz hs
    have tf := tfOf hL hel
    obtain ⟨q, hq, hqs, hqb, z, hzz, hzc⟩ := tf.size
    have hz1 := Nat.le_of_ble_eq_true hz
    have h1 := vr_int.1 (er.get (by simp [ho, Op.operands]) hx)
    have h2 := vr_int.1 (er.get (by simp [ho, Op.operands]) hy)
    subst hi hi2
    obtain ⟨z', hzr, hzc'⟩ := run_zeroT tf w
    have hzlen : z'.cells.size = sz := by have := tf.len; rw [← hzc', hsz] at this; simpa using this
    have hrow : ((Array.range (m * sz)).map (z'.cells[· % z'.cells.size]!)).toList = rowZ ee.zero m := by
      rw [← hzc', hzlen]
      have := rowZ_eq z'.cells.toList sz (by simpa using hzlen) (by omega) m
      simpa using this
    have hlen : (rowZ ee.zero m).length = m * sz := by rw [← hrow]; simp
    have hwm : IntKind.i64.wrap (m : Int) = (m : Int) := by rw [IntKind.wrap_i64]; omega
    have hw0 : IntKind.i64.wrap ((0 : Nat) : Int) = 0 := by decide
    have hty : (typeInfo el).run P w = .ok q w := by simp [typeInfo, hq]
    have hsize : (sizeOf el).run P w = .ok sz w := by simp [sizeOf, typeInfo, hi0, his0]
    have hbm : ee.bytes * m ≤ 1048576 * 1024 := Nat.mul_le_mul hb hm
    refine wp_value (v := .slice (some ⟨w.heap.size, 0, none⟩) 0 m) (w1 := { w with heap := w.heap.push (.cells ⟨rowZ ee.zero m⟩ el) }) ?_ ?_
    · unfold execOp
      simp only [ho, Instr.makeSlice, Sem.run_bind, run_underlying hu, Result.andThen_ok, hsize, h1, h2, asInt, asIntOf, Sem.run_pure, hty, hqb, hwm, hw0]
      have z0 : ((0 : Nat) : Int) = 0 := rfl
      simp only [z0, Int.mul_zero]
      rw [if_neg (by simp only [Bool.or_eq_true, decide_eq_true_eq]; omega)]
      have hroom : ¬ (m * ee.bytes > roomBytes) := by
        rw [Nat.mul_comm]; unfold roomBytes; omega
      simp only [Sem.run_bind, askRoom, Int.toNat_natCast]
      rw [if_neg hroom]
      simp only [Sem.run_pure, Result.andThen_ok, hsize]
      by_cases hm0 : m * sz = 0
      · rw [if_pos hm0]
        have m0 : m = 0 := by rcases Nat.mul_eq_zero.1 hm0 with h | h <;> omega
        subst m0
        have e0 : ∀ f : Nat → Value, Array.map f (Array.range 0) = ⟨[]⟩ := fun f => by apply Array.ext'; simp
        simp [newRow, run_newObj, rowZ, Instr.makeSlice]
        rw [e0]
      · rw [if_neg hm0]
        simp only [Sem.run_bind, hzr, Result.andThen_ok, Sem.run_pure, newRow, run_newObj]
        have : (Array.range (m * sz)).map (fun x => z'.cells[x % z'.cells.size]!) = ⟨rowZ ee.zero m⟩ := by
          rw [← hrow]
        rw [this]
        rfl
    · refine lv_new m sim rfl (fun ρ' he _ hc => ⟨[], rowZ ee.zero m, .nil, by rw [hc, List.nil_append, hlen], rfl⟩) (fun ρ' _ hk hc => .slice _ none _ _ _ hk ⟨fun _ => Nat.zero_le _, fun _ => hc.symm⟩) fr
variable {pc : Nat} {draw : Bool} {acc : List (List Nat × List Nat)} {KK : As → H → Prop}
theorem q_makeR {t el : TypeId} {x y : Operand} {m sz j k : Nat} {kd kd2 : IntKind} {i i2 : Int} {e ee : TE} (hL : LayOk P L = true) (hx : evA G n s x = some (.int kd i)) (hy : evA G n s y = some (.int kd2 i2))
    (ht : lkT L t = some e) (hs : e.sl = some (el, sz)) (hel : lkT L el = some ee) (hsz : ee.size = sz) (hi : i = ((0 : Nat) : Int)) (hi2 : i2 = (m : Int)) (hb : ee.bytes ≤ 1048576) (hm : m ≤ 1024) (hz : Nat.ble 1 sz = true) (hl : h[j]? = some (k, .gone))
    {dd : Nat} {hx' : H} (hux : updO h [(j, .row [] el sz)] = some hx') (kk : RK P G ops draw n (pc + 1) ((dd, (some (.slice (some ⟨k, 0, none⟩) 0 grown))) :: s) hx' (acc ++ [([j], ([(j, .row [] el sz)] : List (Nat × AObj)).map (·.1))]) KK) : RKq P G ops draw n pc s h acc KK o (some dd) (.makeSlice t x y) := by
  unfold RKq
  exact fun hd_ ho hw hi_ => RK.val hi_ hd_ (o_makeR hL ho hw hx hy ht hs hel hsz hi hi2 hb hm hz hl) hux kk
end
end Go.Proofs.YtekcchmnncefhaaGreatDoorAB
/-! A record in an array. -/
namespace Go.Proofs.YtekcchmnncefhaaGreatDoorAB
open Go
set_option linter.unusedVariables false
set_option linter.unusedSimpArgs false
section
variable {P : Program} {G : Nat} {L : Lay} {ops : Array Oper} {o : Oper} {n : Nat} {s : As} {h : H}
theorem o_indexr {t el : TypeId} {x y : Operand} {len sz : Nat} {xs : Array Value} {vs : List Value} {e ea : TE} {kd : IntKind} {i : Int} (hL : LayOk P L = true) (ho : o.op = .index t x y) (hw : wantA ops o n s = some true) (hx : evA G n s x = some (.agg xs)) (hy : evA G n s y = some (.int kd i))
    (hta : lkT L t = some ea) (harr : ea.arr = some (len, el, sz)) (ht : lkT L el = some e) (ha : e.agg = true) (h0 : 0 ≤ i) (h1 : i < len) (hv : (xs.toList.drop (i.toNat * sz)).take e.size = vs) : OPJ P G ops o (mkT n s) h [] [] (some (.agg ⟨vs⟩)) [] [] :=
  OPJ.pure hw fun ρ w a _ er => by
    obtain ⟨ys, hl, hx1⟩ := vr_agg.1 (er.get (by simp [ho, Op.operands]) hx)
    have hy1 := vr_int.1 (er.get (by simp [ho, Op.operands]) hy)
    obtain ⟨hu, j, hj, hjs⟩ := (tfOf hL hta).arr _ _ _ harr
    subst hv
    have hsz : (sizeOf el).run P w = .ok sz w := by simp [sizeOf, typeInfo, hj, hjs]
    refine ⟨_, ?_, vr_extract (i := i.toNat * sz) (m := e.size) hl⟩
    simp [execOp, ho, hx1, hy1, Instr.index, run_underlying hu, asIntOf, h0, h1, hsz, run_partr (tfOf hL ht) ha]
variable {pc : Nat} {draw : Bool} {acc : List (List Nat × List Nat)} {KK : As → H → Prop}
theorem q_indexr {t el : TypeId} {x y : Operand} {len sz : Nat} {xs : Array Value} {vs : List Value} {e ea : TE} {kd : IntKind} {i : Int} (hL : LayOk P L = true) (hx : evA G n s x = some (.agg xs)) (hy : evA G n s y = some (.int kd i))
    (hta : lkT L t = some ea) (harr : ea.arr = some (len, el, sz)) (ht : lkT L el = some e) (ha : e.agg = true) (h0 : 0 ≤ i) (h1 : i < len) (hv : (xs.toList.drop (i.toNat * sz)).take e.size = vs)
    {dd : Nat} (kk : RK P G ops draw n (pc + 1) ((dd, (some (.agg ⟨vs⟩))) :: s) h (acc ++ [([], [])]) KK) : RKq P G ops draw n pc s h acc KK o (some dd) (.index t x y) := by
  unfold RKq
  exact fun hd_ ho hw hi_ => RK.val hi_ hd_ (o_indexr hL ho hw hx hy hta harr ht ha h0 h1 hv) rfl kk
end
end Go.Proofs.YtekcchmnncefhaaGreatDoorAB
/-! A call of a function value that may write all that it is given. -/
namespace Go.Proofs.YtekcchmnncefhaaGreatDoorAB
open Go
set_option linter.unusedVariables false
set_option linter.unusedSimpArgs false
section
variable {P : Program} {G : Nat} {L : Lay} {ops : Array Oper} {o : Oper} {n : Nat} {s : As} {h : H}
theorem o_callWF {x : Operand} {f : FuncId} {as : Array Operand} {ts : Array TypeId} {args caps : List Value} {pre : H} {v : Value} {post : List AObj} {js : List Nat} {us : List (Nat × AObj)}
    (ho : o.op = .call { callee := .value x, args := as, argTypes := ts }) (hw : wantA ops o n s = some true) (hx : evA G n s x = some (.func (.func f) ⟨[]⟩ ⟨caps⟩)) (ha : evL G n s as.toList = some args) (sp : Ctr P G f (args ++ caps) pre v post) (fd : Fd h js pre) (nd : js.Nodup) (hu : us = js.zip post) : OPJ P G ops o (mkT n s) h js us (some v) pre post := by
  subst hu
  exact o_callF ho hw hx ha sp ⟨nd, fd.at_⟩ (fun _ _ => rfl) (fun u hu => zip_fst (a := u.1) (b := u.2) hu)
variable {pc : Nat} {draw : Bool} {acc : List (List Nat × List Nat)} {KK : As → H → Prop}
theorem q_callWF {x : Operand} {f : FuncId} {as : Array Operand} {ts : Array TypeId} {args caps : List Value} {pre : H} {v : Value} {post : List AObj} {js : List Nat} {us : List (Nat × AObj)}
    (hx : evA G n s x = some (.func (.func f) ⟨[]⟩ ⟨caps⟩)) (ha : evL G n s as.toList = some args) (sp : Ctr P G f (args ++ caps) pre v post) (fd : Fd h js pre) (nd : js.Nodup) (hu : us = js.zip post) {dd : Nat} {hx' : H} (hux : updO h us = some hx') (kk : RK P G ops draw n (pc + 1) ((dd, (some v)) :: s) hx' (acc ++ [(js, (us : List (Nat × AObj)).map (·.1))]) KK) : RKq P G ops draw n pc s h acc KK o (some dd) (.call { callee := .value x, args := as, argTypes := ts }) := by
  unfold RKq
  exact fun hd_ ho hw hi_ => RK.val hi_ hd_ (o_callWF ho hw hx ha sp fd nd hu) hux kk
end
end Go.Proofs.YtekcchmnncefhaaGreatDoorAB
/-! A contract, without the names of the blocks that nobody asks for. -/
namespace Go.Proofs.YtekcchmnncefhaaGreatDoorAB
open Go
set_option linter.unusedVariables false
set_option linter.unusedSimpArgs false
/-- So many names that are not used yet. -/
def gonesK (ks : Nat → Nat) (m : Nat) : H := (List.range m).map fun i => (ks i, AObj.gone)
theorem gonesK_get {ks : Nat → Nat} {m i : Nat} {e : Nat × AObj} (h : (gonesK ks m)[i]? = some e) : i < m ∧ e = (ks i, .gone) := by
  unfold gonesK at h
  rw [List.getElem?_map] at h
  by_cases hi : i < m
  · rw [List.getElem?_range hi] at h
    simp at h
    exact ⟨hi, h.symm⟩
  · rw [List.getElem?_eq_none (by simpa using hi)] at h
    cases h
theorem le_foldl (l : List Nat) : ∀ (a : Nat), a ≤ l.foldl max a ∧ ∀ x ∈ l, x ≤ l.foldl max a := by
  induction l with
  | nil => intro a; exact ⟨Nat.le_refl _, fun x h => by cases h⟩
  | cons y l ih =>
    intro a
    obtain ⟨h1, h2⟩ := ih (max a y)
    refine ⟨Nat.le_trans (Nat.le_max_left _ _) h1, fun x hx => ?_⟩
    rcases List.mem_cons.1 hx with rfl | hx
    · exact Nat.le_trans (Nat.le_max_right _ _) h1
    · exact h2 x hx
theorem wth_app {pre pre2 : H} {post post2 : List AObj} (hl : post.length = pre.length) : wth (pre ++ pre2) (post ++ post2) = wth pre post ++ wth pre2 post2 := by
  unfold wth
  rw [List.zip_append hl.symm, List.map_append]
theorem Ctr.hide {P : Program} {G : Nat} {f : FuncId} {args : List Value} {pre : H} {v : Value} {post : List AObj} (m : Nat) (hl : post.length = pre.length) (obs : (Nat → Nat) → List AObj) (c : ∀ ks : Nat → Nat, Ctr P G f args (pre ++ gonesK ks m) v (post ++ obs ks)) : Ctr P G f args pre v post := by
  refine ⟨(c id).ent, hl, fun R ρ w cargs sim hv fr => ?_⟩
  obtain ⟨N, hN⟩ := sim.fin
  obtain ⟨K, hK⟩ : ∃ K : Nat, N ≤ K ∧ (∀ x ∈ R, x < K) ∧ ∀ e ∈ pre, e.1 < K := by
    have h1 := le_foldl R N
    have h2 := le_foldl (pre.map (·.1)) (R.foldl max N)
    refine ⟨(pre.map (·.1)).foldl max (R.foldl max N) + 1, by omega, fun x hx => ?_, fun e he => ?_⟩
    · have := h1.2 x hx; omega
    · have := h2.2 e.1 (List.mem_map.2 ⟨e, he, rfl⟩); omega
  obtain ⟨k1, k2, k3⟩ := hK
  have none_ : ∀ i, ρ (K + i) = none := fun i => hN _ (by omega)
  have gmem : ∀ e, e ∈ gonesK (K + ·) m → ∃ i, i < m ∧ e = (K + i, .gone) := fun e he => by
    obtain ⟨i, hi⟩ := List.mem_iff_getElem?.1 he
    obtain ⟨h1, h2⟩ := gonesK_get hi
    exact ⟨i, h1, h2⟩
  have wrlive : ∀ e ∈ pre, e.2.wr = true → ∃ b, ρ e.1 = some b := fun e he hw => by
    obtain ⟨b, _, h, _⟩ := (sim.ent e he).2 (AObj.live_of_wr hw)
    exact ⟨b, h⟩
  have sim2 : Sim G ρ (pre ++ gonesK (K + ·) m) w := by
    refine ⟨sim.dom, fun e he => ?_, fun i j e e' hij hi hj => ?_, sim.glob, sim.fin⟩
    · rcases List.mem_append.1 he with h | h
      · exact sim.ent e h
      · obtain ⟨i, _, rfl⟩ := gmem e h
        exact ⟨fun _ => none_ i, fun hx => by cases hx⟩
    · have one : ∀ (e g : Nat × AObj), e ∈ pre → g ∈ gonesK (K + ·) m → Sep ρ e g := fun e g he hg => by
        obtain ⟨i, _, rfl⟩ := gmem g hg
        intro _ _
        refine ⟨fun hx => ?_, fun _ => ?_⟩
        · rcases hx with hx | hx
          · obtain ⟨b, hb⟩ := wrlive e he hx
            show ρ e.1 ≠ ρ (K + i)
            rw [hb, none_ i]; simp
          · cases hx
        · have := k3 e he
          show e.1 ≠ K + i
          omega
      by_cases hip : i < pre.length
      · rw [List.getElem?_append_left hip] at hi
        by_cases hjp : j < pre.length
        · rw [List.getElem?_append_left hjp] at hj
          exact sim.sep i j e e' hij hi hj
        · rw [List.getElem?_append_right (by omega)] at hj
          exact one e e' (List.mem_of_getElem? hi) (List.mem_of_getElem? hj)
      · rw [List.getElem?_append_right (by omega)] at hi
        by_cases hjp : j < pre.length
        · rw [List.getElem?_append_left hjp] at hj
          exact (one e' e (List.mem_of_getElem? hj) (List.mem_of_getElem? hi)).symm
        · rw [List.getElem?_append_right (by omega)] at hj
          obtain ⟨_, rfl⟩ := gonesK_get hi
          obtain ⟨_, rfl⟩ := gonesK_get hj
          intro _ _
          refine ⟨fun hx => ?_, fun _ => ?_⟩
          · rcases hx with hx | hx <;> cases hx
          · show K + (i - pre.length) ≠ K + (j - pre.length)
            omega
  have fr2 : Free ρ (pre ++ gonesK (K + ·) m) R := fun k hk => ⟨(fr k hk).1, fun e he hg => by
    rcases List.mem_append.1 he with h | h
    · exact (fr k hk).2 e h hg
    · obtain ⟨i, _, rfl⟩ := gmem e h
      have := k2 k hk
      show K + i ≠ k
      omega⟩
  refine ((c (K + ·)).run R ρ w cargs sim2 hv fr2).mono fun e w' ⟨v', ρ', he', hvr, sim', st', fr'⟩ => ?_
  rw [wth_app hl] at sim' st'
  have hlen : (wth pre post).length = pre.length := by unfold wth; simp [hl]
  refine ⟨v', ρ', he', hvr, ⟨sim'.dom, fun e he => sim'.ent e (List.mem_append_left _ he), fun i j e e' hij hi hj => ?_, sim'.glob, sim'.fin⟩, ⟨st'.ext, fun k b h0 h1 => ?_, st'.size, st'.os, st'.tape, st'.output, fun b hb hk => st'.keep b hb fun e he hw => ?_, fun e' he' hlv b hb => ?_, fun e' he' hg => ?_⟩, fr'⟩
  · have hi2 := (List.getElem?_eq_some_iff.1 hi).1
    have hj2 := (List.getElem?_eq_some_iff.1 hj).1
    exact sim'.sep i j e e' hij (by rw [List.getElem?_append_left hi2]; exact hi) (by rw [List.getElem?_append_left hj2]; exact hj)
  · rcases st'.new k b h0 h1 with h | ⟨e, he, hw, hb⟩
    · exact .inl h
    · rcases List.mem_append.1 he with h | h
      · exact .inr ⟨e, h, hw, hb⟩
      · obtain ⟨i, _, rfl⟩ := gmem e h
        cases hw
  · rcases List.mem_append.1 he with h | h
    · exact hk e h hw
    · obtain ⟨i, _, rfl⟩ := gmem e h
      cases hw
  · rcases st'.der e' (List.mem_append_left _ he') hlv b hb with h | ⟨e, he, hl1, hw, hb2⟩
    · exact .inl h
    · rcases List.mem_append.1 he with h | h
      · exact .inr ⟨e, h, hl1, hw, hb2⟩
      · obtain ⟨i, _, rfl⟩ := gmem e h
        cases hl1
  · rcases List.mem_append.1 (st'.gon e' (List.mem_append_left _ he') hg) with h | h
    · exact h
    · obtain ⟨i, _, rfl⟩ := gmem e' h
      exfalso
      obtain ⟨j, hj⟩ := List.mem_iff_getElem?.1 he'
      have hj2 := (List.getElem?_eq_some_iff.1 hj).1
      rw [hlen] at hj2
      obtain ⟨o, _, h2⟩ := wth_get hl (List.getElem?_eq_getElem hj2)
      rw [hj] at h2
      have h3 := k3 _ (List.getElem_mem hj2)
      have h4 : K + i = (pre[j]'hj2).1 := congrArg Prod.fst (Option.some.inj h2)
      omega
end Go.Proofs.YtekcchmnncefhaaGreatDoorAB
/-! A slice of some elements, made, that may grow. -/
namespace Go.Proofs.YtekcchmnncefhaaGreatDoorAB
open Go
set_option linter.unusedVariables false
set_option linter.unusedSimpArgs false
section
variable {P : Program} {G : Nat} {L : Lay} {ops : Array Oper} {o : Oper} {n : Nat} {s : As} {h : H}
theorem o_buildR {t el : TypeId} {m sz j k : Nat} {parts : Array (Nat × Operand)} {ps : List (Nat × Value)} {r : List Value} {e ee : TE} (hL : LayOk P L = true) (ho : o.op = .buildSlice t m parts) (hw : wantA ops o n s = some true) (hp : evP G n s parts.toList = some ps)
    (ht : lkT L t = some e) (hs : e.sl = some (el, sz)) (hel : lkT L el = some ee) (hsz : ee.size = sz) (hm : Nat.ble (m * sz) 16777216 = true) (hz : Nat.ble 1 (m * sz) = true) (hr : fillO (fun i => some (i * sz, sz)) (rowZ ee.zero m) ps = some r) (hlr : r.length = m * sz) (hl : h[j]? = some (k, .gone)) :
    OPJ P G ops o (mkT n s) h [j] [(j, .row r el sz)] (some (.slice (some ⟨k, 0, none⟩) m grown)) [(k, .gone)] [.row r el sz] :=
  OPJ.of hw (fits_one hl) rfl (fun _ _ => rfl) (fun u hu => by simp at hu; simp [hu]) fun ρ w a R sim er fr => by
    obtain ⟨hu, i, hi, his⟩ := (tfOf hL ht).sl el sz hs
    have tf := tfOf hL hel
    have hm := Nat.le_of_ble_eq_true hm
    have hz1 := Nat.le_of_ble_eq_true hz
    have hvp := evP_vr er (fun x hx => by simp only [ho, Op.operands]; exact List.mem_toArray.2 (List.mem_map.2 ⟨x, hx, rfl⟩)) hp
    obtain ⟨z, hzr, hzc⟩ := run_zeroT tf w
    have hzlen : z.cells.size = sz := by have := tf.len; rw [← hzc, hsz] at this; simpa using this
    have hrow : ((Array.range (m * sz)).map (z.cells[· % z.cells.size]!)).toList = rowZ ee.zero m := by
      rw [← hzc, hzlen]
      have hpos : 0 < sz := by rcases Nat.eq_zero_or_pos sz with h | h; (rw [h] at hz1; simp at hz1); exact h
      have gen : ∀ m : Nat, ((List.range (m * sz)).map (z.cells[· % sz]!)) = rowZ z.cells.toList m := by
        intro m
        induction m with
        | zero => simp [rowZ]
        | succ m ih =>
          rw [rowZ, ← ih, Nat.succ_mul, Nat.add_comm (m * sz) sz, List.range_add, List.map_append, List.map_map]
          congr 1
          · refine List.ext_getElem? fun i => ?_
            rw [List.getElem?_map]
            by_cases hi : i < sz
            · rw [List.getElem?_range hi]
              simp [Nat.mod_eq_of_lt hi]
              rw [getElem!_pos z.cells i (by omega)]
              exact (Array.getElem?_eq_getElem (by omega)).symm
            · rw [List.getElem?_eq_none (by simpa using hi)]
              simp
              omega
          · refine List.map_congr_left fun i _ => ?_
            simp
      simpa using gen m
    obtain ⟨r', hr', hrv⟩ := fill_rel (l' := (Array.range (m * sz)).map (z.cells[· % z.cells.size]!)) hvp (by rw [hrow]; have hf := tf.flat; clear hr hrow; induction m with
      | zero => exact .nil
      | succ m ih => exact (flatL_vr hf).append (by
          have : ∀ m, VRL ρ (rowZ ee.zero m) (rowZ ee.zero m) := by
            intro m
            induction m with
            | zero => exact .nil
            | succ m ih => exact (flatL_vr hf).append ih
          exact this m)) hr
    refine wp_value (v := .slice (some ⟨w.heap.size, 0, none⟩) m m) (w1 := { w with heap := w.heap.push (.cells ⟨r'⟩ el) }) ?_ ?_
    · have h0 : m * sz ≠ 0 := by omega
      have h24 : ¬ (16777216 < m * sz) := by omega
      have hsize : (sizeOf el).run P w = .ok sz w := by simp [sizeOf, typeInfo, hi, his]
      have hpl : (parts.map fun (i, x) => (i, a.eval x)).toList = parts.toList.map fun (i, x) => (i, a.eval x) := by simp
      unfold execOp
      simp only [ho, Instr.buildSlice, Sem.run_bind, run_underlying hu, Result.andThen_ok, hsize, Sem.run_ite, Sem.run_pure]
      simp only [h0, if_false, Sem.run_bind, hzr, Result.andThen_ok, Sem.run_pure]
      rw [if_neg (by simpa using h24)]
      simp only [Sem.run_pure, Result.andThen_ok, hpl, hr', newRow, Sem.run_bind, run_newObj]
    · have hlen : r'.length = m * sz := by
        have h1 := hrv.length
        omega
      exact lv_new m sim rfl (fun ρ' he _ hc => ⟨r', [], hrv.mono he, by rw [hc, List.append_nil, hlen], by rw [List.append_nil]⟩) (fun ρ' _ hk hc => .slice _ none _ _ _ hk ⟨fun _ => Nat.le_refl _, fun _ => hc.symm⟩) fr
variable {pc : Nat} {draw : Bool} {acc : List (List Nat × List Nat)} {KK : As → H → Prop}
theorem q_buildR {t el : TypeId} {m sz j k : Nat} {parts : Array (Nat × Operand)} {ps : List (Nat × Value)} {r : List Value} {e ee : TE} (hL : LayOk P L = true) (hp : evP G n s parts.toList = some ps)
    (ht : lkT L t = some e) (hs : e.sl = some (el, sz)) (hel : lkT L el = some ee) (hsz : ee.size = sz) (hm : Nat.ble (m * sz) 16777216 = true) (hz : Nat.ble 1 (m * sz) = true) (hr : fillO (fun i => some (i * sz, sz)) (rowZ ee.zero m) ps = some r) (hlr : r.length = m * sz) (hl : h[j]? = some (k, .gone)) {dd : Nat} {hx' : H} (hux : updO h [(j, .row r el sz)] = some hx') (kk : RK P G ops draw n (pc + 1) ((dd, (some (.slice (some ⟨k, 0, none⟩) m grown))) :: s) hx' (acc ++ [([j], ([(j, .row r el sz)] : List (Nat × AObj)).map (·.1))]) KK) : RKq P G ops draw n pc s h acc KK o (some dd) (.buildSlice t m parts) := by
  unfold RKq
  exact fun hd_ ho hw hi_ => RK.val hi_ hd_ (o_buildR hL ho hw hp ht hs hel hsz hm hz hr hlr hl) hux kk
end
end Go.Proofs.YtekcchmnncefhaaGreatDoorAB
/-! Two pointers that are none. -/
namespace Go.Proofs.YtekcchmnncefhaaGreatDoorAB
open Go
set_option linter.unusedVariables false
set_option linter.unusedSimpArgs false
section
variable {P : Program} {G : Nat} {L : Lay} {ops : Array Oper} {o : Oper} {n : Nat} {s : As} {h : H}
theorem run_none_none {t e : TypeId} (hu : P.underlying t = some (.pointer e)) (w : World) : (Op.equal t (.pointer none) (.pointer none)).run P w = .ok true w := by
  show (Op.equalIn (9999 + 1) t (.pointer none) (.pointer none)).run P w = .ok true w
  rw [Op.equalIn]
  simp [run_underlying hu]
theorem o_pneq {t u : TypeId} {x y : Operand} (ho : o.op = .binOp .eql t x y u) (hw : wantA ops o n s = some true) (hp : isPtr P t = true) (hx : evA G n s x = some (.pointer none)) (hy : evA G n s y = some (.pointer none)) :
    OPJ P G ops o (mkT n s) h [] [] (some (.bool true)) [] [] :=
  OPJ.pure hw fun ρ w a _ er => by
    have h1 := vr_ptrNil.1 (er.get (by simp [ho, Op.operands]) hx)
    have h2 := vr_ptrNil.1 (er.get (by simp [ho, Op.operands]) hy)
    obtain ⟨e, hu⟩ := isPtr.get hp
    exact ⟨.bool true, by simp [execOp, ho, h1, h2, eqGuard, binOp, run_none_none hu], by simp⟩
theorem o_pnne {t u : TypeId} {x y : Operand} (ho : o.op = .binOp .neq t x y u) (hw : wantA ops o n s = some true) (hp : isPtr P t = true) (hx : evA G n s x = some (.pointer none)) (hy : evA G n s y = some (.pointer none)) :
    OPJ P G ops o (mkT n s) h [] [] (some (.bool false)) [] [] :=
  OPJ.pure hw fun ρ w a _ er => by
    have h1 := vr_ptrNil.1 (er.get (by simp [ho, Op.operands]) hx)
    have h2 := vr_ptrNil.1 (er.get (by simp [ho, Op.operands]) hy)
    obtain ⟨e, hu⟩ := isPtr.get hp
    exact ⟨.bool false, by simp [execOp, ho, h1, h2, eqGuard, binOp, run_none_none hu], by simp⟩
variable {pc : Nat} {draw : Bool} {acc : List (List Nat × List Nat)} {KK : As → H → Prop}
theorem q_pneq {t u : TypeId} {x y : Operand} (hp : isPtr P t = true) (hx : evA G n s x = some (.pointer none)) (hy : evA G n s y = some (.pointer none))
    {dd : Nat} (kk : RK P G ops draw n (pc + 1) ((dd, (some (.bool true))) :: s) h (acc ++ [([], [])]) KK) : RKq P G ops draw n pc s h acc KK o (some dd) (.binOp .eql t x y u) := by
  unfold RKq
  exact fun hd_ ho hw hi_ => RK.val hi_ hd_ (o_pneq ho hw hp hx hy) rfl kk
theorem q_pnne {t u : TypeId} {x y : Operand} (hp : isPtr P t = true) (hx : evA G n s x = some (.pointer none)) (hy : evA G n s y = some (.pointer none))
    {dd : Nat} (kk : RK P G ops draw n (pc + 1) ((dd, (some (.bool false))) :: s) h (acc ++ [([], [])]) KK) : RKq P G ops draw n pc s h acc KK o (some dd) (.binOp .neq t x y u) := by
  unfold RKq
  exact fun hd_ ho hw hi_ => RK.val hi_ hd_ (o_pnne ho hw hp hx hy) rfl kk
end
end Go.Proofs.YtekcchmnncefhaaGreatDoorAB
/-! Regions taken up to a number alone; a region with as many new names as are asked for, of which some are kept. -/
namespace Go.Proofs.YtekcchmnncefhaaGreatDoorAB
open Go
set_option linter.unusedVariables false
set_option linter.unusedSimpArgs false
section
variable {P : Program} {G : Nat} {ops : Array Oper} {n : Nat} {s : As} {h : H} {Q : Exit → T → H → Prop} {draw : Bool}
theorem WP.regL {id : Nat} (b : Nat) (hid : Nat.ble id b = true) (hm : P.follows .mixedOrders = true) (h0 : (Nat → Nat) → H) (hh : ∀ ks, extO ks h (cntA ops) = some (h0 ks))
    (k : ∀ ks : Nat → Nat, RK P G ops draw n 0 s (h0 ks) [] fun s' he => ∃ h1, cleanO h.length he = some h1 ∧ Q .normal (mkT n s') h1) : WP P G (.region id ops draw) (mkT n s) h Q := WP.reg hm h0 hh k
/-- What is kept, by a mask. -/
def pickM : List Bool → H → Option H
  | _, [] => some []
  | b :: bs, e :: h => match pickM bs h with
    | some r => match b with
      | true => some (e :: r)
      | false => some r
    | none => none
  | [], _ :: _ => none
/-- None of the new ones that are kept is unused. -/
def NG : List Bool → Nat → H → Prop
  | _ :: bs, n + 1, _ :: h => NG bs n h
  | true :: bs, 0, e :: h => e.2 ≠ .gone ∧ NG bs 0 h
  | false :: bs, 0, _ :: h => NG bs 0 h
  | _, _, _ => True
theorem pickM_eq : ∀ {bs : List Bool} {n : Nat} {h r : H}, pickM bs h = some r → NG bs n h → List.Sublist r h ∧ ∀ e ∈ r, e.2 = .gone → e ∈ h.take n
  | bs, n, [], r, h, _ => by cases bs <;> (simp [pickM] at h; subst h; exact ⟨.slnil, fun e he => by cases he⟩)
  | [], n, _ :: _, r, h, _ => by simp [pickM] at h
  | b :: bs, n, e :: l, r, h, g => by
    simp only [pickM] at h
    cases hc : pickM bs l with
    | none => rw [hc] at h; simp at h
    | some r' =>
      rw [hc] at h
      cases n with
      | succ n =>
        have g' : NG bs n l := by cases b <;> exact g
        obtain ⟨h1, h2⟩ := pickM_eq (n := n) hc g'
        cases b with
        | true =>
          simp at h; subst h
          refine ⟨h1.cons_cons _, fun x hx hg => ?_⟩
          rcases List.mem_cons.1 hx with rfl | hx
          · simp
          · simp only [List.take_succ_cons]; exact List.mem_cons_of_mem _ (h2 x hx hg)
        | false =>
          simp at h; subst h
          refine ⟨h1.cons _, fun x hx hg => ?_⟩
          simp only [List.take_succ_cons]; exact List.mem_cons_of_mem _ (h2 x hx hg)
      | zero =>
        cases b with
        | true =>
          have g' : e.2 ≠ .gone ∧ NG bs 0 l := g
          obtain ⟨h1, h2⟩ := pickM_eq (n := 0) hc g'.2
          simp at h; subst h
          refine ⟨h1.cons_cons _, fun x hx hg => ?_⟩
          rcases List.mem_cons.1 hx with rfl | hx
          · exact absurd hg g'.1
          · have := h2 x hx hg; simp at this
        | false =>
          have g' : NG bs 0 l := g
          obtain ⟨h1, h2⟩ := pickM_eq (n := 0) hc g'
          simp at h; subst h
          exact ⟨h1.cons _, fun x hx hg => by have := h2 x hx hg; simp at this⟩
theorem WP.regW {id : Nat} (m : Nat) (mask : List Bool) (hm : P.follows .mixedOrders = true) (h0 : (Nat → Nat) → H) (hh : ∀ ks, extO ks h m = some (h0 ks))
    (k : ∀ ks : Nat → Nat, RK P G ops draw n 0 s (h0 ks) [] fun s' he => ∃ h1, pickM mask he = some h1 ∧ NG mask h.length he ∧ Q .normal (mkT n s') h1) : WP P G (.region id ops draw) (mkT n s) h Q :=
  WP.region m hm fun ks => by
    rw [← extO_eq (hh ks)]
    have hk := k ks
    unfold RK at hk ⊢
    obtain ⟨recs, s', he, rg, hc, h1, hcl, hng, hq⟩ := hk
    exact ⟨recs, s', he, rg, hc, h1, (pickM_eq hcl hng).1, (pickM_eq hcl hng).2, hq⟩
end
end Go.Proofs.YtekcchmnncefhaaGreatDoorAB
/-! A contract over a greater memory, in any order. -/
namespace Go.Proofs.YtekcchmnncefhaaGreatDoorAB
open Go
set_option linter.unusedVariables false
set_option linter.unusedSimpArgs false
def goneAt (h : H) (js : List Nat) (i : Nat) : Option Nat := if i ∈ js then none else match h[i]? with
  | some (k, .gone) => some k
  | _ => none
theorem upd_names : ∀ (us : List (Nat × AObj)) (h : H), (upd h us).map (·.1) = h.map (·.1)
  | [], h => rfl
  | (j, o) :: us, h => by
    rw [upd, upd_names us]
    refine List.ext_getElem? fun i => ?_
    rw [List.getElem?_map, List.getElem?_map, List.getElem?_modify]
    cases h[i]? with
    | none => rfl
    | some e => by_cases hi : j = i <;> simp [hi]
theorem wth_self : ∀ {h post : H}, post.map (·.1) = h.map (·.1) → wth h (post.map (·.2)) = post
  | [], [], _ => rfl
  | e :: h, p :: post, hn => by
    simp only [List.map_cons, List.cons.injEq] at hn
    show (e.1, p.2) :: wth h (post.map (·.2)) = p :: post
    rw [wth_self hn.2, ← hn.1]
  | [], _ :: _, hn => by simp at hn
  | _ :: _, [], hn => by simp at hn
theorem Ctr.frame {P : Program} {G : Nat} {f : FuncId} {args : List Value} {pre : H} {v : Value} {post : List AObj} (c : Ctr P G f args pre v post) {h : H} {js : List Nat} (fd : Fd h js pre) (nd : js.Nodup) {post' : List AObj} (hp : post' = (upd h (js.zip post)).map (·.2)) : Ctr P G f args h v post' := by
  subst hp
  have fits : Fits h js pre := ⟨nd, fd.at_⟩
  have hnm := upd_names (js.zip post) h
  have hlen : ((upd h (js.zip post)).map (·.2)).length = h.length := by have := congrArg List.length hnm; simpa using this
  refine ⟨c.ent, hlen, fun R ρ w cargs sim hv fr => ?_⟩
  have gat : ∀ k, k ∈ (List.range h.length).filterMap (goneAt h js) → ∃ i, i ∉ js ∧ h[i]? = some (k, .gone) := fun k hk => by
    obtain ⟨i, hi, hg⟩ := List.mem_filterMap.1 hk
    unfold goneAt at hg
    split at hg
    · cases hg
    · rename_i hn
      split at hg
      · rename_i k' heq; cases hg; exact ⟨i, hn, heq⟩
      · cases hg
  have inpre : ∀ e ∈ pre, ∃ j, j ∈ js ∧ h[j]? = some e := fun e he => by
    obtain ⟨i, hi⟩ := List.mem_iff_getElem?.1 he
    have h1 : (js.map (h[·]?))[i]? = (pre.map some)[i]? := by rw [fits.at_]
    rw [List.getElem?_map, List.getElem?_map, hi] at h1
    cases hj : js[i]? with
    | none => rw [hj] at h1; simp at h1
    | some j => rw [hj] at h1; simp at h1; exact ⟨j, List.mem_of_getElem? hj, h1⟩
  have fr2 : Free ρ pre (R ++ (List.range h.length).filterMap (goneAt h js)) := fun k hk => by
    rcases List.mem_append.1 hk with hk | hk
    · exact ⟨(fr k hk).1, fun e he hg => by
        obtain ⟨j, _, hj⟩ := inpre e he
        exact (fr k hk).2 e (List.mem_of_getElem? hj) hg⟩
    · obtain ⟨i, hni, hi⟩ := gat k hk
      refine ⟨(sim.ent (k, .gone) (List.mem_of_getElem? hi)).1 rfl, fun e he hg => ?_⟩
      obtain ⟨j, hj, hje⟩ := inpre e he
      have hij : j ≠ i := fun x => hni (x ▸ hj)
      exact (sim.sep j i e (k, .gone) hij hje hi (by rw [hg]; simp) (by simp)).2 (.inl hg)
  refine (c.run _ ρ w cargs (sim.small fits) hv fr2).mono fun e' w' ⟨v', ρ', he', hvr, sim', st', fr'⟩ => ?_
  have h1 := sim.frame fits c.len sim' st' fun i e0 hi hj hg => by
    refine fr' _ (List.mem_append_right _ (List.mem_filterMap.2 ⟨i, List.mem_range.2 (List.getElem?_eq_some_iff.1 hi).1, ?_⟩))
    unfold goneAt
    rw [if_neg hj, hi]
    obtain ⟨k0, o0⟩ := e0
    cases hg
    rfl
  rw [wth_self hnm]
  exact ⟨v', ρ', he', hvr, h1.1, h1.2, fun k hk => fr' k (List.mem_append_left _ hk)⟩
end Go.Proofs.YtekcchmnncefhaaGreatDoorAB
/-! A contract, kept in part: the rest lost, the names that nobody asks for hidden. -/
namespace Go.Proofs.YtekcchmnncefhaaGreatDoorAB
open Go
set_option linter.unusedVariables false
set_option linter.unusedSimpArgs false
/-- What is kept of what holds behind a call: each entry itself, or nothing. -/
def Wkr : List AObj → List AObj → Prop
  | [], _ => True
  | a :: l, b :: m => (a = .lost ∨ a = b) ∧ Wkr l m
  | _ :: _, [] => False
theorem Wkr.get : ∀ {l m : List AObj}, Wkr l m → ∀ (i : Nat) (o : AObj), l[i]? = some o → o = .lost ∨ m[i]? = some o
  | a :: l, b :: m, h, 0, o, e => by
    cases e
    rcases h.1 with h | h
    · exact .inl h
    · exact .inr (by rw [h]; rfl)
  | a :: l, b :: m, h, i + 1, o, e => h.2.get i o e
  | _ :: _, [], h, _, _, _ => h.elim
theorem Ctr.keep {P : Program} {G : Nat} {f : FuncId} {args : List Value} {pre : H} {v : Value} {post : List AObj} (m : Nat) (hl : post.length = pre.length) (c : ∀ ks : Nat → Nat, ∃ post', Ctr P G f args (pre ++ gonesK ks m) v post' ∧ Wkr post post') : Ctr P G f args pre v post := by
  refine Ctr.hide m hl (fun ks => (Classical.choose (c ks)).drop pre.length) fun ks => ?_
  obtain ⟨h1, h2⟩ := Classical.choose_spec (c ks)
  have hlen : (Classical.choose (c ks)).length = pre.length + m := by rw [h1.len]; simp [gonesK]
  refine Ctr.lose h1 (by simp [hl, hlen]) fun i o h => ?_
  by_cases hi : i < post.length
  · rw [List.getElem?_append_left hi] at h
    exact h2.get i o h
  · rw [List.getElem?_append_right (by omega), List.getElem?_drop] at h
    rw [show pre.length + (i - post.length) = i by omega] at h
    exact .inr h
theorem Ctr.keepF {P : Program} {G : Nat} {f : FuncId} {args : List Value} {pre : H} {v : Value} {post : List AObj} (m : Nat) (hl : post.length = pre.length) (js : List Nat) (nd : js.Nodup)
    (c : ∀ ks : Nat → Nat, ∃ pre1 post1, Ctr P G f args pre1 v post1 ∧ Fd (pre ++ gonesK ks m) js pre1 ∧ Wkr post ((upd (pre ++ gonesK ks m) (js.zip post1)).map (·.2))) : Ctr P G f args pre v post :=
  Ctr.keep m hl fun ks => by
    obtain ⟨pre1, post1, h1, h2, h3⟩ := c ks
    exact ⟨_, h1.frame h2 nd rfl, h3⟩
end Go.Proofs.YtekcchmnncefhaaGreatDoorAB
/-! What closes the small goals of a walk, each under a short name. -/
namespace Go.Proofs.YtekcchmnncefhaaGreatDoorAB
open Go
set_option linter.unusedVariables false
set_option linter.unusedSimpArgs false
theorem lk_ {p : Prop} (h : p := by repeat (with_reducible (first | apply lh | apply lt))) : p := h
theorem lc_ {p : Prop} (h : p := by first | (focus ((repeat (with_reducible (first | apply lh | apply lt))); done)) | (focus (apply lx; (focus (repeat (with_reducible (first | apply lh | apply lt)))); exact rfl))) : p := h
theorem fd_ {p : Prop} (h : p := by repeat (first | exact Fd.nil | apply Fd.cons | (focus ((repeat (with_reducible (first | apply lh | apply lt))); done)) | (focus (apply lx; (focus (repeat (with_reducible (first | apply lh | apply lt)))); exact rfl)))) : p := h
theorem wt_ {p : Prop} (h : p := by (apply wg (r := true); (iterate 6 apply Eq.refl))) : p := h
theorem wf_ {p : Prop} (h : p := by first | (apply wg (r := false); (iterate 6 apply Eq.refl)) | (apply wz; (iterate 4 apply Eq.refl))) : p := h
theorem en_ {p : Prop} (h : p := by first | exact Or.inl rfl | exact Or.inr rfl) : p := h
theorem rv_ {p : Prop} (h : p := by repeat (first | apply RVs.nil | apply RVs.cons | (apply RV1.tmp; apply Eq.refl) | (apply RV1.row; (iterate 3 apply Eq.refl); exact lc_; exact rfl) | (apply RV1.cell; (iterate 3 apply Eq.refl); exact lc_; exact rfl))) : p := h
theorem sb_ {p : Prop} (h : p := by repeat (first | apply List.nil_sublist | with_reducible apply List.Sublist.refl | apply List.Sublist.cons_cons | apply List.Sublist.cons)) : p := h
/-- A pointer to a block's beginning. -/
abbrev pP (k : Nat) : Value := .pointer (some ⟨k, 0, none⟩)
end Go.Proofs.YtekcchmnncefhaaGreatDoorAB
/-! Rows of points. -/
namespace Go.Proofs.YtekcchmnncefhaaGreatDoorAB
open Go
set_option linter.unusedVariables false
theorem tb_pts (z : List (Int × Int)) {f l : Nat} (h : l ≤ z.length) : Tb (.ro f (z.flatMap pp)) f l (fun i => (z.getD i (0, 0)).1) (fun i => (z.getD i (0, 0)).2) := by
  have hg : ∀ x : Int × Int, (pp x).length = 2 := fun _ => rfl
  refine ⟨fun i hi => ro_segD hg (0, 0) (by omega), fun i hi => ?_, fun i hi => ?_⟩
  · have e := ro_cellD (f := f) hg (zs := z) (i := i) (j := 0) (0, 0) (by omega) (by omega)
    show (if f ≤ f + i * 2 then (z.flatMap pp)[f + i * 2 - f]? else none) = _
    rw [if_pos (by omega), show f + i * 2 - f = i * 2 + 0 by omega, e]; rfl
  · have e := ro_cellD (f := f) hg (zs := z) (i := i) (j := 1) (0, 0) (by omega) (by omega)
    show (if f ≤ f + i * 2 + 1 then (z.flatMap pp)[f + i * 2 + 1 - f]? else none) = _
    rw [if_pos (by omega), show f + i * 2 + 1 - f = i * 2 + 1 by omega, e]; rfl
theorem tb_nil (ob : AObj) (f : Nat) (X Y : Nat → Int) : Tb ob f 0 X Y := ⟨fun i h => absurd h (Nat.not_lt_zero i), fun i h => absurd h (Nat.not_lt_zero i), fun i h => absurd h (Nat.not_lt_zero i)⟩
end Go.Proofs.YtekcchmnncefhaaGreatDoorAB
/-! A record of a number and a truth value that the input brings. -/
namespace Go.Proofs.YtekcchmnncefhaaGreatDoorAB
set_option linter.unusedVariables false
set_option linter.unusedSimpArgs false
open Go
end Go.Proofs.YtekcchmnncefhaaGreatDoorAB
