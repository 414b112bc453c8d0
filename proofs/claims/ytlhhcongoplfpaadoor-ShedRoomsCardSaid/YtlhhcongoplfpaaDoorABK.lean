/- What functions of this program do, each as a contract that its callers use, and what follows of it in plain numbers.
   By an AI agent. -/
import Derived.Test.YtlhhcongoplfpaaDoorABM
/-! A slice made anew. -/
namespace Go.Proofs.YtlhhcongoplfpaaDoorAB
open Go
set_option linter.unusedVariables false
set_option linter.unusedSimpArgs false
section
variable {P : Program} {G : Nat} {L : Lay} {ops : Array Oper} {o : Oper} {n : Nat} {s : As} {h : H}
theorem rowZ_eq (z : List Value) (sz : Nat) (hz : z.length = sz) (hpos : 0 < sz) : ∀ m : Nat, ((List.range (m * sz)).map (fun i => z.toArray[i % sz]!)) = rowZ z m
  | 0 => by simp [rowZ]
  | m + 1 => by
    rw [rowZ, ← rowZ_eq z sz hz hpos m, Nat.succ_mul, Nat.add_comm (m * sz) sz, List.range_add, List.map_append, List.map_map]
    congr 1
    · refine List.ext_getElem? fun i => ?_
      rw [List.getElem?_map]
      by_cases hi : i < sz
      · rw [List.getElem?_range hi]
        simp [Nat.mod_eq_of_lt hi]
        rw [List.getElem?_eq_getElem (show i < z.length by omega)]; rfl
      · rw [List.getElem?_eq_none (by simpa using hi)]
        simp
        omega
    · refine List.map_congr_left fun i _ => ?_
      simp
theorem o_makeS {t el : TypeId} {x y : Operand} {m sz j k : Nat} {kd kd2 : IntKind} {i i2 : Int} {e ee : TE} (hL : LayOk P L = true) (ho : o.op = .makeSlice t x y) (hw : wantA ops o n s = some true) (hx : evA G n s x = some (.int kd i)) (hy : evA G n s y = some (.int kd2 i2))
    (ht : lkT L t = some e) (hs : e.sl = some (el, sz)) (hel : lkT L el = some ee) (hsz : ee.size = sz) (hi : i = (m : Int)) (hi2 : i2 = (m : Int)) (hb : ee.bytes ≤ 1048576) (hm : m ≤ 1024) (hz : Nat.ble 1 sz = true) (hl : h[j]? = some (k, .gone)) :
    OPJ P G ops o (mkT n s) h [j] [(j, .cells (rowZ ee.zero m) el)] (some (.slice (some ⟨k, 0, none⟩) m m)) [(k, .gone)] [.cells (rowZ ee.zero m) el] :=
  OPJ.of hw (fits_one hl) rfl (fun _ _ => rfl) (fun u hu => by simp at hu; simp [hu]) fun ρ w a R sim er fr => by
    obtain ⟨hu, i0, hi0, his0⟩ := (tfOf hL ht).sl el sz hs
    have tf := tfOf hL hel
    obtain ⟨q, hq, hqs, hqb, z, hzz, hzc⟩ := tf.size
    have hz1 := Nat.le_of_ble_eq_true hz
    have h1 := vr_int.1 (er.get (by simp [ho, Op.operands]) hx)
    have h2 := vr_int.1 (er.get (by simp [ho, Op.operands]) hy)
    subst hi hi2
    obtain ⟨z', hzr, hzc'⟩ := run_zeroT tf w
    have hzlen : z'.cells.size = sz := by have := tf.len; rw [← hzc', hsz] at this; simpa using this
    have hrow : ((Array.range (m * sz)).map (z'.cells[· % z'.cells.size]!)).toList = rowZ ee.zero m := by
      rw [← hzc', hzlen]
      have := rowZ_eq z'.cells.toList sz (by simpa using hzlen) (by omega) m
      simpa using this
    have hwm : IntKind.i64.wrap (m : Int) = (m : Int) := by rw [IntKind.wrap_i64]; omega
    have hty : (typeInfo el).run P w = .ok q w := by simp [typeInfo, hq]
    have hsize : (sizeOf el).run P w = .ok sz w := by simp [sizeOf, typeInfo, hi0, his0]
    have hbm : ee.bytes * m ≤ 1048576 * 1024 := Nat.mul_le_mul hb hm
    refine wp_value (v := .slice (some ⟨w.heap.size, 0, none⟩) m m) (w1 := { w with heap := w.heap.push (.cells ⟨rowZ ee.zero m⟩ el) }) ?_ ?_
    · unfold execOp
      simp only [ho, Instr.makeSlice, Sem.run_bind, run_underlying hu, Result.andThen_ok, hsize, h1, h2, asInt, asIntOf, Sem.run_pure, hty, hqb, hwm]
      have c0 : ¬ ((decide ((m : Int) < 0) || decide (((ee.bytes : Nat) : Int) * (m : Int) > 2 ^ 48) || decide ((m : Int) < 0) || decide ((m : Int) > (m : Int))) = true) := by
        have hbi := Int.ofNat_le.2 hbm
        rw [Int.natCast_mul, show (((1048576 * 1024 : Nat)) : Int) = 1073741824 from by decide] at hbi
        simp only [Bool.or_eq_true, decide_eq_true_eq]
        omega
      rw [if_neg c0]
      have hroom : ¬ (m * ee.bytes > roomBytes) := by
        rw [Nat.mul_comm]; unfold roomBytes; omega
      simp only [Sem.run_bind, askRoom, Int.toNat_natCast]
      rw [if_neg hroom]
      simp only [Sem.run_pure, Result.andThen_ok, hsize]
      by_cases hm0 : m * sz = 0
      · rw [if_pos hm0]
        have m0 : m = 0 := by rcases Nat.mul_eq_zero.1 hm0 with h | h <;> omega
        subst m0
        have e0 : ∀ f : Nat → Value, Array.map f (Array.range 0) = ⟨[]⟩ := fun f => by apply Array.ext'; simp
        simp [newRow, run_newObj, rowZ, Instr.makeSlice]
        rw [e0]
      · rw [if_neg hm0]
        simp only [Sem.run_bind, hzr, Result.andThen_ok, Sem.run_pure, newRow, run_newObj]
        have : (Array.range (m * sz)).map (fun x => z'.cells[x % z'.cells.size]!) = ⟨rowZ ee.zero m⟩ := by
          rw [← hrow]
        rw [this]
    · refine lv_new 0 sim rfl (fun ρ' he _ _ => ⟨rowZ ee.zero m, ?_, rfl⟩) (fun ρ' _ hk _ => .slice _ _ _ _ _ hk ⟨id, fun hx => by
        have h2 : m = 1180591620717411303424 := hx
        omega⟩) fr
      have hf := tf.flat
      have rep : ∀ m, VRL ρ' (rowZ ee.zero m) (rowZ ee.zero m) := by
        intro m
        induction m with
        | zero => exact .nil
        | succ m ih => exact (flatL_vr hf).append ih
      exact rep m
variable {pc : Nat} {draw : Bool} {acc : List (List Nat × List Nat)} {KK : As → H → Prop}
theorem q_makeS {t el : TypeId} {x y : Operand} {m sz j k : Nat} {kd kd2 : IntKind} {i i2 : Int} {e ee : TE} (hL : LayOk P L = true) (hx : evA G n s x = some (.int kd i)) (hy : evA G n s y = some (.int kd2 i2))
    (ht : lkT L t = some e) (hs : e.sl = some (el, sz)) (hel : lkT L el = some ee) (hsz : ee.size = sz) (hi : i = (m : Int)) (hi2 : i2 = (m : Int)) (hb : ee.bytes ≤ 1048576) (hm : m ≤ 1024) (hz : Nat.ble 1 sz = true) (hl : h[j]? = some (k, .gone))
    {dd : Nat} {hx' : H} (hux : updO h [(j, .cells (rowZ ee.zero m) el)] = some hx') (kk : RK P G ops draw n (pc + 1) ((dd, (some (.slice (some ⟨k, 0, none⟩) m m))) :: s) hx' (acc ++ [([j], ([(j, .cells (rowZ ee.zero m) el)] : List (Nat × AObj)).map (·.1))]) KK) : RKq P G ops draw n pc s h acc KK o (some dd) (.makeSlice t x y) := by
  unfold RKq
  exact fun hd_ ho hw hi_ => RK.val hi_ hd_ (o_makeS hL ho hw hx hy ht hs hel hsz hi hi2 hb hm hz hl) hux kk
end
end Go.Proofs.YtlhhcongoplfpaaDoorAB
