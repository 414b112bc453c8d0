/- What functions of this program do, each as a contract that its callers use.
   By an AI agent. -/
import Derived.Test.YtlhhcongoplfpaaDoorAB
import Derived.Test.YtlhhcongoplfpaaDoorLayD
import Derived.Test.YtlhhcongoplfpaaDoorDS1
import Derived.Laws.Bits64
namespace Go.Proofs.YtlhhcongoplfpaaDoor
open Go Go.Proofs.YtlhhcongoplfpaaDoorAB
variable {G : Nat}
set_option linter.unusedSimpArgs false
set_option linter.unusedVariables false

theorem fSub_in {a b : Int} (h1 : -1000000000000 ≤ a) (h2 : a ≤ 1000000000000) (h3 : -1000000000000 ≤ b) (h4 : b ≤ 1000000000000) : fSub a b = a - b := by
  unfold fSub
  rw [wrap_in (x := a - b) (by omega) (by omega)]
  rw [IntKind.wrap_i64, IntKind.wrap_i64]
  rw [if_neg (by omega), if_neg (by omega)]
theorem fAdd_in {a b : Int} (h1 : -1000000000000 ≤ a) (h2 : a ≤ 1000000000000) (h3 : -1000000000000 ≤ b) (h4 : b ≤ 1000000000000) : fAdd a b = a + b := by
  unfold fAdd
  rw [wrap_in (x := a + b) (by omega) (by omega)]
  rw [IntKind.wrap_i64, IntKind.wrap_i64]
  rw [if_neg (by omega), if_neg (by omega)]
theorem rSub_in {a b : Int} (h1 : -1000000000000 ≤ a) (h2 : a ≤ 1000000000000) (h3 : -1000000000000 ≤ b) (h4 : b ≤ 1000000000000) : rSub a b = a - b := by
  have e := fAdd_in (a := a) (b := -b) h1 h2 (by omega) (by omega)
  unfold rSub rAdd
  unfold fAdd at e
  rw [if_neg (by omega), wrap_in (x := 0 - b) (by omega) (by omega), show (0 : Int) - b = -b by omega, e]
  omega
theorem u64_in {x : Int} (h1 : 0 ≤ x) (h2 : x ≤ 18446744073709551615) : IntKind.u64.wrap x = x := by
  rw [IntKind.wrap_u64]; omega
theorem mag_t {a : Int} (h1 : -1000000000000 ≤ a) (h2 : a ≤ 1000000000000) : (a < 0 → IntKind.u64.wrap (IntKind.u64.wrap (IntKind.i64.wrap (0 - IntKind.i64.wrap (a + 1))) + 1) = magV a) ∧ (¬ a < 0 → IntKind.u64.wrap a = magV a) := by
  refine ⟨fun h => ?_, fun h => ?_⟩
  · rw [wrap_in (x := a + 1) (by omega) (by omega), wrap_in (by omega) (by omega), u64_in (x := 0 - (a + 1)) (by omega) (by omega), u64_in (by omega) (by omega)]
    unfold magV; rw [if_pos h]; omega
  · rw [u64_in (by omega) (by omega)]
    unfold magV; rw [if_neg h]
set_option maxHeartbeats 4000000 in
theorem ref_mag (a : Int) (h1 : -1000000000000 ≤ a) (h2 : a ≤ 1000000000000) : Ctr Tryd.prog G 124 [I64 (a)] [] (.int .u64 (magV a)) [] := by
  have hM := mag_t h1 h2
  refine Ctr.by layOk Tryd.func124 Tryd.ntmps124 rfl rfl rfl rfl rfl ?_
  repeat' (first
    | (((with_reducible refine gQ0 ?_); (first | ((with_reducible apply q_move); exact rfl) | ((with_reducible apply q_assign); exact rfl) | ((with_reducible apply q_int); exact rfl; exact rfl; exact rfl) | ((with_reducible apply q_nilCheck); exact rfl) | ((with_reducible apply q_fa layOk); exact rfl; exact rfl; exact rfl; exact rfl; exact rfl) | ((with_reducible apply q_load layOk); exact rfl; exact rfl; exact rfl; (focus (repeat (first | with_reducible apply lh | with_reducible apply lt))); (focus (exact rfl))) | ((with_reducible apply q_loadr layOk); exact rfl; exact rfl; exact rfl; (focus (repeat (first | with_reducible apply lh | with_reducible apply lt))); (focus (exact rfl))) | ((with_reducible apply q_build layOk); exact rfl; exact rfl; exact rfl; exact rfl) | ((with_reducible apply q_min); exact rfl) | ((with_reducible apply q_max); exact rfl) | ((with_reducible apply q_neg); exact rfl) | ((with_reducible apply q_not); exact rfl) | ((with_reducible apply q_box (k := ks _)); exact rfl; (focus (repeat (first | with_reducible apply lh | with_reducible apply lt))); exact rfl) | ((with_reducible apply q_alloc (k := ks _) layOk); exact rfl; (focus (repeat (first | with_reducible apply lh | with_reducible apply lt))); exact rfl) | ((with_reducible apply q_pick_t); exact rfl; exact rfl) | ((with_reducible apply q_pick_f); exact rfl; exact rfl) | ((with_reducible apply q_conv); exact rfl; exact Tryd.underlying2; exact Tryd.underlying153) | ((with_reducible apply e_store layOk); exact rfl; exact rfl; exact rfl; (focus (repeat (first | with_reducible apply lh | with_reducible apply lt))); exact rfl; exact rfl; exact rfl; (focus (exact rfl)); exact rfl))))
    | (((with_reducible refine gR ?_); (first | refine RK.peelN rfl ?_ | refine RK.donef rfl ⟨_, rfl, ?_⟩ | refine RK.donet rfl (by kernel_rfl) ⟨_, rfl, ?_⟩)))
    | (((with_reducible refine gW ?_); (first | with_reducible refine WP.seq ?_ | refine WP.reg mixed (fun ks => _) (fun ks => rfl) (fun ks => ?_) | ((first | refine WP.condD rfl (fun hc => ?_) (fun hc => ?_) | refine WP.condE rfl (fun hc => ?_) (fun hc => ?_) | refine WP.condN rfl (fun hc => ?_) (fun hc => ?_) | refine WP.condA rfl (fun hc => ?_) (fun hc => ?_)) <;> (first | with_reducible exact ff hc | with_reducible exact ff' hc | skip)) | refine WP.ret ?_ | refine WP.skip ?_ | refine WP.exit ?_ | refine WP.goto ?_ | refine WP.label ?_ | refine WP.block ?_)))
    | (with_reducible refine thn_n ?_)
    | (with_reducible refine thn_r ?_)
    | (with_reducible refine thn_e ?_)
    | (with_reducible refine thn_g ?_)
    | (with_reducible refine blk_n ?_)
    | (with_reducible refine blk_r ?_)
    | (with_reducible refine blk_e ?_)
    | (with_reducible refine blk_g ?_)
    | (((with_reducible refine blk_o ?_ ?_); first | exact rfl | skip))
    | (refine Endz.mk' (by first | exact Or.inl rfl | exact Or.inr rfl) (by repeat (first | exact RVs.nil | apply RVs.cons | exact RV1.tmp rfl | exact RV1.row rfl rfl rfl (by repeat (first | exact look_here | apply look_there)) (by exact rfl) | exact RV1.cell rfl rfl rfl (by repeat (first | exact look_here | apply look_there)) (by exact rfl))) (by first | exact congrArg (Value.int .u64) (hM.1 (by assumption)) | exact congrArg (Value.int .u64) (hM.2 (by assumption))) (by repeat (first | exact List.nil_sublist _ | exact List.Sublist.refl _ | apply List.Sublist.cons_cons | apply List.Sublist.cons))))

theorem rmul20 {a b : Int} (hb : b = 20) (h1 : -1000000000000 ≤ a) (h2 : a ≤ 1000000000000) : (a > 0 → IntKind.i64.wrap (IntKind.u64.wrap (magV a * magV b)) = a * 20) ∧ (a < 0 → IntKind.i64.wrap (IntKind.u64.wrap (0 - IntKind.u64.wrap (magV a * magV b))) = a * 20) ∧ ¬ (magV a > IntKind.u64.wrap ((9223372036854775807 : Int).tdiv (magV b))) ∧ ¬ (magV a > IntKind.u64.wrap ((9223372036854775808 : Int).tdiv (magV b))) ∧ magV b ≠ 0 := by
  subst hb
  have e : magV 20 = 20 := by decide
  have e1 : IntKind.u64.wrap ((9223372036854775807 : Int).tdiv 20) = 461168601842738790 := by decide
  have e2 : IntKind.u64.wrap ((9223372036854775808 : Int).tdiv 20) = 461168601842738790 := by decide
  rw [e, e1, e2]
  have m : magV a ≤ 1000000000000 := by unfold magV; split <;> omega
  refine ⟨fun h => ?_, fun h => ?_, by omega, by omega, by decide⟩
  · have e3 : magV a = a := by unfold magV; rw [if_neg (by omega)]
    rw [e3, u64_in (by omega) (by omega), wrap_in (by omega) (by omega)]
  · have e3 : magV a = -a := by unfold magV; rw [if_pos h]
    rw [e3, u64_in (x := -a * 20) (by omega) (by omega), IntKind.wrap_u64, IntKind.wrap_i64]
    omega
set_option maxHeartbeats 4000000 in
theorem ref_Mul (a b : Int) (hb : b = 20) (h1 : -1000000000000 ≤ a) (h2 : a ≤ 1000000000000) : Ctr Tryd.prog G 94 [I64 (a), I64 (b)] [] (I64 (a * 20)) [] := by
  have hM := rmul20 hb h1 h2
  refine Ctr.by layOk Tryd.func94 Tryd.ntmps94 rfl rfl rfl rfl rfl ?_
  repeat' (first
    | (((first | (with_reducible refine gQ0 ?_) | ((with_reducible refine gQ1 ?_ ?_); (focus (exact wg (r := true) rfl rfl rfl rfl rfl rfl)))); (first | ((with_reducible apply q_move); exact rfl) | ((with_reducible apply q_assign); exact rfl) | ((with_reducible apply q_int); exact rfl; exact rfl; exact rfl) | ((with_reducible apply q_nilCheck); exact rfl) | ((with_reducible apply q_fa layOk); exact rfl; exact rfl; exact rfl; exact rfl; exact rfl) | ((with_reducible apply q_load layOk); exact rfl; exact rfl; exact rfl; (focus (repeat (first | with_reducible apply lh | with_reducible apply lt))); (focus (exact rfl))) | ((with_reducible apply q_loadr layOk); exact rfl; exact rfl; exact rfl; (focus (repeat (first | with_reducible apply lh | with_reducible apply lt))); (focus (exact rfl))) | ((with_reducible apply q_build layOk); exact rfl; exact rfl; exact rfl; exact rfl) | ((with_reducible apply q_min); exact rfl) | ((with_reducible apply q_max); exact rfl) | ((with_reducible apply q_neg); exact rfl) | ((with_reducible apply q_not); exact rfl) | ((with_reducible apply q_box (k := ks _)); exact rfl; (focus (repeat (first | with_reducible apply lh | with_reducible apply lt))); exact rfl) | ((with_reducible apply q_alloc (k := ks _) layOk); exact rfl; (focus (repeat (first | with_reducible apply lh | with_reducible apply lt))); exact rfl) | ((with_reducible apply q_pick_t); exact rfl; exact rfl) | ((with_reducible apply q_pick_f); exact rfl; exact rfl) | ((with_reducible apply q_quo); exact rfl; exact rfl; exact hM.2.2.2.2) | ((with_reducible apply q_conv); exact rfl; exact Tryd.underlying153; exact Tryd.underlying2) | (refine q_call0 rfl (ref_mag a h1 h2) ?_) | (refine q_call0 rfl (ref_mag b (by omega) (by omega)) ?_) | ((with_reducible apply e_store layOk); exact rfl; exact rfl; exact rfl; (focus (repeat (first | with_reducible apply lh | with_reducible apply lt))); exact rfl; exact rfl; exact rfl; (focus (exact rfl)); exact rfl) | (refine e_call0 rfl (ref_mag a h1 h2) ?_) | (refine e_call0 rfl (ref_mag b (by omega) (by omega)) ?_))))
    | (((with_reducible refine gR ?_); (first | refine RK.peelN rfl ?_ | refine RK.donef rfl ⟨_, rfl, ?_⟩ | refine RK.donet rfl (by kernel_rfl) ⟨_, rfl, ?_⟩)))
    | ((first | (with_reducible refine gQv ?_ ?_) | (with_reducible refine gQe ?_ ?_)); (focus (first | exact wg (r := false) rfl rfl rfl rfl rfl rfl | exact wz rfl rfl rfl rfl)))
    | ((with_reducible refine gK ?_); ((first | refine RKo.gsplitD rfl rfl rfl rfl (fun hc => ?_) (fun hc => ?_) | refine RKo.gsplitE rfl rfl rfl rfl (fun hc => ?_) (fun hc => ?_) | refine RKo.gsplitN rfl rfl rfl rfl (fun hc => ?_) (fun hc => ?_) | refine RKo.gsplit rfl rfl rfl rfl (fun hc => ?_) (fun hc => ?_)) <;> (first | with_reducible exact ff hc | with_reducible exact ff' hc | with_reducible exact absurd hc hM.2.2.1 | with_reducible exact absurd hc hM.2.2.2.1 | exact absurd hc (by omega) | skip)))
    | (((with_reducible refine gW ?_); (first | with_reducible refine WP.seq ?_ | refine WP.reg mixed (fun ks => _) (fun ks => rfl) (fun ks => ?_) | ((first | refine WP.condD rfl (fun hc => ?_) (fun hc => ?_) | refine WP.condE rfl (fun hc => ?_) (fun hc => ?_) | refine WP.condN rfl (fun hc => ?_) (fun hc => ?_) | refine WP.condA rfl (fun hc => ?_) (fun hc => ?_)) <;> (first | with_reducible exact ff hc | with_reducible exact ff' hc | with_reducible exact absurd hc hM.2.2.1 | with_reducible exact absurd hc hM.2.2.2.1 | exact absurd hc (by omega) | skip)) | refine WP.ret ?_ | refine WP.skip ?_ | refine WP.exit ?_ | refine WP.goto ?_ | refine WP.label ?_ | refine WP.block ?_)))
    | (with_reducible refine thn_n ?_)
    | (with_reducible refine thn_r ?_)
    | (with_reducible refine thn_e ?_)
    | (with_reducible refine thn_g ?_)
    | (with_reducible refine blk_n ?_)
    | (with_reducible refine blk_r ?_)
    | (with_reducible refine blk_e ?_)
    | (with_reducible refine blk_g ?_)
    | (((with_reducible refine blk_o ?_ ?_); first | exact rfl | skip))
    | (refine Endz.mk' (by first | exact Or.inl rfl | exact Or.inr rfl) (by repeat (first | exact RVs.nil | apply RVs.cons | exact RV1.tmp rfl | exact RV1.row rfl rfl rfl (by repeat (first | exact look_here | apply look_there)) (by exact rfl) | exact RV1.cell rfl rfl rfl (by repeat (first | exact look_here | apply look_there)) (by exact rfl))) (by first | exact congrArg (Value.int .i64) (hM.1 (by assumption)) | exact congrArg (Value.int .i64) (hM.2.1 (by omega)) | exact congrArg (Value.int .i64) (by omega)) (by repeat (first | exact List.nil_sublist _ | exact List.Sublist.refl _ | apply List.Sublist.cons_cons | apply List.Sublist.cons))))

theorem agg2_eq {a b c d : Int} (h1 : a = c) (h2 : b = d) : Value.agg #[.int .i64 a, .int .i64 b] = .agg #[.int .i64 c, .int .i64 d] := by rw [h1, h2]
theorem mm_s1 {a : Int} (h1 : -1000000000 ≤ a) (h2 : a ≤ 1000000000) : -4611686018427387904 ≤ mn (a * 20) (a * 20) := by unfold mn; simp; omega
theorem mm_s2 {a : Int} (h1 : -1000000000 ≤ a) (h2 : a ≤ 1000000000) : mn (a * 20) (a * 20) ≤ 4611686018427387904 := by unfold mn; simp; omega
theorem mm_s3 {a : Int} (h1 : -1000000000 ≤ a) (h2 : a ≤ 1000000000) : -4611686018427387904 ≤ mx (a * 20) (a * 20) := by unfold mx; simp; omega
theorem mm_s4 {a : Int} (h1 : -1000000000 ≤ a) (h2 : a ≤ 1000000000) : mx (a * 20) (a * 20) ≤ 4611686018427387904 := by unfold mx; simp; omega
theorem rest_t {a v e : Int} (h1 : -1000000000 ≤ a) (h2 : a ≤ 1000000000) (v1 : -1000000000 ≤ v) (v2 : v ≤ 1000000000) (e1 : 0 ≤ e) (e2 : e ≤ 1000000000) :
    wLo (fAdd (mn v v) (dn (mn (a * 20) (a * 20)) 1000)) e = v + dn (a * 20) 1000 - e ∧ wHi (fAdd (mx v v) (up (mx (a * 20) (a * 20)) 1000)) e = v + up (a * 20) 1000 + e ∧
    rwLo (rAdd v (dn (a * 20) 1000)) e = v + dn (a * 20) 1000 - e ∧ rwHi (rAdd v (up (a * 20) 1000)) e = v + up (a * 20) 1000 + e := by
  have m1 : ∀ x, mn x x = x := fun x => by unfold mn; simp
  have m2 : ∀ x, mx x x = x := fun x => by unfold mx; simp
  have d1 : -20000001 ≤ dn (a * 20) 1000 ∧ dn (a * 20) 1000 ≤ 20000001 := by unfold dn; omega
  have d2 : -20000001 ≤ up (a * 20) 1000 ∧ up (a * 20) 1000 ≤ 20000001 := by unfold up; omega
  have f1 : ∀ x y, -1000000000000 ≤ x → x ≤ 1000000000000 → -1000000000000 ≤ y → y ≤ 1000000000000 → fAdd x y = x + y := fun x y a b c d => fAdd_in a b c d
  have f2 : ∀ x y, -1000000000000 ≤ x → x ≤ 1000000000000 → -1000000000000 ≤ y → y ≤ 1000000000000 → fSub x y = x - y := fun x y a b c d => fSub_in a b c d
  have f3 : ∀ x y, -1000000000000 ≤ x → x ≤ 1000000000000 → -1000000000000 ≤ y → y ≤ 1000000000000 → rAdd x y = x + y := fun x y a b c d => fAdd_in a b c d
  have f4 : ∀ x y, -1000000000000 ≤ x → x ≤ 1000000000000 → -1000000000000 ≤ y → y ≤ 1000000000000 → rSub x y = x - y := fun x y a b c d => rSub_in a b c d
  rw [m1, m2, m1, m2]
  unfold wLo wHi rwLo rwHi
  rw [if_neg (by omega), if_neg (by omega), if_neg (by omega), if_neg (by omega)]
  rw [f1 v (dn (a * 20) 1000) (by omega) (by omega) (by omega) (by omega), f1 v (up (a * 20) 1000) (by omega) (by omega) (by omega) (by omega), f3 v (dn (a * 20) 1000) (by omega) (by omega) (by omega) (by omega), f3 v (up (a * 20) 1000) (by omega) (by omega) (by omega) (by omega)]
  rw [f2 (v + dn (a * 20) 1000) e (by omega) (by omega) (by omega) (by omega), f1 (v + up (a * 20) 1000) e (by omega) (by omega) (by omega) (by omega), f4 (v + dn (a * 20) 1000) e (by omega) (by omega) (by omega) (by omega), f3 (v + up (a * 20) 1000) e (by omega) (by omega) (by omega) (by omega)]
  exact ⟨rfl, rfl, rfl, rfl⟩
set_option maxHeartbeats 4000000 in
theorem sag_Rest (c : Cfg) (v a : Int) (hO : c.Ohm = 20) (h1 : -1000000000 ≤ a) (h2 : a ≤ 1000000000) (v1 : -1000000000 ≤ v) (v2 : v ≤ 1000000000) (e1 : 0 ≤ c.SagErr) (e2 : c.SagErr ≤ 1000000000) : Ctr Tryd.prog G 44 [.agg ⟨c.cells⟩, I64 v, I64 a] [] (.agg #[I64 (v + dn (a * 20) 1000 - c.SagErr), I64 (v + up (a * 20) 1000 + c.SagErr)]) [] := by
  have hR := rest_t h1 h2 v1 v2 e1 e2
  refine Ctr.by layOk Tryd.func44 Tryd.ntmps44 rfl rfl rfl rfl rfl ?_
  repeat' (first
    | (((with_reducible refine gQ0 ?_); (first | ((with_reducible apply q_move); exact rfl) | ((with_reducible apply q_assign); exact rfl) | ((with_reducible apply q_int); exact rfl; exact rfl; exact rfl) | ((with_reducible apply q_nilCheck); exact rfl) | ((with_reducible apply q_fa layOk); exact rfl; exact rfl; exact rfl; exact rfl; exact rfl) | ((with_reducible apply q_load layOk); exact rfl; exact rfl; exact rfl; (focus (repeat (first | with_reducible apply lh | with_reducible apply lt))); (focus (exact rfl))) | ((with_reducible apply q_loadr layOk); exact rfl; exact rfl; exact rfl; (focus (repeat (first | with_reducible apply lh | with_reducible apply lt))); (focus (exact rfl))) | ((with_reducible apply q_build layOk); exact rfl; exact rfl; exact rfl; exact rfl) | ((with_reducible apply q_min); exact rfl) | ((with_reducible apply q_max); exact rfl) | ((with_reducible apply q_neg); exact rfl) | ((with_reducible apply q_not); exact rfl) | ((with_reducible apply q_box (k := ks _)); exact rfl; (focus (repeat (first | with_reducible apply lh | with_reducible apply lt))); exact rfl) | ((with_reducible apply q_alloc (k := ks _) layOk); exact rfl; (focus (repeat (first | with_reducible apply lh | with_reducible apply lt))); exact rfl) | ((with_reducible apply q_pick_t); exact rfl; exact rfl) | ((with_reducible apply q_pick_f); exact rfl; exact rfl) | (refine q_call0 rfl (fixed_Mul a c.Ohm hO (by omega) (by omega)) ?_) | (refine q_call0 rfl (span_Of _ _) ?_) | (refine q_call0 rfl (span_Shrink _ _ _ (by decide) (mm_s1 h1 h2) (mm_s2 h1 h2) (mm_s3 h1 h2) (mm_s4 h1 h2)) ?_) | (refine q_call0 rfl (span_Add _ _ _ _) ?_) | (refine q_call0 rfl (span_Widen _ _ _) ?_) | ((with_reducible apply e_store layOk); exact rfl; exact rfl; exact rfl; (focus (repeat (first | with_reducible apply lh | with_reducible apply lt))); exact rfl; exact rfl; exact rfl; (focus (exact rfl)); exact rfl) | (refine e_call0 rfl (fixed_Mul a c.Ohm hO (by omega) (by omega)) ?_) | (refine e_call0 rfl (span_Of _ _) ?_) | (refine e_call0 rfl (span_Shrink _ _ _ (by decide) (mm_s1 h1 h2) (mm_s2 h1 h2) (mm_s3 h1 h2) (mm_s4 h1 h2)) ?_) | (refine e_call0 rfl (span_Add _ _ _ _) ?_) | (refine e_call0 rfl (span_Widen _ _ _) ?_))))
    | (((with_reducible refine gR ?_); (first | refine RK.peelN rfl ?_ | refine RK.donef rfl ⟨_, rfl, ?_⟩ | refine RK.donet rfl (by kernel_rfl) ⟨_, rfl, ?_⟩)))
    | (((with_reducible refine gW ?_); (first | with_reducible refine WP.seq ?_ | refine WP.reg mixed (fun ks => _) (fun ks => rfl) (fun ks => ?_) | ((first | refine WP.condD rfl (fun hc => ?_) (fun hc => ?_) | refine WP.condE rfl (fun hc => ?_) (fun hc => ?_) | refine WP.condN rfl (fun hc => ?_) (fun hc => ?_) | refine WP.condA rfl (fun hc => ?_) (fun hc => ?_)) <;> (first | with_reducible exact ff hc | with_reducible exact ff' hc | skip)) | refine WP.ret ?_ | refine WP.skip ?_ | refine WP.exit ?_ | refine WP.goto ?_ | refine WP.label ?_ | refine WP.block ?_)))
    | (with_reducible refine thn_n ?_)
    | (with_reducible refine thn_r ?_)
    | (with_reducible refine thn_e ?_)
    | (with_reducible refine thn_g ?_)
    | (with_reducible refine blk_n ?_)
    | (with_reducible refine blk_r ?_)
    | (with_reducible refine blk_e ?_)
    | (with_reducible refine blk_g ?_)
    | (((with_reducible refine blk_o ?_ ?_); first | exact rfl | skip))
    | (refine Endz.mk' (by first | exact Or.inl rfl | exact Or.inr rfl) (by repeat (first | exact RVs.nil | apply RVs.cons | exact RV1.tmp rfl | exact RV1.row rfl rfl rfl (by repeat (first | exact look_here | apply look_there)) (by exact rfl) | exact RV1.cell rfl rfl rfl (by repeat (first | exact look_here | apply look_there)) (by exact rfl))) (by exact agg2_eq hR.1 hR.2.1) (by repeat (first | exact List.nil_sublist _ | exact List.Sublist.refl _ | apply List.Sublist.cons_cons | apply List.Sublist.cons))))
set_option maxHeartbeats 4000000 in
theorem ref_Rest (c : Cfg) (v a : Int) (hO : c.Ohm = 20) (h1 : -1000000000 ≤ a) (h2 : a ≤ 1000000000) (v1 : -1000000000 ≤ v) (v2 : v ≤ 1000000000) (e1 : 0 ≤ c.SagErr) (e2 : c.SagErr ≤ 1000000000) : Ctr Tryd.prog G 45 [.agg ⟨c.cells⟩, I64 v, I64 a] [] (.agg #[I64 (v + dn (a * 20) 1000 - c.SagErr), I64 (v + up (a * 20) 1000 + c.SagErr)]) [] := by
  have hR := rest_t h1 h2 v1 v2 e1 e2
  refine Ctr.by layOk Tryd.func45 Tryd.ntmps45 rfl rfl rfl rfl rfl ?_
  repeat' (first
    | (((with_reducible refine gQ0 ?_); (first | ((with_reducible apply q_move); exact rfl) | ((with_reducible apply q_assign); exact rfl) | ((with_reducible apply q_int); exact rfl; exact rfl; exact rfl) | ((with_reducible apply q_nilCheck); exact rfl) | ((with_reducible apply q_fa layOk); exact rfl; exact rfl; exact rfl; exact rfl; exact rfl) | ((with_reducible apply q_load layOk); exact rfl; exact rfl; exact rfl; (focus (repeat (first | with_reducible apply lh | with_reducible apply lt))); (focus (exact rfl))) | ((with_reducible apply q_loadr layOk); exact rfl; exact rfl; exact rfl; (focus (repeat (first | with_reducible apply lh | with_reducible apply lt))); (focus (exact rfl))) | ((with_reducible apply q_build layOk); exact rfl; exact rfl; exact rfl; exact rfl) | ((with_reducible apply q_min); exact rfl) | ((with_reducible apply q_max); exact rfl) | ((with_reducible apply q_neg); exact rfl) | ((with_reducible apply q_not); exact rfl) | ((with_reducible apply q_box (k := ks _)); exact rfl; (focus (repeat (first | with_reducible apply lh | with_reducible apply lt))); exact rfl) | ((with_reducible apply q_alloc (k := ks _) layOk); exact rfl; (focus (repeat (first | with_reducible apply lh | with_reducible apply lt))); exact rfl) | ((with_reducible apply q_pick_t); exact rfl; exact rfl) | ((with_reducible apply q_pick_f); exact rfl; exact rfl) | (refine q_call0 rfl (ref_Mul a c.Ohm hO (by omega) (by omega)) ?_) | (refine q_call0 rfl (ref_Down _ _ (by decide) (by omega) (by omega)) ?_) | (refine q_call0 rfl (ref_Up _ _ (by decide) (by omega) (by omega)) ?_) | (refine q_call0 rfl (ref_AddSpan _ _ _ _) ?_) | (refine q_call0 rfl (ref_Widen _ _ _) ?_) | ((with_reducible apply e_store layOk); exact rfl; exact rfl; exact rfl; (focus (repeat (first | with_reducible apply lh | with_reducible apply lt))); exact rfl; exact rfl; exact rfl; (focus (exact rfl)); exact rfl) | (refine e_call0 rfl (ref_Mul a c.Ohm hO (by omega) (by omega)) ?_) | (refine e_call0 rfl (ref_Down _ _ (by decide) (by omega) (by omega)) ?_) | (refine e_call0 rfl (ref_Up _ _ (by decide) (by omega) (by omega)) ?_) | (refine e_call0 rfl (ref_AddSpan _ _ _ _) ?_) | (refine e_call0 rfl (ref_Widen _ _ _) ?_))))
    | (((with_reducible refine gR ?_); (first | refine RK.peelN rfl ?_ | refine RK.donef rfl ⟨_, rfl, ?_⟩ | refine RK.donet rfl (by kernel_rfl) ⟨_, rfl, ?_⟩)))
    | (((with_reducible refine gW ?_); (first | with_reducible refine WP.seq ?_ | refine WP.reg mixed (fun ks => _) (fun ks => rfl) (fun ks => ?_) | ((first | refine WP.condD rfl (fun hc => ?_) (fun hc => ?_) | refine WP.condE rfl (fun hc => ?_) (fun hc => ?_) | refine WP.condN rfl (fun hc => ?_) (fun hc => ?_) | refine WP.condA rfl (fun hc => ?_) (fun hc => ?_)) <;> (first | with_reducible exact ff hc | with_reducible exact ff' hc | skip)) | refine WP.ret ?_ | refine WP.skip ?_ | refine WP.exit ?_ | refine WP.goto ?_ | refine WP.label ?_ | refine WP.block ?_)))
    | (with_reducible refine thn_n ?_)
    | (with_reducible refine thn_r ?_)
    | (with_reducible refine thn_e ?_)
    | (with_reducible refine thn_g ?_)
    | (with_reducible refine blk_n ?_)
    | (with_reducible refine blk_r ?_)
    | (with_reducible refine blk_e ?_)
    | (with_reducible refine blk_g ?_)
    | (((with_reducible refine blk_o ?_ ?_); first | exact rfl | skip))
    | (refine Endz.mk' (by first | exact Or.inl rfl | exact Or.inr rfl) (by repeat (first | exact RVs.nil | apply RVs.cons | exact RV1.tmp rfl | exact RV1.row rfl rfl rfl (by repeat (first | exact look_here | apply look_there)) (by exact rfl) | exact RV1.cell rfl rfl rfl (by repeat (first | exact look_here | apply look_there)) (by exact rfl))) (by exact agg2_eq hR.2.2.1 hR.2.2.2) (by repeat (first | exact List.nil_sublist _ | exact List.Sublist.refl _ | apply List.Sublist.cons_cons | apply List.Sublist.cons))))
end Go.Proofs.YtlhhcongoplfpaaDoor
