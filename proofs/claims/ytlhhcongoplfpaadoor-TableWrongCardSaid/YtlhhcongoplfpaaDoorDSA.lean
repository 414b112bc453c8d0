/- What functions of this program do, each as a contract that its callers use, and what follows of it in plain numbers.
   By an AI agent. -/
import Derived.Test.YtlhhcongoplfpaaDoorAB
import Derived.Test.YtlhhcongoplfpaaDoorDLO
import Derived.Test.YtlhhcongoplfpaaDoorABM
import Derived.Laws.Bits64
namespace Go.Proofs.YtlhhcongoplfpaaDoor
open Go Go.Proofs.YtlhhcongoplfpaaDoorAB
variable {G : Nat}
set_option linter.unusedSimpArgs false
set_option linter.unusedVariables false

theorem tdiv_facts {a b : Int} (hb : 1 ≤ b) : ∃ q r, a.tdiv b = q ∧ a.tmod b = r ∧ a = b * q + r ∧ -b < r ∧ r < b ∧ (0 < r → 0 ≤ a) ∧ (r < 0 → a ≤ 0) := by
  refine ⟨a.tdiv b, a.tmod b, rfl, rfl, (Int.mul_tdiv_add_tmod a b).symm, Int.lt_tmod_of_pos a (by omega), Int.tmod_lt_of_pos a (by omega), fun h => ?_, fun h => ?_⟩
  · rcases ltge a 0 with h1 | h1
    · have := Int.tmod_nonneg b (a := -a) (by omega)
      rw [Int.neg_tmod] at this
      omega
    · exact h1
  · rcases ltge 0 a with h1 | h1
    · have := Int.tmod_nonneg b (a := a) (by omega)
      omega
    · exact h1
theorem dn_of {a b q r : Int} (hb : 1 ≤ b) (h : a = b * q + r) (h1 : -b < r) (h2 : r < b) : (r < 0 → dn a b = q - 1) ∧ (¬ r < 0 → dn a b = q) ∧ (0 < r → up a b = q + 1) ∧ (¬ 0 < r → up a b = q) := by
  have e1 : b * (q - 1) = b * q - b := by rw [Int.mul_sub, Int.mul_one]
  have e2 : b * (-q) = - (b * q) := Int.mul_neg _ _
  have e3 : b * (-q - 1) = - (b * q) - b := by rw [Int.mul_sub, Int.mul_one, e2]
  refine ⟨fun hr => ?_, fun hr => ?_, fun hr => ?_, fun hr => ?_⟩
  · exact ((Int.ediv_emod_unique (a := a) (b := b) (r := r + b) (q := q - 1) (by omega)).2 ⟨by omega, by omega, by omega⟩).1
  · exact ((Int.ediv_emod_unique (a := a) (b := b) (r := r) (q := q) (by omega)).2 ⟨by omega, by omega, by omega⟩).1
  · have := ((Int.ediv_emod_unique (a := -a) (b := b) (r := b - r) (q := -q - 1) (by omega)).2 ⟨by omega, by omega, by omega⟩).1
    unfold up; omega
  · have := ((Int.ediv_emod_unique (a := -a) (b := b) (r := -r) (q := -q) (by omega)).2 ⟨by omega, by omega, by omega⟩).1
    unfold up; omega
theorem q_small {a b q r : Int} (hb : 1 ≤ b) (h : a = b * q + r) (h1 : -b < r) (h2 : r < b) (s1 : -4611686018427387904 ≤ a) (s2 : a ≤ 4611686018427387904) : -4611686018427387905 ≤ q ∧ q ≤ 4611686018427387905 := by
  constructor
  · rcases ltge q (-4611686018427387905) with h3 | h3
    · have := Int.mul_le_mul_of_nonneg_left (show q ≤ -4611686018427387906 by omega) (show 0 ≤ b by omega)
      omega
    · exact h3
  · rcases ltge 4611686018427387905 q with h3 | h3
    · have := Int.mul_le_mul_of_nonneg_left (show 4611686018427387906 ≤ q by omega) (show 0 ≤ b by omega)
      omega
    · exact h3
theorem dn_t {a b : Int} (hb : 1 ≤ b) (s1 : -4611686018427387904 ≤ a) (s2 : a ≤ 4611686018427387904) :
    (a.tmod b < 0 → IntKind.i64.wrap (IntKind.i64.wrap (a.tdiv b) - 1) = dn a b) ∧ (¬ a.tmod b < 0 → IntKind.i64.wrap (a.tdiv b) = dn a b) ∧ (a.tmod b > 0 → IntKind.i64.wrap (IntKind.i64.wrap (a.tdiv b) + 1) = up a b) ∧ (¬ a.tmod b > 0 → IntKind.i64.wrap (a.tdiv b) = up a b) := by
  obtain ⟨q, r, e1, e2, h, h1, h2, _⟩ := tdiv_facts (a := a) hb
  have hq := q_small hb h h1 h2 s1 s2
  obtain ⟨d1, d2, d3, d4⟩ := dn_of hb h h1 h2
  rw [e1, e2, wrap_in (x := q) (by omega) (by omega)]
  rw [wrap_in (x := q - 1) (by omega) (by omega), wrap_in (x := q + 1) (by omega) (by omega)]
  exact ⟨fun h => (d1 h).symm, fun h => (d2 h).symm, fun h => (d3 h).symm, fun h => (d4 h).symm⟩
set_option maxHeartbeats 4000000 in
theorem fixed_Down (a b : Int) (hb : 1 ≤ b) (s1 : -4611686018427387904 ≤ a) (s2 : a ≤ 4611686018427387904) : Ctr Tryd.prog G 121 [I64 (a), I64 (b)] [] (I64 (dn a b)) [] := by
  have hD := dn_t hb s1 s2
  refine Ctr.by layOk Tryd.func121 Tryd.ntmps121 rfl rfl rfl rfl rfl ?_
  repeat' (first
    | (((with_reducible refine gQ0 ?_); (first | ((with_reducible apply q_move); apply Eq.refl) | ((with_reducible apply q_assign); apply Eq.refl) | ((with_reducible apply q_int); (iterate 3 apply Eq.refl)) | ((with_reducible apply q_rem); (iterate 2 apply Eq.refl); (focus (omega))) | ((with_reducible apply q_quo); (iterate 2 apply Eq.refl); (focus (omega))))))
    | (((with_reducible refine gR ?_); (first | refine RK.peelN rfl ?_ | refine RK.donef rfl ⟨_, rfl, ?_⟩ | refine RK.donet rfl (by kernel_rfl) ⟨_, rfl, ?_⟩)))
    | (((with_reducible refine gW ?_); (first | with_reducible refine WP.seq ?_ | refine WP.reg mixed (fun ks => _) (fun ks => rfl) (fun ks => ?_) | ((first | (apply cdD; apply Eq.refl) | (apply WP.condE; apply Eq.refl) | (apply WP.condN; apply Eq.refl) | (apply WP.condA; apply Eq.refl)) <;> (intro hc; first | with_reducible exact ff hc | with_reducible exact ff' hc | with_reducible exact absurd hc (Int.not_lt.2 hb) | skip)) | refine WP.ret ?_ | refine WP.skip ?_ | refine WP.exit ?_ | refine WP.goto ?_ | refine WP.label ?_ | refine WP.block ?_)))
    | (with_reducible refine thn_n ?_)
    | (with_reducible refine thn_r ?_)
    | (with_reducible refine thn_e ?_)
    | (with_reducible refine thn_g ?_)
    | (with_reducible refine blk_n ?_)
    | (with_reducible refine blk_r ?_)
    | (with_reducible refine blk_e ?_)
    | (with_reducible refine blk_g ?_)
    | (((with_reducible refine blk_o ?_ ?_); first | exact rfl | skip))
    | (refine Endz.mk' (by first | exact Or.inl rfl | exact Or.inr rfl) (by repeat (first | exact RVs.nil | apply RVs.cons | exact RV1.tmp rfl | exact RV1.row rfl rfl rfl (by repeat (first | exact look_here | apply look_there)) (by exact rfl) | exact RV1.cell rfl rfl rfl (by repeat (first | exact look_here | apply look_there)) (by exact rfl))) (by first | exact congrArg (Value.int .i64) (hD.1 (by assumption)) | exact congrArg (Value.int .i64) (hD.2.1 (by assumption))) (by repeat (first | exact List.nil_sublist _ | exact List.Sublist.refl _ | apply List.Sublist.cons_cons | apply List.Sublist.cons))))
set_option maxHeartbeats 4000000 in
theorem ref_Down (a b : Int) (hb : 1 ≤ b) (s1 : -4611686018427387904 ≤ a) (s2 : a ≤ 4611686018427387904) : Ctr Tryd.prog G 46 [I64 (a), I64 (b)] [] (I64 (dn a b)) [] := by
  have hD := dn_t hb s1 s2
  refine Ctr.by layOk Tryd.func46 Tryd.ntmps46 rfl rfl rfl rfl rfl ?_
  repeat' (first
    | (((with_reducible refine gQ0 ?_); (first | ((with_reducible apply q_move); apply Eq.refl) | ((with_reducible apply q_assign); apply Eq.refl) | ((with_reducible apply q_int); (iterate 3 apply Eq.refl)) | ((with_reducible apply q_rem); (iterate 2 apply Eq.refl); (focus (omega))) | ((with_reducible apply q_quo); (iterate 2 apply Eq.refl); (focus (omega))))))
    | (((with_reducible refine gR ?_); (first | refine RK.peelN rfl ?_ | refine RK.donef rfl ⟨_, rfl, ?_⟩ | refine RK.donet rfl (by kernel_rfl) ⟨_, rfl, ?_⟩)))
    | (((with_reducible refine gW ?_); (first | with_reducible refine WP.seq ?_ | refine WP.reg mixed (fun ks => _) (fun ks => rfl) (fun ks => ?_) | ((first | (apply cdD; apply Eq.refl) | (apply WP.condE; apply Eq.refl) | (apply WP.condN; apply Eq.refl) | (apply WP.condA; apply Eq.refl)) <;> (intro hc; first | with_reducible exact ff hc | with_reducible exact ff' hc | with_reducible exact absurd hc (Int.not_lt.2 hb) | skip)) | refine WP.ret ?_ | refine WP.skip ?_ | refine WP.exit ?_ | refine WP.goto ?_ | refine WP.label ?_ | refine WP.block ?_)))
    | (with_reducible refine thn_n ?_)
    | (with_reducible refine thn_r ?_)
    | (with_reducible refine thn_e ?_)
    | (with_reducible refine thn_g ?_)
    | (with_reducible refine blk_n ?_)
    | (with_reducible refine blk_r ?_)
    | (with_reducible refine blk_e ?_)
    | (with_reducible refine blk_g ?_)
    | (((with_reducible refine blk_o ?_ ?_); first | exact rfl | skip))
    | (refine Endz.mk' (by first | exact Or.inl rfl | exact Or.inr rfl) (by repeat (first | exact RVs.nil | apply RVs.cons | exact RV1.tmp rfl | exact RV1.row rfl rfl rfl (by repeat (first | exact look_here | apply look_there)) (by exact rfl) | exact RV1.cell rfl rfl rfl (by repeat (first | exact look_here | apply look_there)) (by exact rfl))) (by first | exact congrArg (Value.int .i64) (hD.1 (by assumption)) | exact congrArg (Value.int .i64) (hD.2.1 (by assumption))) (by repeat (first | exact List.nil_sublist _ | exact List.Sublist.refl _ | apply List.Sublist.cons_cons | apply List.Sublist.cons))))
set_option maxHeartbeats 4000000 in
theorem fixed_Up (a b : Int) (hb : 1 ≤ b) (s1 : -4611686018427387904 ≤ a) (s2 : a ≤ 4611686018427387904) : Ctr Tryd.prog G 122 [I64 (a), I64 (b)] [] (I64 (up a b)) [] := by
  have hD := dn_t hb s1 s2
  refine Ctr.by layOk Tryd.func122 Tryd.ntmps122 rfl rfl rfl rfl rfl ?_
  repeat' (first
    | (((with_reducible refine gQ0 ?_); (first | ((with_reducible apply q_move); apply Eq.refl) | ((with_reducible apply q_assign); apply Eq.refl) | ((with_reducible apply q_int); (iterate 3 apply Eq.refl)) | ((with_reducible apply q_rem); (iterate 2 apply Eq.refl); (focus (omega))) | ((with_reducible apply q_quo); (iterate 2 apply Eq.refl); (focus (omega))))))
    | (((with_reducible refine gR ?_); (first | refine RK.peelN rfl ?_ | refine RK.donef rfl ⟨_, rfl, ?_⟩ | refine RK.donet rfl (by kernel_rfl) ⟨_, rfl, ?_⟩)))
    | (((with_reducible refine gW ?_); (first | with_reducible refine WP.seq ?_ | refine WP.reg mixed (fun ks => _) (fun ks => rfl) (fun ks => ?_) | ((first | (apply cdD; apply Eq.refl) | (apply WP.condE; apply Eq.refl) | (apply WP.condN; apply Eq.refl) | (apply WP.condA; apply Eq.refl)) <;> (intro hc; first | with_reducible exact ff hc | with_reducible exact ff' hc | with_reducible exact absurd hc (Int.not_lt.2 hb) | skip)) | refine WP.ret ?_ | refine WP.skip ?_ | refine WP.exit ?_ | refine WP.goto ?_ | refine WP.label ?_ | refine WP.block ?_)))
    | (with_reducible refine thn_n ?_)
    | (with_reducible refine thn_r ?_)
    | (with_reducible refine thn_e ?_)
    | (with_reducible refine thn_g ?_)
    | (with_reducible refine blk_n ?_)
    | (with_reducible refine blk_r ?_)
    | (with_reducible refine blk_e ?_)
    | (with_reducible refine blk_g ?_)
    | (((with_reducible refine blk_o ?_ ?_); first | exact rfl | skip))
    | (refine Endz.mk' (by first | exact Or.inl rfl | exact Or.inr rfl) (by repeat (first | exact RVs.nil | apply RVs.cons | exact RV1.tmp rfl | exact RV1.row rfl rfl rfl (by repeat (first | exact look_here | apply look_there)) (by exact rfl) | exact RV1.cell rfl rfl rfl (by repeat (first | exact look_here | apply look_there)) (by exact rfl))) (by first | exact congrArg (Value.int .i64) (hD.2.2.1 (by assumption)) | exact congrArg (Value.int .i64) (hD.2.2.2 (by assumption))) (by repeat (first | exact List.nil_sublist _ | exact List.Sublist.refl _ | apply List.Sublist.cons_cons | apply List.Sublist.cons))))
set_option maxHeartbeats 4000000 in
theorem ref_Up (a b : Int) (hb : 1 ≤ b) (s1 : -4611686018427387904 ≤ a) (s2 : a ≤ 4611686018427387904) : Ctr Tryd.prog G 86 [I64 (a), I64 (b)] [] (I64 (up a b)) [] := by
  have hD := dn_t hb s1 s2
  refine Ctr.by layOk Tryd.func86 Tryd.ntmps86 rfl rfl rfl rfl rfl ?_
  repeat' (first
    | (((with_reducible refine gQ0 ?_); (first | ((with_reducible apply q_move); apply Eq.refl) | ((with_reducible apply q_assign); apply Eq.refl) | ((with_reducible apply q_int); (iterate 3 apply Eq.refl)) | ((with_reducible apply q_rem); (iterate 2 apply Eq.refl); (focus (omega))) | ((with_reducible apply q_quo); (iterate 2 apply Eq.refl); (focus (omega))))))
    | (((with_reducible refine gR ?_); (first | refine RK.peelN rfl ?_ | refine RK.donef rfl ⟨_, rfl, ?_⟩ | refine RK.donet rfl (by kernel_rfl) ⟨_, rfl, ?_⟩)))
    | (((with_reducible refine gW ?_); (first | with_reducible refine WP.seq ?_ | refine WP.reg mixed (fun ks => _) (fun ks => rfl) (fun ks => ?_) | ((first | (apply cdD; apply Eq.refl) | (apply WP.condE; apply Eq.refl) | (apply WP.condN; apply Eq.refl) | (apply WP.condA; apply Eq.refl)) <;> (intro hc; first | with_reducible exact ff hc | with_reducible exact ff' hc | with_reducible exact absurd hc (Int.not_lt.2 hb) | skip)) | refine WP.ret ?_ | refine WP.skip ?_ | refine WP.exit ?_ | refine WP.goto ?_ | refine WP.label ?_ | refine WP.block ?_)))
    | (with_reducible refine thn_n ?_)
    | (with_reducible refine thn_r ?_)
    | (with_reducible refine thn_e ?_)
    | (with_reducible refine thn_g ?_)
    | (with_reducible refine blk_n ?_)
    | (with_reducible refine blk_r ?_)
    | (with_reducible refine blk_e ?_)
    | (with_reducible refine blk_g ?_)
    | (((with_reducible refine blk_o ?_ ?_); first | exact rfl | skip))
    | (refine Endz.mk' (by first | exact Or.inl rfl | exact Or.inr rfl) (by repeat (first | exact RVs.nil | apply RVs.cons | exact RV1.tmp rfl | exact RV1.row rfl rfl rfl (by repeat (first | exact look_here | apply look_there)) (by exact rfl) | exact RV1.cell rfl rfl rfl (by repeat (first | exact look_here | apply look_there)) (by exact rfl))) (by first | exact congrArg (Value.int .i64) (hD.2.2.1 (by assumption)) | exact congrArg (Value.int .i64) (hD.2.2.2 (by assumption))) (by repeat (first | exact List.nil_sublist _ | exact List.Sublist.refl _ | apply List.Sublist.cons_cons | apply List.Sublist.cons))))

theorem mul20 {a b : Int} (hb : b = 20) (h1 : -1000000000000 ≤ a) (h2 : a ≤ 1000000000000) : IntKind.i64.wrap (a * b) = a * 20 ∧ (IntKind.i64.wrap (a * b)).tdiv b = a ∧ (IntKind.i64.wrap ((IntKind.i64.wrap (a * b)).tdiv b)) = a := by
  subst hb
  have e : IntKind.i64.wrap (a * 20) = a * 20 := wrap_in (by omega) (by omega)
  have e2 : (a * 20).tdiv 20 = a := Int.mul_tdiv_cancel _ (by decide)
  rw [e, e2]
  exact ⟨rfl, rfl, wrap_in (by omega) (by omega)⟩
def magV (a : Int) : Int := if a < 0 then -a else a
set_option maxHeartbeats 4000000 in
theorem fixed_Mul (a b : Int) (hb : b = 20) (h1 : -1000000000000 ≤ a) (h2 : a ≤ 1000000000000) : Ctr Tryd.prog G 90 [I64 (a), I64 (b)] [] (I64 (a * 20)) [] := by
  have hM := mul20 hb h1 h2
  refine Ctr.by layOk Tryd.func90 Tryd.ntmps90 rfl rfl rfl rfl rfl ?_
  repeat' (first
    | (((first | (with_reducible refine gQ0 ?_) | ((with_reducible refine gQ1 ?_ ?_); (focus (apply wg (r := true); (iterate 6 apply Eq.refl))))); (first | ((with_reducible apply q_move); apply Eq.refl) | ((with_reducible apply q_assign); apply Eq.refl) | ((with_reducible apply q_int); (iterate 3 apply Eq.refl)) | ((with_reducible apply q_pick_t); (iterate 2 apply Eq.refl)) | ((with_reducible apply q_pick_f); (iterate 2 apply Eq.refl)) | ((with_reducible apply q_quo); (iterate 2 apply Eq.refl); (focus (omega))))))
    | (((with_reducible refine gR ?_); (first | refine RK.peelN rfl ?_ | refine RK.donef rfl ⟨_, rfl, ?_⟩ | refine RK.donet rfl (by kernel_rfl) ⟨_, rfl, ?_⟩)))
    | ((first | (with_reducible refine gQv ?_ ?_) | (with_reducible refine gQe ?_ ?_)); (focus (first | (apply wg (r := false); (iterate 6 apply Eq.refl)) | (apply wz; (iterate 4 apply Eq.refl)))))
    | ((with_reducible refine gK ?_); ((first | (apply gsD; (iterate 4 apply Eq.refl)) | (apply RKo.gsplitE; (iterate 4 apply Eq.refl)) | (apply RKo.gsplitN; (iterate 4 apply Eq.refl)) | (apply RKo.gsplit; (iterate 4 apply Eq.refl))) <;> (intro hc; first | with_reducible exact ff hc | with_reducible exact ff' hc | with_reducible exact absurd hM.2.2 hc | exact absurd hc (by omega) | skip)))
    | (((with_reducible refine gW ?_); (first | with_reducible refine WP.seq ?_ | refine WP.reg mixed (fun ks => _) (fun ks => rfl) (fun ks => ?_) | ((first | (apply cdD; apply Eq.refl) | (apply WP.condE; apply Eq.refl) | (apply WP.condN; apply Eq.refl) | (apply WP.condA; apply Eq.refl)) <;> (intro hc; first | with_reducible exact ff hc | with_reducible exact ff' hc | with_reducible exact absurd hM.2.2 hc | exact absurd hc (by omega) | skip)) | refine WP.ret ?_ | refine WP.skip ?_ | refine WP.exit ?_ | refine WP.goto ?_ | refine WP.label ?_ | refine WP.block ?_)))
    | (with_reducible refine thn_n ?_)
    | (with_reducible refine thn_r ?_)
    | (with_reducible refine thn_e ?_)
    | (with_reducible refine thn_g ?_)
    | (with_reducible refine blk_n ?_)
    | (with_reducible refine blk_r ?_)
    | (with_reducible refine blk_e ?_)
    | (with_reducible refine blk_g ?_)
    | (((with_reducible refine blk_o ?_ ?_); first | exact rfl | skip))
    | (refine Endz.mk' (by first | exact Or.inl rfl | exact Or.inr rfl) (by repeat (first | exact RVs.nil | apply RVs.cons | exact RV1.tmp rfl | exact RV1.row rfl rfl rfl (by repeat (first | exact look_here | apply look_there)) (by exact rfl) | exact RV1.cell rfl rfl rfl (by repeat (first | exact look_here | apply look_there)) (by exact rfl))) (by first | exact congrArg (Value.int .i64) hM.1 | exact congrArg (Value.int .i64) (by omega)) (by repeat (first | exact List.nil_sublist _ | exact List.Sublist.refl _ | apply List.Sublist.cons_cons | apply List.Sublist.cons))))
set_option maxHeartbeats 4000000 in
theorem span_Shrink (a b k : Int) (hk : 1 ≤ k) (s1 : -4611686018427387904 ≤ a) (s2 : a ≤ 4611686018427387904) (s3 : -4611686018427387904 ≤ b) (s4 : b ≤ 4611686018427387904) : Ctr Tryd.prog G 91 [.agg #[I64 (a), I64 (b)], I64 k] [] (.agg #[I64 (dn a k), I64 (up b k)]) [] := by
  refine Ctr.by layOk Tryd.func91 Tryd.ntmps91 rfl rfl rfl rfl rfl ?_
  repeat' (first
    | (((with_reducible refine gQ0 ?_); (first | ((with_reducible apply q_move); apply Eq.refl) | ((with_reducible apply q_fa layOk); (iterate 5 apply Eq.refl)) | ((with_reducible apply q_load layOk); (iterate 3 apply Eq.refl); (focus (repeat (with_reducible (first | apply lh | apply lt)))); apply Eq.refl) | ((with_reducible apply q_loadr layOk); (iterate 3 apply Eq.refl); (focus (repeat (with_reducible (first | apply lh | apply lt)))); apply Eq.refl) | ((with_reducible apply q_build layOk); (iterate 4 apply Eq.refl)) | ((with_reducible apply q_box (k := ks _)); apply Eq.refl; (focus (repeat (with_reducible (first | apply lh | apply lt)))); apply Eq.refl) | ((with_reducible apply q_alloc (k := ks _) layOk); apply Eq.refl; (focus (repeat (with_reducible (first | apply lh | apply lt)))); apply Eq.refl) | ((with_reducible apply isF (f := 121)); (refine q_call0 rfl (fixed_Down _ _ hk s1 s2) ?_)) | ((with_reducible apply isF (f := 122)); (refine q_call0 rfl (fixed_Up _ _ hk s3 s4) ?_)) | ((with_reducible apply e_store layOk); (iterate 3 apply Eq.refl); (focus (repeat (with_reducible (first | apply lh | apply lt)))); (iterate 5 apply Eq.refl)))))
    | (((with_reducible refine gR ?_); (first | refine RK.peelN rfl ?_ | refine RK.donef rfl ⟨_, rfl, ?_⟩ | refine RK.donet rfl (by kernel_rfl) ⟨_, rfl, ?_⟩)))
    | (((with_reducible refine gW ?_); (first | with_reducible refine WP.seq ?_ | refine WP.reg mixed (fun ks => _) (fun ks => rfl) (fun ks => ?_) | ((first | (apply cdD; apply Eq.refl) | (apply WP.condE; apply Eq.refl) | (apply WP.condN; apply Eq.refl) | (apply WP.condA; apply Eq.refl)) <;> (intro hc; first | with_reducible exact ff hc | with_reducible exact ff' hc | skip)) | refine WP.ret ?_ | refine WP.skip ?_ | refine WP.exit ?_ | refine WP.goto ?_ | refine WP.label ?_ | refine WP.block ?_)))
    | (with_reducible refine thn_n ?_)
    | (with_reducible refine thn_r ?_)
    | (with_reducible refine thn_e ?_)
    | (with_reducible refine thn_g ?_)
    | (with_reducible refine blk_n ?_)
    | (with_reducible refine blk_r ?_)
    | (with_reducible refine blk_e ?_)
    | (with_reducible refine blk_g ?_)
    | (((with_reducible refine blk_o ?_ ?_); first | exact rfl | skip))
    | (refine Endz.mk' (by first | exact Or.inl rfl | exact Or.inr rfl) (by repeat (first | exact RVs.nil | apply RVs.cons | exact RV1.tmp rfl | exact RV1.row rfl rfl rfl (by repeat (first | exact look_here | apply look_there)) (by exact rfl) | exact RV1.cell rfl rfl rfl (by repeat (first | exact look_here | apply look_there)) (by exact rfl))) (by rfl) (by repeat (first | exact List.nil_sublist _ | exact List.Sublist.refl _ | apply List.Sublist.cons_cons | apply List.Sublist.cons))))
set_option maxHeartbeats 4000000 in
theorem span_Add (a b c d : Int) : Ctr Tryd.prog G 93 [.agg #[I64 (a), I64 (b)], .agg #[I64 (c), I64 (d)]] [] (.agg #[I64 (fAdd a c), I64 (fAdd b d)]) [] := by
  refine Ctr.by layOk Tryd.func93 Tryd.ntmps93 rfl rfl rfl rfl rfl ?_
  repeat' (first
    | (((with_reducible refine gQ0 ?_); (first | ((with_reducible apply q_fa layOk); (iterate 5 apply Eq.refl)) | ((with_reducible apply q_load layOk); (iterate 3 apply Eq.refl); (focus (repeat (with_reducible (first | apply lh | apply lt)))); apply Eq.refl) | ((with_reducible apply q_loadr layOk); (iterate 3 apply Eq.refl); (focus (repeat (with_reducible (first | apply lh | apply lt)))); apply Eq.refl) | ((with_reducible apply q_build layOk); (iterate 4 apply Eq.refl)) | ((with_reducible apply q_box (k := ks _)); apply Eq.refl; (focus (repeat (with_reducible (first | apply lh | apply lt)))); apply Eq.refl) | ((with_reducible apply q_alloc (k := ks _) layOk); apply Eq.refl; (focus (repeat (with_reducible (first | apply lh | apply lt)))); apply Eq.refl) | ((with_reducible apply isF (f := 116)); (refine q_call0 rfl (fixed_Add _ _) ?_)) | ((with_reducible apply e_store layOk); (iterate 3 apply Eq.refl); (focus (repeat (with_reducible (first | apply lh | apply lt)))); (iterate 5 apply Eq.refl)))))
    | (((with_reducible refine gR ?_); (first | refine RK.peelN rfl ?_ | refine RK.donef rfl ⟨_, rfl, ?_⟩ | refine RK.donet rfl (by kernel_rfl) ⟨_, rfl, ?_⟩)))
    | (((with_reducible refine gW ?_); (first | with_reducible refine WP.seq ?_ | refine WP.reg mixed (fun ks => _) (fun ks => rfl) (fun ks => ?_) | ((first | (apply cdD; apply Eq.refl) | (apply WP.condE; apply Eq.refl) | (apply WP.condN; apply Eq.refl) | (apply WP.condA; apply Eq.refl)) <;> (intro hc; first | with_reducible exact ff hc | with_reducible exact ff' hc | skip)) | refine WP.ret ?_ | refine WP.skip ?_ | refine WP.exit ?_ | refine WP.goto ?_ | refine WP.label ?_ | refine WP.block ?_)))
    | (with_reducible refine thn_n ?_)
    | (with_reducible refine thn_r ?_)
    | (with_reducible refine thn_e ?_)
    | (with_reducible refine thn_g ?_)
    | (with_reducible refine blk_n ?_)
    | (with_reducible refine blk_r ?_)
    | (with_reducible refine blk_e ?_)
    | (with_reducible refine blk_g ?_)
    | (((with_reducible refine blk_o ?_ ?_); first | exact rfl | skip))
    | (refine Endz.mk' (by first | exact Or.inl rfl | exact Or.inr rfl) (by repeat (first | exact RVs.nil | apply RVs.cons | exact RV1.tmp rfl | exact RV1.row rfl rfl rfl (by repeat (first | exact look_here | apply look_there)) (by exact rfl) | exact RV1.cell rfl rfl rfl (by repeat (first | exact look_here | apply look_there)) (by exact rfl))) (by rfl) (by repeat (first | exact List.nil_sublist _ | exact List.Sublist.refl _ | apply List.Sublist.cons_cons | apply List.Sublist.cons))))
set_option maxHeartbeats 4000000 in
theorem ref_AddSpan (a b c d : Int) : Ctr Tryd.prog G 96 [.agg #[I64 (a), I64 (b)], .agg #[I64 (c), I64 (d)]] [] (.agg #[I64 (rAdd a c), I64 (rAdd b d)]) [] := by
  refine Ctr.by layOk Tryd.func96 Tryd.ntmps96 rfl rfl rfl rfl rfl ?_
  repeat' (first
    | (((with_reducible refine gQ0 ?_); (first | ((with_reducible apply q_fa layOk); (iterate 5 apply Eq.refl)) | ((with_reducible apply q_load layOk); (iterate 3 apply Eq.refl); (focus (repeat (with_reducible (first | apply lh | apply lt)))); apply Eq.refl) | ((with_reducible apply q_loadr layOk); (iterate 3 apply Eq.refl); (focus (repeat (with_reducible (first | apply lh | apply lt)))); apply Eq.refl) | ((with_reducible apply q_build layOk); (iterate 4 apply Eq.refl)) | ((with_reducible apply q_box (k := ks _)); apply Eq.refl; (focus (repeat (with_reducible (first | apply lh | apply lt)))); apply Eq.refl) | ((with_reducible apply q_alloc (k := ks _) layOk); apply Eq.refl; (focus (repeat (with_reducible (first | apply lh | apply lt)))); apply Eq.refl) | ((with_reducible apply isF (f := 126)); (refine q_call0 rfl (ref_Add _ _) ?_)) | ((with_reducible apply e_store layOk); (iterate 3 apply Eq.refl); (focus (repeat (with_reducible (first | apply lh | apply lt)))); (iterate 5 apply Eq.refl)))))
    | (((with_reducible refine gR ?_); (first | refine RK.peelN rfl ?_ | refine RK.donef rfl ⟨_, rfl, ?_⟩ | refine RK.donet rfl (by kernel_rfl) ⟨_, rfl, ?_⟩)))
    | (((with_reducible refine gW ?_); (first | with_reducible refine WP.seq ?_ | refine WP.reg mixed (fun ks => _) (fun ks => rfl) (fun ks => ?_) | ((first | (apply cdD; apply Eq.refl) | (apply WP.condE; apply Eq.refl) | (apply WP.condN; apply Eq.refl) | (apply WP.condA; apply Eq.refl)) <;> (intro hc; first | with_reducible exact ff hc | with_reducible exact ff' hc | skip)) | refine WP.ret ?_ | refine WP.skip ?_ | refine WP.exit ?_ | refine WP.goto ?_ | refine WP.label ?_ | refine WP.block ?_)))
    | (with_reducible refine thn_n ?_)
    | (with_reducible refine thn_r ?_)
    | (with_reducible refine thn_e ?_)
    | (with_reducible refine thn_g ?_)
    | (with_reducible refine blk_n ?_)
    | (with_reducible refine blk_r ?_)
    | (with_reducible refine blk_e ?_)
    | (with_reducible refine blk_g ?_)
    | (((with_reducible refine blk_o ?_ ?_); first | exact rfl | skip))
    | (refine Endz.mk' (by first | exact Or.inl rfl | exact Or.inr rfl) (by repeat (first | exact RVs.nil | apply RVs.cons | exact RV1.tmp rfl | exact RV1.row rfl rfl rfl (by repeat (first | exact look_here | apply look_there)) (by exact rfl) | exact RV1.cell rfl rfl rfl (by repeat (first | exact look_here | apply look_there)) (by exact rfl))) (by rfl) (by repeat (first | exact List.nil_sublist _ | exact List.Sublist.refl _ | apply List.Sublist.cons_cons | apply List.Sublist.cons))))
set_option maxHeartbeats 4000000 in
theorem span_Hull (a b c d : Int) : Ctr Tryd.prog G 88 [.agg #[I64 (a), I64 (b)], .agg #[I64 (c), I64 (d)]] [] (.agg #[I64 (mn a c), I64 (mx b d)]) [] := by
  refine Ctr.by layOk Tryd.func88 Tryd.ntmps88 rfl rfl rfl rfl rfl ?_
  repeat' (first
    | (((with_reducible refine gQ0 ?_); (first | ((with_reducible apply q_fa layOk); (iterate 5 apply Eq.refl)) | ((with_reducible apply q_load layOk); (iterate 3 apply Eq.refl); (focus (repeat (with_reducible (first | apply lh | apply lt)))); apply Eq.refl) | ((with_reducible apply q_loadr layOk); (iterate 3 apply Eq.refl); (focus (repeat (with_reducible (first | apply lh | apply lt)))); apply Eq.refl) | ((with_reducible apply q_build layOk); (iterate 4 apply Eq.refl)) | ((with_reducible apply q_min); apply Eq.refl) | ((with_reducible apply q_max); apply Eq.refl) | ((with_reducible apply q_box (k := ks _)); apply Eq.refl; (focus (repeat (with_reducible (first | apply lh | apply lt)))); apply Eq.refl) | ((with_reducible apply q_alloc (k := ks _) layOk); apply Eq.refl; (focus (repeat (with_reducible (first | apply lh | apply lt)))); apply Eq.refl) | ((with_reducible apply e_store layOk); (iterate 3 apply Eq.refl); (focus (repeat (with_reducible (first | apply lh | apply lt)))); (iterate 5 apply Eq.refl)))))
    | (((with_reducible refine gR ?_); (first | refine RK.peelN rfl ?_ | refine RK.donef rfl ⟨_, rfl, ?_⟩ | refine RK.donet rfl (by kernel_rfl) ⟨_, rfl, ?_⟩)))
    | (((with_reducible refine gW ?_); (first | with_reducible refine WP.seq ?_ | refine WP.reg mixed (fun ks => _) (fun ks => rfl) (fun ks => ?_) | ((first | (apply cdD; apply Eq.refl) | (apply WP.condE; apply Eq.refl) | (apply WP.condN; apply Eq.refl) | (apply WP.condA; apply Eq.refl)) <;> (intro hc; first | with_reducible exact ff hc | with_reducible exact ff' hc | skip)) | refine WP.ret ?_ | refine WP.skip ?_ | refine WP.exit ?_ | refine WP.goto ?_ | refine WP.label ?_ | refine WP.block ?_)))
    | (with_reducible refine thn_n ?_)
    | (with_reducible refine thn_r ?_)
    | (with_reducible refine thn_e ?_)
    | (with_reducible refine thn_g ?_)
    | (with_reducible refine blk_n ?_)
    | (with_reducible refine blk_r ?_)
    | (with_reducible refine blk_e ?_)
    | (with_reducible refine blk_g ?_)
    | (((with_reducible refine blk_o ?_ ?_); first | exact rfl | skip))
    | (refine Endz.mk' (by first | exact Or.inl rfl | exact Or.inr rfl) (by repeat (first | exact RVs.nil | apply RVs.cons | exact RV1.tmp rfl | exact RV1.row rfl rfl rfl (by repeat (first | exact look_here | apply look_there)) (by exact rfl) | exact RV1.cell rfl rfl rfl (by repeat (first | exact look_here | apply look_there)) (by exact rfl))) (by rfl) (by repeat (first | exact List.nil_sublist _ | exact List.Sublist.refl _ | apply List.Sublist.cons_cons | apply List.Sublist.cons))))
set_option maxHeartbeats 4000000 in
theorem ref_Hull (a b c d : Int) : Ctr Tryd.prog G 89 [.agg #[I64 (a), I64 (b)], .agg #[I64 (c), I64 (d)]] [] (.agg #[I64 (mn a c), I64 (mx b d)]) [] := by
  refine Ctr.by layOk Tryd.func89 Tryd.ntmps89 rfl rfl rfl rfl rfl ?_
  repeat' (first
    | (((with_reducible refine gQ0 ?_); (first | ((with_reducible apply q_fa layOk); (iterate 5 apply Eq.refl)) | ((with_reducible apply q_load layOk); (iterate 3 apply Eq.refl); (focus (repeat (with_reducible (first | apply lh | apply lt)))); apply Eq.refl) | ((with_reducible apply q_loadr layOk); (iterate 3 apply Eq.refl); (focus (repeat (with_reducible (first | apply lh | apply lt)))); apply Eq.refl) | ((with_reducible apply q_build layOk); (iterate 4 apply Eq.refl)) | ((with_reducible apply q_min); apply Eq.refl) | ((with_reducible apply q_max); apply Eq.refl) | ((with_reducible apply q_box (k := ks _)); apply Eq.refl; (focus (repeat (with_reducible (first | apply lh | apply lt)))); apply Eq.refl) | ((with_reducible apply q_alloc (k := ks _) layOk); apply Eq.refl; (focus (repeat (with_reducible (first | apply lh | apply lt)))); apply Eq.refl) | ((with_reducible apply e_store layOk); (iterate 3 apply Eq.refl); (focus (repeat (with_reducible (first | apply lh | apply lt)))); (iterate 5 apply Eq.refl)))))
    | (((with_reducible refine gR ?_); (first | refine RK.peelN rfl ?_ | refine RK.donef rfl ⟨_, rfl, ?_⟩ | refine RK.donet rfl (by kernel_rfl) ⟨_, rfl, ?_⟩)))
    | (((with_reducible refine gW ?_); (first | with_reducible refine WP.seq ?_ | refine WP.reg mixed (fun ks => _) (fun ks => rfl) (fun ks => ?_) | ((first | (apply cdD; apply Eq.refl) | (apply WP.condE; apply Eq.refl) | (apply WP.condN; apply Eq.refl) | (apply WP.condA; apply Eq.refl)) <;> (intro hc; first | with_reducible exact ff hc | with_reducible exact ff' hc | skip)) | refine WP.ret ?_ | refine WP.skip ?_ | refine WP.exit ?_ | refine WP.goto ?_ | refine WP.label ?_ | refine WP.block ?_)))
    | (with_reducible refine thn_n ?_)
    | (with_reducible refine thn_r ?_)
    | (with_reducible refine thn_e ?_)
    | (with_reducible refine thn_g ?_)
    | (with_reducible refine blk_n ?_)
    | (with_reducible refine blk_r ?_)
    | (with_reducible refine blk_e ?_)
    | (with_reducible refine blk_g ?_)
    | (((with_reducible refine blk_o ?_ ?_); first | exact rfl | skip))
    | (refine Endz.mk' (by first | exact Or.inl rfl | exact Or.inr rfl) (by repeat (first | exact RVs.nil | apply RVs.cons | exact RV1.tmp rfl | exact RV1.row rfl rfl rfl (by repeat (first | exact look_here | apply look_there)) (by exact rfl) | exact RV1.cell rfl rfl rfl (by repeat (first | exact look_here | apply look_there)) (by exact rfl))) (by rfl) (by repeat (first | exact List.nil_sublist _ | exact List.Sublist.refl _ | apply List.Sublist.cons_cons | apply List.Sublist.cons))))
set_option maxHeartbeats 4000000 in
theorem ref_In (a b c d : Int) : Ctr Tryd.prog G 47 [.agg #[I64 (a), I64 (b)], .agg #[I64 (c), I64 (d)]] [] (.bool (decide (c ≤ a ∧ b ≤ d))) [] := by
  refine Ctr.by layOk Tryd.func47 Tryd.ntmps47 rfl rfl rfl rfl rfl ?_
  repeat' (first
    | (((first | (with_reducible refine gQ0 ?_) | ((with_reducible refine gQ1 ?_ ?_); (focus (apply wg (r := true); (iterate 6 apply Eq.refl))))); (first | ((with_reducible apply q_move); apply Eq.refl) | ((with_reducible apply q_assign); apply Eq.refl) | ((with_reducible apply q_int); (iterate 3 apply Eq.refl)) | ((with_reducible apply q_fa layOk); (iterate 5 apply Eq.refl)) | ((with_reducible apply q_load layOk); (iterate 3 apply Eq.refl); (focus (repeat (with_reducible (first | apply lh | apply lt)))); apply Eq.refl) | ((with_reducible apply q_loadr layOk); (iterate 3 apply Eq.refl); (focus (repeat (with_reducible (first | apply lh | apply lt)))); apply Eq.refl) | ((with_reducible apply q_box (k := ks _)); apply Eq.refl; (focus (repeat (with_reducible (first | apply lh | apply lt)))); apply Eq.refl) | ((with_reducible apply q_pick_t); (iterate 2 apply Eq.refl)) | ((with_reducible apply q_pick_f); (iterate 2 apply Eq.refl)))))
    | (((with_reducible refine gR ?_); (first | refine RK.peelN rfl ?_ | refine RK.donef rfl ⟨_, rfl, ?_⟩ | refine RK.donet rfl (by kernel_rfl) ⟨_, rfl, ?_⟩)))
    | ((first | (with_reducible refine gQv ?_ ?_) | (with_reducible refine gQe ?_ ?_)); (focus (first | (apply wg (r := false); (iterate 6 apply Eq.refl)) | (apply wz; (iterate 4 apply Eq.refl)))))
    | ((with_reducible refine gK ?_); ((first | (apply gsD; (iterate 4 apply Eq.refl)) | (apply RKo.gsplitE; (iterate 4 apply Eq.refl)) | (apply RKo.gsplitN; (iterate 4 apply Eq.refl)) | (apply RKo.gsplit; (iterate 4 apply Eq.refl))) <;> (intro hc; first | with_reducible exact ff hc | with_reducible exact ff' hc | skip)))
    | (((with_reducible refine gW ?_); (first | with_reducible refine WP.seq ?_ | refine WP.reg mixed (fun ks => _) (fun ks => rfl) (fun ks => ?_) | ((first | (apply cdD; apply Eq.refl) | (apply WP.condE; apply Eq.refl) | (apply WP.condN; apply Eq.refl) | (apply WP.condA; apply Eq.refl)) <;> (intro hc; first | with_reducible exact ff hc | with_reducible exact ff' hc | skip)) | refine WP.ret ?_ | refine WP.skip ?_ | refine WP.exit ?_ | refine WP.goto ?_ | refine WP.label ?_ | refine WP.block ?_)))
    | (with_reducible refine thn_n ?_)
    | (with_reducible refine thn_r ?_)
    | (with_reducible refine thn_e ?_)
    | (with_reducible refine thn_g ?_)
    | (with_reducible refine blk_n ?_)
    | (with_reducible refine blk_r ?_)
    | (with_reducible refine blk_e ?_)
    | (with_reducible refine blk_g ?_)
    | (((with_reducible refine blk_o ?_ ?_); first | exact rfl | skip))
    | (refine Endz.mk' (by first | exact Or.inl rfl | exact Or.inr rfl) (by repeat (first | exact RVs.nil | apply RVs.cons | exact RV1.tmp rfl | exact RV1.row rfl rfl rfl (by repeat (first | exact look_here | apply look_there)) (by exact rfl) | exact RV1.cell rfl rfl rfl (by repeat (first | exact look_here | apply look_there)) (by exact rfl))) (by first | rfl | (simp [tup, *]; done) | (simp [tup, *]; rfl) | (simp_all [tup]; done)) (by repeat (first | exact List.nil_sublist _ | exact List.Sublist.refl _ | apply List.Sublist.cons_cons | apply List.Sublist.cons))))
end Go.Proofs.YtlhhcongoplfpaaDoor
namespace Go.Proofs.YtlhhcongoplfpaaDoor
open Go Go.Proofs.YtlhhcongoplfpaaDoorAB
variable {G : Nat}
set_option linter.unusedSimpArgs false
set_option linter.unusedVariables false

theorem fSub_in {a b : Int} (h1 : -1000000000000 ≤ a) (h2 : a ≤ 1000000000000) (h3 : -1000000000000 ≤ b) (h4 : b ≤ 1000000000000) : fSub a b = a - b := by
  unfold fSub
  rw [wrap_in (x := a - b) (by omega) (by omega)]
  rw [IntKind.wrap_i64, IntKind.wrap_i64]
  rw [if_neg (by omega), if_neg (by omega)]
theorem fAdd_in {a b : Int} (h1 : -1000000000000 ≤ a) (h2 : a ≤ 1000000000000) (h3 : -1000000000000 ≤ b) (h4 : b ≤ 1000000000000) : fAdd a b = a + b := by
  unfold fAdd
  rw [wrap_in (x := a + b) (by omega) (by omega)]
  rw [IntKind.wrap_i64, IntKind.wrap_i64]
  rw [if_neg (by omega), if_neg (by omega)]
theorem rSub_in {a b : Int} (h1 : -1000000000000 ≤ a) (h2 : a ≤ 1000000000000) (h3 : -1000000000000 ≤ b) (h4 : b ≤ 1000000000000) : rSub a b = a - b := by
  have e := fAdd_in (a := a) (b := -b) h1 h2 (by omega) (by omega)
  unfold rSub rAdd
  unfold fAdd at e
  rw [if_neg (by omega), wrap_in (x := 0 - b) (by omega) (by omega), show (0 : Int) - b = -b by omega, e]
  omega
theorem u64_in {x : Int} (h1 : 0 ≤ x) (h2 : x ≤ 18446744073709551615) : IntKind.u64.wrap x = x := by
  rw [IntKind.wrap_u64]; omega
theorem mag_t {a : Int} (h1 : -1000000000000 ≤ a) (h2 : a ≤ 1000000000000) : (a < 0 → IntKind.u64.wrap (IntKind.u64.wrap (IntKind.i64.wrap (0 - IntKind.i64.wrap (a + 1))) + 1) = magV a) ∧ (¬ a < 0 → IntKind.u64.wrap a = magV a) := by
  refine ⟨fun h => ?_, fun h => ?_⟩
  · rw [wrap_in (x := a + 1) (by omega) (by omega), wrap_in (by omega) (by omega), u64_in (x := 0 - (a + 1)) (by omega) (by omega), u64_in (by omega) (by omega)]
    unfold magV; rw [if_pos h]; omega
  · rw [u64_in (by omega) (by omega)]
    unfold magV; rw [if_neg h]
set_option maxHeartbeats 4000000 in
theorem ref_mag (a : Int) (h1 : -1000000000000 ≤ a) (h2 : a ≤ 1000000000000) : Ctr Tryd.prog G 124 [I64 (a)] [] (.int .u64 (magV a)) [] := by
  have hM := mag_t h1 h2
  refine Ctr.by layOk Tryd.func124 Tryd.ntmps124 rfl rfl rfl rfl rfl ?_
  repeat' (first
    | (((with_reducible refine gQ0 ?_); (first | ((with_reducible apply q_move); apply Eq.refl) | ((with_reducible apply q_assign); apply Eq.refl) | ((with_reducible apply q_int); (iterate 3 apply Eq.refl)) | ((with_reducible apply q_neg); apply Eq.refl) | ((with_reducible apply q_conv); apply Eq.refl; exact Tryd.underlying2; exact Tryd.underlying153))))
    | (((with_reducible refine gR ?_); (first | refine RK.peelN rfl ?_ | refine RK.donef rfl ⟨_, rfl, ?_⟩ | refine RK.donet rfl (by kernel_rfl) ⟨_, rfl, ?_⟩)))
    | (((with_reducible refine gW ?_); (first | with_reducible refine WP.seq ?_ | refine WP.reg mixed (fun ks => _) (fun ks => rfl) (fun ks => ?_) | ((first | (apply cdD; apply Eq.refl) | (apply WP.condE; apply Eq.refl) | (apply WP.condN; apply Eq.refl) | (apply WP.condA; apply Eq.refl)) <;> (intro hc; first | with_reducible exact ff hc | with_reducible exact ff' hc | skip)) | refine WP.ret ?_ | refine WP.skip ?_ | refine WP.exit ?_ | refine WP.goto ?_ | refine WP.label ?_ | refine WP.block ?_)))
    | (with_reducible refine thn_n ?_)
    | (with_reducible refine thn_r ?_)
    | (with_reducible refine thn_e ?_)
    | (with_reducible refine thn_g ?_)
    | (with_reducible refine blk_n ?_)
    | (with_reducible refine blk_r ?_)
    | (with_reducible refine blk_e ?_)
    | (with_reducible refine blk_g ?_)
    | (((with_reducible refine blk_o ?_ ?_); first | exact rfl | skip))
    | (refine Endz.mk' (by first | exact Or.inl rfl | exact Or.inr rfl) (by repeat (first | exact RVs.nil | apply RVs.cons | exact RV1.tmp rfl | exact RV1.row rfl rfl rfl (by repeat (first | exact look_here | apply look_there)) (by exact rfl) | exact RV1.cell rfl rfl rfl (by repeat (first | exact look_here | apply look_there)) (by exact rfl))) (by first | exact congrArg (Value.int .u64) (hM.1 (by assumption)) | exact congrArg (Value.int .u64) (hM.2 (by assumption))) (by repeat (first | exact List.nil_sublist _ | exact List.Sublist.refl _ | apply List.Sublist.cons_cons | apply List.Sublist.cons))))

theorem rmul20 {a b : Int} (hb : b = 20) (h1 : -1000000000000 ≤ a) (h2 : a ≤ 1000000000000) : (a > 0 → IntKind.i64.wrap (IntKind.u64.wrap (magV a * magV b)) = a * 20) ∧ (a < 0 → IntKind.i64.wrap (IntKind.u64.wrap (0 - IntKind.u64.wrap (magV a * magV b))) = a * 20) ∧ ¬ (magV a > IntKind.u64.wrap ((9223372036854775807 : Int).tdiv (magV b))) ∧ ¬ (magV a > IntKind.u64.wrap ((9223372036854775808 : Int).tdiv (magV b))) ∧ magV b ≠ 0 := by
  subst hb
  have e : magV 20 = 20 := by decide
  have e1 : IntKind.u64.wrap ((9223372036854775807 : Int).tdiv 20) = 461168601842738790 := by decide
  have e2 : IntKind.u64.wrap ((9223372036854775808 : Int).tdiv 20) = 461168601842738790 := by decide
  rw [e, e1, e2]
  have m : magV a ≤ 1000000000000 := by unfold magV; split <;> omega
  refine ⟨fun h => ?_, fun h => ?_, by omega, by omega, by decide⟩
  · have e3 : magV a = a := by unfold magV; rw [if_neg (by omega)]
    rw [e3, u64_in (by omega) (by omega), wrap_in (by omega) (by omega)]
  · have e3 : magV a = -a := by unfold magV; rw [if_pos h]
    rw [e3, u64_in (x := -a * 20) (by omega) (by omega), IntKind.wrap_u64, IntKind.wrap_i64]
    omega
set_option maxHeartbeats 4000000 in
theorem ref_Mul (a b : Int) (hb : b = 20) (h1 : -1000000000000 ≤ a) (h2 : a ≤ 1000000000000) : Ctr Tryd.prog G 94 [I64 (a), I64 (b)] [] (I64 (a * 20)) [] := by
  have hM := rmul20 hb h1 h2
  refine Ctr.by layOk Tryd.func94 Tryd.ntmps94 rfl rfl rfl rfl rfl ?_
  repeat' (first
    | (((first | (with_reducible refine gQ0 ?_) | ((with_reducible refine gQ1 ?_ ?_); (focus (apply wg (r := true); (iterate 6 apply Eq.refl))))); (first | ((with_reducible apply q_move); apply Eq.refl) | ((with_reducible apply q_assign); apply Eq.refl) | ((with_reducible apply q_int); (iterate 3 apply Eq.refl)) | ((with_reducible apply q_neg); apply Eq.refl) | ((with_reducible apply q_pick_t); (iterate 2 apply Eq.refl)) | ((with_reducible apply q_pick_f); (iterate 2 apply Eq.refl)) | ((with_reducible apply q_quo); (iterate 2 apply Eq.refl); exact hM.2.2.2.2) | ((with_reducible apply q_conv); apply Eq.refl; exact Tryd.underlying153; exact Tryd.underlying2) | ((with_reducible apply isF (f := 124)); (refine q_call0 rfl (ref_mag a h1 h2) ?_)) | ((with_reducible apply isF (f := 124)); (refine q_call0 rfl (ref_mag b (by omega) (by omega)) ?_)))))
    | (((with_reducible refine gR ?_); (first | refine RK.peelN rfl ?_ | refine RK.donef rfl ⟨_, rfl, ?_⟩ | refine RK.donet rfl (by kernel_rfl) ⟨_, rfl, ?_⟩)))
    | ((first | (with_reducible refine gQv ?_ ?_) | (with_reducible refine gQe ?_ ?_)); (focus (first | (apply wg (r := false); (iterate 6 apply Eq.refl)) | (apply wz; (iterate 4 apply Eq.refl)))))
    | ((with_reducible refine gK ?_); ((first | (apply gsD; (iterate 4 apply Eq.refl)) | (apply RKo.gsplitE; (iterate 4 apply Eq.refl)) | (apply RKo.gsplitN; (iterate 4 apply Eq.refl)) | (apply RKo.gsplit; (iterate 4 apply Eq.refl))) <;> (intro hc; first | with_reducible exact ff hc | with_reducible exact ff' hc | with_reducible exact absurd hc hM.2.2.1 | with_reducible exact absurd hc hM.2.2.2.1 | exact absurd hc (by omega) | skip)))
    | (((with_reducible refine gW ?_); (first | with_reducible refine WP.seq ?_ | refine WP.reg mixed (fun ks => _) (fun ks => rfl) (fun ks => ?_) | ((first | (apply cdD; apply Eq.refl) | (apply WP.condE; apply Eq.refl) | (apply WP.condN; apply Eq.refl) | (apply WP.condA; apply Eq.refl)) <;> (intro hc; first | with_reducible exact ff hc | with_reducible exact ff' hc | with_reducible exact absurd hc hM.2.2.1 | with_reducible exact absurd hc hM.2.2.2.1 | exact absurd hc (by omega) | skip)) | refine WP.ret ?_ | refine WP.skip ?_ | refine WP.exit ?_ | refine WP.goto ?_ | refine WP.label ?_ | refine WP.block ?_)))
    | (with_reducible refine thn_n ?_)
    | (with_reducible refine thn_r ?_)
    | (with_reducible refine thn_e ?_)
    | (with_reducible refine thn_g ?_)
    | (with_reducible refine blk_n ?_)
    | (with_reducible refine blk_r ?_)
    | (with_reducible refine blk_e ?_)
    | (with_reducible refine blk_g ?_)
    | (((with_reducible refine blk_o ?_ ?_); first | exact rfl | skip))
    | (refine Endz.mk' (by first | exact Or.inl rfl | exact Or.inr rfl) (by repeat (first | exact RVs.nil | apply RVs.cons | exact RV1.tmp rfl | exact RV1.row rfl rfl rfl (by repeat (first | exact look_here | apply look_there)) (by exact rfl) | exact RV1.cell rfl rfl rfl (by repeat (first | exact look_here | apply look_there)) (by exact rfl))) (by first | exact congrArg (Value.int .i64) (hM.1 (by assumption)) | exact congrArg (Value.int .i64) (hM.2.1 (by omega)) | exact congrArg (Value.int .i64) (by omega)) (by repeat (first | exact List.nil_sublist _ | exact List.Sublist.refl _ | apply List.Sublist.cons_cons | apply List.Sublist.cons))))

theorem agg2_eq {a b c d : Int} (h1 : a = c) (h2 : b = d) : Value.agg #[.int .i64 a, .int .i64 b] = .agg #[.int .i64 c, .int .i64 d] := by rw [h1, h2]
theorem mm_s1 {a : Int} (h1 : -1000000000 ≤ a) (h2 : a ≤ 1000000000) : -4611686018427387904 ≤ mn (a * 20) (a * 20) := by unfold mn; simp; omega
theorem mm_s2 {a : Int} (h1 : -1000000000 ≤ a) (h2 : a ≤ 1000000000) : mn (a * 20) (a * 20) ≤ 4611686018427387904 := by unfold mn; simp; omega
theorem mm_s3 {a : Int} (h1 : -1000000000 ≤ a) (h2 : a ≤ 1000000000) : -4611686018427387904 ≤ mx (a * 20) (a * 20) := by unfold mx; simp; omega
theorem mm_s4 {a : Int} (h1 : -1000000000 ≤ a) (h2 : a ≤ 1000000000) : mx (a * 20) (a * 20) ≤ 4611686018427387904 := by unfold mx; simp; omega
theorem rest_t {a v e : Int} (h1 : -1000000000 ≤ a) (h2 : a ≤ 1000000000) (v1 : -1000000000 ≤ v) (v2 : v ≤ 1000000000) (e1 : 0 ≤ e) (e2 : e ≤ 1000000000) :
    wLo (fAdd (mn v v) (dn (mn (a * 20) (a * 20)) 1000)) e = v + dn (a * 20) 1000 - e ∧ wHi (fAdd (mx v v) (up (mx (a * 20) (a * 20)) 1000)) e = v + up (a * 20) 1000 + e ∧
    rwLo (rAdd v (dn (a * 20) 1000)) e = v + dn (a * 20) 1000 - e ∧ rwHi (rAdd v (up (a * 20) 1000)) e = v + up (a * 20) 1000 + e := by
  have m1 : ∀ x, mn x x = x := fun x => by unfold mn; simp
  have m2 : ∀ x, mx x x = x := fun x => by unfold mx; simp
  have d1 : -20000001 ≤ dn (a * 20) 1000 ∧ dn (a * 20) 1000 ≤ 20000001 := by unfold dn; omega
  have d2 : -20000001 ≤ up (a * 20) 1000 ∧ up (a * 20) 1000 ≤ 20000001 := by unfold up; omega
  have f1 : ∀ x y, -1000000000000 ≤ x → x ≤ 1000000000000 → -1000000000000 ≤ y → y ≤ 1000000000000 → fAdd x y = x + y := fun x y a b c d => fAdd_in a b c d
  have f2 : ∀ x y, -1000000000000 ≤ x → x ≤ 1000000000000 → -1000000000000 ≤ y → y ≤ 1000000000000 → fSub x y = x - y := fun x y a b c d => fSub_in a b c d
  have f3 : ∀ x y, -1000000000000 ≤ x → x ≤ 1000000000000 → -1000000000000 ≤ y → y ≤ 1000000000000 → rAdd x y = x + y := fun x y a b c d => fAdd_in a b c d
  have f4 : ∀ x y, -1000000000000 ≤ x → x ≤ 1000000000000 → -1000000000000 ≤ y → y ≤ 1000000000000 → rSub x y = x - y := fun x y a b c d => rSub_in a b c d
  rw [m1, m2, m1, m2]
  unfold wLo wHi rwLo rwHi
  rw [if_neg (by omega), if_neg (by omega), if_neg (by omega), if_neg (by omega)]
  rw [f1 v (dn (a * 20) 1000) (by omega) (by omega) (by omega) (by omega), f1 v (up (a * 20) 1000) (by omega) (by omega) (by omega) (by omega), f3 v (dn (a * 20) 1000) (by omega) (by omega) (by omega) (by omega), f3 v (up (a * 20) 1000) (by omega) (by omega) (by omega) (by omega)]
  rw [f2 (v + dn (a * 20) 1000) e (by omega) (by omega) (by omega) (by omega), f1 (v + up (a * 20) 1000) e (by omega) (by omega) (by omega) (by omega), f4 (v + dn (a * 20) 1000) e (by omega) (by omega) (by omega) (by omega), f3 (v + up (a * 20) 1000) e (by omega) (by omega) (by omega) (by omega)]
  exact ⟨rfl, rfl, rfl, rfl⟩
set_option maxHeartbeats 4000000 in
theorem sag_Rest (c : Cfg) (v a : Int) (hO : c.Ohm = 20) (h1 : -1000000000 ≤ a) (h2 : a ≤ 1000000000) (v1 : -1000000000 ≤ v) (v2 : v ≤ 1000000000) (e1 : 0 ≤ c.SagErr) (e2 : c.SagErr ≤ 1000000000) : Ctr Tryd.prog G 44 [.agg ⟨c.cells⟩, I64 v, I64 a] [] (.agg #[I64 (v + dn (a * 20) 1000 - c.SagErr), I64 (v + up (a * 20) 1000 + c.SagErr)]) [] := by
  have hR := rest_t h1 h2 v1 v2 e1 e2
  refine Ctr.by layOk Tryd.func44 Tryd.ntmps44 rfl rfl rfl rfl rfl ?_
  repeat' (first
    | (((with_reducible refine gQ0 ?_); (first | ((with_reducible apply q_move); apply Eq.refl) | ((with_reducible apply q_assign); apply Eq.refl) | ((with_reducible apply q_fa layOk); (iterate 5 apply Eq.refl)) | ((with_reducible apply q_load layOk); (iterate 3 apply Eq.refl); (focus (repeat (with_reducible (first | apply lh | apply lt)))); apply Eq.refl) | ((with_reducible apply q_loadr layOk); (iterate 3 apply Eq.refl); (focus (repeat (with_reducible (first | apply lh | apply lt)))); apply Eq.refl) | ((with_reducible apply q_box (k := ks _)); apply Eq.refl; (focus (repeat (with_reducible (first | apply lh | apply lt)))); apply Eq.refl) | ((with_reducible apply q_alloc (k := ks _) layOk); apply Eq.refl; (focus (repeat (with_reducible (first | apply lh | apply lt)))); apply Eq.refl) | ((with_reducible apply isF (f := 90)); (refine q_call0 rfl (fixed_Mul a c.Ohm hO (by omega) (by omega)) ?_)) | ((with_reducible apply isF (f := 84)); (refine q_call0 rfl (span_Of _ _) ?_)) | ((with_reducible apply isF (f := 91)); (refine q_call0 rfl (span_Shrink _ _ _ (by decide) (mm_s1 h1 h2) (mm_s2 h1 h2) (mm_s3 h1 h2) (mm_s4 h1 h2)) ?_)) | ((with_reducible apply isF (f := 93)); (refine q_call0 rfl (span_Add _ _ _ _) ?_)) | ((with_reducible apply isF (f := 92)); (refine q_call0 rfl (span_Widen _ _ _) ?_)) | ((with_reducible apply e_store layOk); (iterate 3 apply Eq.refl); (focus (repeat (with_reducible (first | apply lh | apply lt)))); (iterate 5 apply Eq.refl)))))
    | (((with_reducible refine gR ?_); (first | refine RK.peelN rfl ?_ | refine RK.donef rfl ⟨_, rfl, ?_⟩ | refine RK.donet rfl (by kernel_rfl) ⟨_, rfl, ?_⟩)))
    | (((with_reducible refine gW ?_); (first | with_reducible refine WP.seq ?_ | refine WP.reg mixed (fun ks => _) (fun ks => rfl) (fun ks => ?_) | ((first | (apply cdD; apply Eq.refl) | (apply WP.condE; apply Eq.refl) | (apply WP.condN; apply Eq.refl) | (apply WP.condA; apply Eq.refl)) <;> (intro hc; first | with_reducible exact ff hc | with_reducible exact ff' hc | skip)) | refine WP.ret ?_ | refine WP.skip ?_ | refine WP.exit ?_ | refine WP.goto ?_ | refine WP.label ?_ | refine WP.block ?_)))
    | (with_reducible refine thn_n ?_)
    | (with_reducible refine thn_r ?_)
    | (with_reducible refine thn_e ?_)
    | (with_reducible refine thn_g ?_)
    | (with_reducible refine blk_n ?_)
    | (with_reducible refine blk_r ?_)
    | (with_reducible refine blk_e ?_)
    | (with_reducible refine blk_g ?_)
    | (((with_reducible refine blk_o ?_ ?_); first | exact rfl | skip))
    | (refine Endz.mk' (by first | exact Or.inl rfl | exact Or.inr rfl) (by repeat (first | exact RVs.nil | apply RVs.cons | exact RV1.tmp rfl | exact RV1.row rfl rfl rfl (by repeat (first | exact look_here | apply look_there)) (by exact rfl) | exact RV1.cell rfl rfl rfl (by repeat (first | exact look_here | apply look_there)) (by exact rfl))) (by exact agg2_eq hR.1 hR.2.1) (by repeat (first | exact List.nil_sublist _ | exact List.Sublist.refl _ | apply List.Sublist.cons_cons | apply List.Sublist.cons))))
set_option maxHeartbeats 4000000 in
theorem ref_Rest (c : Cfg) (v a : Int) (hO : c.Ohm = 20) (h1 : -1000000000 ≤ a) (h2 : a ≤ 1000000000) (v1 : -1000000000 ≤ v) (v2 : v ≤ 1000000000) (e1 : 0 ≤ c.SagErr) (e2 : c.SagErr ≤ 1000000000) : Ctr Tryd.prog G 45 [.agg ⟨c.cells⟩, I64 v, I64 a] [] (.agg #[I64 (v + dn (a * 20) 1000 - c.SagErr), I64 (v + up (a * 20) 1000 + c.SagErr)]) [] := by
  have hR := rest_t h1 h2 v1 v2 e1 e2
  refine Ctr.by layOk Tryd.func45 Tryd.ntmps45 rfl rfl rfl rfl rfl ?_
  repeat' (first
    | (((with_reducible refine gQ0 ?_); (first | ((with_reducible apply q_move); apply Eq.refl) | ((with_reducible apply q_assign); apply Eq.refl) | ((with_reducible apply q_fa layOk); (iterate 5 apply Eq.refl)) | ((with_reducible apply q_load layOk); (iterate 3 apply Eq.refl); (focus (repeat (with_reducible (first | apply lh | apply lt)))); apply Eq.refl) | ((with_reducible apply q_loadr layOk); (iterate 3 apply Eq.refl); (focus (repeat (with_reducible (first | apply lh | apply lt)))); apply Eq.refl) | ((with_reducible apply q_build layOk); (iterate 4 apply Eq.refl)) | ((with_reducible apply q_box (k := ks _)); apply Eq.refl; (focus (repeat (with_reducible (first | apply lh | apply lt)))); apply Eq.refl) | ((with_reducible apply q_alloc (k := ks _) layOk); apply Eq.refl; (focus (repeat (with_reducible (first | apply lh | apply lt)))); apply Eq.refl) | ((with_reducible apply isF (f := 94)); (refine q_call0 rfl (ref_Mul a c.Ohm hO (by omega) (by omega)) ?_)) | ((with_reducible apply isF (f := 46)); (refine q_call0 rfl (ref_Down _ _ (by decide) (by omega) (by omega)) ?_)) | ((with_reducible apply isF (f := 86)); (refine q_call0 rfl (ref_Up _ _ (by decide) (by omega) (by omega)) ?_)) | ((with_reducible apply isF (f := 96)); (refine q_call0 rfl (ref_AddSpan _ _ _ _) ?_)) | ((with_reducible apply isF (f := 95)); (refine q_call0 rfl (ref_Widen _ _ _) ?_)) | ((with_reducible apply e_store layOk); (iterate 3 apply Eq.refl); (focus (repeat (with_reducible (first | apply lh | apply lt)))); (iterate 5 apply Eq.refl)))))
    | (((with_reducible refine gR ?_); (first | refine RK.peelN rfl ?_ | refine RK.donef rfl ⟨_, rfl, ?_⟩ | refine RK.donet rfl (by kernel_rfl) ⟨_, rfl, ?_⟩)))
    | (((with_reducible refine gW ?_); (first | with_reducible refine WP.seq ?_ | refine WP.reg mixed (fun ks => _) (fun ks => rfl) (fun ks => ?_) | ((first | (apply cdD; apply Eq.refl) | (apply WP.condE; apply Eq.refl) | (apply WP.condN; apply Eq.refl) | (apply WP.condA; apply Eq.refl)) <;> (intro hc; first | with_reducible exact ff hc | with_reducible exact ff' hc | skip)) | refine WP.ret ?_ | refine WP.skip ?_ | refine WP.exit ?_ | refine WP.goto ?_ | refine WP.label ?_ | refine WP.block ?_)))
    | (with_reducible refine thn_n ?_)
    | (with_reducible refine thn_r ?_)
    | (with_reducible refine thn_e ?_)
    | (with_reducible refine thn_g ?_)
    | (with_reducible refine blk_n ?_)
    | (with_reducible refine blk_r ?_)
    | (with_reducible refine blk_e ?_)
    | (with_reducible refine blk_g ?_)
    | (((with_reducible refine blk_o ?_ ?_); first | exact rfl | skip))
    | (refine Endz.mk' (by first | exact Or.inl rfl | exact Or.inr rfl) (by repeat (first | exact RVs.nil | apply RVs.cons | exact RV1.tmp rfl | exact RV1.row rfl rfl rfl (by repeat (first | exact look_here | apply look_there)) (by exact rfl) | exact RV1.cell rfl rfl rfl (by repeat (first | exact look_here | apply look_there)) (by exact rfl))) (by exact agg2_eq hR.2.2.1 hR.2.2.2) (by repeat (first | exact List.nil_sublist _ | exact List.Sublist.refl _ | apply List.Sublist.cons_cons | apply List.Sublist.cons))))
end Go.Proofs.YtlhhcongoplfpaaDoor
namespace Go.Proofs.YtlhhcongoplfpaaDoor
open Go Go.Proofs.YtlhhcongoplfpaaDoorAB
variable {G : Nat}
set_option linter.unusedSimpArgs false
set_option linter.unusedVariables false

theorem tok_lo {n : Nat} {X Y : Nat → Int} (o : TOk n X Y) {x : Nat} (h : x < n) : (¬ X x < -1073741824 ∧ ¬ X x > 1073741824) ∧ (¬ Y x < -1073741824 ∧ ¬ Y x > 1073741824) :=
  ⟨⟨by have := o.x1 x h; omega, by have := o.x2 x h; omega⟩, by have := o.y1 x h; omega, by have := o.y2 x h; omega⟩
theorem tok_up {n : Nat} {X Y : Nat → Int} (o : TOk n X Y) {x : Nat} (h : x < n) (h0 : (x : Int) > 0) : ¬ X x ≤ X (x - 1) ∧ ¬ Y x < Y (x - 1) := by
  have h1 := o.xs (x - 1) (by omega)
  have h2 := o.ys (x - 1) (by omega)
  rw [show x - 1 + 1 = x by omega] at h1 h2
  omega
set_option maxHeartbeats 4000000 in
theorem outside_in (x : Int) (h : ¬ x < -1073741824 ∧ ¬ x > 1073741824) : Ctr Tryd.prog G 78 [I64 (x)] [] (.bool false) [] := by
  refine Ctr.by layOk Tryd.func78 Tryd.ntmps78 rfl rfl rfl rfl rfl ?_
  repeat' (first
    | (((first | (with_reducible refine gQ0 ?_) | ((with_reducible refine gQ1 ?_ ?_); (focus (apply wg (r := true); (iterate 6 apply Eq.refl))))); (first | ((with_reducible apply q_move); apply Eq.refl) | ((with_reducible apply q_assign); apply Eq.refl) | ((with_reducible apply q_int); (iterate 3 apply Eq.refl)) | ((with_reducible apply q_pick_t); (iterate 2 apply Eq.refl)) | ((with_reducible apply q_pick_f); (iterate 2 apply Eq.refl)))))
    | (((with_reducible refine gR ?_); (first | refine RK.peelN rfl ?_ | refine RK.donef rfl ⟨_, rfl, ?_⟩ | refine RK.donet rfl (by kernel_rfl) ⟨_, rfl, ?_⟩)))
    | ((first | (with_reducible refine gQv ?_ ?_) | (with_reducible refine gQe ?_ ?_)); (focus (first | (apply wg (r := false); (iterate 6 apply Eq.refl)) | (apply wz; (iterate 4 apply Eq.refl)))))
    | ((with_reducible refine gK ?_); ((first | (apply gsD; (iterate 4 apply Eq.refl)) | (apply RKo.gsplitE; (iterate 4 apply Eq.refl)) | (apply RKo.gsplitN; (iterate 4 apply Eq.refl)) | (apply RKo.gsplit; (iterate 4 apply Eq.refl))) <;> (intro hc; first | with_reducible exact ff hc | with_reducible exact ff' hc | with_reducible exact absurd hc h.1 | with_reducible exact absurd hc h.2 | skip)))
    | (((with_reducible refine gW ?_); (first | with_reducible refine WP.seq ?_ | refine WP.reg mixed (fun ks => _) (fun ks => rfl) (fun ks => ?_) | ((first | (apply cdD; apply Eq.refl) | (apply WP.condE; apply Eq.refl) | (apply WP.condN; apply Eq.refl) | (apply WP.condA; apply Eq.refl)) <;> (intro hc; first | with_reducible exact ff hc | with_reducible exact ff' hc | with_reducible exact absurd hc h.1 | with_reducible exact absurd hc h.2 | skip)) | refine WP.ret ?_ | refine WP.skip ?_ | refine WP.exit ?_ | refine WP.goto ?_ | refine WP.label ?_ | refine WP.block ?_)))
    | (with_reducible refine thn_n ?_)
    | (with_reducible refine thn_r ?_)
    | (with_reducible refine thn_e ?_)
    | (with_reducible refine thn_g ?_)
    | (with_reducible refine blk_n ?_)
    | (with_reducible refine blk_r ?_)
    | (with_reducible refine blk_e ?_)
    | (with_reducible refine blk_g ?_)
    | (((with_reducible refine blk_o ?_ ?_); first | exact rfl | skip))
    | (refine Endz.mk' (by first | exact Or.inl rfl | exact Or.inr rfl) (by repeat (first | exact RVs.nil | apply RVs.cons | exact RV1.tmp rfl | exact RV1.row rfl rfl rfl (by repeat (first | exact look_here | apply look_there)) (by exact rfl) | exact RV1.cell rfl rfl rfl (by repeat (first | exact look_here | apply look_there)) (by exact rfl))) (by first | rfl | (simp [tup, h.1, h.2]; done)) (by repeat (first | exact List.nil_sublist _ | exact List.Sublist.refl _ | apply List.Sublist.cons_cons | apply List.Sublist.cons))))

set_option maxHeartbeats 8000000 in
theorem table_Check {ob : AObj} {k f n cap : Nat} {X Y : Nat → Int} {a : Option Addr} (tb : Tb ob f n X Y) (ok : TOk n X Y) (ha : 0 < n → a = some ⟨k, f, none⟩) : Ctr Tryd.prog G 30 [.slice a n cap] [(k, ob)] .nilIface [ob] := by
  have hn2' := ok.n2
  have hn64' := ok.n64
  have hn1 : ¬ (n : Int) < 2 := by omega
  have hn2 : ¬ (n : Int) > 64 := by omega
  refine Ctr.by layOk Tryd.func30 Tryd.ntmps30 rfl rfl rfl rfl rfl ?_
  repeat' (first
    | (((first | (with_reducible refine gQ0 ?_) | ((with_reducible refine gQ1 ?_ ?_); (focus (apply wg (r := true); (iterate 6 apply Eq.refl))))); (first | ((with_reducible apply q_move); apply Eq.refl) | ((with_reducible apply q_assign); apply Eq.refl) | ((with_reducible apply q_int); (iterate 3 apply Eq.refl)) | ((with_reducible apply q_fa layOk); (iterate 5 apply Eq.refl)) | ((with_reducible apply q_load layOk); (iterate 3 apply Eq.refl); (focus (repeat (with_reducible (first | apply lh | apply lt)))); apply Eq.refl) | ((with_reducible apply q_loadr layOk); (iterate 3 apply Eq.refl); (focus (repeat (with_reducible (first | apply lh | apply lt)))); apply Eq.refl) | ((with_reducible apply q_build layOk); (iterate 4 apply Eq.refl)) | ((with_reducible apply q_box (k := ks _)); apply Eq.refl; (focus (repeat (with_reducible (first | apply lh | apply lt)))); apply Eq.refl) | ((with_reducible apply q_alloc (k := ks _) layOk); apply Eq.refl; (focus (repeat (with_reducible (first | apply lh | apply lt)))); apply Eq.refl) | ((with_reducible apply q_pick_t); (iterate 2 apply Eq.refl)) | ((with_reducible apply q_pick_f); (iterate 2 apply Eq.refl)) | ((with_reducible apply q_len layOk); (iterate 4 apply Eq.refl)) | ((with_reducible apply e_store layOk); (iterate 3 apply Eq.refl); (focus (repeat (with_reducible (first | apply lh | apply lt)))); (iterate 5 apply Eq.refl)))))
    | (((with_reducible refine gR ?_); (first | refine RK.peelN rfl ?_ | refine RK.donef rfl ⟨_, rfl, ?_⟩ | refine RK.donet rfl (by kernel_rfl) ⟨_, rfl, ?_⟩)))
    | ((first | (with_reducible refine gQv ?_ ?_) | (with_reducible refine gQe ?_ ?_)); (focus (first | (apply wg (r := false); (iterate 6 apply Eq.refl)) | (apply wz; (iterate 4 apply Eq.refl)))))
    | ((with_reducible refine gK ?_); ((first | (apply gsD; (iterate 4 apply Eq.refl)) | (apply RKo.gsplitE; (iterate 4 apply Eq.refl)) | (apply RKo.gsplitN; (iterate 4 apply Eq.refl)) | (apply RKo.gsplit; (iterate 4 apply Eq.refl))) <;> (intro hc; first | with_reducible exact ff hc | with_reducible exact ff' hc | with_reducible exact absurd hc hn1 | with_reducible exact absurd hc hn2 | skip)))
    | (((with_reducible refine gW ?_); (first | with_reducible refine WP.seq ?_ | refine WP.reg mixed (fun ks => _) (fun ks => rfl) (fun ks => ?_) | ((first | (apply cdD; apply Eq.refl) | (apply WP.condE; apply Eq.refl) | (apply WP.condN; apply Eq.refl) | (apply WP.condA; apply Eq.refl)) <;> (intro hc; first | with_reducible exact ff hc | with_reducible exact ff' hc | with_reducible exact absurd hc hn1 | with_reducible exact absurd hc hn2 | skip)) | refine WP.ret ?_ | refine WP.skip ?_ | refine WP.exit ?_ | refine WP.goto ?_ | refine WP.label ?_ | refine WP.block ?_)))
    | (with_reducible refine thn_n ?_)
    | (with_reducible refine thn_r ?_)
    | (with_reducible refine thn_e ?_)
    | (with_reducible refine thn_g ?_)
    | (with_reducible refine blk_n ?_)
    | (with_reducible refine blk_r ?_)
    | (with_reducible refine blk_e ?_)
    | (with_reducible refine blk_g ?_)
    | (((with_reducible refine blk_o ?_ ?_); first | exact rfl | skip))
    | (refine Endz.mk' (by first | exact Or.inl rfl | exact Or.inr rfl) (by repeat (first | exact RVs.nil | apply RVs.cons | exact RV1.tmp rfl | exact RV1.row rfl rfl rfl (by repeat (first | exact look_here | apply look_there)) (by exact rfl) | exact RV1.cell rfl rfl rfl (by repeat (first | exact look_here | apply look_there)) (by exact rfl))) (by rfl) (by repeat (first | exact List.nil_sublist _ | exact List.Sublist.refl _ | apply List.Sublist.cons_cons | apply List.Sublist.cons))))
  refine WP.loopI (n := 65) (α := Nat) (fun x => [(0, some (.slice a n cap)), (15, some (.slice a n cap)), (16, some (I64 (n : Int))), (17, some (I64 (x : Int)))])
    (fun x => [(k, ob)]) (fun x => x ≤ n) (fun x => n - x) 0 (Wk.of ⟨rfl, rfl, rfl, rfl, trivial⟩ (by repeat (first | exact List.nil_sublist _ | exact List.Sublist.refl _ | apply List.Sublist.cons_cons | apply List.Sublist.cons))) (Nat.zero_le _) (fun x ix => ?_)
  by_cases hlt : x < n
  · have hlt' : (x : Int) < (n : Int) := by omega
    have hb := tok_lo ok hlt
    repeat' (first
      | (((first | (with_reducible refine gQ0 ?_) | ((with_reducible refine gQ1 ?_ ?_); (focus (apply wg (r := true); (iterate 6 apply Eq.refl))))); (first | ((with_reducible apply q_loadr layOk); (iterate 3 apply Eq.refl); (focus (repeat (with_reducible (first | apply lh | apply lt)))); exact (tb.seg _ hlt)) | ((with_reducible apply q_load layOk); (iterate 3 apply Eq.refl); (focus (repeat (with_reducible (first | apply lh | apply lt)))); exact (tb.ax _ hlt)) | ((with_reducible apply q_load layOk); (iterate 3 apply Eq.refl); (focus (repeat (with_reducible (first | apply lh | apply lt)))); exact (tb.ay _ hlt)) | ((with_reducible apply q_loadr layOk); (iterate 3 apply Eq.refl); (focus (repeat (with_reducible (first | apply lh | apply lt)))); exact (tb.seg _ (by omega))) | ((with_reducible apply q_load layOk); (iterate 3 apply Eq.refl); (focus (repeat (with_reducible (first | apply lh | apply lt)))); exact (tb.ax _ (by omega))) | ((with_reducible apply q_load layOk); (iterate 3 apply Eq.refl); (focus (repeat (with_reducible (first | apply lh | apply lt)))); exact (tb.ay _ (by omega))) | ((with_reducible apply q_idxN layOk); (iterate 4 apply Eq.refl); exact ha; apply Eq.refl; exact hlt) | ((with_reducible apply q_idxN layOk); (iterate 4 apply Eq.refl); exact ha; exact (km1 (by have h0 : (x : Int) > 0 := (by assumption); omega) (by omega)); (focus (omega))) | ((with_reducible apply q_move); apply Eq.refl) | ((with_reducible apply q_assign); apply Eq.refl) | ((with_reducible apply q_int); (iterate 3 apply Eq.refl)) | ((with_reducible apply q_fa layOk); (iterate 5 apply Eq.refl)) | ((with_reducible apply q_load layOk); (iterate 3 apply Eq.refl); (focus (repeat (with_reducible (first | apply lh | apply lt)))); apply Eq.refl) | ((with_reducible apply q_loadr layOk); (iterate 3 apply Eq.refl); (focus (repeat (with_reducible (first | apply lh | apply lt)))); apply Eq.refl) | ((with_reducible apply q_build layOk); (iterate 4 apply Eq.refl)) | ((with_reducible apply q_box (k := ks _)); apply Eq.refl; (focus (repeat (with_reducible (first | apply lh | apply lt)))); apply Eq.refl) | ((with_reducible apply q_alloc (k := ks _) layOk); apply Eq.refl; (focus (repeat (with_reducible (first | apply lh | apply lt)))); apply Eq.refl) | ((with_reducible apply q_pick_t); (iterate 2 apply Eq.refl)) | ((with_reducible apply q_pick_f); (iterate 2 apply Eq.refl)) | ((with_reducible apply q_len layOk); (iterate 4 apply Eq.refl)) | ((with_reducible apply isF (f := 78)); (refine q_call0 rfl (outside_in _ hb.1) ?_)) | ((with_reducible apply isF (f := 78)); (refine q_call0 rfl (outside_in _ hb.2) ?_)) | ((with_reducible apply e_store layOk); (iterate 3 apply Eq.refl); (focus (repeat (with_reducible (first | apply lh | apply lt)))); (iterate 5 apply Eq.refl)))))
      | (((with_reducible refine gR ?_); (first | refine RK.peelN rfl ?_ | refine RK.donef rfl ⟨_, rfl, ?_⟩ | refine RK.donet rfl (by kernel_rfl) ⟨_, rfl, ?_⟩)))
      | ((first | (with_reducible refine gQv ?_ ?_) | (with_reducible refine gQe ?_ ?_)); (focus (first | (apply wg (r := false); (iterate 6 apply Eq.refl)) | (apply wz; (iterate 4 apply Eq.refl)))))
      | ((with_reducible refine gK ?_); ((first | (apply gsD; (iterate 4 apply Eq.refl)) | (apply RKo.gsplitE; (iterate 4 apply Eq.refl)) | (apply RKo.gsplitN; (iterate 4 apply Eq.refl)) | (apply RKo.gsplit; (iterate 4 apply Eq.refl))) <;> (intro hc; first | with_reducible exact ff hc | with_reducible exact ff' hc | with_reducible exact absurd hlt' hc | with_reducible exact absurd hc hn1 | with_reducible exact absurd hc hn2 | with_reducible exact absurd hc hb.1.1 | with_reducible exact absurd hc hb.1.2 | with_reducible exact absurd hc hb.2.1 | with_reducible exact absurd hc hb.2.2 | with_reducible exact absurd hc (tok_up ok hlt (by assumption)).1 | with_reducible exact absurd hc (tok_up ok hlt (by assumption)).2 | skip)))
      | (((with_reducible refine gW ?_); (first | with_reducible refine WP.seq ?_ | refine WP.reg mixed (fun ks => _) (fun ks => rfl) (fun ks => ?_) | ((first | (apply cdD; apply Eq.refl) | (apply WP.condE; apply Eq.refl) | (apply WP.condN; apply Eq.refl) | (apply WP.condA; apply Eq.refl)) <;> (intro hc; first | with_reducible exact ff hc | with_reducible exact ff' hc | with_reducible exact absurd hlt' hc | with_reducible exact absurd hc hn1 | with_reducible exact absurd hc hn2 | with_reducible exact absurd hc hb.1.1 | with_reducible exact absurd hc hb.1.2 | with_reducible exact absurd hc hb.2.1 | with_reducible exact absurd hc hb.2.2 | with_reducible exact absurd hc (tok_up ok hlt (by assumption)).1 | with_reducible exact absurd hc (tok_up ok hlt (by assumption)).2 | skip)) | refine WP.ret ?_ | refine WP.skip ?_ | refine WP.exit ?_ | refine WP.goto ?_ | refine WP.label ?_ | refine WP.block ?_)))
      | (with_reducible refine thn_n ?_)
      | (with_reducible refine thn_r ?_)
      | (with_reducible refine thn_e ?_)
      | (with_reducible refine thn_g ?_)
      | (with_reducible refine blk_n ?_)
      | (with_reducible refine blk_r ?_)
      | (with_reducible refine blk_e ?_)
      | (with_reducible refine blk_g ?_)
      | (((with_reducible refine blk_o ?_ ?_); first | exact rfl | skip))
      | (refine Endz.mk' (by first | exact Or.inl rfl | exact Or.inr rfl) (by repeat (first | exact RVs.nil | apply RVs.cons | exact RV1.tmp rfl | exact RV1.row rfl rfl rfl (by repeat (first | exact look_here | apply look_there)) (by exact rfl) | exact RV1.cell rfl rfl rfl (by repeat (first | exact look_here | apply look_there)) (by exact rfl))) (by rfl) (by repeat (first | exact List.nil_sublist _ | exact List.Sublist.refl _ | apply List.Sublist.cons_cons | apply List.Sublist.cons))))
    all_goals
      refine ⟨x + 1, hlt, by show n - (x + 1) < n - x; omega, Wk.of ⟨rfl, rfl, rfl, ?_, trivial⟩ (by repeat (first | exact List.nil_sublist _ | exact List.Sublist.refl _ | apply List.Sublist.cons_cons | apply List.Sublist.cons))⟩
      exact congrArg (fun x => some (I64 x)) (kp1 (by omega))
  · have hge : ¬ (x : Int) < (n : Int) := by omega
    repeat' (first
      | (((first | (with_reducible refine gQ0 ?_) | ((with_reducible refine gQ1 ?_ ?_); (focus (apply wg (r := true); (iterate 6 apply Eq.refl))))); (first | ((with_reducible apply q_move); apply Eq.refl) | ((with_reducible apply q_assign); apply Eq.refl) | ((with_reducible apply q_int); (iterate 3 apply Eq.refl)) | ((with_reducible apply q_fa layOk); (iterate 5 apply Eq.refl)) | ((with_reducible apply q_load layOk); (iterate 3 apply Eq.refl); (focus (repeat (with_reducible (first | apply lh | apply lt)))); apply Eq.refl) | ((with_reducible apply q_loadr layOk); (iterate 3 apply Eq.refl); (focus (repeat (with_reducible (first | apply lh | apply lt)))); apply Eq.refl) | ((with_reducible apply q_build layOk); (iterate 4 apply Eq.refl)) | ((with_reducible apply q_box (k := ks _)); apply Eq.refl; (focus (repeat (with_reducible (first | apply lh | apply lt)))); apply Eq.refl) | ((with_reducible apply q_alloc (k := ks _) layOk); apply Eq.refl; (focus (repeat (with_reducible (first | apply lh | apply lt)))); apply Eq.refl) | ((with_reducible apply q_pick_t); (iterate 2 apply Eq.refl)) | ((with_reducible apply q_pick_f); (iterate 2 apply Eq.refl)) | ((with_reducible apply q_len layOk); (iterate 4 apply Eq.refl)) | ((with_reducible apply e_store layOk); (iterate 3 apply Eq.refl); (focus (repeat (with_reducible (first | apply lh | apply lt)))); (iterate 5 apply Eq.refl)))))
      | (((with_reducible refine gR ?_); (first | refine RK.peelN rfl ?_ | refine RK.donef rfl ⟨_, rfl, ?_⟩ | refine RK.donet rfl (by kernel_rfl) ⟨_, rfl, ?_⟩)))
      | ((first | (with_reducible refine gQv ?_ ?_) | (with_reducible refine gQe ?_ ?_)); (focus (first | (apply wg (r := false); (iterate 6 apply Eq.refl)) | (apply wz; (iterate 4 apply Eq.refl)))))
      | ((with_reducible refine gK ?_); ((first | (apply gsD; (iterate 4 apply Eq.refl)) | (apply RKo.gsplitE; (iterate 4 apply Eq.refl)) | (apply RKo.gsplitN; (iterate 4 apply Eq.refl)) | (apply RKo.gsplit; (iterate 4 apply Eq.refl))) <;> (intro hc; first | with_reducible exact ff hc | with_reducible exact ff' hc | with_reducible exact absurd hc hge | skip)))
      | (((with_reducible refine gW ?_); (first | with_reducible refine WP.seq ?_ | refine WP.reg mixed (fun ks => _) (fun ks => rfl) (fun ks => ?_) | ((first | (apply cdD; apply Eq.refl) | (apply WP.condE; apply Eq.refl) | (apply WP.condN; apply Eq.refl) | (apply WP.condA; apply Eq.refl)) <;> (intro hc; first | with_reducible exact ff hc | with_reducible exact ff' hc | with_reducible exact absurd hc hge | skip)) | refine WP.ret ?_ | refine WP.skip ?_ | refine WP.exit ?_ | refine WP.goto ?_ | refine WP.label ?_ | refine WP.block ?_)))
      | (with_reducible refine thn_n ?_)
      | (with_reducible refine thn_r ?_)
      | (with_reducible refine thn_e ?_)
      | (with_reducible refine thn_g ?_)
      | (with_reducible refine blk_n ?_)
      | (with_reducible refine blk_r ?_)
      | (with_reducible refine blk_e ?_)
      | (with_reducible refine blk_g ?_)
      | (((with_reducible refine blk_o ?_ ?_); first | exact rfl | skip))
      | (refine Endz.mk' (by first | exact Or.inl rfl | exact Or.inr rfl) (by repeat (first | exact RVs.nil | apply RVs.cons | exact RV1.tmp rfl | exact RV1.row rfl rfl rfl (by repeat (first | exact look_here | apply look_there)) (by exact rfl) | exact RV1.cell rfl rfl rfl (by repeat (first | exact look_here | apply look_there)) (by exact rfl))) (by rfl) (by repeat (first | exact List.nil_sublist _ | exact List.Sublist.refl _ | apply List.Sublist.cons_cons | apply List.Sublist.cons))))
end Go.Proofs.YtlhhcongoplfpaaDoor
namespace Go.Proofs.YtlhhcongoplfpaaDoor
open Go Go.Proofs.YtlhhcongoplfpaaDoorAB
variable {G : Nat}
set_option linter.unusedSimpArgs false
set_option linter.unusedVariables false
set_option maxHeartbeats 4000000 in
theorem ref_None (u : Unit) : Ctr Tryd.prog G 79 [] [] (.agg #[I64 0, .bool false, I64 0]) [] := by
  refine Ctr.by layOk Tryd.func79 Tryd.ntmps79 rfl rfl rfl rfl rfl ?_
  repeat' (first
    | (((with_reducible refine gQ0 ?_); (first | ((with_reducible apply q_build layOk); (iterate 4 apply Eq.refl)) | ((with_reducible apply q_alloc (k := ks _) layOk); apply Eq.refl; (focus (repeat (with_reducible (first | apply lh | apply lt)))); apply Eq.refl) | ((with_reducible apply e_store layOk); (iterate 3 apply Eq.refl); (focus (repeat (with_reducible (first | apply lh | apply lt)))); (iterate 5 apply Eq.refl)))))
    | (((with_reducible refine gR ?_); (first | refine RK.peelN rfl ?_ | refine RK.donef rfl ⟨_, rfl, ?_⟩ | refine RK.donet rfl (by kernel_rfl) ⟨_, rfl, ?_⟩)))
    | (((with_reducible refine gW ?_); (first | with_reducible refine WP.seq ?_ | refine WP.reg mixed (fun ks => _) (fun ks => rfl) (fun ks => ?_) | ((first | (apply cdD; apply Eq.refl) | (apply WP.condE; apply Eq.refl) | (apply WP.condN; apply Eq.refl) | (apply WP.condA; apply Eq.refl)) <;> (intro hc; first | with_reducible exact ff hc | with_reducible exact ff' hc | skip)) | refine WP.ret ?_ | refine WP.skip ?_ | refine WP.exit ?_ | refine WP.goto ?_ | refine WP.label ?_ | refine WP.block ?_)))
    | (with_reducible refine thn_n ?_)
    | (with_reducible refine thn_r ?_)
    | (with_reducible refine thn_e ?_)
    | (with_reducible refine thn_g ?_)
    | (with_reducible refine blk_n ?_)
    | (with_reducible refine blk_r ?_)
    | (with_reducible refine blk_e ?_)
    | (with_reducible refine blk_g ?_)
    | (((with_reducible refine blk_o ?_ ?_); first | exact rfl | skip))
    | (refine Endz.mk' (by first | exact Or.inl rfl | exact Or.inr rfl) (by repeat (first | exact RVs.nil | apply RVs.cons | exact RV1.tmp rfl | exact RV1.row rfl rfl rfl (by repeat (first | exact look_here | apply look_there)) (by exact rfl) | exact RV1.cell rfl rfl rfl (by repeat (first | exact look_here | apply look_there)) (by exact rfl))) (by rfl) (by repeat (first | exact List.nil_sublist _ | exact List.Sublist.refl _ | apply List.Sublist.cons_cons | apply List.Sublist.cons))))

set_option maxHeartbeats 8000000 in
theorem ref_CheckTable {ob : AObj} {k f n cap : Nat} {X Y : Nat → Int} {a : Option Addr} (tb : Tb ob f n X Y) (ok : TOk n X Y) (ha : 0 < n → a = some ⟨k, f, none⟩) : Ctr Tryd.prog G 35 [.slice a n cap] [(k, ob)] (.agg #[I64 0, .bool false, I64 0]) [ob] := by
  have hn2' := ok.n2
  have hn64' := ok.n64
  have hn1 : ¬ (n : Int) < 2 := by omega
  have hn2 : ¬ (n : Int) > 64 := by omega
  refine Ctr.by layOk Tryd.func35 Tryd.ntmps35 rfl rfl rfl rfl rfl ?_
  repeat' (first
    | (((first | (with_reducible refine gQ0 ?_) | ((with_reducible refine gQ1 ?_ ?_); (focus (apply wg (r := true); (iterate 6 apply Eq.refl))))); (first | ((with_reducible apply q_move); apply Eq.refl) | ((with_reducible apply q_assign); apply Eq.refl) | ((with_reducible apply q_int); (iterate 3 apply Eq.refl)) | ((with_reducible apply q_fa layOk); (iterate 5 apply Eq.refl)) | ((with_reducible apply q_load layOk); (iterate 3 apply Eq.refl); (focus (repeat (with_reducible (first | apply lh | apply lt)))); apply Eq.refl) | ((with_reducible apply q_loadr layOk); (iterate 3 apply Eq.refl); (focus (repeat (with_reducible (first | apply lh | apply lt)))); apply Eq.refl) | ((with_reducible apply q_alloc (k := ks _) layOk); apply Eq.refl; (focus (repeat (with_reducible (first | apply lh | apply lt)))); apply Eq.refl) | ((with_reducible apply q_pick_t); (iterate 2 apply Eq.refl)) | ((with_reducible apply q_pick_f); (iterate 2 apply Eq.refl)) | ((with_reducible apply q_len layOk); (iterate 4 apply Eq.refl)) | ((with_reducible apply e_store layOk); (iterate 3 apply Eq.refl); (focus (repeat (with_reducible (first | apply lh | apply lt)))); (iterate 5 apply Eq.refl)))))
    | (((with_reducible refine gR ?_); (first | refine RK.peelN rfl ?_ | refine RK.donef rfl ⟨_, rfl, ?_⟩ | refine RK.donet rfl (by kernel_rfl) ⟨_, rfl, ?_⟩)))
    | ((first | (with_reducible refine gQv ?_ ?_) | (with_reducible refine gQe ?_ ?_)); (focus (first | (apply wg (r := false); (iterate 6 apply Eq.refl)) | (apply wz; (iterate 4 apply Eq.refl)))))
    | ((with_reducible refine gK ?_); ((first | (apply gsD; (iterate 4 apply Eq.refl)) | (apply RKo.gsplitE; (iterate 4 apply Eq.refl)) | (apply RKo.gsplitN; (iterate 4 apply Eq.refl)) | (apply RKo.gsplit; (iterate 4 apply Eq.refl))) <;> (intro hc; first | with_reducible exact ff hc | with_reducible exact ff' hc | with_reducible exact absurd hc hn1 | with_reducible exact absurd hc hn2 | skip)))
    | (((with_reducible refine gW ?_); (first | with_reducible refine WP.seq ?_ | refine WP.reg mixed (fun ks => _) (fun ks => rfl) (fun ks => ?_) | ((first | (apply cdD; apply Eq.refl) | (apply WP.condE; apply Eq.refl) | (apply WP.condN; apply Eq.refl) | (apply WP.condA; apply Eq.refl)) <;> (intro hc; first | with_reducible exact ff hc | with_reducible exact ff' hc | with_reducible exact absurd hc hn1 | with_reducible exact absurd hc hn2 | skip)) | refine WP.ret ?_ | refine WP.skip ?_ | refine WP.exit ?_ | refine WP.goto ?_ | refine WP.label ?_ | refine WP.block ?_)))
    | (with_reducible refine thn_n ?_)
    | (with_reducible refine thn_r ?_)
    | (with_reducible refine thn_e ?_)
    | (with_reducible refine thn_g ?_)
    | (with_reducible refine blk_n ?_)
    | (with_reducible refine blk_r ?_)
    | (with_reducible refine blk_e ?_)
    | (with_reducible refine blk_g ?_)
    | (((with_reducible refine blk_o ?_ ?_); first | exact rfl | skip))
    | (refine Endz.mk' (by first | exact Or.inl rfl | exact Or.inr rfl) (by repeat (first | exact RVs.nil | apply RVs.cons | exact RV1.tmp rfl | exact RV1.row rfl rfl rfl (by repeat (first | exact look_here | apply look_there)) (by exact rfl) | exact RV1.cell rfl rfl rfl (by repeat (first | exact look_here | apply look_there)) (by exact rfl))) (by rfl) (by repeat (first | exact List.nil_sublist _ | exact List.Sublist.refl _ | apply List.Sublist.cons_cons | apply List.Sublist.cons))))
  rename_i r0 r1 c1 r3
  refine WP.loopI (n := 83) (α := Nat) (fun x => [(0, some (.slice a n cap)), (2, some (.pointer (some ⟨r0 0, 0, none⟩))), (3, some (I64 (x : Int)))])
    (fun x => [(k, ob), (r0 0, .cells [I64 0, .bool false, I64 0] 33)]) (fun x => x ≤ n) (fun x => n - x) 0 (Wk.of ⟨rfl, rfl, rfl, trivial⟩ (by repeat (first | exact List.nil_sublist _ | exact List.Sublist.refl _ | apply List.Sublist.cons_cons | apply List.Sublist.cons))) (Nat.zero_le _) (fun x ix => ?_)
  by_cases hlt : x < n
  · have hlt' : (x : Int) < (n : Int) := by omega
    have hb := tok_lo ok hlt
    repeat' (first
      | (((first | (with_reducible refine gQ0 ?_) | ((with_reducible refine gQ1 ?_ ?_); (focus (apply wg (r := true); (iterate 6 apply Eq.refl))))); (first | ((with_reducible apply q_loadr layOk); (iterate 3 apply Eq.refl); (focus (repeat (with_reducible (first | apply lh | apply lt)))); exact (tb.seg _ hlt)) | ((with_reducible apply q_load layOk); (iterate 3 apply Eq.refl); (focus (repeat (with_reducible (first | apply lh | apply lt)))); exact (tb.ax _ hlt)) | ((with_reducible apply q_load layOk); (iterate 3 apply Eq.refl); (focus (repeat (with_reducible (first | apply lh | apply lt)))); exact (tb.ay _ hlt)) | ((with_reducible apply q_loadr layOk); (iterate 3 apply Eq.refl); (focus (repeat (with_reducible (first | apply lh | apply lt)))); exact (tb.seg _ (by omega))) | ((with_reducible apply q_load layOk); (iterate 3 apply Eq.refl); (focus (repeat (with_reducible (first | apply lh | apply lt)))); exact (tb.ax _ (by omega))) | ((with_reducible apply q_load layOk); (iterate 3 apply Eq.refl); (focus (repeat (with_reducible (first | apply lh | apply lt)))); exact (tb.ay _ (by omega))) | ((with_reducible apply q_idxN layOk); (iterate 4 apply Eq.refl); exact ha; apply Eq.refl; exact hlt) | ((with_reducible apply q_idxN layOk); (iterate 4 apply Eq.refl); exact ha; exact (km1 (by have h0 : (x : Int) > 0 := (by assumption); omega) (by omega)); (focus (omega))) | ((with_reducible apply q_move); apply Eq.refl) | ((with_reducible apply q_assign); apply Eq.refl) | ((with_reducible apply q_int); (iterate 3 apply Eq.refl)) | ((with_reducible apply q_fa layOk); (iterate 5 apply Eq.refl)) | ((with_reducible apply q_load layOk); (iterate 3 apply Eq.refl); (focus (repeat (with_reducible (first | apply lh | apply lt)))); apply Eq.refl) | ((with_reducible apply q_loadr layOk); (iterate 3 apply Eq.refl); (focus (repeat (with_reducible (first | apply lh | apply lt)))); apply Eq.refl) | ((with_reducible apply q_alloc (k := ks _) layOk); apply Eq.refl; (focus (repeat (with_reducible (first | apply lh | apply lt)))); apply Eq.refl) | ((with_reducible apply q_pick_t); (iterate 2 apply Eq.refl)) | ((with_reducible apply q_pick_f); (iterate 2 apply Eq.refl)) | ((with_reducible apply q_len layOk); (iterate 4 apply Eq.refl)) | ((with_reducible apply e_store layOk); (iterate 3 apply Eq.refl); (focus (repeat (with_reducible (first | apply lh | apply lt)))); (iterate 5 apply Eq.refl)))))
      | (((with_reducible refine gR ?_); (first | refine RK.peelN rfl ?_ | refine RK.donef rfl ⟨_, rfl, ?_⟩ | refine RK.donet rfl (by kernel_rfl) ⟨_, rfl, ?_⟩)))
      | ((first | (with_reducible refine gQv ?_ ?_) | (with_reducible refine gQe ?_ ?_)); (focus (first | (apply wg (r := false); (iterate 6 apply Eq.refl)) | (apply wz; (iterate 4 apply Eq.refl)))))
      | ((with_reducible refine gK ?_); ((first | (apply gsD; (iterate 4 apply Eq.refl)) | (apply RKo.gsplitE; (iterate 4 apply Eq.refl)) | (apply RKo.gsplitN; (iterate 4 apply Eq.refl)) | (apply RKo.gsplit; (iterate 4 apply Eq.refl))) <;> (intro hc; first | with_reducible exact ff hc | with_reducible exact ff' hc | with_reducible exact absurd hlt' hc | with_reducible exact absurd hc hn1 | with_reducible exact absurd hc hn2 | with_reducible exact absurd hc hb.1.1 | with_reducible exact absurd hc hb.1.2 | with_reducible exact absurd hc hb.2.1 | with_reducible exact absurd hc hb.2.2 | with_reducible exact absurd hc (tok_up ok hlt (by assumption)).1 | with_reducible exact absurd hc (tok_up ok hlt (by assumption)).2 | skip)))
      | (((with_reducible refine gW ?_); (first | with_reducible refine WP.seq ?_ | refine WP.reg mixed (fun ks => _) (fun ks => rfl) (fun ks => ?_) | ((first | (apply cdD; apply Eq.refl) | (apply WP.condE; apply Eq.refl) | (apply WP.condN; apply Eq.refl) | (apply WP.condA; apply Eq.refl)) <;> (intro hc; first | with_reducible exact ff hc | with_reducible exact ff' hc | with_reducible exact absurd hlt' hc | with_reducible exact absurd hc hn1 | with_reducible exact absurd hc hn2 | with_reducible exact absurd hc hb.1.1 | with_reducible exact absurd hc hb.1.2 | with_reducible exact absurd hc hb.2.1 | with_reducible exact absurd hc hb.2.2 | with_reducible exact absurd hc (tok_up ok hlt (by assumption)).1 | with_reducible exact absurd hc (tok_up ok hlt (by assumption)).2 | skip)) | refine WP.ret ?_ | refine WP.skip ?_ | refine WP.exit ?_ | refine WP.goto ?_ | refine WP.label ?_ | refine WP.block ?_)))
      | (with_reducible refine thn_n ?_)
      | (with_reducible refine thn_r ?_)
      | (with_reducible refine thn_e ?_)
      | (with_reducible refine thn_g ?_)
      | (with_reducible refine blk_n ?_)
      | (with_reducible refine blk_r ?_)
      | (with_reducible refine blk_e ?_)
      | (with_reducible refine blk_g ?_)
      | (((with_reducible refine blk_o ?_ ?_); first | exact rfl | skip))
      | (refine Endz.mk' (by first | exact Or.inl rfl | exact Or.inr rfl) (by repeat (first | exact RVs.nil | apply RVs.cons | exact RV1.tmp rfl | exact RV1.row rfl rfl rfl (by repeat (first | exact look_here | apply look_there)) (by exact rfl) | exact RV1.cell rfl rfl rfl (by repeat (first | exact look_here | apply look_there)) (by exact rfl))) (by rfl) (by repeat (first | exact List.nil_sublist _ | exact List.Sublist.refl _ | apply List.Sublist.cons_cons | apply List.Sublist.cons))))
    all_goals
      refine ⟨x + 1, hlt, by show n - (x + 1) < n - x; omega, Wk.of ⟨rfl, rfl, ?_, trivial⟩ (by repeat (first | exact List.nil_sublist _ | exact List.Sublist.refl _ | apply List.Sublist.cons_cons | apply List.Sublist.cons))⟩
      exact congrArg (fun x => some (I64 x)) (kp1 (by omega))
  · have hge : ¬ (x : Int) < (n : Int) := by omega
    repeat' (first
      | (((first | (with_reducible refine gQ0 ?_) | ((with_reducible refine gQ1 ?_ ?_); (focus (apply wg (r := true); (iterate 6 apply Eq.refl))))); (first | ((with_reducible apply q_move); apply Eq.refl) | ((with_reducible apply q_assign); apply Eq.refl) | ((with_reducible apply q_int); (iterate 3 apply Eq.refl)) | ((with_reducible apply q_fa layOk); (iterate 5 apply Eq.refl)) | ((with_reducible apply q_load layOk); (iterate 3 apply Eq.refl); (focus (repeat (with_reducible (first | apply lh | apply lt)))); apply Eq.refl) | ((with_reducible apply q_loadr layOk); (iterate 3 apply Eq.refl); (focus (repeat (with_reducible (first | apply lh | apply lt)))); apply Eq.refl) | ((with_reducible apply q_alloc (k := ks _) layOk); apply Eq.refl; (focus (repeat (with_reducible (first | apply lh | apply lt)))); apply Eq.refl) | ((with_reducible apply q_pick_t); (iterate 2 apply Eq.refl)) | ((with_reducible apply q_pick_f); (iterate 2 apply Eq.refl)) | ((with_reducible apply q_len layOk); (iterate 4 apply Eq.refl)) | ((with_reducible apply isF (f := 79)); (refine q_call0 rfl (ref_None ()) ?_)) | ((with_reducible apply e_store layOk); (iterate 3 apply Eq.refl); (focus (repeat (with_reducible (first | apply lh | apply lt)))); (iterate 5 apply Eq.refl)))))
      | (((with_reducible refine gR ?_); (first | refine RK.peelN rfl ?_ | refine RK.donef rfl ⟨_, rfl, ?_⟩ | refine RK.donet rfl (by kernel_rfl) ⟨_, rfl, ?_⟩)))
      | ((first | (with_reducible refine gQv ?_ ?_) | (with_reducible refine gQe ?_ ?_)); (focus (first | (apply wg (r := false); (iterate 6 apply Eq.refl)) | (apply wz; (iterate 4 apply Eq.refl)))))
      | ((with_reducible refine gK ?_); ((first | (apply gsD; (iterate 4 apply Eq.refl)) | (apply RKo.gsplitE; (iterate 4 apply Eq.refl)) | (apply RKo.gsplitN; (iterate 4 apply Eq.refl)) | (apply RKo.gsplit; (iterate 4 apply Eq.refl))) <;> (intro hc; first | with_reducible exact ff hc | with_reducible exact ff' hc | with_reducible exact absurd hc hge | skip)))
      | (((with_reducible refine gW ?_); (first | with_reducible refine WP.seq ?_ | refine WP.reg mixed (fun ks => _) (fun ks => rfl) (fun ks => ?_) | ((first | (apply cdD; apply Eq.refl) | (apply WP.condE; apply Eq.refl) | (apply WP.condN; apply Eq.refl) | (apply WP.condA; apply Eq.refl)) <;> (intro hc; first | with_reducible exact ff hc | with_reducible exact ff' hc | with_reducible exact absurd hc hge | skip)) | refine WP.ret ?_ | refine WP.skip ?_ | refine WP.exit ?_ | refine WP.goto ?_ | refine WP.label ?_ | refine WP.block ?_)))
      | (with_reducible refine thn_n ?_)
      | (with_reducible refine thn_r ?_)
      | (with_reducible refine thn_e ?_)
      | (with_reducible refine thn_g ?_)
      | (with_reducible refine blk_n ?_)
      | (with_reducible refine blk_r ?_)
      | (with_reducible refine blk_e ?_)
      | (with_reducible refine blk_g ?_)
      | (((with_reducible refine blk_o ?_ ?_); first | exact rfl | skip))
      | (refine Endz.mk' (by first | exact Or.inl rfl | exact Or.inr rfl) (by repeat (first | exact RVs.nil | apply RVs.cons | exact RV1.tmp rfl | exact RV1.row rfl rfl rfl (by repeat (first | exact look_here | apply look_there)) (by exact rfl) | exact RV1.cell rfl rfl rfl (by repeat (first | exact look_here | apply look_there)) (by exact rfl))) (by rfl) (by repeat (first | exact List.nil_sublist _ | exact List.Sublist.refl _ | apply List.Sublist.cons_cons | apply List.Sublist.cons))))
end Go.Proofs.YtlhhcongoplfpaaDoor
namespace Go.Proofs.YtlhhcongoplfpaaDoor
open Go Go.Proofs.YtlhhcongoplfpaaDoorAB
variable {G : Nat}
set_option linter.unusedSimpArgs false
set_option linter.unusedVariables false

theorem mn_self (v : Int) : mn v v = v := by unfold mn; simp
theorem mx_self (v : Int) : mx v v = v := by unfold mx; simp
section
variable {n k : Nat} {X Y : Nat → Int} {x : Int}
theorem at1 (inv : fkA X x (n - k) k = fkA X x n 0) (h : k = n) : Value.agg #[.int .i64 (mn (Y (k - 1)) (Y (k - 1))), .int .i64 (mx (Y (k - 1)) (Y (k - 1)))] = .agg #[.int .i64 (tLo n X Y x), .int .i64 (tHi n X Y x)] := by
  subst h
  have e : fkA X x k 0 = k := by rw [← inv, Nat.sub_self]; rfl
  rw [mn_self, mx_self]
  refine agg2_eq ?_ ?_
  · unfold tLo; rw [e]; dsimp only; rw [if_pos rfl]
  · unfold tHi; rw [e]; dsimp only; rw [if_pos rfl]
theorem at_k (inv : fkA X x (n - k) k = fkA X x n 0) (h : k < n) (h2 : ¬ X k < x) : fkA X x n 0 = k := by
  rw [← inv]
  obtain ⟨m, hm⟩ : ∃ m, n - k = m + 1 := ⟨n - k - 1, by omega⟩
  rw [hm]; unfold fkA; rw [if_neg h2]
theorem at2 (inv : fkA X x (n - k) k = fkA X x n 0) (h : k < n) (h2 : ¬ X k < x) (h3 : k = 0 ∨ X k = x) : Value.agg #[.int .i64 (mn (Y k) (Y k)), .int .i64 (mx (Y k) (Y k))] = .agg #[.int .i64 (tLo n X Y x), .int .i64 (tHi n X Y x)] := by
  have e := at_k inv h h2
  rw [mn_self, mx_self]
  refine agg2_eq ?_ ?_
  · unfold tLo; rw [e]; dsimp only; rw [if_neg (show ¬ k = n by omega), if_pos h3]
  · unfold tHi; rw [e]; dsimp only; rw [if_neg (show ¬ k = n by omega), if_pos h3]
theorem at_next (inv : fkA X x (n - k) k = fkA X x n 0) (h : k < n) (h2 : X k < x) : fkA X x (n - (k + 1)) (k + 1) = fkA X x n 0 := by
  rw [← inv]
  obtain ⟨m, hm⟩ : ∃ m, n - k = m + 1 := ⟨n - k - 1, by omega⟩
  rw [hm, show n - (k + 1) = m by omega]
  conv => rhs; unfold fkA
  rw [if_pos h2]
theorem at_in (ok : TOk n X Y) (inv : fkA X x (n - k) k = fkA X x n 0) (h : k < n) (h2 : ¬ X k < x) (h3 : ¬ (k = 0 ∨ X k = x)) :
    IntKind.i64.wrap (IntKind.i64.wrap (Y k - Y (k - 1)) * IntKind.i64.wrap (x - X (k - 1))) = (Y k - Y (k - 1)) * (x - X (k - 1)) ∧ IntKind.i64.wrap (X k - X (k - 1)) = X k - X (k - 1) ∧
    1 ≤ X k - X (k - 1) ∧ 0 ≤ (Y k - Y (k - 1)) * (x - X (k - 1)) ∧ (Y k - Y (k - 1)) * (x - X (k - 1)) ≤ 4611686018427387904 ∧ (Y k - Y (k - 1)) * (x - X (k - 1)) ≤ (Y k - Y (k - 1)) * (X k - X (k - 1)) ∧ X (k - 1) < x := by
  have e := at_k inv h h2
  obtain ⟨a, b, c, d⟩ := fkA_spec (X := X) (x := x) (m := n) (k := 0)
  rw [e] at a b c d
  have hx := c (k - 1) (by omega) (by omega)
  have y0 := ok.ys (k - 1) (by omega)
  have x0 := ok.xs (k - 1) (by omega)
  rw [show k - 1 + 1 = k by omega] at y0 x0
  have b1 := ok.y1 (k - 1) (by omega); have b2 := ok.y2 k h
  have b3 := ok.x1 (k - 1) (by omega); have b4 := ok.x2 k h
  have w1 : IntKind.i64.wrap (Y k - Y (k - 1)) = Y k - Y (k - 1) := wrap_in (by omega) (by omega)
  have w2 : IntKind.i64.wrap (x - X (k - 1)) = x - X (k - 1) := wrap_in (by omega) (by omega)
  have w3 : IntKind.i64.wrap (X k - X (k - 1)) = X k - X (k - 1) := wrap_in (by omega) (by omega)
  have p0 : 0 ≤ (Y k - Y (k - 1)) * (x - X (k - 1)) := Int.mul_nonneg (by omega) (by omega)
  have p1 : (Y k - Y (k - 1)) * (x - X (k - 1)) ≤ 2147483648 * 2147483648 := Int.mul_le_mul (by omega) (by omega) (by omega) (by omega)
  have p2 : (Y k - Y (k - 1)) * (x - X (k - 1)) ≤ (Y k - Y (k - 1)) * (X k - X (k - 1)) := Int.mul_le_mul_of_nonneg_left (by omega) (by omega)
  rw [w1, w2, w3]
  exact ⟨wrap_in (by omega) (by omega), rfl, by omega, p0, by omega, p2, hx⟩
theorem at3 (ok : TOk n X Y) (inv : fkA X x (n - k) k = fkA X x n 0) (h : k < n) (h2 : ¬ X k < x) (h3 : ¬ (k = 0 ∨ X k = x)) :
    Value.agg #[.int .i64 (IntKind.i64.wrap (Y (k - 1) + dn (IntKind.i64.wrap (IntKind.i64.wrap (Y k - Y (k - 1)) * IntKind.i64.wrap (x - X (k - 1)))) (IntKind.i64.wrap (X k - X (k - 1))))), .int .i64 (IntKind.i64.wrap (Y (k - 1) + up (IntKind.i64.wrap (IntKind.i64.wrap (Y k - Y (k - 1)) * IntKind.i64.wrap (x - X (k - 1)))) (IntKind.i64.wrap (X k - X (k - 1)))))] = .agg #[.int .i64 (tLo n X Y x), .int .i64 (tHi n X Y x)] := by
  obtain ⟨w1, w2, w3, p0, p1, p2, p3⟩ := at_in ok inv h h2 h3
  have e := at_k inv h h2
  rw [w1, w2]
  have y0 := ok.ys (k - 1) (by omega)
  rw [show k - 1 + 1 = k by omega] at y0
  have b1 := ok.y1 (k - 1) (by omega); have b2 := ok.y2 k h
  have d0 := dn_mono (b := X k - X (k - 1)) (by omega) p0
  have d1 := dn_mono (b := X k - X (k - 1)) (by omega) p2
  have u0 := up_mono (b := X k - X (k - 1)) (by omega) p0
  have u1 := up_mono (b := X k - X (k - 1)) (by omega) p2
  rw [dn_zero] at d0
  rw [up_zero] at u0
  rw [dn_mul (by omega)] at d1
  rw [up_mul (by omega)] at u1
  refine agg2_eq ?_ ?_
  · rw [wrap_in (by omega) (by omega)]
    unfold tLo; rw [e]; dsimp only; rw [if_neg (show ¬ k = n by omega), if_neg h3]
  · rw [wrap_in (by omega) (by omega)]
    unfold tHi; rw [e]; dsimp only; rw [if_neg (show ¬ k = n by omega), if_neg h3]
end

set_option maxHeartbeats 8000000 in
theorem table_at {ob : AObj} {k f n cap : Nat} {X Y : Nat → Int} {a : Option Addr} (tb : Tb ob f n X Y) (ok : TOk n X Y) (ha : 0 < n → a = some ⟨k, f, none⟩) (x : Int) : Ctr Tryd.prog G 82 [.slice a n cap, I64 x] [(k, ob)] (.agg #[I64 (tLo n X Y x), I64 (tHi n X Y x)]) [ob] := by
  have hn2' := ok.n2
  have hn64' := ok.n64
  refine Ctr.by layOk Tryd.func82 Tryd.ntmps82 rfl rfl rfl rfl rfl ?_
  repeat' (first
    | (((with_reducible refine gQ0 ?_); (first | ((with_reducible apply q_move); apply Eq.refl) | ((with_reducible apply q_assign); apply Eq.refl) | ((with_reducible apply q_int); (iterate 3 apply Eq.refl)) | ((with_reducible apply q_fa layOk); (iterate 5 apply Eq.refl)) | ((with_reducible apply q_load layOk); (iterate 3 apply Eq.refl); (focus (repeat (with_reducible (first | apply lh | apply lt)))); apply Eq.refl) | ((with_reducible apply q_loadr layOk); (iterate 3 apply Eq.refl); (focus (repeat (with_reducible (first | apply lh | apply lt)))); apply Eq.refl) | ((with_reducible apply q_build layOk); (iterate 4 apply Eq.refl)) | ((with_reducible apply q_alloc (k := ks _) layOk); apply Eq.refl; (focus (repeat (with_reducible (first | apply lh | apply lt)))); apply Eq.refl) | ((with_reducible apply q_pick_t); (iterate 2 apply Eq.refl)) | ((with_reducible apply q_pick_f); (iterate 2 apply Eq.refl)) | ((with_reducible apply q_len layOk); (iterate 4 apply Eq.refl)) | ((with_reducible apply e_store layOk); (iterate 3 apply Eq.refl); (focus (repeat (with_reducible (first | apply lh | apply lt)))); (iterate 5 apply Eq.refl)))))
    | (((with_reducible refine gR ?_); (first | refine RK.peelN rfl ?_ | refine RK.donef rfl ⟨_, rfl, ?_⟩ | refine RK.donet rfl (by kernel_rfl) ⟨_, rfl, ?_⟩)))
    | (((with_reducible refine gW ?_); (first | with_reducible refine WP.seq ?_ | refine WP.reg mixed (fun ks => _) (fun ks => rfl) (fun ks => ?_) | ((first | (apply cdD; apply Eq.refl) | (apply WP.condE; apply Eq.refl) | (apply WP.condN; apply Eq.refl) | (apply WP.condA; apply Eq.refl)) <;> (intro hc; first | with_reducible exact ff hc | with_reducible exact ff' hc | skip)) | refine WP.ret ?_ | refine WP.skip ?_ | refine WP.exit ?_ | refine WP.goto ?_ | refine WP.label ?_ | refine WP.block ?_)))
    | (with_reducible refine thn_n ?_)
    | (with_reducible refine thn_r ?_)
    | (with_reducible refine thn_e ?_)
    | (with_reducible refine thn_g ?_)
    | (with_reducible refine blk_n ?_)
    | (with_reducible refine blk_r ?_)
    | (with_reducible refine blk_e ?_)
    | (with_reducible refine blk_g ?_)
    | (((with_reducible refine blk_o ?_ ?_); first | exact rfl | skip))
    | (refine Endz.mk' (by first | exact Or.inl rfl | exact Or.inr rfl) (by repeat (first | exact RVs.nil | apply RVs.cons | exact RV1.tmp rfl | exact RV1.row rfl rfl rfl (by repeat (first | exact look_here | apply look_there)) (by exact rfl) | exact RV1.cell rfl rfl rfl (by repeat (first | exact look_here | apply look_there)) (by exact rfl))) (by rfl) (by repeat (first | exact List.nil_sublist _ | exact List.Sublist.refl _ | apply List.Sublist.cons_cons | apply List.Sublist.cons))))
  revert ks
  intro r
  refine WP.scopeJ (n := 103) (l0 := 0) (α := Nat) (fun y => [(0, some (.slice a n cap)), (1, some (I64 x)), (4, some (.pointer (some ⟨r 0, 0, none⟩))), (5, some (I64 (y : Int)))])
    (fun y => [(k, ob), (r 0, .cells [I64 0, I64 0] 38)]) (fun y => y ≤ n ∧ fkA X x (n - y) y = fkA X x n 0) (fun y => n - y) (by exact rfl) (fun enter => ?_) (fun i iy => ?_)
  · refine WP.seq ?_
    repeat' (first
      | (((with_reducible refine gQ0 ?_); (first | ((with_reducible apply q_move); apply Eq.refl) | ((with_reducible apply q_assign); apply Eq.refl) | ((with_reducible apply q_int); (iterate 3 apply Eq.refl)) | ((with_reducible apply q_fa layOk); (iterate 5 apply Eq.refl)) | ((with_reducible apply q_load layOk); (iterate 3 apply Eq.refl); (focus (repeat (with_reducible (first | apply lh | apply lt)))); apply Eq.refl) | ((with_reducible apply q_loadr layOk); (iterate 3 apply Eq.refl); (focus (repeat (with_reducible (first | apply lh | apply lt)))); apply Eq.refl) | ((with_reducible apply q_build layOk); (iterate 4 apply Eq.refl)) | ((with_reducible apply q_alloc (k := ks _) layOk); apply Eq.refl; (focus (repeat (with_reducible (first | apply lh | apply lt)))); apply Eq.refl) | ((with_reducible apply q_pick_t); (iterate 2 apply Eq.refl)) | ((with_reducible apply q_pick_f); (iterate 2 apply Eq.refl)) | ((with_reducible apply q_len layOk); (iterate 4 apply Eq.refl)) | ((with_reducible apply e_store layOk); (iterate 3 apply Eq.refl); (focus (repeat (with_reducible (first | apply lh | apply lt)))); (iterate 5 apply Eq.refl)))))
      | (((with_reducible refine gR ?_); (first | refine RK.peelN rfl ?_ | refine RK.donef rfl ⟨_, rfl, ?_⟩ | refine RK.donet rfl (by kernel_rfl) ⟨_, rfl, ?_⟩)))
      | (((with_reducible refine gW ?_); (first | refine WP.reg mixed (fun ks => _) (fun ks => rfl) (fun ks => ?_))))
      | (with_reducible refine thn_n ?_)
      | (with_reducible refine thn_r ?_)
      | (with_reducible refine thn_e ?_)
      | (with_reducible refine thn_g ?_)
      | (with_reducible refine blk_n ?_)
      | (with_reducible refine blk_r ?_)
      | (with_reducible refine blk_e ?_)
      | (with_reducible refine blk_g ?_)
      | (((with_reducible refine blk_o ?_ ?_); first | exact rfl | skip))
      | (refine Endz.mk' (by first | exact Or.inl rfl | exact Or.inr rfl) (by repeat (first | exact RVs.nil | apply RVs.cons | exact RV1.tmp rfl | exact RV1.row rfl rfl rfl (by repeat (first | exact look_here | apply look_there)) (by exact rfl) | exact RV1.cell rfl rfl rfl (by repeat (first | exact look_here | apply look_there)) (by exact rfl))) (by rfl) (by repeat (first | exact List.nil_sublist _ | exact List.Sublist.refl _ | apply List.Sublist.cons_cons | apply List.Sublist.cons))))
    exact WP.seq (WP.label (thn_n (enter _ _ 0 ⟨Nat.zero_le _, rfl⟩ (Wk.of ⟨rfl, rfl, rfl, rfl, trivial⟩ (by repeat (first | exact List.nil_sublist _ | exact List.Sublist.refl _ | apply List.Sublist.cons_cons | apply List.Sublist.cons))))))
  obtain ⟨hi, inv⟩ := iy
  by_cases hlt : i < n
  · have hlt' : (i : Int) < (n : Int) := by omega
    have hne : ¬ (i : Int) = (n : Int) := by omega
    by_cases hx : X i < x
    · 
      repeat' (first
        | (with_reducible refine jmp_n ?_)
        | (with_reducible refine jmp_r ?_)
        | (with_reducible refine jmp_e ?_)
        | (((first | (with_reducible refine gQ0 ?_) | ((with_reducible refine gQ1 ?_ ?_); (focus (apply wg (r := true); (iterate 6 apply Eq.refl))))); (first | ((with_reducible apply q_loadr layOk); (iterate 3 apply Eq.refl); (focus (repeat (with_reducible (first | apply lh | apply lt)))); exact (tb.seg _ hlt)) | ((with_reducible apply q_load layOk); (iterate 3 apply Eq.refl); (focus (repeat (with_reducible (first | apply lh | apply lt)))); exact (tb.ax _ hlt)) | ((with_reducible apply q_load layOk); (iterate 3 apply Eq.refl); (focus (repeat (with_reducible (first | apply lh | apply lt)))); exact (tb.ay _ hlt)) | ((with_reducible apply q_loadr layOk); (iterate 3 apply Eq.refl); (focus (repeat (with_reducible (first | apply lh | apply lt)))); exact (tb.seg _ hl1)) | ((with_reducible apply q_load layOk); (iterate 3 apply Eq.refl); (focus (repeat (with_reducible (first | apply lh | apply lt)))); exact (tb.ax _ hl1)) | ((with_reducible apply q_load layOk); (iterate 3 apply Eq.refl); (focus (repeat (with_reducible (first | apply lh | apply lt)))); exact (tb.ay _ hl1)) | ((with_reducible apply q_idxN layOk); (iterate 4 apply Eq.refl); exact ha; apply Eq.refl; exact hlt) | ((with_reducible apply q_idxN layOk); (iterate 4 apply Eq.refl); exact ha; exact hk1; exact hl1) | ((with_reducible apply q_move); apply Eq.refl) | ((with_reducible apply q_assign); apply Eq.refl) | ((with_reducible apply q_int); (iterate 3 apply Eq.refl)) | ((with_reducible apply q_fa layOk); (iterate 5 apply Eq.refl)) | ((with_reducible apply q_load layOk); (iterate 3 apply Eq.refl); (focus (repeat (with_reducible (first | apply lh | apply lt)))); apply Eq.refl) | ((with_reducible apply q_loadr layOk); (iterate 3 apply Eq.refl); (focus (repeat (with_reducible (first | apply lh | apply lt)))); apply Eq.refl) | ((with_reducible apply q_build layOk); (iterate 4 apply Eq.refl)) | ((with_reducible apply q_alloc (k := ks _) layOk); apply Eq.refl; (focus (repeat (with_reducible (first | apply lh | apply lt)))); apply Eq.refl) | ((with_reducible apply q_pick_t); (iterate 2 apply Eq.refl)) | ((with_reducible apply q_pick_f); (iterate 2 apply Eq.refl)) | ((with_reducible apply q_len layOk); (iterate 4 apply Eq.refl)) | ((with_reducible apply e_store layOk); (iterate 3 apply Eq.refl); (focus (repeat (with_reducible (first | apply lh | apply lt)))); (iterate 5 apply Eq.refl)))))
        | (((with_reducible refine gR ?_); (first | refine RK.peelN rfl ?_ | refine RK.donef rfl ⟨_, rfl, ?_⟩ | refine RK.donet rfl (by kernel_rfl) ⟨_, rfl, ?_⟩)))
        | ((first | (with_reducible refine gQv ?_ ?_) | (with_reducible refine gQe ?_ ?_)); (focus (first | (apply wg (r := false); (iterate 6 apply Eq.refl)) | (apply wz; (iterate 4 apply Eq.refl)))))
        | ((with_reducible refine gK ?_); ((first | (apply gsD; (iterate 4 apply Eq.refl)) | (apply RKo.gsplitE; (iterate 4 apply Eq.refl)) | (apply RKo.gsplitN; (iterate 4 apply Eq.refl)) | (apply RKo.gsplit; (iterate 4 apply Eq.refl))) <;> (intro hc; first | with_reducible exact ff hc | with_reducible exact ff' hc | with_reducible exact absurd hc hlt' | with_reducible exact absurd hc hx | with_reducible exact absurd hlt' hc | with_reducible exact absurd hx hc | skip)))
        | (((with_reducible refine gW ?_); (first | with_reducible refine WP.seq ?_ | refine WP.reg mixed (fun ks => _) (fun ks => rfl) (fun ks => ?_) | ((first | (apply cdD; apply Eq.refl) | (apply WP.condE; apply Eq.refl) | (apply WP.condN; apply Eq.refl) | (apply WP.condA; apply Eq.refl)) <;> (intro hc; first | with_reducible exact ff hc | with_reducible exact ff' hc | with_reducible exact absurd hc hlt' | with_reducible exact absurd hc hx | with_reducible exact absurd hlt' hc | with_reducible exact absurd hx hc | skip)) | refine WP.ret ?_ | refine WP.skip ?_ | refine WP.exit ?_ | refine WP.goto ?_ | refine WP.label ?_ | refine WP.block ?_)))
        | (with_reducible refine thn_n ?_)
        | (with_reducible refine thn_r ?_)
        | (with_reducible refine thn_e ?_)
        | (with_reducible refine thn_g ?_)
        | (with_reducible refine blk_n ?_)
        | (with_reducible refine blk_r ?_)
        | (with_reducible refine blk_e ?_)
        | (with_reducible refine blk_g ?_)
        | (((with_reducible refine blk_o ?_ ?_); first | exact rfl | skip))
        | (refine Endz.mk' (by first | exact Or.inl rfl | exact Or.inr rfl) (by repeat (first | exact RVs.nil | apply RVs.cons | exact RV1.tmp rfl | exact RV1.row rfl rfl rfl (by repeat (first | exact look_here | apply look_there)) (by exact rfl) | exact RV1.cell rfl rfl rfl (by repeat (first | exact look_here | apply look_there)) (by exact rfl))) (by rfl) (by repeat (first | exact List.nil_sublist _ | exact List.Sublist.refl _ | apply List.Sublist.cons_cons | apply List.Sublist.cons))))
      refine jmp_g ⟨rfl, i + 1, ⟨hlt, at_next inv hlt hx⟩, by show n - (i + 1) < n - i; omega, Wk.of ⟨rfl, rfl, rfl, ?_, trivial⟩ (by repeat (first | exact List.nil_sublist _ | exact List.Sublist.refl _ | apply List.Sublist.cons_cons | apply List.Sublist.cons))⟩
      exact congrArg (fun x => some (I64 x)) (kp1 (by omega))
    · by_cases h0 : i = 0
      · have h0' : (i : Int) = 0 := by omega
        repeat' (first
          | (with_reducible refine jmp_n ?_)
          | (with_reducible refine jmp_r ?_)
          | (with_reducible refine jmp_e ?_)
          | (((first | (with_reducible refine gQ0 ?_) | ((with_reducible refine gQ1 ?_ ?_); (focus (apply wg (r := true); (iterate 6 apply Eq.refl))))); (first | ((with_reducible apply q_loadr layOk); (iterate 3 apply Eq.refl); (focus (repeat (with_reducible (first | apply lh | apply lt)))); exact (tb.seg _ hlt)) | ((with_reducible apply q_load layOk); (iterate 3 apply Eq.refl); (focus (repeat (with_reducible (first | apply lh | apply lt)))); exact (tb.ax _ hlt)) | ((with_reducible apply q_load layOk); (iterate 3 apply Eq.refl); (focus (repeat (with_reducible (first | apply lh | apply lt)))); exact (tb.ay _ hlt)) | ((with_reducible apply q_loadr layOk); (iterate 3 apply Eq.refl); (focus (repeat (with_reducible (first | apply lh | apply lt)))); exact (tb.seg _ hl1)) | ((with_reducible apply q_load layOk); (iterate 3 apply Eq.refl); (focus (repeat (with_reducible (first | apply lh | apply lt)))); exact (tb.ax _ hl1)) | ((with_reducible apply q_load layOk); (iterate 3 apply Eq.refl); (focus (repeat (with_reducible (first | apply lh | apply lt)))); exact (tb.ay _ hl1)) | ((with_reducible apply q_idxN layOk); (iterate 4 apply Eq.refl); exact ha; apply Eq.refl; exact hlt) | ((with_reducible apply q_idxN layOk); (iterate 4 apply Eq.refl); exact ha; exact hk1; exact hl1) | ((with_reducible apply q_move); apply Eq.refl) | ((with_reducible apply q_assign); apply Eq.refl) | ((with_reducible apply q_int); (iterate 3 apply Eq.refl)) | ((with_reducible apply q_fa layOk); (iterate 5 apply Eq.refl)) | ((with_reducible apply q_load layOk); (iterate 3 apply Eq.refl); (focus (repeat (with_reducible (first | apply lh | apply lt)))); apply Eq.refl) | ((with_reducible apply q_loadr layOk); (iterate 3 apply Eq.refl); (focus (repeat (with_reducible (first | apply lh | apply lt)))); apply Eq.refl) | ((with_reducible apply q_build layOk); (iterate 4 apply Eq.refl)) | ((with_reducible apply q_alloc (k := ks _) layOk); apply Eq.refl; (focus (repeat (with_reducible (first | apply lh | apply lt)))); apply Eq.refl) | ((with_reducible apply q_pick_t); (iterate 2 apply Eq.refl)) | ((with_reducible apply q_pick_f); (iterate 2 apply Eq.refl)) | ((with_reducible apply q_len layOk); (iterate 4 apply Eq.refl)) | ((with_reducible apply isF (f := 84)); (refine q_call0 rfl (span_Of _ _) ?_)) | ((with_reducible apply e_store layOk); (iterate 3 apply Eq.refl); (focus (repeat (with_reducible (first | apply lh | apply lt)))); (iterate 5 apply Eq.refl)))))
          | (((with_reducible refine gR ?_); (first | refine RK.peelN rfl ?_ | refine RK.donef rfl ⟨_, rfl, ?_⟩ | refine RK.donet rfl (by kernel_rfl) ⟨_, rfl, ?_⟩)))
          | ((first | (with_reducible refine gQv ?_ ?_) | (with_reducible refine gQe ?_ ?_)); (focus (first | (apply wg (r := false); (iterate 6 apply Eq.refl)) | (apply wz; (iterate 4 apply Eq.refl)))))
          | ((with_reducible refine gK ?_); ((first | (apply gsD; (iterate 4 apply Eq.refl)) | (apply RKo.gsplitE; (iterate 4 apply Eq.refl)) | (apply RKo.gsplitN; (iterate 4 apply Eq.refl)) | (apply RKo.gsplit; (iterate 4 apply Eq.refl))) <;> (intro hc; first | with_reducible exact ff hc | with_reducible exact ff' hc | with_reducible exact absurd hc hlt' | with_reducible exact absurd hc hx | with_reducible exact absurd hc hne | with_reducible exact absurd hc h0' | with_reducible exact absurd hlt' hc | with_reducible exact absurd hx hc | with_reducible exact absurd hne hc | with_reducible exact absurd h0' hc | skip)))
          | (((with_reducible refine gW ?_); (first | with_reducible refine WP.seq ?_ | refine WP.reg mixed (fun ks => _) (fun ks => rfl) (fun ks => ?_) | ((first | (apply cdD; apply Eq.refl) | (apply WP.condE; apply Eq.refl) | (apply WP.condN; apply Eq.refl) | (apply WP.condA; apply Eq.refl)) <;> (intro hc; first | with_reducible exact ff hc | with_reducible exact ff' hc | with_reducible exact absurd hc hlt' | with_reducible exact absurd hc hx | with_reducible exact absurd hc hne | with_reducible exact absurd hc h0' | with_reducible exact absurd hlt' hc | with_reducible exact absurd hx hc | with_reducible exact absurd hne hc | with_reducible exact absurd h0' hc | skip)) | refine WP.ret ?_ | refine WP.skip ?_ | refine WP.exit ?_ | refine WP.goto ?_ | refine WP.label ?_ | refine WP.block ?_)))
          | (with_reducible refine thn_n ?_)
          | (with_reducible refine thn_r ?_)
          | (with_reducible refine thn_e ?_)
          | (with_reducible refine thn_g ?_)
          | (with_reducible refine blk_n ?_)
          | (with_reducible refine blk_r ?_)
          | (with_reducible refine blk_e ?_)
          | (with_reducible refine blk_g ?_)
          | (((with_reducible refine blk_o ?_ ?_); first | exact rfl | skip))
          | (refine Endz.mk' (by first | exact Or.inl rfl | exact Or.inr rfl) (by repeat (first | exact RVs.nil | apply RVs.cons | exact RV1.tmp rfl | exact RV1.row rfl rfl rfl (by repeat (first | exact look_here | apply look_there)) (by exact rfl) | exact RV1.cell rfl rfl rfl (by repeat (first | exact look_here | apply look_there)) (by exact rfl))) (by exact at2 inv hlt hx (.inl h0)) (by repeat (first | exact List.nil_sublist _ | exact List.Sublist.refl _ | apply List.Sublist.cons_cons | apply List.Sublist.cons))))
      · have h0' : ¬ (i : Int) = 0 := by omega
        have hl1 : i - 1 < n := by omega
        have hk1 : IntKind.i64.wrap ((i : Int) - 1) = ((i - 1 : Nat) : Int) := km1 (by omega) (by omega)
        by_cases he : X i = x
        · 
          repeat' (first
            | (with_reducible refine jmp_n ?_)
            | (with_reducible refine jmp_r ?_)
            | (with_reducible refine jmp_e ?_)
            | (((first | (with_reducible refine gQ0 ?_) | ((with_reducible refine gQ1 ?_ ?_); (focus (apply wg (r := true); (iterate 6 apply Eq.refl))))); (first | ((with_reducible apply q_loadr layOk); (iterate 3 apply Eq.refl); (focus (repeat (with_reducible (first | apply lh | apply lt)))); exact (tb.seg _ hlt)) | ((with_reducible apply q_load layOk); (iterate 3 apply Eq.refl); (focus (repeat (with_reducible (first | apply lh | apply lt)))); exact (tb.ax _ hlt)) | ((with_reducible apply q_load layOk); (iterate 3 apply Eq.refl); (focus (repeat (with_reducible (first | apply lh | apply lt)))); exact (tb.ay _ hlt)) | ((with_reducible apply q_loadr layOk); (iterate 3 apply Eq.refl); (focus (repeat (with_reducible (first | apply lh | apply lt)))); exact (tb.seg _ hl1)) | ((with_reducible apply q_load layOk); (iterate 3 apply Eq.refl); (focus (repeat (with_reducible (first | apply lh | apply lt)))); exact (tb.ax _ hl1)) | ((with_reducible apply q_load layOk); (iterate 3 apply Eq.refl); (focus (repeat (with_reducible (first | apply lh | apply lt)))); exact (tb.ay _ hl1)) | ((with_reducible apply q_idxN layOk); (iterate 4 apply Eq.refl); exact ha; apply Eq.refl; exact hlt) | ((with_reducible apply q_idxN layOk); (iterate 4 apply Eq.refl); exact ha; exact hk1; exact hl1) | ((with_reducible apply q_move); apply Eq.refl) | ((with_reducible apply q_assign); apply Eq.refl) | ((with_reducible apply q_int); (iterate 3 apply Eq.refl)) | ((with_reducible apply q_fa layOk); (iterate 5 apply Eq.refl)) | ((with_reducible apply q_load layOk); (iterate 3 apply Eq.refl); (focus (repeat (with_reducible (first | apply lh | apply lt)))); apply Eq.refl) | ((with_reducible apply q_loadr layOk); (iterate 3 apply Eq.refl); (focus (repeat (with_reducible (first | apply lh | apply lt)))); apply Eq.refl) | ((with_reducible apply q_build layOk); (iterate 4 apply Eq.refl)) | ((with_reducible apply q_alloc (k := ks _) layOk); apply Eq.refl; (focus (repeat (with_reducible (first | apply lh | apply lt)))); apply Eq.refl) | ((with_reducible apply q_pick_t); (iterate 2 apply Eq.refl)) | ((with_reducible apply q_pick_f); (iterate 2 apply Eq.refl)) | ((with_reducible apply q_len layOk); (iterate 4 apply Eq.refl)) | ((with_reducible apply isF (f := 84)); (refine q_call0 rfl (span_Of _ _) ?_)) | ((with_reducible apply e_store layOk); (iterate 3 apply Eq.refl); (focus (repeat (with_reducible (first | apply lh | apply lt)))); (iterate 5 apply Eq.refl)))))
            | (((with_reducible refine gR ?_); (first | refine RK.peelN rfl ?_ | refine RK.donef rfl ⟨_, rfl, ?_⟩ | refine RK.donet rfl (by kernel_rfl) ⟨_, rfl, ?_⟩)))
            | ((first | (with_reducible refine gQv ?_ ?_) | (with_reducible refine gQe ?_ ?_)); (focus (first | (apply wg (r := false); (iterate 6 apply Eq.refl)) | (apply wz; (iterate 4 apply Eq.refl)))))
            | ((with_reducible refine gK ?_); ((first | (apply gsD; (iterate 4 apply Eq.refl)) | (apply RKo.gsplitE; (iterate 4 apply Eq.refl)) | (apply RKo.gsplitN; (iterate 4 apply Eq.refl)) | (apply RKo.gsplit; (iterate 4 apply Eq.refl))) <;> (intro hc; first | with_reducible exact ff hc | with_reducible exact ff' hc | with_reducible exact absurd hc hlt' | with_reducible exact absurd hc hx | with_reducible exact absurd hc hne | with_reducible exact absurd hc h0' | with_reducible exact absurd hc he | with_reducible exact absurd hlt' hc | with_reducible exact absurd hx hc | with_reducible exact absurd hne hc | with_reducible exact absurd h0' hc | with_reducible exact absurd he hc | skip)))
            | (((with_reducible refine gW ?_); (first | with_reducible refine WP.seq ?_ | refine WP.reg mixed (fun ks => _) (fun ks => rfl) (fun ks => ?_) | ((first | (apply cdD; apply Eq.refl) | (apply WP.condE; apply Eq.refl) | (apply WP.condN; apply Eq.refl) | (apply WP.condA; apply Eq.refl)) <;> (intro hc; first | with_reducible exact ff hc | with_reducible exact ff' hc | with_reducible exact absurd hc hlt' | with_reducible exact absurd hc hx | with_reducible exact absurd hc hne | with_reducible exact absurd hc h0' | with_reducible exact absurd hc he | with_reducible exact absurd hlt' hc | with_reducible exact absurd hx hc | with_reducible exact absurd hne hc | with_reducible exact absurd h0' hc | with_reducible exact absurd he hc | skip)) | refine WP.ret ?_ | refine WP.skip ?_ | refine WP.exit ?_ | refine WP.goto ?_ | refine WP.label ?_ | refine WP.block ?_)))
            | (with_reducible refine thn_n ?_)
            | (with_reducible refine thn_r ?_)
            | (with_reducible refine thn_e ?_)
            | (with_reducible refine thn_g ?_)
            | (with_reducible refine blk_n ?_)
            | (with_reducible refine blk_r ?_)
            | (with_reducible refine blk_e ?_)
            | (with_reducible refine blk_g ?_)
            | (((with_reducible refine blk_o ?_ ?_); first | exact rfl | skip))
            | (refine Endz.mk' (by first | exact Or.inl rfl | exact Or.inr rfl) (by repeat (first | exact RVs.nil | apply RVs.cons | exact RV1.tmp rfl | exact RV1.row rfl rfl rfl (by repeat (first | exact look_here | apply look_there)) (by exact rfl) | exact RV1.cell rfl rfl rfl (by repeat (first | exact look_here | apply look_there)) (by exact rfl))) (by exact at2 inv hlt hx (.inr he)) (by repeat (first | exact List.nil_sublist _ | exact List.Sublist.refl _ | apply List.Sublist.cons_cons | apply List.Sublist.cons))))
        · have hA := at_in ok inv hlt hx (by omega)
          have hw1 : 1 ≤ IntKind.i64.wrap (X i - X (i - 1)) := by rw [hA.2.1]; exact hA.2.2.1
          have hw2 : -4611686018427387904 ≤ IntKind.i64.wrap (IntKind.i64.wrap (Y i - Y (i - 1)) * IntKind.i64.wrap (x - X (i - 1))) := by rw [hA.1]; have := hA.2.2.2.1; omega
          have hw3 : IntKind.i64.wrap (IntKind.i64.wrap (Y i - Y (i - 1)) * IntKind.i64.wrap (x - X (i - 1))) ≤ 4611686018427387904 := by rw [hA.1]; exact hA.2.2.2.2.1
          repeat' (first
            | (with_reducible refine jmp_n ?_)
            | (with_reducible refine jmp_r ?_)
            | (with_reducible refine jmp_e ?_)
            | (((first | (with_reducible refine gQ0 ?_) | ((with_reducible refine gQ1 ?_ ?_); (focus (apply wg (r := true); (iterate 6 apply Eq.refl))))); (first | ((with_reducible apply q_loadr layOk); (iterate 3 apply Eq.refl); (focus (repeat (with_reducible (first | apply lh | apply lt)))); exact (tb.seg _ hlt)) | ((with_reducible apply q_load layOk); (iterate 3 apply Eq.refl); (focus (repeat (with_reducible (first | apply lh | apply lt)))); exact (tb.ax _ hlt)) | ((with_reducible apply q_load layOk); (iterate 3 apply Eq.refl); (focus (repeat (with_reducible (first | apply lh | apply lt)))); exact (tb.ay _ hlt)) | ((with_reducible apply q_loadr layOk); (iterate 3 apply Eq.refl); (focus (repeat (with_reducible (first | apply lh | apply lt)))); exact (tb.seg _ hl1)) | ((with_reducible apply q_load layOk); (iterate 3 apply Eq.refl); (focus (repeat (with_reducible (first | apply lh | apply lt)))); exact (tb.ax _ hl1)) | ((with_reducible apply q_load layOk); (iterate 3 apply Eq.refl); (focus (repeat (with_reducible (first | apply lh | apply lt)))); exact (tb.ay _ hl1)) | ((with_reducible apply q_idxN layOk); (iterate 4 apply Eq.refl); exact ha; apply Eq.refl; exact hlt) | ((with_reducible apply q_idxN layOk); (iterate 4 apply Eq.refl); exact ha; exact hk1; exact hl1) | ((with_reducible apply q_move); apply Eq.refl) | ((with_reducible apply q_assign); apply Eq.refl) | ((with_reducible apply q_int); (iterate 3 apply Eq.refl)) | ((with_reducible apply q_fa layOk); (iterate 5 apply Eq.refl)) | ((with_reducible apply q_load layOk); (iterate 3 apply Eq.refl); (focus (repeat (with_reducible (first | apply lh | apply lt)))); apply Eq.refl) | ((with_reducible apply q_loadr layOk); (iterate 3 apply Eq.refl); (focus (repeat (with_reducible (first | apply lh | apply lt)))); apply Eq.refl) | ((with_reducible apply q_build layOk); (iterate 4 apply Eq.refl)) | ((with_reducible apply q_alloc (k := ks _) layOk); apply Eq.refl; (focus (repeat (with_reducible (first | apply lh | apply lt)))); apply Eq.refl) | ((with_reducible apply q_pick_t); (iterate 2 apply Eq.refl)) | ((with_reducible apply q_pick_f); (iterate 2 apply Eq.refl)) | ((with_reducible apply q_len layOk); (iterate 4 apply Eq.refl)) | ((with_reducible apply isF (f := 121)); (refine q_call0 rfl (fixed_Down _ _ hw1 hw2 hw3) ?_)) | ((with_reducible apply isF (f := 122)); (refine q_call0 rfl (fixed_Up _ _ hw1 hw2 hw3) ?_)) | ((with_reducible apply e_store layOk); (iterate 3 apply Eq.refl); (focus (repeat (with_reducible (first | apply lh | apply lt)))); (iterate 5 apply Eq.refl)))))
            | (((with_reducible refine gR ?_); (first | refine RK.peelN rfl ?_ | refine RK.donef rfl ⟨_, rfl, ?_⟩ | refine RK.donet rfl (by kernel_rfl) ⟨_, rfl, ?_⟩)))
            | ((first | (with_reducible refine gQv ?_ ?_) | (with_reducible refine gQe ?_ ?_)); (focus (first | (apply wg (r := false); (iterate 6 apply Eq.refl)) | (apply wz; (iterate 4 apply Eq.refl)))))
            | ((with_reducible refine gK ?_); ((first | (apply gsD; (iterate 4 apply Eq.refl)) | (apply RKo.gsplitE; (iterate 4 apply Eq.refl)) | (apply RKo.gsplitN; (iterate 4 apply Eq.refl)) | (apply RKo.gsplit; (iterate 4 apply Eq.refl))) <;> (intro hc; first | with_reducible exact ff hc | with_reducible exact ff' hc | with_reducible exact absurd hc hlt' | with_reducible exact absurd hc hx | with_reducible exact absurd hc hne | with_reducible exact absurd hc h0' | with_reducible exact absurd hc he | with_reducible exact absurd hlt' hc | with_reducible exact absurd hx hc | with_reducible exact absurd hne hc | with_reducible exact absurd h0' hc | with_reducible exact absurd he hc | skip)))
            | (((with_reducible refine gW ?_); (first | with_reducible refine WP.seq ?_ | refine WP.reg mixed (fun ks => _) (fun ks => rfl) (fun ks => ?_) | ((first | (apply cdD; apply Eq.refl) | (apply WP.condE; apply Eq.refl) | (apply WP.condN; apply Eq.refl) | (apply WP.condA; apply Eq.refl)) <;> (intro hc; first | with_reducible exact ff hc | with_reducible exact ff' hc | with_reducible exact absurd hc hlt' | with_reducible exact absurd hc hx | with_reducible exact absurd hc hne | with_reducible exact absurd hc h0' | with_reducible exact absurd hc he | with_reducible exact absurd hlt' hc | with_reducible exact absurd hx hc | with_reducible exact absurd hne hc | with_reducible exact absurd h0' hc | with_reducible exact absurd he hc | skip)) | refine WP.ret ?_ | refine WP.skip ?_ | refine WP.exit ?_ | refine WP.goto ?_ | refine WP.label ?_ | refine WP.block ?_)))
            | (with_reducible refine thn_n ?_)
            | (with_reducible refine thn_r ?_)
            | (with_reducible refine thn_e ?_)
            | (with_reducible refine thn_g ?_)
            | (with_reducible refine blk_n ?_)
            | (with_reducible refine blk_r ?_)
            | (with_reducible refine blk_e ?_)
            | (with_reducible refine blk_g ?_)
            | (((with_reducible refine blk_o ?_ ?_); first | exact rfl | skip))
            | (refine Endz.mk' (by first | exact Or.inl rfl | exact Or.inr rfl) (by repeat (first | exact RVs.nil | apply RVs.cons | exact RV1.tmp rfl | exact RV1.row rfl rfl rfl (by repeat (first | exact look_here | apply look_there)) (by exact rfl) | exact RV1.cell rfl rfl rfl (by repeat (first | exact look_here | apply look_there)) (by exact rfl))) (by exact at3 ok inv hlt hx (by omega)) (by repeat (first | exact List.nil_sublist _ | exact List.Sublist.refl _ | apply List.Sublist.cons_cons | apply List.Sublist.cons))))
  · have hge : ¬ (i : Int) < (n : Int) := by omega
    have hie : i = n := by omega
    have hne : (i : Int) = (n : Int) := by omega
    have hl1 : i - 1 < n := by omega
    have hk1 : IntKind.i64.wrap ((i : Int) - 1) = ((i - 1 : Nat) : Int) := km1 (by omega) (by omega)
    repeat' (first
      | (with_reducible refine jmp_n ?_)
      | (with_reducible refine jmp_r ?_)
      | (with_reducible refine jmp_e ?_)
      | (((first | (with_reducible refine gQ0 ?_) | ((with_reducible refine gQ1 ?_ ?_); (focus (apply wg (r := true); (iterate 6 apply Eq.refl))))); (first | ((with_reducible apply q_loadr layOk); (iterate 3 apply Eq.refl); (focus (repeat (with_reducible (first | apply lh | apply lt)))); exact (tb.seg _ hlt)) | ((with_reducible apply q_load layOk); (iterate 3 apply Eq.refl); (focus (repeat (with_reducible (first | apply lh | apply lt)))); exact (tb.ax _ hlt)) | ((with_reducible apply q_load layOk); (iterate 3 apply Eq.refl); (focus (repeat (with_reducible (first | apply lh | apply lt)))); exact (tb.ay _ hlt)) | ((with_reducible apply q_loadr layOk); (iterate 3 apply Eq.refl); (focus (repeat (with_reducible (first | apply lh | apply lt)))); exact (tb.seg _ hl1)) | ((with_reducible apply q_load layOk); (iterate 3 apply Eq.refl); (focus (repeat (with_reducible (first | apply lh | apply lt)))); exact (tb.ax _ hl1)) | ((with_reducible apply q_load layOk); (iterate 3 apply Eq.refl); (focus (repeat (with_reducible (first | apply lh | apply lt)))); exact (tb.ay _ hl1)) | ((with_reducible apply q_idxN layOk); (iterate 4 apply Eq.refl); exact ha; apply Eq.refl; exact hlt) | ((with_reducible apply q_idxN layOk); (iterate 4 apply Eq.refl); exact ha; exact hk1; exact hl1) | ((with_reducible apply q_move); apply Eq.refl) | ((with_reducible apply q_assign); apply Eq.refl) | ((with_reducible apply q_int); (iterate 3 apply Eq.refl)) | ((with_reducible apply q_fa layOk); (iterate 5 apply Eq.refl)) | ((with_reducible apply q_load layOk); (iterate 3 apply Eq.refl); (focus (repeat (with_reducible (first | apply lh | apply lt)))); apply Eq.refl) | ((with_reducible apply q_loadr layOk); (iterate 3 apply Eq.refl); (focus (repeat (with_reducible (first | apply lh | apply lt)))); apply Eq.refl) | ((with_reducible apply q_build layOk); (iterate 4 apply Eq.refl)) | ((with_reducible apply q_alloc (k := ks _) layOk); apply Eq.refl; (focus (repeat (with_reducible (first | apply lh | apply lt)))); apply Eq.refl) | ((with_reducible apply q_pick_t); (iterate 2 apply Eq.refl)) | ((with_reducible apply q_pick_f); (iterate 2 apply Eq.refl)) | ((with_reducible apply q_len layOk); (iterate 4 apply Eq.refl)) | ((with_reducible apply isF (f := 84)); (refine q_call0 rfl (span_Of _ _) ?_)) | ((with_reducible apply e_store layOk); (iterate 3 apply Eq.refl); (focus (repeat (with_reducible (first | apply lh | apply lt)))); (iterate 5 apply Eq.refl)))))
      | (((with_reducible refine gR ?_); (first | refine RK.peelN rfl ?_ | refine RK.donef rfl ⟨_, rfl, ?_⟩ | refine RK.donet rfl (by kernel_rfl) ⟨_, rfl, ?_⟩)))
      | ((first | (with_reducible refine gQv ?_ ?_) | (with_reducible refine gQe ?_ ?_)); (focus (first | (apply wg (r := false); (iterate 6 apply Eq.refl)) | (apply wz; (iterate 4 apply Eq.refl)))))
      | ((with_reducible refine gK ?_); ((first | (apply gsD; (iterate 4 apply Eq.refl)) | (apply RKo.gsplitE; (iterate 4 apply Eq.refl)) | (apply RKo.gsplitN; (iterate 4 apply Eq.refl)) | (apply RKo.gsplit; (iterate 4 apply Eq.refl))) <;> (intro hc; first | with_reducible exact ff hc | with_reducible exact ff' hc | with_reducible exact absurd hc hge | with_reducible exact absurd hc hne | with_reducible exact absurd hge hc | with_reducible exact absurd hne hc | skip)))
      | (((with_reducible refine gW ?_); (first | with_reducible refine WP.seq ?_ | refine WP.reg mixed (fun ks => _) (fun ks => rfl) (fun ks => ?_) | ((first | (apply cdD; apply Eq.refl) | (apply WP.condE; apply Eq.refl) | (apply WP.condN; apply Eq.refl) | (apply WP.condA; apply Eq.refl)) <;> (intro hc; first | with_reducible exact ff hc | with_reducible exact ff' hc | with_reducible exact absurd hc hge | with_reducible exact absurd hc hne | with_reducible exact absurd hge hc | with_reducible exact absurd hne hc | skip)) | refine WP.ret ?_ | refine WP.skip ?_ | refine WP.exit ?_ | refine WP.goto ?_ | refine WP.label ?_ | refine WP.block ?_)))
      | (with_reducible refine thn_n ?_)
      | (with_reducible refine thn_r ?_)
      | (with_reducible refine thn_e ?_)
      | (with_reducible refine thn_g ?_)
      | (with_reducible refine blk_n ?_)
      | (with_reducible refine blk_r ?_)
      | (with_reducible refine blk_e ?_)
      | (with_reducible refine blk_g ?_)
      | (((with_reducible refine blk_o ?_ ?_); first | exact rfl | skip))
      | (refine Endz.mk' (by first | exact Or.inl rfl | exact Or.inr rfl) (by repeat (first | exact RVs.nil | apply RVs.cons | exact RV1.tmp rfl | exact RV1.row rfl rfl rfl (by repeat (first | exact look_here | apply look_there)) (by exact rfl) | exact RV1.cell rfl rfl rfl (by repeat (first | exact look_here | apply look_there)) (by exact rfl))) (by exact at1 inv hie) (by repeat (first | exact List.nil_sublist _ | exact List.Sublist.refl _ | apply List.Sublist.cons_cons | apply List.Sublist.cons))))
end Go.Proofs.YtlhhcongoplfpaaDoor
namespace Go.Proofs.YtlhhcongoplfpaaDoor
open Go Go.Proofs.YtlhhcongoplfpaaDoorAB
variable {G : Nat}
set_option linter.unusedSimpArgs false
set_option linter.unusedVariables false
set_option maxHeartbeats 4000000 in
theorem table_At {ob : AObj} {k f n cap : Nat} {X Y : Nat → Int} {a : Option Addr} (tb : Tb ob f n X Y) (ok : TOk n X Y) (ha : 0 < n → a = some ⟨k, f, none⟩) (x : Int) : Ctr Tryd.prog G 37 [.slice a n cap, I64 x] [(k, ob)] (.agg #[I64 (tLo n X Y x), I64 (tHi n X Y x)]) [ob] := by
  refine Ctr.by layOk Tryd.func37 Tryd.ntmps37 rfl rfl rfl rfl rfl ?_
  repeat' (first
    | (((first | (with_reducible refine gQ0 ?_) | ((with_reducible refine gQ1 ?_ ?_); (focus (apply wg (r := true); (iterate 6 apply Eq.refl))))); (first | ((with_reducible apply q_move); apply Eq.refl) | ((with_reducible apply q_int); (iterate 3 apply Eq.refl)) | ((with_reducible apply q_build layOk); (iterate 4 apply Eq.refl)) | ((with_reducible apply q_alloc (k := ks _) layOk); apply Eq.refl; (focus (repeat (with_reducible (first | apply lh | apply lt)))); apply Eq.refl) | ((with_reducible apply q_nilne); (focus (kernel_rfl)); apply Eq.refl) | ((with_reducible apply q_nileq); (focus (kernel_rfl)); apply Eq.refl) | ((with_reducible apply isF (f := 30)); (refine q_call1r rfl (table_Check tb ok ha) (by first | (focus ((repeat (with_reducible (first | apply lh | apply lt))); done)) | (focus (apply lx; (focus (repeat (with_reducible (first | apply lh | apply lt)))); exact rfl))) ?_)) | ((with_reducible apply isF (f := 82)); (refine q_call1r rfl (table_at tb ok ha x) (by first | (focus ((repeat (with_reducible (first | apply lh | apply lt))); done)) | (focus (apply lx; (focus (repeat (with_reducible (first | apply lh | apply lt)))); exact rfl))) ?_)) | ((with_reducible apply e_store layOk); (iterate 3 apply Eq.refl); (focus (repeat (with_reducible (first | apply lh | apply lt)))); (iterate 5 apply Eq.refl)))))
    | (((with_reducible refine gR ?_); (first | refine RK.peelN rfl ?_ | refine RK.donef rfl ⟨_, rfl, ?_⟩ | refine RK.donet rfl (by kernel_rfl) ⟨_, rfl, ?_⟩)))
    | ((first | (with_reducible refine gQv ?_ ?_) | (with_reducible refine gQe ?_ ?_)); (focus (first | (apply wg (r := false); (iterate 6 apply Eq.refl)) | (apply wz; (iterate 4 apply Eq.refl)))))
    | ((with_reducible refine gK ?_); ((first | (apply gsD; (iterate 4 apply Eq.refl)) | (apply RKo.gsplitE; (iterate 4 apply Eq.refl)) | (apply RKo.gsplitN; (iterate 4 apply Eq.refl)) | (apply RKo.gsplit; (iterate 4 apply Eq.refl))) <;> (intro hc; first | with_reducible exact ff hc | with_reducible exact ff' hc | skip)))
    | (((with_reducible refine gW ?_); (first | with_reducible refine WP.seq ?_ | refine WP.reg mixed (fun ks => _) (fun ks => rfl) (fun ks => ?_) | ((first | (apply cdD; apply Eq.refl) | (apply WP.condE; apply Eq.refl) | (apply WP.condN; apply Eq.refl) | (apply WP.condA; apply Eq.refl)) <;> (intro hc; first | with_reducible exact ff hc | with_reducible exact ff' hc | skip)) | refine WP.ret ?_ | refine WP.skip ?_ | refine WP.exit ?_ | refine WP.goto ?_ | refine WP.label ?_ | refine WP.block ?_)))
    | (with_reducible refine thn_n ?_)
    | (with_reducible refine thn_r ?_)
    | (with_reducible refine thn_e ?_)
    | (with_reducible refine thn_g ?_)
    | (with_reducible refine blk_n ?_)
    | (with_reducible refine blk_r ?_)
    | (with_reducible refine blk_e ?_)
    | (with_reducible refine blk_g ?_)
    | (((with_reducible refine blk_o ?_ ?_); first | exact rfl | skip))
    | (refine Endz.mk' (by first | exact Or.inl rfl | exact Or.inr rfl) (by repeat (first | exact RVs.nil | apply RVs.cons | exact RV1.tmp rfl | exact RV1.row rfl rfl rfl (by repeat (first | exact look_here | apply look_there)) (by exact rfl) | exact RV1.cell rfl rfl rfl (by repeat (first | exact look_here | apply look_there)) (by exact rfl))) (by rfl) (by repeat (first | exact List.nil_sublist _ | exact List.Sublist.refl _ | apply List.Sublist.cons_cons | apply List.Sublist.cons))))
set_option maxHeartbeats 4000000 in
theorem back_1 {ob : AObj} {k f n cap : Nat} {X Y : Nat → Int} {a : Option Addr} (tb : Tb ob f n X Y) (ok : TOk n X Y) (ha : 0 < n → a = some ⟨k, f, none⟩) (p q : Nat) (x y : Int) : Ctr Tryd.prog G 81 [I64 x, .pointer (some ⟨p, 0, none⟩), .pointer (some ⟨q, 0, none⟩)] [(p, .cells [.slice a n cap] 24), (q, .cells [I64 y] 2), (k, ob)] (.bool (pHi n X Y y x)) [.cells [.slice a n cap] 24, .cells [I64 y] 2, ob] := by
  refine Ctr.by layOk Tryd.func81 Tryd.ntmps81 rfl rfl rfl rfl rfl ?_
  repeat' (first
    | (((first | (with_reducible refine gQ0 ?_) | ((with_reducible refine gQ1 ?_ ?_); (focus (apply wg (r := true); (iterate 6 apply Eq.refl))))); (first | ((with_reducible apply q_move); apply Eq.refl) | ((with_reducible apply q_assign); apply Eq.refl) | ((with_reducible apply q_int); (iterate 3 apply Eq.refl)) | ((with_reducible apply q_load layOk); (iterate 3 apply Eq.refl); (focus (repeat (with_reducible (first | apply lh | apply lt)))); apply Eq.refl) | ((with_reducible apply q_loadr layOk); (iterate 3 apply Eq.refl); (focus (repeat (with_reducible (first | apply lh | apply lt)))); apply Eq.refl) | ((with_reducible apply q_fieldc layOk); apply Eq.refl; exact Tryd.underlying38; (iterate 4 apply Eq.refl)) | ((with_reducible apply q_fieldr layOk); apply Eq.refl; exact Tryd.underlying38; (iterate 4 apply Eq.refl)) | ((with_reducible apply isF (f := 82)); (refine q_call1r rfl (table_at tb ok ha x) (by first | (focus ((repeat (with_reducible (first | apply lh | apply lt))); done)) | (focus (apply lx; (focus (repeat (with_reducible (first | apply lh | apply lt)))); exact rfl))) ?_)))))
    | (((with_reducible refine gR ?_); (first | refine RK.peelN rfl ?_ | refine RK.donef rfl ⟨_, rfl, ?_⟩ | refine RK.donet rfl (by kernel_rfl) ⟨_, rfl, ?_⟩)))
    | ((first | (with_reducible refine gQv ?_ ?_) | (with_reducible refine gQe ?_ ?_)); (focus (first | (apply wg (r := false); (iterate 6 apply Eq.refl)) | (apply wz; (iterate 4 apply Eq.refl)))))
    | ((with_reducible refine gK ?_); ((first | (apply gsD; (iterate 4 apply Eq.refl)) | (apply RKo.gsplitE; (iterate 4 apply Eq.refl)) | (apply RKo.gsplitN; (iterate 4 apply Eq.refl)) | (apply RKo.gsplit; (iterate 4 apply Eq.refl))) <;> (intro hc; first | with_reducible exact ff hc | with_reducible exact ff' hc | skip)))
    | (((with_reducible refine gW ?_); (first | with_reducible refine WP.seq ?_ | refine WP.reg mixed (fun ks => _) (fun ks => rfl) (fun ks => ?_) | ((first | (apply cdD; apply Eq.refl) | (apply WP.condE; apply Eq.refl) | (apply WP.condN; apply Eq.refl) | (apply WP.condA; apply Eq.refl)) <;> (intro hc; first | with_reducible exact ff hc | with_reducible exact ff' hc | skip)) | refine WP.ret ?_ | refine WP.skip ?_ | refine WP.exit ?_ | refine WP.goto ?_ | refine WP.label ?_ | refine WP.block ?_)))
    | (with_reducible refine thn_n ?_)
    | (with_reducible refine thn_r ?_)
    | (with_reducible refine thn_e ?_)
    | (with_reducible refine thn_g ?_)
    | (with_reducible refine blk_n ?_)
    | (with_reducible refine blk_r ?_)
    | (with_reducible refine blk_e ?_)
    | (with_reducible refine blk_g ?_)
    | (((with_reducible refine blk_o ?_ ?_); first | exact rfl | skip))
    | (refine Endz.mk' (by first | exact Or.inl rfl | exact Or.inr rfl) (by repeat (first | exact RVs.nil | apply RVs.cons | exact RV1.tmp rfl | exact RV1.row rfl rfl rfl (by repeat (first | exact look_here | apply look_there)) (by exact rfl) | exact RV1.cell rfl rfl rfl (by repeat (first | exact look_here | apply look_there)) (by exact rfl))) (by rfl) (by repeat (first | exact List.nil_sublist _ | exact List.Sublist.refl _ | apply List.Sublist.cons_cons | apply List.Sublist.cons))))
set_option maxHeartbeats 4000000 in
theorem back_2 {ob : AObj} {k f n cap : Nat} {X Y : Nat → Int} {a : Option Addr} (tb : Tb ob f n X Y) (ok : TOk n X Y) (ha : 0 < n → a = some ⟨k, f, none⟩) (p q : Nat) (x y : Int) : Ctr Tryd.prog G 83 [I64 x, .pointer (some ⟨p, 0, none⟩), .pointer (some ⟨q, 0, none⟩)] [(p, .cells [.slice a n cap] 24), (q, .cells [I64 y] 2), (k, ob)] (.bool (pLo n X Y y x)) [.cells [.slice a n cap] 24, .cells [I64 y] 2, ob] := by
  refine Ctr.by layOk Tryd.func83 Tryd.ntmps83 rfl rfl rfl rfl rfl ?_
  repeat' (first
    | (((first | (with_reducible refine gQ0 ?_) | ((with_reducible refine gQ1 ?_ ?_); (focus (apply wg (r := true); (iterate 6 apply Eq.refl))))); (first | ((with_reducible apply q_move); apply Eq.refl) | ((with_reducible apply q_assign); apply Eq.refl) | ((with_reducible apply q_int); (iterate 3 apply Eq.refl)) | ((with_reducible apply q_load layOk); (iterate 3 apply Eq.refl); (focus (repeat (with_reducible (first | apply lh | apply lt)))); apply Eq.refl) | ((with_reducible apply q_loadr layOk); (iterate 3 apply Eq.refl); (focus (repeat (with_reducible (first | apply lh | apply lt)))); apply Eq.refl) | ((with_reducible apply q_fieldc layOk); apply Eq.refl; exact Tryd.underlying38; (iterate 4 apply Eq.refl)) | ((with_reducible apply q_fieldr layOk); apply Eq.refl; exact Tryd.underlying38; (iterate 4 apply Eq.refl)) | ((with_reducible apply isF (f := 82)); (refine q_call1r rfl (table_at tb ok ha x) (by first | (focus ((repeat (with_reducible (first | apply lh | apply lt))); done)) | (focus (apply lx; (focus (repeat (with_reducible (first | apply lh | apply lt)))); exact rfl))) ?_)))))
    | (((with_reducible refine gR ?_); (first | refine RK.peelN rfl ?_ | refine RK.donef rfl ⟨_, rfl, ?_⟩ | refine RK.donet rfl (by kernel_rfl) ⟨_, rfl, ?_⟩)))
    | ((first | (with_reducible refine gQv ?_ ?_) | (with_reducible refine gQe ?_ ?_)); (focus (first | (apply wg (r := false); (iterate 6 apply Eq.refl)) | (apply wz; (iterate 4 apply Eq.refl)))))
    | ((with_reducible refine gK ?_); ((first | (apply gsD; (iterate 4 apply Eq.refl)) | (apply RKo.gsplitE; (iterate 4 apply Eq.refl)) | (apply RKo.gsplitN; (iterate 4 apply Eq.refl)) | (apply RKo.gsplit; (iterate 4 apply Eq.refl))) <;> (intro hc; first | with_reducible exact ff hc | with_reducible exact ff' hc | skip)))
    | (((with_reducible refine gW ?_); (first | with_reducible refine WP.seq ?_ | refine WP.reg mixed (fun ks => _) (fun ks => rfl) (fun ks => ?_) | ((first | (apply cdD; apply Eq.refl) | (apply WP.condE; apply Eq.refl) | (apply WP.condN; apply Eq.refl) | (apply WP.condA; apply Eq.refl)) <;> (intro hc; first | with_reducible exact ff hc | with_reducible exact ff' hc | skip)) | refine WP.ret ?_ | refine WP.skip ?_ | refine WP.exit ?_ | refine WP.goto ?_ | refine WP.label ?_ | refine WP.block ?_)))
    | (with_reducible refine thn_n ?_)
    | (with_reducible refine thn_r ?_)
    | (with_reducible refine thn_e ?_)
    | (with_reducible refine thn_g ?_)
    | (with_reducible refine blk_n ?_)
    | (with_reducible refine blk_r ?_)
    | (with_reducible refine blk_e ?_)
    | (with_reducible refine blk_g ?_)
    | (((with_reducible refine blk_o ?_ ?_); first | exact rfl | skip))
    | (refine Endz.mk' (by first | exact Or.inl rfl | exact Or.inr rfl) (by repeat (first | exact RVs.nil | apply RVs.cons | exact RV1.tmp rfl | exact RV1.row rfl rfl rfl (by repeat (first | exact look_here | apply look_there)) (by exact rfl) | exact RV1.cell rfl rfl rfl (by repeat (first | exact look_here | apply look_there)) (by exact rfl))) (by rfl) (by repeat (first | exact List.nil_sublist _ | exact List.Sublist.refl _ | apply List.Sublist.cons_cons | apply List.Sublist.cons))))

theorem half {a b : Int} (h : a < b) (h1 : -2147483648 ≤ a) (h2 : b ≤ 2147483648) : ∃ m, IntKind.i64.wrap (a + IntKind.i64.wrap ((IntKind.i64.wrap (b - a)).tdiv 2)) = m ∧ a ≤ m ∧ m < b ∧ IntKind.i64.wrap (m + 1) = m + 1 := by
  refine ⟨_, rfl, ?_⟩
  rw [wrap_in (x := b - a) (by omega) (by omega), Int.tdiv_eq_ediv_of_nonneg (by omega), wrap_in (x := (b - a) / 2) (by omega) (by omega), wrap_in (x := a + (b - a) / 2) (by omega) (by omega), wrap_in (by omega) (by omega)]
  omega

set_option maxHeartbeats 8000000 in
theorem least_1 {ob : AObj} {k f n cap : Nat} {X Y : Nat → Int} {a : Option Addr} (tb : Tb ob f n X Y) (ok : TOk n X Y) (ha : 0 < n → a = some ⟨k, f, none⟩) (p q : Nat) (y lo hi : Int) (b1 : -1073741824 ≤ lo) (b2 : lo ≤ hi + 1) (b3 : hi ≤ 1073741824) : Ctr Tryd.prog G 80 [I64 lo, I64 hi, .func (.func 81) ⟨[]⟩ ⟨[.pointer (some ⟨p, 0, none⟩), .pointer (some ⟨q, 0, none⟩)]⟩] [(p, .cells [.slice a n cap] 24), (q, .cells [I64 y] 2), (k, ob)] (I64 (leastV (pHi n X Y y) lo hi)) [.cells [.slice a n cap] 24, .cells [I64 y] 2, ob] := by
  have hM := ok.pHi_mono y
  refine Ctr.by layOk Tryd.func80 Tryd.ntmps80 rfl rfl rfl rfl rfl ?_
  repeat' (first
    | (((with_reducible refine gQ0 ?_); (first | ((with_reducible apply q_move); apply Eq.refl) | ((with_reducible apply q_assign); apply Eq.refl) | ((with_reducible apply q_int); (iterate 3 apply Eq.refl)))))
    | (((with_reducible refine gR ?_); (first | refine RK.peelN rfl ?_ | refine RK.donef rfl ⟨_, rfl, ?_⟩ | refine RK.donet rfl (by kernel_rfl) ⟨_, rfl, ?_⟩)))
    | (((with_reducible refine gW ?_); (first | with_reducible refine WP.seq ?_ | refine WP.reg mixed (fun ks => _) (fun ks => rfl) (fun ks => ?_) | ((first | (apply cdD; apply Eq.refl) | (apply WP.condE; apply Eq.refl) | (apply WP.condN; apply Eq.refl) | (apply WP.condA; apply Eq.refl)) <;> (intro hc; first | with_reducible exact ff hc | with_reducible exact ff' hc | skip)) | refine WP.ret ?_ | refine WP.skip ?_ | refine WP.exit ?_ | refine WP.goto ?_ | refine WP.label ?_ | refine WP.block ?_)))
    | (with_reducible refine thn_n ?_)
    | (with_reducible refine thn_r ?_)
    | (with_reducible refine thn_e ?_)
    | (with_reducible refine thn_g ?_)
    | (with_reducible refine blk_n ?_)
    | (with_reducible refine blk_r ?_)
    | (with_reducible refine blk_e ?_)
    | (with_reducible refine blk_g ?_)
    | (((with_reducible refine blk_o ?_ ?_); first | exact rfl | skip))
    | (refine Endz.mk' (by first | exact Or.inl rfl | exact Or.inr rfl) (by repeat (first | exact RVs.nil | apply RVs.cons | exact RV1.tmp rfl | exact RV1.row rfl rfl rfl (by repeat (first | exact look_here | apply look_there)) (by exact rfl) | exact RV1.cell rfl rfl rfl (by repeat (first | exact look_here | apply look_there)) (by exact rfl))) (by rfl) (by repeat (first | exact List.nil_sublist _ | exact List.Sublist.refl _ | apply List.Sublist.cons_cons | apply List.Sublist.cons))))
  refine WP.loopI (n := 26) (α := Int × Int) (fun z => [(0, some (I64 z.1)), (1, some (I64 z.2)), (2, some (.func (.func 81) ⟨[]⟩ ⟨[.pointer (some ⟨p, 0, none⟩), .pointer (some ⟨q, 0, none⟩)]⟩))])
    (fun z => [(p, .cells [.slice a n cap] 24), (q, .cells [I64 y] 2), (k, ob)]) (fun z => lo ≤ z.1 ∧ z.1 ≤ z.2 ∧ z.2 ≤ hi + 1 ∧ (∀ x, lo ≤ x → x < z.1 → pHi n X Y y x = false) ∧ (∀ x, z.2 ≤ x → x ≤ hi → pHi n X Y y x = true)) (fun z => (z.2 - z.1).toNat) (lo, hi + 1) (Wk.of ⟨rfl, congrArg (fun x => some (I64 x)) (wrap_in (by omega) (by omega)), rfl, trivial⟩ (by repeat (first | exact List.nil_sublist _ | exact List.Sublist.refl _ | apply List.Sublist.cons_cons | apply List.Sublist.cons)))
    ⟨Int.le_refl _, b2, Int.le_refl _, fun x h1 h2 => absurd h2 (by show ¬ x < lo; omega), fun x h1 h2 => absurd h2 (by have h1 : hi + 1 ≤ x := h1; omega)⟩ (fun z iz => ?_)
  obtain ⟨a0, b0⟩ := z
  obtain ⟨i1, i2, i3, i4, i5⟩ := iz
  dsimp only at i1 i2 i3 i4 i5 ⊢
  by_cases hlt : a0 < b0
  · obtain ⟨m, hm, m1, m2, m3⟩ := half hlt (by omega) (by omega)
    cases hp : pHi n X Y y m with
    | true =>
      have hq : y ≤ tHi n X Y (IntKind.i64.wrap (a0 + IntKind.i64.wrap ((IntKind.i64.wrap (b0 - a0)).tdiv 2))) := by rw [hm]; exact of_decide_eq_true hp
      repeat' (first
        | (((first | (with_reducible refine gQ0 ?_) | ((with_reducible refine gQ1 ?_ ?_); (focus (apply wg (r := true); (iterate 6 apply Eq.refl))))); (first | ((with_reducible apply q_quo); (iterate 2 apply Eq.refl); (focus (decide))) | ((with_reducible apply q_move); apply Eq.refl) | ((with_reducible apply q_assign); apply Eq.refl) | ((with_reducible apply q_int); (iterate 3 apply Eq.refl)) | (refine q_callRF rfl rfl (back_1 (cap := cap) tb ok ha p q _ y) rfl (by repeat (first | exact Fd.nil | apply Fd.cons | (focus ((repeat (with_reducible (first | apply lh | apply lt))); done)) | (focus (apply lx; (focus (repeat (with_reducible (first | apply lh | apply lt)))); exact rfl)))) (by decide) ?_))))
        | (((with_reducible refine gR ?_); (first | refine RK.peelN rfl ?_ | refine RK.donef rfl ⟨_, rfl, ?_⟩ | refine RK.donet rfl (by kernel_rfl) ⟨_, rfl, ?_⟩)))
        | ((first | (with_reducible refine gQv ?_ ?_) | (with_reducible refine gQe ?_ ?_)); (focus (first | (apply wg (r := false); (iterate 6 apply Eq.refl)) | (apply wz; (iterate 4 apply Eq.refl)))))
        | ((with_reducible refine gK ?_); ((first | (apply gsD; (iterate 4 apply Eq.refl)) | (apply RKo.gsplitE; (iterate 4 apply Eq.refl)) | (apply RKo.gsplitN; (iterate 4 apply Eq.refl)) | (apply RKo.gsplit; (iterate 4 apply Eq.refl))) <;> (intro hc; first | with_reducible exact ff hc | with_reducible exact ff' hc | with_reducible exact absurd hlt hc | with_reducible exact absurd hc hlt | with_reducible exact absurd hq hc | skip)))
        | (((with_reducible refine gW ?_); (first | with_reducible refine WP.seq ?_ | refine WP.reg mixed (fun ks => _) (fun ks => rfl) (fun ks => ?_) | ((first | (apply cdD; apply Eq.refl) | (apply WP.condE; apply Eq.refl) | (apply WP.condN; apply Eq.refl) | (apply WP.condA; apply Eq.refl)) <;> (intro hc; first | with_reducible exact ff hc | with_reducible exact ff' hc | with_reducible exact absurd hlt hc | with_reducible exact absurd hc hlt | with_reducible exact absurd hq hc | skip)) | refine WP.ret ?_ | refine WP.skip ?_ | refine WP.exit ?_ | refine WP.goto ?_ | refine WP.label ?_ | refine WP.block ?_)))
        | (with_reducible refine thn_n ?_)
        | (with_reducible refine thn_r ?_)
        | (with_reducible refine thn_e ?_)
        | (with_reducible refine thn_g ?_)
        | (with_reducible refine blk_n ?_)
        | (with_reducible refine blk_r ?_)
        | (with_reducible refine blk_e ?_)
        | (with_reducible refine blk_g ?_)
        | (((with_reducible refine blk_o ?_ ?_); first | exact rfl | skip))
        | (refine Endz.mk' (by first | exact Or.inl rfl | exact Or.inr rfl) (by repeat (first | exact RVs.nil | apply RVs.cons | exact RV1.tmp rfl | exact RV1.row rfl rfl rfl (by repeat (first | exact look_here | apply look_there)) (by exact rfl) | exact RV1.cell rfl rfl rfl (by repeat (first | exact look_here | apply look_there)) (by exact rfl))) (by rfl) (by repeat (first | exact List.nil_sublist _ | exact List.Sublist.refl _ | apply List.Sublist.cons_cons | apply List.Sublist.cons))))
      exact ⟨(a0, m), ⟨i1, m1, by show m ≤ hi + 1; omega, i4, fun x h1 h2 => hM m x h1 hp⟩, by show (m - a0).toNat < (b0 - a0).toNat; omega, Wk.of ⟨rfl, congrArg (fun x => some (I64 x)) hm, rfl, trivial⟩ (by repeat (first | exact List.nil_sublist _ | exact List.Sublist.refl _ | apply List.Sublist.cons_cons | apply List.Sublist.cons))⟩
    | false =>
      have hq : ¬ y ≤ tHi n X Y (IntKind.i64.wrap (a0 + IntKind.i64.wrap ((IntKind.i64.wrap (b0 - a0)).tdiv 2))) := by rw [hm]; exact of_decide_eq_false hp
      repeat' (first
        | (((first | (with_reducible refine gQ0 ?_) | ((with_reducible refine gQ1 ?_ ?_); (focus (apply wg (r := true); (iterate 6 apply Eq.refl))))); (first | ((with_reducible apply q_quo); (iterate 2 apply Eq.refl); (focus (decide))) | ((with_reducible apply q_move); apply Eq.refl) | ((with_reducible apply q_assign); apply Eq.refl) | ((with_reducible apply q_int); (iterate 3 apply Eq.refl)) | (refine q_callRF rfl rfl (back_1 (cap := cap) tb ok ha p q _ y) rfl (by repeat (first | exact Fd.nil | apply Fd.cons | (focus ((repeat (with_reducible (first | apply lh | apply lt))); done)) | (focus (apply lx; (focus (repeat (with_reducible (first | apply lh | apply lt)))); exact rfl)))) (by decide) ?_))))
        | (((with_reducible refine gR ?_); (first | refine RK.peelN rfl ?_ | refine RK.donef rfl ⟨_, rfl, ?_⟩ | refine RK.donet rfl (by kernel_rfl) ⟨_, rfl, ?_⟩)))
        | ((first | (with_reducible refine gQv ?_ ?_) | (with_reducible refine gQe ?_ ?_)); (focus (first | (apply wg (r := false); (iterate 6 apply Eq.refl)) | (apply wz; (iterate 4 apply Eq.refl)))))
        | ((with_reducible refine gK ?_); ((first | (apply gsD; (iterate 4 apply Eq.refl)) | (apply RKo.gsplitE; (iterate 4 apply Eq.refl)) | (apply RKo.gsplitN; (iterate 4 apply Eq.refl)) | (apply RKo.gsplit; (iterate 4 apply Eq.refl))) <;> (intro hc; first | with_reducible exact ff hc | with_reducible exact ff' hc | with_reducible exact absurd hlt hc | with_reducible exact absurd hc hlt | with_reducible exact absurd hc hq | skip)))
        | (((with_reducible refine gW ?_); (first | with_reducible refine WP.seq ?_ | refine WP.reg mixed (fun ks => _) (fun ks => rfl) (fun ks => ?_) | ((first | (apply cdD; apply Eq.refl) | (apply WP.condE; apply Eq.refl) | (apply WP.condN; apply Eq.refl) | (apply WP.condA; apply Eq.refl)) <;> (intro hc; first | with_reducible exact ff hc | with_reducible exact ff' hc | with_reducible exact absurd hlt hc | with_reducible exact absurd hc hlt | with_reducible exact absurd hc hq | skip)) | refine WP.ret ?_ | refine WP.skip ?_ | refine WP.exit ?_ | refine WP.goto ?_ | refine WP.label ?_ | refine WP.block ?_)))
        | (with_reducible refine thn_n ?_)
        | (with_reducible refine thn_r ?_)
        | (with_reducible refine thn_e ?_)
        | (with_reducible refine thn_g ?_)
        | (with_reducible refine blk_n ?_)
        | (with_reducible refine blk_r ?_)
        | (with_reducible refine blk_e ?_)
        | (with_reducible refine blk_g ?_)
        | (((with_reducible refine blk_o ?_ ?_); first | exact rfl | skip))
        | (refine Endz.mk' (by first | exact Or.inl rfl | exact Or.inr rfl) (by repeat (first | exact RVs.nil | apply RVs.cons | exact RV1.tmp rfl | exact RV1.row rfl rfl rfl (by repeat (first | exact look_here | apply look_there)) (by exact rfl) | exact RV1.cell rfl rfl rfl (by repeat (first | exact look_here | apply look_there)) (by exact rfl))) (by rfl) (by repeat (first | exact List.nil_sublist _ | exact List.Sublist.refl _ | apply List.Sublist.cons_cons | apply List.Sublist.cons))))
      refine ⟨(m + 1, b0), ⟨by show lo ≤ m + 1; omega, by show m + 1 ≤ b0; omega, i3, fun x h1 h2 => ?_, i5⟩, by show (b0 - (m + 1)).toNat < (b0 - a0).toNat; omega, Wk.of ⟨?_, rfl, rfl, trivial⟩ (by repeat (first | exact List.nil_sublist _ | exact List.Sublist.refl _ | apply List.Sublist.cons_cons | apply List.Sublist.cons))⟩
      · have h2 : x < m + 1 := h2
        cases hx : pHi n X Y y x with
        | false => rfl
        | true => rw [hM x m (by omega) hx] at hp; cases hp
      · exact congrArg (fun x => some (I64 x)) (by rw [hm]; exact m3)
  · obtain rfl : a0 = b0 := by omega
    have hL : leastV (pHi n X Y y) lo hi = a0 := IsLeast.eq ⟨i1, i3, i4, i5⟩
    rw [hL]
    repeat' (first
      | (((first | (with_reducible refine gQ0 ?_) | ((with_reducible refine gQ1 ?_ ?_); (focus (apply wg (r := true); (iterate 6 apply Eq.refl))))); (first | ((with_reducible apply q_quo); (iterate 2 apply Eq.refl); (focus (decide))) | ((with_reducible apply q_move); apply Eq.refl) | ((with_reducible apply q_assign); apply Eq.refl) | ((with_reducible apply q_int); (iterate 3 apply Eq.refl)) | (refine q_callRF rfl rfl (back_1 (cap := cap) tb ok ha p q _ y) rfl (by repeat (first | exact Fd.nil | apply Fd.cons | (focus ((repeat (with_reducible (first | apply lh | apply lt))); done)) | (focus (apply lx; (focus (repeat (with_reducible (first | apply lh | apply lt)))); exact rfl)))) (by decide) ?_))))
      | (((with_reducible refine gR ?_); (first | refine RK.peelN rfl ?_ | refine RK.donef rfl ⟨_, rfl, ?_⟩ | refine RK.donet rfl (by kernel_rfl) ⟨_, rfl, ?_⟩)))
      | ((first | (with_reducible refine gQv ?_ ?_) | (with_reducible refine gQe ?_ ?_)); (focus (first | (apply wg (r := false); (iterate 6 apply Eq.refl)) | (apply wz; (iterate 4 apply Eq.refl)))))
      | ((with_reducible refine gK ?_); ((first | (apply gsD; (iterate 4 apply Eq.refl)) | (apply RKo.gsplitE; (iterate 4 apply Eq.refl)) | (apply RKo.gsplitN; (iterate 4 apply Eq.refl)) | (apply RKo.gsplit; (iterate 4 apply Eq.refl))) <;> (intro hc; first | with_reducible exact ff hc | with_reducible exact ff' hc | with_reducible exact absurd hlt hc | with_reducible exact absurd hc hlt | skip)))
      | (((with_reducible refine gW ?_); (first | with_reducible refine WP.seq ?_ | refine WP.reg mixed (fun ks => _) (fun ks => rfl) (fun ks => ?_) | ((first | (apply cdD; apply Eq.refl) | (apply WP.condE; apply Eq.refl) | (apply WP.condN; apply Eq.refl) | (apply WP.condA; apply Eq.refl)) <;> (intro hc; first | with_reducible exact ff hc | with_reducible exact ff' hc | with_reducible exact absurd hlt hc | with_reducible exact absurd hc hlt | skip)) | refine WP.ret ?_ | refine WP.skip ?_ | refine WP.exit ?_ | refine WP.goto ?_ | refine WP.label ?_ | refine WP.block ?_)))
      | (with_reducible refine thn_n ?_)
      | (with_reducible refine thn_r ?_)
      | (with_reducible refine thn_e ?_)
      | (with_reducible refine thn_g ?_)
      | (with_reducible refine blk_n ?_)
      | (with_reducible refine blk_r ?_)
      | (with_reducible refine blk_e ?_)
      | (with_reducible refine blk_g ?_)
      | (((with_reducible refine blk_o ?_ ?_); first | exact rfl | skip))
      | (refine Endz.mk' (by first | exact Or.inl rfl | exact Or.inr rfl) (by repeat (first | exact RVs.nil | apply RVs.cons | exact RV1.tmp rfl | exact RV1.row rfl rfl rfl (by repeat (first | exact look_here | apply look_there)) (by exact rfl) | exact RV1.cell rfl rfl rfl (by repeat (first | exact look_here | apply look_there)) (by exact rfl))) (by rfl) (by repeat (first | exact List.nil_sublist _ | exact List.Sublist.refl _ | apply List.Sublist.cons_cons | apply List.Sublist.cons))))

set_option maxHeartbeats 8000000 in
theorem least_2 {ob : AObj} {k f n cap : Nat} {X Y : Nat → Int} {a : Option Addr} (tb : Tb ob f n X Y) (ok : TOk n X Y) (ha : 0 < n → a = some ⟨k, f, none⟩) (p q : Nat) (y lo hi : Int) (b1 : -1073741824 ≤ lo) (b2 : lo ≤ hi + 1) (b3 : hi ≤ 1073741824) : Ctr Tryd.prog G 80 [I64 lo, I64 hi, .func (.func 83) ⟨[]⟩ ⟨[.pointer (some ⟨p, 0, none⟩), .pointer (some ⟨q, 0, none⟩)]⟩] [(p, .cells [.slice a n cap] 24), (q, .cells [I64 y] 2), (k, ob)] (I64 (leastV (pLo n X Y y) lo hi)) [.cells [.slice a n cap] 24, .cells [I64 y] 2, ob] := by
  have hM := ok.pLo_mono y
  refine Ctr.by layOk Tryd.func80 Tryd.ntmps80 rfl rfl rfl rfl rfl ?_
  repeat' (first
    | (((with_reducible refine gQ0 ?_); (first | ((with_reducible apply q_move); apply Eq.refl) | ((with_reducible apply q_assign); apply Eq.refl) | ((with_reducible apply q_int); (iterate 3 apply Eq.refl)))))
    | (((with_reducible refine gR ?_); (first | refine RK.peelN rfl ?_ | refine RK.donef rfl ⟨_, rfl, ?_⟩ | refine RK.donet rfl (by kernel_rfl) ⟨_, rfl, ?_⟩)))
    | (((with_reducible refine gW ?_); (first | with_reducible refine WP.seq ?_ | refine WP.reg mixed (fun ks => _) (fun ks => rfl) (fun ks => ?_) | ((first | (apply cdD; apply Eq.refl) | (apply WP.condE; apply Eq.refl) | (apply WP.condN; apply Eq.refl) | (apply WP.condA; apply Eq.refl)) <;> (intro hc; first | with_reducible exact ff hc | with_reducible exact ff' hc | skip)) | refine WP.ret ?_ | refine WP.skip ?_ | refine WP.exit ?_ | refine WP.goto ?_ | refine WP.label ?_ | refine WP.block ?_)))
    | (with_reducible refine thn_n ?_)
    | (with_reducible refine thn_r ?_)
    | (with_reducible refine thn_e ?_)
    | (with_reducible refine thn_g ?_)
    | (with_reducible refine blk_n ?_)
    | (with_reducible refine blk_r ?_)
    | (with_reducible refine blk_e ?_)
    | (with_reducible refine blk_g ?_)
    | (((with_reducible refine blk_o ?_ ?_); first | exact rfl | skip))
    | (refine Endz.mk' (by first | exact Or.inl rfl | exact Or.inr rfl) (by repeat (first | exact RVs.nil | apply RVs.cons | exact RV1.tmp rfl | exact RV1.row rfl rfl rfl (by repeat (first | exact look_here | apply look_there)) (by exact rfl) | exact RV1.cell rfl rfl rfl (by repeat (first | exact look_here | apply look_there)) (by exact rfl))) (by rfl) (by repeat (first | exact List.nil_sublist _ | exact List.Sublist.refl _ | apply List.Sublist.cons_cons | apply List.Sublist.cons))))
  refine WP.loopI (n := 26) (α := Int × Int) (fun z => [(0, some (I64 z.1)), (1, some (I64 z.2)), (2, some (.func (.func 83) ⟨[]⟩ ⟨[.pointer (some ⟨p, 0, none⟩), .pointer (some ⟨q, 0, none⟩)]⟩))])
    (fun z => [(p, .cells [.slice a n cap] 24), (q, .cells [I64 y] 2), (k, ob)]) (fun z => lo ≤ z.1 ∧ z.1 ≤ z.2 ∧ z.2 ≤ hi + 1 ∧ (∀ x, lo ≤ x → x < z.1 → pLo n X Y y x = false) ∧ (∀ x, z.2 ≤ x → x ≤ hi → pLo n X Y y x = true)) (fun z => (z.2 - z.1).toNat) (lo, hi + 1) (Wk.of ⟨rfl, congrArg (fun x => some (I64 x)) (wrap_in (by omega) (by omega)), rfl, trivial⟩ (by repeat (first | exact List.nil_sublist _ | exact List.Sublist.refl _ | apply List.Sublist.cons_cons | apply List.Sublist.cons)))
    ⟨Int.le_refl _, b2, Int.le_refl _, fun x h1 h2 => absurd h2 (by show ¬ x < lo; omega), fun x h1 h2 => absurd h2 (by have h1 : hi + 1 ≤ x := h1; omega)⟩ (fun z iz => ?_)
  obtain ⟨a0, b0⟩ := z
  obtain ⟨i1, i2, i3, i4, i5⟩ := iz
  dsimp only at i1 i2 i3 i4 i5 ⊢
  by_cases hlt : a0 < b0
  · obtain ⟨m, hm, m1, m2, m3⟩ := half hlt (by omega) (by omega)
    cases hp : pLo n X Y y m with
    | true =>
      have hq : y < tLo n X Y (IntKind.i64.wrap (a0 + IntKind.i64.wrap ((IntKind.i64.wrap (b0 - a0)).tdiv 2))) := by rw [hm]; exact of_decide_eq_true hp
      repeat' (first
        | (((first | (with_reducible refine gQ0 ?_) | ((with_reducible refine gQ1 ?_ ?_); (focus (apply wg (r := true); (iterate 6 apply Eq.refl))))); (first | ((with_reducible apply q_quo); (iterate 2 apply Eq.refl); (focus (decide))) | ((with_reducible apply q_move); apply Eq.refl) | ((with_reducible apply q_assign); apply Eq.refl) | ((with_reducible apply q_int); (iterate 3 apply Eq.refl)) | (refine q_callRF rfl rfl (back_2 (cap := cap) tb ok ha p q _ y) rfl (by repeat (first | exact Fd.nil | apply Fd.cons | (focus ((repeat (with_reducible (first | apply lh | apply lt))); done)) | (focus (apply lx; (focus (repeat (with_reducible (first | apply lh | apply lt)))); exact rfl)))) (by decide) ?_))))
        | (((with_reducible refine gR ?_); (first | refine RK.peelN rfl ?_ | refine RK.donef rfl ⟨_, rfl, ?_⟩ | refine RK.donet rfl (by kernel_rfl) ⟨_, rfl, ?_⟩)))
        | ((first | (with_reducible refine gQv ?_ ?_) | (with_reducible refine gQe ?_ ?_)); (focus (first | (apply wg (r := false); (iterate 6 apply Eq.refl)) | (apply wz; (iterate 4 apply Eq.refl)))))
        | ((with_reducible refine gK ?_); ((first | (apply gsD; (iterate 4 apply Eq.refl)) | (apply RKo.gsplitE; (iterate 4 apply Eq.refl)) | (apply RKo.gsplitN; (iterate 4 apply Eq.refl)) | (apply RKo.gsplit; (iterate 4 apply Eq.refl))) <;> (intro hc; first | with_reducible exact ff hc | with_reducible exact ff' hc | with_reducible exact absurd hlt hc | with_reducible exact absurd hc hlt | with_reducible exact absurd hq hc | skip)))
        | (((with_reducible refine gW ?_); (first | with_reducible refine WP.seq ?_ | refine WP.reg mixed (fun ks => _) (fun ks => rfl) (fun ks => ?_) | ((first | (apply cdD; apply Eq.refl) | (apply WP.condE; apply Eq.refl) | (apply WP.condN; apply Eq.refl) | (apply WP.condA; apply Eq.refl)) <;> (intro hc; first | with_reducible exact ff hc | with_reducible exact ff' hc | with_reducible exact absurd hlt hc | with_reducible exact absurd hc hlt | with_reducible exact absurd hq hc | skip)) | refine WP.ret ?_ | refine WP.skip ?_ | refine WP.exit ?_ | refine WP.goto ?_ | refine WP.label ?_ | refine WP.block ?_)))
        | (with_reducible refine thn_n ?_)
        | (with_reducible refine thn_r ?_)
        | (with_reducible refine thn_e ?_)
        | (with_reducible refine thn_g ?_)
        | (with_reducible refine blk_n ?_)
        | (with_reducible refine blk_r ?_)
        | (with_reducible refine blk_e ?_)
        | (with_reducible refine blk_g ?_)
        | (((with_reducible refine blk_o ?_ ?_); first | exact rfl | skip))
        | (refine Endz.mk' (by first | exact Or.inl rfl | exact Or.inr rfl) (by repeat (first | exact RVs.nil | apply RVs.cons | exact RV1.tmp rfl | exact RV1.row rfl rfl rfl (by repeat (first | exact look_here | apply look_there)) (by exact rfl) | exact RV1.cell rfl rfl rfl (by repeat (first | exact look_here | apply look_there)) (by exact rfl))) (by rfl) (by repeat (first | exact List.nil_sublist _ | exact List.Sublist.refl _ | apply List.Sublist.cons_cons | apply List.Sublist.cons))))
      exact ⟨(a0, m), ⟨i1, m1, by show m ≤ hi + 1; omega, i4, fun x h1 h2 => hM m x h1 hp⟩, by show (m - a0).toNat < (b0 - a0).toNat; omega, Wk.of ⟨rfl, congrArg (fun x => some (I64 x)) hm, rfl, trivial⟩ (by repeat (first | exact List.nil_sublist _ | exact List.Sublist.refl _ | apply List.Sublist.cons_cons | apply List.Sublist.cons))⟩
    | false =>
      have hq : ¬ y < tLo n X Y (IntKind.i64.wrap (a0 + IntKind.i64.wrap ((IntKind.i64.wrap (b0 - a0)).tdiv 2))) := by rw [hm]; exact of_decide_eq_false hp
      repeat' (first
        | (((first | (with_reducible refine gQ0 ?_) | ((with_reducible refine gQ1 ?_ ?_); (focus (apply wg (r := true); (iterate 6 apply Eq.refl))))); (first | ((with_reducible apply q_quo); (iterate 2 apply Eq.refl); (focus (decide))) | ((with_reducible apply q_move); apply Eq.refl) | ((with_reducible apply q_assign); apply Eq.refl) | ((with_reducible apply q_int); (iterate 3 apply Eq.refl)) | (refine q_callRF rfl rfl (back_2 (cap := cap) tb ok ha p q _ y) rfl (by repeat (first | exact Fd.nil | apply Fd.cons | (focus ((repeat (with_reducible (first | apply lh | apply lt))); done)) | (focus (apply lx; (focus (repeat (with_reducible (first | apply lh | apply lt)))); exact rfl)))) (by decide) ?_))))
        | (((with_reducible refine gR ?_); (first | refine RK.peelN rfl ?_ | refine RK.donef rfl ⟨_, rfl, ?_⟩ | refine RK.donet rfl (by kernel_rfl) ⟨_, rfl, ?_⟩)))
        | ((first | (with_reducible refine gQv ?_ ?_) | (with_reducible refine gQe ?_ ?_)); (focus (first | (apply wg (r := false); (iterate 6 apply Eq.refl)) | (apply wz; (iterate 4 apply Eq.refl)))))
        | ((with_reducible refine gK ?_); ((first | (apply gsD; (iterate 4 apply Eq.refl)) | (apply RKo.gsplitE; (iterate 4 apply Eq.refl)) | (apply RKo.gsplitN; (iterate 4 apply Eq.refl)) | (apply RKo.gsplit; (iterate 4 apply Eq.refl))) <;> (intro hc; first | with_reducible exact ff hc | with_reducible exact ff' hc | with_reducible exact absurd hlt hc | with_reducible exact absurd hc hlt | with_reducible exact absurd hc hq | skip)))
        | (((with_reducible refine gW ?_); (first | with_reducible refine WP.seq ?_ | refine WP.reg mixed (fun ks => _) (fun ks => rfl) (fun ks => ?_) | ((first | (apply cdD; apply Eq.refl) | (apply WP.condE; apply Eq.refl) | (apply WP.condN; apply Eq.refl) | (apply WP.condA; apply Eq.refl)) <;> (intro hc; first | with_reducible exact ff hc | with_reducible exact ff' hc | with_reducible exact absurd hlt hc | with_reducible exact absurd hc hlt | with_reducible exact absurd hc hq | skip)) | refine WP.ret ?_ | refine WP.skip ?_ | refine WP.exit ?_ | refine WP.goto ?_ | refine WP.label ?_ | refine WP.block ?_)))
        | (with_reducible refine thn_n ?_)
        | (with_reducible refine thn_r ?_)
        | (with_reducible refine thn_e ?_)
        | (with_reducible refine thn_g ?_)
        | (with_reducible refine blk_n ?_)
        | (with_reducible refine blk_r ?_)
        | (with_reducible refine blk_e ?_)
        | (with_reducible refine blk_g ?_)
        | (((with_reducible refine blk_o ?_ ?_); first | exact rfl | skip))
        | (refine Endz.mk' (by first | exact Or.inl rfl | exact Or.inr rfl) (by repeat (first | exact RVs.nil | apply RVs.cons | exact RV1.tmp rfl | exact RV1.row rfl rfl rfl (by repeat (first | exact look_here | apply look_there)) (by exact rfl) | exact RV1.cell rfl rfl rfl (by repeat (first | exact look_here | apply look_there)) (by exact rfl))) (by rfl) (by repeat (first | exact List.nil_sublist _ | exact List.Sublist.refl _ | apply List.Sublist.cons_cons | apply List.Sublist.cons))))
      refine ⟨(m + 1, b0), ⟨by show lo ≤ m + 1; omega, by show m + 1 ≤ b0; omega, i3, fun x h1 h2 => ?_, i5⟩, by show (b0 - (m + 1)).toNat < (b0 - a0).toNat; omega, Wk.of ⟨?_, rfl, rfl, trivial⟩ (by repeat (first | exact List.nil_sublist _ | exact List.Sublist.refl _ | apply List.Sublist.cons_cons | apply List.Sublist.cons))⟩
      · have h2 : x < m + 1 := h2
        cases hx : pLo n X Y y x with
        | false => rfl
        | true => rw [hM x m (by omega) hx] at hp; cases hp
      · exact congrArg (fun x => some (I64 x)) (by rw [hm]; exact m3)
  · obtain rfl : a0 = b0 := by omega
    have hL : leastV (pLo n X Y y) lo hi = a0 := IsLeast.eq ⟨i1, i3, i4, i5⟩
    rw [hL]
    repeat' (first
      | (((first | (with_reducible refine gQ0 ?_) | ((with_reducible refine gQ1 ?_ ?_); (focus (apply wg (r := true); (iterate 6 apply Eq.refl))))); (first | ((with_reducible apply q_quo); (iterate 2 apply Eq.refl); (focus (decide))) | ((with_reducible apply q_move); apply Eq.refl) | ((with_reducible apply q_assign); apply Eq.refl) | ((with_reducible apply q_int); (iterate 3 apply Eq.refl)) | (refine q_callRF rfl rfl (back_2 (cap := cap) tb ok ha p q _ y) rfl (by repeat (first | exact Fd.nil | apply Fd.cons | (focus ((repeat (with_reducible (first | apply lh | apply lt))); done)) | (focus (apply lx; (focus (repeat (with_reducible (first | apply lh | apply lt)))); exact rfl)))) (by decide) ?_))))
      | (((with_reducible refine gR ?_); (first | refine RK.peelN rfl ?_ | refine RK.donef rfl ⟨_, rfl, ?_⟩ | refine RK.donet rfl (by kernel_rfl) ⟨_, rfl, ?_⟩)))
      | ((first | (with_reducible refine gQv ?_ ?_) | (with_reducible refine gQe ?_ ?_)); (focus (first | (apply wg (r := false); (iterate 6 apply Eq.refl)) | (apply wz; (iterate 4 apply Eq.refl)))))
      | ((with_reducible refine gK ?_); ((first | (apply gsD; (iterate 4 apply Eq.refl)) | (apply RKo.gsplitE; (iterate 4 apply Eq.refl)) | (apply RKo.gsplitN; (iterate 4 apply Eq.refl)) | (apply RKo.gsplit; (iterate 4 apply Eq.refl))) <;> (intro hc; first | with_reducible exact ff hc | with_reducible exact ff' hc | with_reducible exact absurd hlt hc | with_reducible exact absurd hc hlt | skip)))
      | (((with_reducible refine gW ?_); (first | with_reducible refine WP.seq ?_ | refine WP.reg mixed (fun ks => _) (fun ks => rfl) (fun ks => ?_) | ((first | (apply cdD; apply Eq.refl) | (apply WP.condE; apply Eq.refl) | (apply WP.condN; apply Eq.refl) | (apply WP.condA; apply Eq.refl)) <;> (intro hc; first | with_reducible exact ff hc | with_reducible exact ff' hc | with_reducible exact absurd hlt hc | with_reducible exact absurd hc hlt | skip)) | refine WP.ret ?_ | refine WP.skip ?_ | refine WP.exit ?_ | refine WP.goto ?_ | refine WP.label ?_ | refine WP.block ?_)))
      | (with_reducible refine thn_n ?_)
      | (with_reducible refine thn_r ?_)
      | (with_reducible refine thn_e ?_)
      | (with_reducible refine thn_g ?_)
      | (with_reducible refine blk_n ?_)
      | (with_reducible refine blk_r ?_)
      | (with_reducible refine blk_e ?_)
      | (with_reducible refine blk_g ?_)
      | (((with_reducible refine blk_o ?_ ?_); first | exact rfl | skip))
      | (refine Endz.mk' (by first | exact Or.inl rfl | exact Or.inr rfl) (by repeat (first | exact RVs.nil | apply RVs.cons | exact RV1.tmp rfl | exact RV1.row rfl rfl rfl (by repeat (first | exact look_here | apply look_there)) (by exact rfl) | exact RV1.cell rfl rfl rfl (by repeat (first | exact look_here | apply look_there)) (by exact rfl))) (by rfl) (by repeat (first | exact List.nil_sublist _ | exact List.Sublist.refl _ | apply List.Sublist.cons_cons | apply List.Sublist.cons))))
end Go.Proofs.YtlhhcongoplfpaaDoor
namespace Go.Proofs.YtlhhcongoplfpaaDoor
open Go Go.Proofs.YtlhhcongoplfpaaDoorAB
variable {G : Nat}
set_option linter.unusedSimpArgs false
set_option linter.unusedVariables false
set_option maxHeartbeats 4000000 in
theorem table_Back {ob : AObj} {k f n cap : Nat} {X Y : Nat → Int} {a : Option Addr} (tb : Tb ob f n X Y) (ok : TOk n X Y) (ha : 0 < n → a = some ⟨k, f, none⟩) (y : Int) : Ctr Tryd.prog G 33 [.slice a n cap, I64 y] [(k, ob)] (.agg #[I64 (kLo n X Y y), I64 (kHi n X Y y)]) [ob] := by
  have hn2' := ok.n2
  have hn64' := ok.n64
  have hk1 : IntKind.i64.wrap ((n : Int) - 1) = ((n - 1 : Nat) : Int) := km1 (by omega) (by omega)
  have hE := ok.ends
  have hb1 := ok.x1 0 (by omega)
  have hb2 := ok.x2 (n - 1) (by omega)
  have hl := ok.least2 y
  have hw : IntKind.i64.wrap (leastV (pLo n X Y y) (X 0) (X (n - 1)) - 1) = leastV (pLo n X Y y) (X 0) (X (n - 1)) - 1 := wrap_in (by have := hl.1; omega) (by have := hl.2.1; omega)
  refine Ctr.by layOk Tryd.func33 Tryd.ntmps33 rfl rfl rfl rfl rfl ?_
  repeat' (first
    | (((first | (with_reducible refine gQ0 ?_) | ((with_reducible refine gQ1 ?_ ?_); (focus (apply wg (r := true); (iterate 6 apply Eq.refl))))); (first | ((with_reducible apply q_loadr layOk); (iterate 3 apply Eq.refl); (focus (repeat (with_reducible (first | apply lh | apply lt)))); exact (tb.seg _ (by omega))) | ((with_reducible apply q_load layOk); (iterate 3 apply Eq.refl); (focus (repeat (with_reducible (first | apply lh | apply lt)))); exact (tb.ax _ (by omega))) | ((with_reducible apply q_load layOk); (iterate 3 apply Eq.refl); (focus (repeat (with_reducible (first | apply lh | apply lt)))); exact (tb.ay _ (by omega))) | ((with_reducible apply q_idxN (m := 0) layOk); (iterate 4 apply Eq.refl); exact ha; apply Eq.refl; (focus (omega))) | ((with_reducible apply q_idxN (m := n - 1) layOk); (iterate 4 apply Eq.refl); exact ha; exact hk1; (focus (omega))) | ((with_reducible apply q_mkFunc); (iterate 2 apply Eq.refl)) | ((with_reducible apply q_move); apply Eq.refl) | ((with_reducible apply q_assign); apply Eq.refl) | ((with_reducible apply q_int); (iterate 3 apply Eq.refl)) | ((with_reducible apply q_fa layOk); (iterate 5 apply Eq.refl)) | ((with_reducible apply q_load layOk); (iterate 3 apply Eq.refl); (focus (repeat (with_reducible (first | apply lh | apply lt)))); apply Eq.refl) | ((with_reducible apply q_loadr layOk); (iterate 3 apply Eq.refl); (focus (repeat (with_reducible (first | apply lh | apply lt)))); apply Eq.refl) | ((with_reducible apply q_build layOk); (iterate 4 apply Eq.refl)) | ((with_reducible apply q_min); apply Eq.refl) | ((with_reducible apply q_max); apply Eq.refl) | ((with_reducible apply q_box (k := ks _)); apply Eq.refl; (focus (repeat (with_reducible (first | apply lh | apply lt)))); apply Eq.refl) | ((with_reducible apply q_alloc (k := ks _) layOk); apply Eq.refl; (focus (repeat (with_reducible (first | apply lh | apply lt)))); apply Eq.refl) | ((with_reducible apply q_nilne); (focus (kernel_rfl)); apply Eq.refl) | ((with_reducible apply q_nileq); (focus (kernel_rfl)); apply Eq.refl) | ((with_reducible apply q_len layOk); (iterate 4 apply Eq.refl)) | ((with_reducible apply isF (f := 30)); (refine q_call1r rfl (table_Check tb ok ha) (by first | (focus ((repeat (with_reducible (first | apply lh | apply lt))); done)) | (focus (apply lx; (focus (repeat (with_reducible (first | apply lh | apply lt)))); exact rfl))) ?_)) | ((with_reducible apply isF (f := 80)); (refine q_callR rfl (least_1 tb ok ha (ks _) (ks _) y (X 0) (X (n - 1)) (by omega) (by omega) (by omega)) rfl (by repeat (first | exact Fd.nil | apply Fd.cons | (focus ((repeat (with_reducible (first | apply lh | apply lt))); done)) | (focus (apply lx; (focus (repeat (with_reducible (first | apply lh | apply lt)))); exact rfl)))) (by decide) ?_)) | ((with_reducible apply isF (f := 80)); (refine q_callR rfl (least_2 tb ok ha (ks _) (ks _) y (X 0) (X (n - 1)) (by omega) (by omega) (by omega)) rfl (by repeat (first | exact Fd.nil | apply Fd.cons | (focus ((repeat (with_reducible (first | apply lh | apply lt))); done)) | (focus (apply lx; (focus (repeat (with_reducible (first | apply lh | apply lt)))); exact rfl)))) (by decide) ?_)) | ((with_reducible apply isF (f := 80)); (refine q_callR rfl (least_1 tb ok ha _ _ y (X 0) (X (n - 1)) (by omega) (by omega) (by omega)) rfl (by repeat (first | exact Fd.nil | apply Fd.cons | (focus ((repeat (with_reducible (first | apply lh | apply lt))); done)) | (focus (apply lx; (focus (repeat (with_reducible (first | apply lh | apply lt)))); exact rfl)))) (by decide) ?_)) | ((with_reducible apply isF (f := 80)); (refine q_callR rfl (least_2 tb ok ha _ _ y (X 0) (X (n - 1)) (by omega) (by omega) (by omega)) rfl (by repeat (first | exact Fd.nil | apply Fd.cons | (focus ((repeat (with_reducible (first | apply lh | apply lt))); done)) | (focus (apply lx; (focus (repeat (with_reducible (first | apply lh | apply lt)))); exact rfl)))) (by decide) ?_)) | ((with_reducible apply isF (f := 84)); (refine q_call0 rfl (span_Of _ _) ?_)) | ((with_reducible apply e_store layOk); (iterate 3 apply Eq.refl); (focus (repeat (with_reducible (first | apply lh | apply lt)))); (iterate 5 apply Eq.refl)))))
    | (((with_reducible refine gR ?_); (first | refine RK.peelN rfl ?_ | refine RK.donef rfl ⟨_, rfl, ?_⟩ | refine RK.donet rfl (by kernel_rfl) ⟨_, rfl, ?_⟩)))
    | ((first | (with_reducible refine gQv ?_ ?_) | (with_reducible refine gQe ?_ ?_)); (focus (first | (apply wg (r := false); (iterate 6 apply Eq.refl)) | (apply wz; (iterate 4 apply Eq.refl)))))
    | ((with_reducible refine gK ?_); ((first | (apply gsD; (iterate 4 apply Eq.refl)) | (apply RKo.gsplitE; (iterate 4 apply Eq.refl)) | (apply RKo.gsplitN; (iterate 4 apply Eq.refl)) | (apply RKo.gsplit; (iterate 4 apply Eq.refl))) <;> (intro hc; first | with_reducible exact ff hc | with_reducible exact ff' hc | skip)))
    | (((with_reducible refine gW ?_); (first | with_reducible refine WP.seq ?_ | refine WP.reg mixed (fun ks => _) (fun ks => rfl) (fun ks => ?_) | ((first | (apply cdD; apply Eq.refl) | (apply WP.condE; apply Eq.refl) | (apply WP.condN; apply Eq.refl) | (apply WP.condA; apply Eq.refl)) <;> (intro hc; first | with_reducible exact ff hc | with_reducible exact ff' hc | skip)) | refine WP.ret ?_ | refine WP.skip ?_ | refine WP.exit ?_ | refine WP.goto ?_ | refine WP.label ?_ | refine WP.block ?_)))
    | (with_reducible refine thn_n ?_)
    | (with_reducible refine thn_r ?_)
    | (with_reducible refine thn_e ?_)
    | (with_reducible refine thn_g ?_)
    | (with_reducible refine blk_n ?_)
    | (with_reducible refine blk_r ?_)
    | (with_reducible refine blk_e ?_)
    | (with_reducible refine blk_g ?_)
    | (((with_reducible refine blk_o ?_ ?_); first | exact rfl | skip))
    | (refine Endz.mk' (by first | exact Or.inl rfl | exact Or.inr rfl) (by repeat (first | exact RVs.nil | apply RVs.cons | exact RV1.tmp rfl | exact RV1.row rfl rfl rfl (by repeat (first | exact look_here | apply look_there)) (by exact rfl) | exact RV1.cell rfl rfl rfl (by repeat (first | exact look_here | apply look_there)) (by exact rfl))) (by exact agg2_eq (by rw [hw]; rfl) (by rw [hw]; rfl)) (by repeat (first | exact List.nil_sublist _ | exact List.Sublist.refl _ | apply List.Sublist.cons_cons | apply List.Sublist.cons))))
end Go.Proofs.YtlhhcongoplfpaaDoor
