/- What functions of this program do, each as a contract that its callers use, and what follows of it in plain numbers.
   By an AI agent. -/
import Derived.Test.YtlhhcongoplfpaaDoorAB
import Derived.Test.YtlhhcongoplfpaaDoorDLO
import Derived.Test.YtlhhcongoplfpaaDoorDCA
import Derived.Test.YtlhhcongoplfpaaDoorABM
import Derived.Test.YtlhhcongoplfpaaDoorDCB
namespace Go.Proofs.YtlhhcongoplfpaaDoor
open Go Go.Proofs.YtlhhcongoplfpaaDoorAB
variable {G : Nat}
set_option linter.unusedSimpArgs false
set_option linter.unusedVariables false

set_option maxHeartbeats 8000000 in
theorem ref_in {ob : AObj} {k f n cap : Nat} {X Y : Nat → Int} {a : Option Addr} (tb : Tb ob f n X Y) (hn : n ≤ 64) (ha : 0 < n → a = some ⟨k, f, none⟩) (x : Int) : Ctr Tryd.prog G 135 [.slice a n cap, I64 x] [(k, ob)] (I64 (cntN X Y x n)) [ob] := by
  refine Ctr.by layOk Tryd.func135 Tryd.ntmps135 rfl rfl rfl rfl rfl ?_
  repeat' (first
    | (((first | (with_reducible refine gQ0 ?_) | ((with_reducible refine gQ1 ?_ ?_); (focus (apply wg (r := true); (iterate 6 apply Eq.refl))))); (first | ((with_reducible apply q_move); apply Eq.refl) | ((with_reducible apply q_assign); apply Eq.refl) | ((with_reducible apply q_int); (iterate 3 apply Eq.refl)) | ((with_reducible apply q_load layOk); (iterate 3 apply Eq.refl); (focus (repeat (with_reducible (first | apply lh | apply lt)))); apply Eq.refl) | ((with_reducible apply q_loadr layOk); (iterate 3 apply Eq.refl); (focus (repeat (with_reducible (first | apply lh | apply lt)))); apply Eq.refl) | ((with_reducible apply q_len layOk); (iterate 4 apply Eq.refl)))))
    | (((with_reducible refine gR ?_); (first | refine RK.peelN rfl ?_ | refine RK.donef rfl ⟨_, rfl, ?_⟩ | refine RK.donet rfl (by kernel_rfl) ⟨_, rfl, ?_⟩)))
    | ((first | (with_reducible refine gQv ?_ ?_) | (with_reducible refine gQe ?_ ?_)); (focus (first | (apply wg (r := false); (iterate 6 apply Eq.refl)) | (apply wz; (iterate 4 apply Eq.refl)))))
    | ((with_reducible refine gK ?_); ((first | (apply gsD; (iterate 4 apply Eq.refl)) | (apply RKo.gsplitE; (iterate 4 apply Eq.refl)) | (apply RKo.gsplitN; (iterate 4 apply Eq.refl)) | (apply RKo.gsplit; (iterate 4 apply Eq.refl))) <;> (intro hc; first | with_reducible exact ff hc | with_reducible exact ff' hc | skip)))
    | (((with_reducible refine gW ?_); (first | with_reducible refine WP.seq ?_ | refine WP.reg mixed (fun ks => _) (fun ks => rfl) (fun ks => ?_) | ((first | (apply cdD; apply Eq.refl) | (apply WP.condE; apply Eq.refl) | (apply WP.condN; apply Eq.refl) | (apply WP.condA; apply Eq.refl)) <;> (intro hc; first | with_reducible exact ff hc | with_reducible exact ff' hc | skip)) | refine WP.ret ?_ | refine WP.skip ?_ | refine WP.exit ?_ | refine WP.goto ?_ | refine WP.label ?_ | refine WP.block ?_)))
    | (with_reducible refine thn_n ?_)
    | (with_reducible refine thn_r ?_)
    | (with_reducible refine thn_e ?_)
    | (with_reducible refine thn_g ?_)
    | (with_reducible refine blk_n ?_)
    | (with_reducible refine blk_r ?_)
    | (with_reducible refine blk_e ?_)
    | (with_reducible refine blk_g ?_)
    | (((with_reducible refine blk_o ?_ ?_); first | exact rfl | skip))
    | (refine Endz.mk' (by first | exact Or.inl rfl | exact Or.inr rfl) (by repeat (first | exact RVs.nil | apply RVs.cons | exact RV1.tmp rfl | exact RV1.row rfl rfl rfl (by repeat (first | exact look_here | apply look_there)) (by exact rfl) | exact RV1.cell rfl rfl rfl (by repeat (first | exact look_here | apply look_there)) (by exact rfl))) (by rfl) (by repeat (first | exact List.nil_sublist _ | exact List.Sublist.refl _ | apply List.Sublist.cons_cons | apply List.Sublist.cons))))
  refine WP.loopI (n := 22) (α := Nat) (fun i => [(0, some (.slice a n cap)), (1, some (I64 x)), (5, some (I64 (cntN X Y x i))), (6, some (I64 (i : Int)))])
    (fun i => [(k, ob)]) (fun i => i ≤ n) (fun i => n - i) 0 (Wk.of ⟨rfl, rfl, rfl, rfl, trivial⟩ (by repeat (first | exact List.nil_sublist _ | exact List.Sublist.refl _ | apply List.Sublist.cons_cons | apply List.Sublist.cons))) (Nat.zero_le _) (fun i iy => ?_)
  have hcn := cntN_in X Y x i
  by_cases hlt : i < n
  · have hlt' : (i : Int) < (n : Int) := by omega
    by_cases hx : X i ≤ x ∧ x ≤ Y i
    · have e : cntN X Y x (i + 1) = cntN X Y x i + 1 := by rw [cntN, if_pos hx]
      repeat' (first
        | (((first | (with_reducible refine gQ0 ?_) | ((with_reducible refine gQ1 ?_ ?_); (focus (apply wg (r := true); (iterate 6 apply Eq.refl))))); (first | ((with_reducible apply q_loadr layOk); (iterate 3 apply Eq.refl); (focus (repeat (with_reducible (first | apply lh | apply lt)))); exact (tb.seg _ hlt)) | ((with_reducible apply q_idxN layOk); (iterate 4 apply Eq.refl); exact ha; apply Eq.refl; exact hlt) | ((with_reducible apply q_move); apply Eq.refl) | ((with_reducible apply q_assign); apply Eq.refl) | ((with_reducible apply q_int); (iterate 3 apply Eq.refl)) | ((with_reducible apply q_load layOk); (iterate 3 apply Eq.refl); (focus (repeat (with_reducible (first | apply lh | apply lt)))); apply Eq.refl) | ((with_reducible apply q_loadr layOk); (iterate 3 apply Eq.refl); (focus (repeat (with_reducible (first | apply lh | apply lt)))); apply Eq.refl) | ((with_reducible apply q_len layOk); (iterate 4 apply Eq.refl)) | ((with_reducible apply isF (f := 144)); (refine q_call0 rfl (ref_Has _ _ _) ?_)))))
        | (((with_reducible refine gR ?_); (first | refine RK.peelN rfl ?_ | refine RK.donef rfl ⟨_, rfl, ?_⟩ | refine RK.donet rfl (by kernel_rfl) ⟨_, rfl, ?_⟩)))
        | ((first | (with_reducible refine gQv ?_ ?_) | (with_reducible refine gQe ?_ ?_)); (focus (first | (apply wg (r := false); (iterate 6 apply Eq.refl)) | (apply wz; (iterate 4 apply Eq.refl)))))
        | ((with_reducible refine gK ?_); ((first | (apply gsD; (iterate 4 apply Eq.refl)) | (apply RKo.gsplitE; (iterate 4 apply Eq.refl)) | (apply RKo.gsplitN; (iterate 4 apply Eq.refl)) | (apply RKo.gsplit; (iterate 4 apply Eq.refl))) <;> (intro hc; first | with_reducible exact ff hc | with_reducible exact ff' hc | with_reducible exact absurd hlt' hc | with_reducible exact absurd hx hc | with_reducible exact absurd hc hlt' | with_reducible exact absurd hc hx | skip)))
        | (((with_reducible refine gW ?_); (first | with_reducible refine WP.seq ?_ | refine WP.reg mixed (fun ks => _) (fun ks => rfl) (fun ks => ?_) | ((first | (apply cdD; apply Eq.refl) | (apply WP.condE; apply Eq.refl) | (apply WP.condN; apply Eq.refl) | (apply WP.condA; apply Eq.refl)) <;> (intro hc; first | with_reducible exact ff hc | with_reducible exact ff' hc | with_reducible exact absurd hlt' hc | with_reducible exact absurd hx hc | with_reducible exact absurd hc hlt' | with_reducible exact absurd hc hx | skip)) | refine WP.ret ?_ | refine WP.skip ?_ | refine WP.exit ?_ | refine WP.goto ?_ | refine WP.label ?_ | refine WP.block ?_)))
        | (with_reducible refine thn_n ?_)
        | (with_reducible refine thn_r ?_)
        | (with_reducible refine thn_e ?_)
        | (with_reducible refine thn_g ?_)
        | (with_reducible refine blk_n ?_)
        | (with_reducible refine blk_r ?_)
        | (with_reducible refine blk_e ?_)
        | (with_reducible refine blk_g ?_)
        | (((with_reducible refine blk_o ?_ ?_); first | exact rfl | skip))
        | (refine Endz.mk' (by first | exact Or.inl rfl | exact Or.inr rfl) (by repeat (first | exact RVs.nil | apply RVs.cons | exact RV1.tmp rfl | exact RV1.row rfl rfl rfl (by repeat (first | exact look_here | apply look_there)) (by exact rfl) | exact RV1.cell rfl rfl rfl (by repeat (first | exact look_here | apply look_there)) (by exact rfl))) (by rfl) (by repeat (first | exact List.nil_sublist _ | exact List.Sublist.refl _ | apply List.Sublist.cons_cons | apply List.Sublist.cons))))
      refine ⟨i + 1, hlt, by show n - (i + 1) < n - i; omega, Wk.of ⟨rfl, rfl, ?_, ?_, trivial⟩ (by repeat (first | exact List.nil_sublist _ | exact List.Sublist.refl _ | apply List.Sublist.cons_cons | apply List.Sublist.cons))⟩
      · exact congrArg (fun x => some (I64 x)) ((wrap_in (by omega) (by omega)).trans e.symm)
      · exact congrArg (fun x => some (I64 x)) (kp1 (by omega))
    · have e : cntN X Y x (i + 1) = cntN X Y x i := by rw [cntN, if_neg hx]
      repeat' (first
        | (((first | (with_reducible refine gQ0 ?_) | ((with_reducible refine gQ1 ?_ ?_); (focus (apply wg (r := true); (iterate 6 apply Eq.refl))))); (first | ((with_reducible apply q_loadr layOk); (iterate 3 apply Eq.refl); (focus (repeat (with_reducible (first | apply lh | apply lt)))); exact (tb.seg _ hlt)) | ((with_reducible apply q_idxN layOk); (iterate 4 apply Eq.refl); exact ha; apply Eq.refl; exact hlt) | ((with_reducible apply q_move); apply Eq.refl) | ((with_reducible apply q_assign); apply Eq.refl) | ((with_reducible apply q_int); (iterate 3 apply Eq.refl)) | ((with_reducible apply q_load layOk); (iterate 3 apply Eq.refl); (focus (repeat (with_reducible (first | apply lh | apply lt)))); apply Eq.refl) | ((with_reducible apply q_loadr layOk); (iterate 3 apply Eq.refl); (focus (repeat (with_reducible (first | apply lh | apply lt)))); apply Eq.refl) | ((with_reducible apply q_len layOk); (iterate 4 apply Eq.refl)) | ((with_reducible apply isF (f := 144)); (refine q_call0 rfl (ref_Has _ _ _) ?_)))))
        | (((with_reducible refine gR ?_); (first | refine RK.peelN rfl ?_ | refine RK.donef rfl ⟨_, rfl, ?_⟩ | refine RK.donet rfl (by kernel_rfl) ⟨_, rfl, ?_⟩)))
        | ((first | (with_reducible refine gQv ?_ ?_) | (with_reducible refine gQe ?_ ?_)); (focus (first | (apply wg (r := false); (iterate 6 apply Eq.refl)) | (apply wz; (iterate 4 apply Eq.refl)))))
        | ((with_reducible refine gK ?_); ((first | (apply gsD; (iterate 4 apply Eq.refl)) | (apply RKo.gsplitE; (iterate 4 apply Eq.refl)) | (apply RKo.gsplitN; (iterate 4 apply Eq.refl)) | (apply RKo.gsplit; (iterate 4 apply Eq.refl))) <;> (intro hc; first | with_reducible exact ff hc | with_reducible exact ff' hc | with_reducible exact absurd hlt' hc | with_reducible exact absurd hx hc | with_reducible exact absurd hc hlt' | with_reducible exact absurd hc hx | skip)))
        | (((with_reducible refine gW ?_); (first | with_reducible refine WP.seq ?_ | refine WP.reg mixed (fun ks => _) (fun ks => rfl) (fun ks => ?_) | ((first | (apply cdD; apply Eq.refl) | (apply WP.condE; apply Eq.refl) | (apply WP.condN; apply Eq.refl) | (apply WP.condA; apply Eq.refl)) <;> (intro hc; first | with_reducible exact ff hc | with_reducible exact ff' hc | with_reducible exact absurd hlt' hc | with_reducible exact absurd hx hc | with_reducible exact absurd hc hlt' | with_reducible exact absurd hc hx | skip)) | refine WP.ret ?_ | refine WP.skip ?_ | refine WP.exit ?_ | refine WP.goto ?_ | refine WP.label ?_ | refine WP.block ?_)))
        | (with_reducible refine thn_n ?_)
        | (with_reducible refine thn_r ?_)
        | (with_reducible refine thn_e ?_)
        | (with_reducible refine thn_g ?_)
        | (with_reducible refine blk_n ?_)
        | (with_reducible refine blk_r ?_)
        | (with_reducible refine blk_e ?_)
        | (with_reducible refine blk_g ?_)
        | (((with_reducible refine blk_o ?_ ?_); first | exact rfl | skip))
        | (refine Endz.mk' (by first | exact Or.inl rfl | exact Or.inr rfl) (by repeat (first | exact RVs.nil | apply RVs.cons | exact RV1.tmp rfl | exact RV1.row rfl rfl rfl (by repeat (first | exact look_here | apply look_there)) (by exact rfl) | exact RV1.cell rfl rfl rfl (by repeat (first | exact look_here | apply look_there)) (by exact rfl))) (by rfl) (by repeat (first | exact List.nil_sublist _ | exact List.Sublist.refl _ | apply List.Sublist.cons_cons | apply List.Sublist.cons))))
      refine ⟨i + 1, hlt, by show n - (i + 1) < n - i; omega, Wk.of ⟨rfl, rfl, ?_, ?_, trivial⟩ (by repeat (first | exact List.nil_sublist _ | exact List.Sublist.refl _ | apply List.Sublist.cons_cons | apply List.Sublist.cons))⟩
      · exact congrArg (fun x => some (I64 x)) e.symm
      · exact congrArg (fun x => some (I64 x)) (kp1 (by omega))
  · have hge : ¬ (i : Int) < (n : Int) := by omega
    obtain rfl : i = n := by omega
    repeat' (first
      | (((first | (with_reducible refine gQ0 ?_) | ((with_reducible refine gQ1 ?_ ?_); (focus (apply wg (r := true); (iterate 6 apply Eq.refl))))); (first | ((with_reducible apply q_move); apply Eq.refl) | ((with_reducible apply q_assign); apply Eq.refl) | ((with_reducible apply q_int); (iterate 3 apply Eq.refl)) | ((with_reducible apply q_load layOk); (iterate 3 apply Eq.refl); (focus (repeat (with_reducible (first | apply lh | apply lt)))); apply Eq.refl) | ((with_reducible apply q_loadr layOk); (iterate 3 apply Eq.refl); (focus (repeat (with_reducible (first | apply lh | apply lt)))); apply Eq.refl) | ((with_reducible apply q_len layOk); (iterate 4 apply Eq.refl)))))
      | (((with_reducible refine gR ?_); (first | refine RK.peelN rfl ?_ | refine RK.donef rfl ⟨_, rfl, ?_⟩ | refine RK.donet rfl (by kernel_rfl) ⟨_, rfl, ?_⟩)))
      | ((first | (with_reducible refine gQv ?_ ?_) | (with_reducible refine gQe ?_ ?_)); (focus (first | (apply wg (r := false); (iterate 6 apply Eq.refl)) | (apply wz; (iterate 4 apply Eq.refl)))))
      | ((with_reducible refine gK ?_); ((first | (apply gsD; (iterate 4 apply Eq.refl)) | (apply RKo.gsplitE; (iterate 4 apply Eq.refl)) | (apply RKo.gsplitN; (iterate 4 apply Eq.refl)) | (apply RKo.gsplit; (iterate 4 apply Eq.refl))) <;> (intro hc; first | with_reducible exact ff hc | with_reducible exact ff' hc | with_reducible exact absurd hge hc | with_reducible exact absurd hc hge | skip)))
      | (((with_reducible refine gW ?_); (first | with_reducible refine WP.seq ?_ | refine WP.reg mixed (fun ks => _) (fun ks => rfl) (fun ks => ?_) | ((first | (apply cdD; apply Eq.refl) | (apply WP.condE; apply Eq.refl) | (apply WP.condN; apply Eq.refl) | (apply WP.condA; apply Eq.refl)) <;> (intro hc; first | with_reducible exact ff hc | with_reducible exact ff' hc | with_reducible exact absurd hge hc | with_reducible exact absurd hc hge | skip)) | refine WP.ret ?_ | refine WP.skip ?_ | refine WP.exit ?_ | refine WP.goto ?_ | refine WP.label ?_ | refine WP.block ?_)))
      | (with_reducible refine thn_n ?_)
      | (with_reducible refine thn_r ?_)
      | (with_reducible refine thn_e ?_)
      | (with_reducible refine thn_g ?_)
      | (with_reducible refine blk_n ?_)
      | (with_reducible refine blk_r ?_)
      | (with_reducible refine blk_e ?_)
      | (with_reducible refine blk_g ?_)
      | (((with_reducible refine blk_o ?_ ?_); first | exact rfl | skip))
      | (refine Endz.mk' (by first | exact Or.inl rfl | exact Or.inr rfl) (by repeat (first | exact RVs.nil | apply RVs.cons | exact RV1.tmp rfl | exact RV1.row rfl rfl rfl (by repeat (first | exact look_here | apply look_there)) (by exact rfl) | exact RV1.cell rfl rfl rfl (by repeat (first | exact look_here | apply look_there)) (by exact rfl))) (by rfl) (by repeat (first | exact List.nil_sublist _ | exact List.Sublist.refl _ | apply List.Sublist.cons_cons | apply List.Sublist.cons))))

theorem mnn (x : Int) : mn x x = x := by rw [mn_eq]; omega
theorem mxx (x : Int) : mx x x = x := by rw [mx_eq]; omega
set_option maxHeartbeats 16000000 in
theorem ref_Cover {ob : AObj} {k f n cap : Nat} {X Y : Nat → Int} {a : Option Addr} (tb : Tb ob f n X Y) (hn : n ≤ 64) (ha : 0 < n → a = some ⟨k, f, none⟩) : Ctr Tryd.prog G 112 [I64 2, .slice a n cap] [(k, ob)] (.tuple #[.agg #[I64 ((cvIn X Y n n).2.1), I64 ((cvIn X Y n n).2.2)], .bool (cvIn X Y n n).1]) [ob] := by
  refine Ctr.by layOk Tryd.func112 Tryd.ntmps112 rfl rfl rfl rfl rfl ?_
  repeat' (first
    | (((first | (with_reducible refine gQ0 ?_) | ((with_reducible refine gQ1 ?_ ?_); (focus (apply wg (r := true); (iterate 6 apply Eq.refl))))); (first | ((with_reducible apply q_alloc (k := ks _) layOk); apply Eq.refl; (focus (repeat (with_reducible (first | apply lh | apply lt)))); apply Eq.refl) | ((with_reducible apply q_move); apply Eq.refl) | ((with_reducible apply q_assign); apply Eq.refl) | ((with_reducible apply q_int); (iterate 3 apply Eq.refl)) | ((with_reducible apply q_fa layOk); (iterate 5 apply Eq.refl)) | ((with_reducible apply q_load layOk); (iterate 3 apply Eq.refl); (focus (repeat (with_reducible (first | apply lh | apply lt)))); apply Eq.refl) | ((with_reducible apply q_loadr layOk); (iterate 3 apply Eq.refl); (focus (repeat (with_reducible (first | apply lh | apply lt)))); apply Eq.refl) | ((with_reducible apply q_build layOk); (iterate 4 apply Eq.refl)) | ((with_reducible apply q_max); apply Eq.refl) | ((with_reducible apply q_not); apply Eq.refl) | ((with_reducible apply q_alloc (k := ks _) layOk); apply Eq.refl; (focus (repeat (with_reducible (first | apply lh | apply lt)))); apply Eq.refl) | ((with_reducible apply q_len layOk); (iterate 4 apply Eq.refl)) | ((with_reducible apply e_store layOk); (iterate 3 apply Eq.refl); (focus (repeat (with_reducible (first | apply lh | apply lt)))); (iterate 5 apply Eq.refl)))))
    | (((with_reducible refine gR ?_); (first | refine RK.peelN rfl ?_ | refine RK.donef rfl ⟨_, rfl, ?_⟩ | refine RK.donet rfl (by kernel_rfl) ⟨_, rfl, ?_⟩)))
    | ((first | (with_reducible refine gQv ?_ ?_) | (with_reducible refine gQe ?_ ?_)); (focus (first | (apply wg (r := false); (iterate 6 apply Eq.refl)) | (apply wz; (iterate 4 apply Eq.refl)))))
    | ((with_reducible refine gK ?_); ((first | (apply gsD; (iterate 4 apply Eq.refl)) | (apply RKo.gsplitE; (iterate 4 apply Eq.refl)) | (apply RKo.gsplitN; (iterate 4 apply Eq.refl)) | (apply RKo.gsplit; (iterate 4 apply Eq.refl))) <;> (intro hc; first | with_reducible exact ff hc | with_reducible exact ff' hc | skip)))
    | (((with_reducible refine gW ?_); (first | with_reducible refine WP.seq ?_ | refine WP.reg mixed (fun ks => _) (fun ks => rfl) (fun ks => ?_) | ((first | (apply cdD; apply Eq.refl) | (apply WP.condE; apply Eq.refl) | (apply WP.condN; apply Eq.refl) | (apply WP.condA; apply Eq.refl)) <;> (intro hc; first | with_reducible exact ff hc | with_reducible exact ff' hc | skip)) | refine WP.ret ?_ | refine WP.skip ?_ | refine WP.exit ?_ | refine WP.goto ?_ | refine WP.label ?_ | refine WP.block ?_)))
    | (with_reducible refine thn_n ?_)
    | (with_reducible refine thn_r ?_)
    | (with_reducible refine thn_e ?_)
    | (with_reducible refine thn_g ?_)
    | (with_reducible refine blk_n ?_)
    | (with_reducible refine blk_r ?_)
    | (with_reducible refine blk_e ?_)
    | (with_reducible refine blk_g ?_)
    | (((with_reducible refine blk_o ?_ ?_); first | exact rfl | skip))
    | (refine Endz.mk' (by first | exact Or.inl rfl | exact Or.inr rfl) (by repeat (first | exact RVs.nil | apply RVs.cons | exact RV1.tmp rfl | exact RV1.row rfl rfl rfl (by repeat (first | exact look_here | apply look_there)) (by exact rfl) | exact RV1.cell rfl rfl rfl (by repeat (first | exact look_here | apply look_there)) (by exact rfl))) (by rfl) (by repeat (first | exact List.nil_sublist _ | exact List.Sublist.refl _ | apply List.Sublist.cons_cons | apply List.Sublist.cons))))
  rename_i r0 rm r1 r2
  refine WP.loopI (n := 61) (α := Nat) (fun i => [(0, some (I64 (mx 2 1))), (1, some (.slice a n cap)), (4, some (.pointer (some ⟨r0 0, 0, none⟩))), (6, some (.pointer (some ⟨r1 0, 0, none⟩))), (7, some (.bool (cvIn X Y n i).1)), (8, some (I64 (i : Int)))])
    (fun i => [(k, ob), (r0 0, .cells [I64 0, I64 0] 38), (r1 0, .cells [I64 (cvIn X Y n i).2.1, I64 (cvIn X Y n i).2.2] 38)]) (fun i => i ≤ n) (fun i => n - i) 0 (Wk.of ⟨rfl, rfl, rfl, rfl, rfl, rfl, trivial⟩ (by repeat (first | exact List.nil_sublist _ | exact List.Sublist.refl _ | apply List.Sublist.cons_cons | apply List.Sublist.cons))) (Nat.zero_le _) (fun i iy => ?_)
  by_cases hlt : i < n
  rotate_left
  · have hge : ¬ (i : Int) < (n : Int) := by omega
    obtain rfl : i = n := by omega
    repeat' (first
      | (((first | (with_reducible refine gQ0 ?_) | ((with_reducible refine gQ1 ?_ ?_); (focus (apply wg (r := true); (iterate 6 apply Eq.refl))))); (first | ((with_reducible apply q_move); apply Eq.refl) | ((with_reducible apply q_assign); apply Eq.refl) | ((with_reducible apply q_int); (iterate 3 apply Eq.refl)) | ((with_reducible apply q_fa layOk); (iterate 5 apply Eq.refl)) | ((with_reducible apply q_load layOk); (iterate 3 apply Eq.refl); (focus (repeat (with_reducible (first | apply lh | apply lt)))); apply Eq.refl) | ((with_reducible apply q_loadr layOk); (iterate 3 apply Eq.refl); (focus (repeat (with_reducible (first | apply lh | apply lt)))); apply Eq.refl) | ((with_reducible apply q_build layOk); (iterate 4 apply Eq.refl)) | ((with_reducible apply q_max); apply Eq.refl) | ((with_reducible apply q_not); apply Eq.refl) | ((with_reducible apply q_alloc (k := ks _) layOk); apply Eq.refl; (focus (repeat (with_reducible (first | apply lh | apply lt)))); apply Eq.refl) | ((with_reducible apply q_len layOk); (iterate 4 apply Eq.refl)) | ((with_reducible apply e_store layOk); (iterate 3 apply Eq.refl); (focus (repeat (with_reducible (first | apply lh | apply lt)))); (iterate 5 apply Eq.refl)))))
      | (((with_reducible refine gR ?_); (first | refine RK.peelN rfl ?_ | refine RK.donef rfl ⟨_, rfl, ?_⟩ | refine RK.donet rfl (by kernel_rfl) ⟨_, rfl, ?_⟩)))
      | ((first | (with_reducible refine gQv ?_ ?_) | (with_reducible refine gQe ?_ ?_)); (focus (first | (apply wg (r := false); (iterate 6 apply Eq.refl)) | (apply wz; (iterate 4 apply Eq.refl)))))
      | ((with_reducible refine gK ?_); ((first | (apply gsD; (iterate 4 apply Eq.refl)) | (apply RKo.gsplitE; (iterate 4 apply Eq.refl)) | (apply RKo.gsplitN; (iterate 4 apply Eq.refl)) | (apply RKo.gsplit; (iterate 4 apply Eq.refl))) <;> (intro hc; first | with_reducible exact ff hc | with_reducible exact ff' hc | with_reducible exact absurd hge hc | with_reducible exact absurd hc hge | skip)))
      | (((with_reducible refine gW ?_); (first | with_reducible refine WP.seq ?_ | refine WP.reg mixed (fun ks => _) (fun ks => rfl) (fun ks => ?_) | ((first | (apply cdD; apply Eq.refl) | (apply WP.condE; apply Eq.refl) | (apply WP.condN; apply Eq.refl) | (apply WP.condA; apply Eq.refl)) <;> (intro hc; first | with_reducible exact ff hc | with_reducible exact ff' hc | with_reducible exact absurd hge hc | with_reducible exact absurd hc hge | skip)) | refine WP.ret ?_ | refine WP.skip ?_ | refine WP.exit ?_ | refine WP.goto ?_ | refine WP.label ?_ | refine WP.block ?_)))
      | (with_reducible refine thn_n ?_)
      | (with_reducible refine thn_r ?_)
      | (with_reducible refine thn_e ?_)
      | (with_reducible refine thn_g ?_)
      | (with_reducible refine blk_n ?_)
      | (with_reducible refine blk_r ?_)
      | (with_reducible refine blk_e ?_)
      | (with_reducible refine blk_g ?_)
      | (((with_reducible refine blk_o ?_ ?_); first | exact rfl | skip))
      | (refine Endz.mk' (by first | exact Or.inl rfl | exact Or.inr rfl) (by repeat (first | exact RVs.nil | apply RVs.cons | exact RV1.tmp rfl | exact RV1.row rfl rfl rfl (by repeat (first | exact look_here | apply look_there)) (by exact rfl) | exact RV1.cell rfl rfl rfl (by repeat (first | exact look_here | apply look_there)) (by exact rfl))) (by rfl) (by repeat (first | exact List.nil_sublist _ | exact List.Sublist.refl _ | apply List.Sublist.cons_cons | apply List.Sublist.cons))))
  have hlt' : (i : Int) < (n : Int) := by omega
  repeat' (first
    | (((first | (with_reducible refine gQ0 ?_) | ((with_reducible refine gQ1 ?_ ?_); (focus (apply wg (r := true); (iterate 6 apply Eq.refl))))); (first | ((with_reducible apply q_load layOk); (iterate 3 apply Eq.refl); (focus (repeat (with_reducible (first | apply lh | apply lt)))); exact (tb.ax i hlt)) | ((with_reducible apply q_load layOk); (iterate 3 apply Eq.refl); (focus (repeat (with_reducible (first | apply lh | apply lt)))); exact (tb.ay i hlt)) | ((with_reducible apply q_idxN (m := i) layOk); (iterate 4 apply Eq.refl); exact ha; apply Eq.refl; exact hlt) | ((with_reducible apply q_alloc (k := ks _) layOk); apply Eq.refl; (focus (repeat (with_reducible (first | apply lh | apply lt)))); apply Eq.refl) | ((with_reducible apply q_move); apply Eq.refl) | ((with_reducible apply q_assign); apply Eq.refl) | ((with_reducible apply q_int); (iterate 3 apply Eq.refl)) | ((with_reducible apply q_fa layOk); (iterate 5 apply Eq.refl)) | ((with_reducible apply q_load layOk); (iterate 3 apply Eq.refl); (focus (repeat (with_reducible (first | apply lh | apply lt)))); apply Eq.refl) | ((with_reducible apply q_loadr layOk); (iterate 3 apply Eq.refl); (focus (repeat (with_reducible (first | apply lh | apply lt)))); apply Eq.refl) | ((with_reducible apply q_build layOk); (iterate 4 apply Eq.refl)) | ((with_reducible apply q_max); apply Eq.refl) | ((with_reducible apply q_not); apply Eq.refl) | ((with_reducible apply q_alloc (k := ks _) layOk); apply Eq.refl; (focus (repeat (with_reducible (first | apply lh | apply lt)))); apply Eq.refl) | ((with_reducible apply q_len layOk); (iterate 4 apply Eq.refl)) | ((with_reducible apply e_store layOk); (iterate 3 apply Eq.refl); (focus (repeat (with_reducible (first | apply lh | apply lt)))); (iterate 5 apply Eq.refl)))))
    | (((with_reducible refine gR ?_); (first | refine RK.peelN rfl ?_ | refine RK.donef rfl ⟨_, rfl, ?_⟩ | refine RK.donet rfl (by kernel_rfl) ⟨_, rfl, ?_⟩)))
    | ((first | (with_reducible refine gQv ?_ ?_) | (with_reducible refine gQe ?_ ?_)); (focus (first | (apply wg (r := false); (iterate 6 apply Eq.refl)) | (apply wz; (iterate 4 apply Eq.refl)))))
    | ((with_reducible refine gK ?_); ((first | (apply gsD; (iterate 4 apply Eq.refl)) | (apply RKo.gsplitE; (iterate 4 apply Eq.refl)) | (apply RKo.gsplitN; (iterate 4 apply Eq.refl)) | (apply RKo.gsplit; (iterate 4 apply Eq.refl))) <;> (intro hc; first | with_reducible exact ff hc | with_reducible exact ff' hc | with_reducible exact absurd hlt' hc | with_reducible exact absurd hc hlt' | skip)))
    | (((with_reducible refine gW ?_); (first | with_reducible refine WP.seq ?_ | refine WP.reg mixed (fun ks => _) (fun ks => rfl) (fun ks => ?_) | ((first | (apply cdD; apply Eq.refl) | (apply WP.condE; apply Eq.refl) | (apply WP.condN; apply Eq.refl) | (apply WP.condA; apply Eq.refl)) <;> (intro hc; first | with_reducible exact ff hc | with_reducible exact ff' hc | with_reducible exact absurd hlt' hc | with_reducible exact absurd hc hlt' | skip)) | refine WP.ret ?_ | refine WP.skip ?_ | refine WP.exit ?_ | refine WP.goto ?_ | refine WP.label ?_ | refine WP.block ?_)))
    | (with_reducible refine thn_n ?_)
    | (with_reducible refine thn_r ?_)
    | (with_reducible refine thn_e ?_)
    | (with_reducible refine thn_g ?_)
    | (with_reducible refine blk_n ?_)
    | (with_reducible refine blk_r ?_)
    | (with_reducible refine blk_e ?_)
    | (with_reducible refine blk_g ?_)
    | (((with_reducible refine blk_o ?_ ?_); first | exact rfl | skip))
    | (refine Endz.mk' (by first | exact Or.inl rfl | exact Or.inr rfl) (by repeat (first | exact RVs.nil | apply RVs.cons | exact RV1.tmp rfl | exact RV1.row rfl rfl rfl (by repeat (first | exact look_here | apply look_there)) (by exact rfl) | exact RV1.cell rfl rfl rfl (by repeat (first | exact look_here | apply look_there)) (by exact rfl))) (by rfl) (by repeat (first | exact List.nil_sublist _ | exact List.Sublist.refl _ | apply List.Sublist.cons_cons | apply List.Sublist.cons))))
  rename_i rA rX rE
  refine WP.loopI (n := 61) (α := Nat) (fun j => [(0, some (I64 (mx 2 1))), (1, some (.slice a n cap)), (4, some (.pointer (some ⟨r0 0, 0, none⟩))), (6, some (.pointer (some ⟨r1 0, 0, none⟩))), (8, some (I64 (i : Int))), (9, some (.pointer (some ⟨rE 0, 0, none⟩))), (7, some (.bool (cvSt X Y n i j).1)), (10, some (I64 (j : Int)))])
    (fun j => [(k, ob), (r0 0, .cells [I64 0, I64 0] 38), (r1 0, .cells [I64 (cvSt X Y n i j).2.1, I64 (cvSt X Y n i j).2.2] 38), (rE 0, .cells [I64 (X i), I64 (Y i)] 111)]) (fun j => j ≤ 2) (fun j => 2 - j) 0 (Wk.of ⟨rfl, rfl, rfl, rfl, rfl, rfl, rfl, rfl, trivial⟩ (by repeat (first | exact List.nil_sublist _ | exact List.Sublist.refl _ | apply List.Sublist.cons_cons | apply List.Sublist.cons))) (Nat.zero_le _) (fun j jy => ?_)
  match j, jy with
  | 0, _ =>
    · -- the 0. end
      have eS : cvSt X Y n i 1 = cvStep X Y n (cvSt X Y n i 0) (X i) := rfl
      generalize hq : cvSt X Y n i 0 = s at *
      by_cases hcn : cntN X Y (X i) n < mx 2 1
      · have e : cvSt X Y n i 1 = s := by rw [eS]; unfold cvStep; rw [if_pos hcn]
        repeat' (first
          | (((first | (with_reducible refine gQ0 ?_) | ((with_reducible refine gQ1 ?_ ?_); (focus (apply wg (r := true); (iterate 6 apply Eq.refl))))); (first | ((with_reducible apply q_load layOk); (iterate 3 apply Eq.refl); (focus (repeat (with_reducible (first | apply lh | apply lt)))); apply Eq.refl) | ((with_reducible apply q_idxPN (m := 0) layOk); (iterate 5 apply Eq.refl); (focus (decide))) | ((with_reducible apply q_alloc (k := ks _) layOk); apply Eq.refl; (focus (repeat (with_reducible (first | apply lh | apply lt)))); apply Eq.refl) | ((with_reducible apply q_move); apply Eq.refl) | ((with_reducible apply q_assign); apply Eq.refl) | ((with_reducible apply q_int); (iterate 3 apply Eq.refl)) | ((with_reducible apply q_fa layOk); (iterate 5 apply Eq.refl)) | ((with_reducible apply q_load layOk); (iterate 3 apply Eq.refl); (focus (repeat (with_reducible (first | apply lh | apply lt)))); apply Eq.refl) | ((with_reducible apply q_loadr layOk); (iterate 3 apply Eq.refl); (focus (repeat (with_reducible (first | apply lh | apply lt)))); apply Eq.refl) | ((with_reducible apply q_build layOk); (iterate 4 apply Eq.refl)) | ((with_reducible apply q_max); apply Eq.refl) | ((with_reducible apply q_not); apply Eq.refl) | ((with_reducible apply q_alloc (k := ks _) layOk); apply Eq.refl; (focus (repeat (with_reducible (first | apply lh | apply lt)))); apply Eq.refl) | ((with_reducible apply q_len layOk); (iterate 4 apply Eq.refl)) | ((with_reducible apply isF (f := 135)); (refine q_call1r rfl (ref_in tb hn ha _) (by first | (focus ((repeat (with_reducible (first | apply lh | apply lt))); done)) | (focus (apply lx; (focus (repeat (with_reducible (first | apply lh | apply lt)))); exact rfl))) ?_)) | ((with_reducible apply isF (f := 89)); (refine q_call0 rfl (ref_Hull _ _ _ _) ?_)) | ((with_reducible apply e_store layOk); (iterate 3 apply Eq.refl); (focus (repeat (with_reducible (first | apply lh | apply lt)))); (iterate 5 apply Eq.refl)))))
          | (((with_reducible refine gR ?_); (first | refine RK.peelN rfl ?_ | refine RK.donef rfl ⟨_, rfl, ?_⟩ | refine RK.donet rfl (by kernel_rfl) ⟨_, rfl, ?_⟩)))
          | ((first | (with_reducible refine gQv ?_ ?_) | (with_reducible refine gQe ?_ ?_)); (focus (first | (apply wg (r := false); (iterate 6 apply Eq.refl)) | (apply wz; (iterate 4 apply Eq.refl)))))
          | ((with_reducible refine gK ?_); ((first | (apply gsD; (iterate 4 apply Eq.refl)) | (apply RKo.gsplitE; (iterate 4 apply Eq.refl)) | (apply RKo.gsplitN; (iterate 4 apply Eq.refl)) | (apply RKo.gsplit; (iterate 4 apply Eq.refl))) <;> (intro hc; first | with_reducible exact ff hc | with_reducible exact ff' hc | exact absurd hc (by decide) | with_reducible exact absurd hcn hc | with_reducible exact absurd hc hcn | skip)))
          | (((with_reducible refine gW ?_); (first | with_reducible refine WP.seq ?_ | refine WP.reg mixed (fun ks => _) (fun ks => rfl) (fun ks => ?_) | ((first | (apply cdD; apply Eq.refl) | (apply WP.condE; apply Eq.refl) | (apply WP.condN; apply Eq.refl) | (apply WP.condA; apply Eq.refl)) <;> (intro hc; first | with_reducible exact ff hc | with_reducible exact ff' hc | exact absurd hc (by decide) | with_reducible exact absurd hcn hc | with_reducible exact absurd hc hcn | skip)) | refine WP.ret ?_ | refine WP.skip ?_ | refine WP.exit ?_ | refine WP.goto ?_ | refine WP.label ?_ | refine WP.block ?_)))
          | (with_reducible refine thn_n ?_)
          | (with_reducible refine thn_r ?_)
          | (with_reducible refine thn_e ?_)
          | (with_reducible refine thn_g ?_)
          | (with_reducible refine blk_n ?_)
          | (with_reducible refine blk_r ?_)
          | (with_reducible refine blk_e ?_)
          | (with_reducible refine blk_g ?_)
          | (((with_reducible refine blk_o ?_ ?_); first | exact rfl | skip))
          | (refine Endz.mk' (by first | exact Or.inl rfl | exact Or.inr rfl) (by repeat (first | exact RVs.nil | apply RVs.cons | exact RV1.tmp rfl | exact RV1.row rfl rfl rfl (by repeat (first | exact look_here | apply look_there)) (by exact rfl) | exact RV1.cell rfl rfl rfl (by repeat (first | exact look_here | apply look_there)) (by exact rfl))) (by rfl) (by repeat (first | exact List.nil_sublist _ | exact List.Sublist.refl _ | apply List.Sublist.cons_cons | apply List.Sublist.cons))))
        refine ⟨1, by decide, by decide, ?_⟩
        rw [e]
        exact Wk.of ⟨rfl, rfl, rfl, rfl, rfl, rfl, rfl, rfl, trivial⟩ (by repeat (first | exact List.nil_sublist _ | exact List.Sublist.refl _ | apply List.Sublist.cons_cons | apply List.Sublist.cons))
      · obtain ⟨fd, lo, hi⟩ := s
        cases fd with
        | true =>
          have e : cvSt X Y n i 1 = (true, mn lo (X i), mx hi (X i)) := by rw [eS]; unfold cvStep; rw [if_neg hcn, mnn, mxx]; rfl
          dsimp only
          repeat' (first
            | (((first | (with_reducible refine gQ0 ?_) | ((with_reducible refine gQ1 ?_ ?_); (focus (apply wg (r := true); (iterate 6 apply Eq.refl))))); (first | ((with_reducible apply q_load layOk); (iterate 3 apply Eq.refl); (focus (repeat (with_reducible (first | apply lh | apply lt)))); apply Eq.refl) | ((with_reducible apply q_idxPN (m := 0) layOk); (iterate 5 apply Eq.refl); (focus (decide))) | ((with_reducible apply q_alloc (k := ks _) layOk); apply Eq.refl; (focus (repeat (with_reducible (first | apply lh | apply lt)))); apply Eq.refl) | ((with_reducible apply q_move); apply Eq.refl) | ((with_reducible apply q_assign); apply Eq.refl) | ((with_reducible apply q_int); (iterate 3 apply Eq.refl)) | ((with_reducible apply q_fa layOk); (iterate 5 apply Eq.refl)) | ((with_reducible apply q_load layOk); (iterate 3 apply Eq.refl); (focus (repeat (with_reducible (first | apply lh | apply lt)))); apply Eq.refl) | ((with_reducible apply q_loadr layOk); (iterate 3 apply Eq.refl); (focus (repeat (with_reducible (first | apply lh | apply lt)))); apply Eq.refl) | ((with_reducible apply q_build layOk); (iterate 4 apply Eq.refl)) | ((with_reducible apply q_max); apply Eq.refl) | ((with_reducible apply q_not); apply Eq.refl) | ((with_reducible apply q_alloc (k := ks _) layOk); apply Eq.refl; (focus (repeat (with_reducible (first | apply lh | apply lt)))); apply Eq.refl) | ((with_reducible apply q_len layOk); (iterate 4 apply Eq.refl)) | ((with_reducible apply isF (f := 135)); (refine q_call1r rfl (ref_in tb hn ha _) (by first | (focus ((repeat (with_reducible (first | apply lh | apply lt))); done)) | (focus (apply lx; (focus (repeat (with_reducible (first | apply lh | apply lt)))); exact rfl))) ?_)) | ((with_reducible apply isF (f := 89)); (refine q_call0 rfl (ref_Hull _ _ _ _) ?_)) | ((with_reducible apply e_store layOk); (iterate 3 apply Eq.refl); (focus (repeat (with_reducible (first | apply lh | apply lt)))); (iterate 5 apply Eq.refl)))))
            | (((with_reducible refine gR ?_); (first | refine RK.peelN rfl ?_ | refine RK.donef rfl ⟨_, rfl, ?_⟩ | refine RK.donet rfl (by kernel_rfl) ⟨_, rfl, ?_⟩)))
            | ((first | (with_reducible refine gQv ?_ ?_) | (with_reducible refine gQe ?_ ?_)); (focus (first | (apply wg (r := false); (iterate 6 apply Eq.refl)) | (apply wz; (iterate 4 apply Eq.refl)))))
            | ((with_reducible refine gK ?_); ((first | (apply gsD; (iterate 4 apply Eq.refl)) | (apply RKo.gsplitE; (iterate 4 apply Eq.refl)) | (apply RKo.gsplitN; (iterate 4 apply Eq.refl)) | (apply RKo.gsplit; (iterate 4 apply Eq.refl))) <;> (intro hc; first | with_reducible exact ff hc | with_reducible exact ff' hc | exact absurd hc (by decide) | with_reducible exact absurd hcn hc | with_reducible exact absurd hc hcn | skip)))
            | (((with_reducible refine gW ?_); (first | with_reducible refine WP.seq ?_ | refine WP.reg mixed (fun ks => _) (fun ks => rfl) (fun ks => ?_) | ((first | (apply cdD; apply Eq.refl) | (apply WP.condE; apply Eq.refl) | (apply WP.condN; apply Eq.refl) | (apply WP.condA; apply Eq.refl)) <;> (intro hc; first | with_reducible exact ff hc | with_reducible exact ff' hc | exact absurd hc (by decide) | with_reducible exact absurd hcn hc | with_reducible exact absurd hc hcn | skip)) | refine WP.ret ?_ | refine WP.skip ?_ | refine WP.exit ?_ | refine WP.goto ?_ | refine WP.label ?_ | refine WP.block ?_)))
            | (with_reducible refine thn_n ?_)
            | (with_reducible refine thn_r ?_)
            | (with_reducible refine thn_e ?_)
            | (with_reducible refine thn_g ?_)
            | (with_reducible refine blk_n ?_)
            | (with_reducible refine blk_r ?_)
            | (with_reducible refine blk_e ?_)
            | (with_reducible refine blk_g ?_)
            | (((with_reducible refine blk_o ?_ ?_); first | exact rfl | skip))
            | (refine Endz.mk' (by first | exact Or.inl rfl | exact Or.inr rfl) (by repeat (first | exact RVs.nil | apply RVs.cons | exact RV1.tmp rfl | exact RV1.row rfl rfl rfl (by repeat (first | exact look_here | apply look_there)) (by exact rfl) | exact RV1.cell rfl rfl rfl (by repeat (first | exact look_here | apply look_there)) (by exact rfl))) (by rfl) (by repeat (first | exact List.nil_sublist _ | exact List.Sublist.refl _ | apply List.Sublist.cons_cons | apply List.Sublist.cons))))
          refine ⟨1, by decide, by decide, ?_⟩
          rw [e]
          exact Wk.of ⟨rfl, rfl, rfl, rfl, rfl, rfl, rfl, rfl, trivial⟩ (by repeat (first | exact List.nil_sublist _ | exact List.Sublist.refl _ | apply List.Sublist.cons_cons | apply List.Sublist.cons))
        | false =>
          have e : cvSt X Y n i 1 = (true, mn (X i) (X i), mx (X i) (X i)) := by rw [eS]; unfold cvStep; rw [if_neg hcn]; simp [mnn, mxx]
          dsimp only
          repeat' (first
            | (((first | (with_reducible refine gQ0 ?_) | ((with_reducible refine gQ1 ?_ ?_); (focus (apply wg (r := true); (iterate 6 apply Eq.refl))))); (first | ((with_reducible apply q_load layOk); (iterate 3 apply Eq.refl); (focus (repeat (with_reducible (first | apply lh | apply lt)))); apply Eq.refl) | ((with_reducible apply q_idxPN (m := 0) layOk); (iterate 5 apply Eq.refl); (focus (decide))) | ((with_reducible apply q_alloc (k := ks _) layOk); apply Eq.refl; (focus (repeat (with_reducible (first | apply lh | apply lt)))); apply Eq.refl) | ((with_reducible apply q_move); apply Eq.refl) | ((with_reducible apply q_assign); apply Eq.refl) | ((with_reducible apply q_int); (iterate 3 apply Eq.refl)) | ((with_reducible apply q_fa layOk); (iterate 5 apply Eq.refl)) | ((with_reducible apply q_load layOk); (iterate 3 apply Eq.refl); (focus (repeat (with_reducible (first | apply lh | apply lt)))); apply Eq.refl) | ((with_reducible apply q_loadr layOk); (iterate 3 apply Eq.refl); (focus (repeat (with_reducible (first | apply lh | apply lt)))); apply Eq.refl) | ((with_reducible apply q_build layOk); (iterate 4 apply Eq.refl)) | ((with_reducible apply q_max); apply Eq.refl) | ((with_reducible apply q_not); apply Eq.refl) | ((with_reducible apply q_alloc (k := ks _) layOk); apply Eq.refl; (focus (repeat (with_reducible (first | apply lh | apply lt)))); apply Eq.refl) | ((with_reducible apply q_len layOk); (iterate 4 apply Eq.refl)) | ((with_reducible apply isF (f := 135)); (refine q_call1r rfl (ref_in tb hn ha _) (by first | (focus ((repeat (with_reducible (first | apply lh | apply lt))); done)) | (focus (apply lx; (focus (repeat (with_reducible (first | apply lh | apply lt)))); exact rfl))) ?_)) | ((with_reducible apply isF (f := 89)); (refine q_call0 rfl (ref_Hull _ _ _ _) ?_)) | ((with_reducible apply e_store layOk); (iterate 3 apply Eq.refl); (focus (repeat (with_reducible (first | apply lh | apply lt)))); (iterate 5 apply Eq.refl)))))
            | (((with_reducible refine gR ?_); (first | refine RK.peelN rfl ?_ | refine RK.donef rfl ⟨_, rfl, ?_⟩ | refine RK.donet rfl (by kernel_rfl) ⟨_, rfl, ?_⟩)))
            | ((first | (with_reducible refine gQv ?_ ?_) | (with_reducible refine gQe ?_ ?_)); (focus (first | (apply wg (r := false); (iterate 6 apply Eq.refl)) | (apply wz; (iterate 4 apply Eq.refl)))))
            | ((with_reducible refine gK ?_); ((first | (apply gsD; (iterate 4 apply Eq.refl)) | (apply RKo.gsplitE; (iterate 4 apply Eq.refl)) | (apply RKo.gsplitN; (iterate 4 apply Eq.refl)) | (apply RKo.gsplit; (iterate 4 apply Eq.refl))) <;> (intro hc; first | with_reducible exact ff hc | with_reducible exact ff' hc | exact absurd hc (by decide) | with_reducible exact absurd hcn hc | with_reducible exact absurd hc hcn | skip)))
            | (((with_reducible refine gW ?_); (first | with_reducible refine WP.seq ?_ | refine WP.reg mixed (fun ks => _) (fun ks => rfl) (fun ks => ?_) | ((first | (apply cdD; apply Eq.refl) | (apply WP.condE; apply Eq.refl) | (apply WP.condN; apply Eq.refl) | (apply WP.condA; apply Eq.refl)) <;> (intro hc; first | with_reducible exact ff hc | with_reducible exact ff' hc | exact absurd hc (by decide) | with_reducible exact absurd hcn hc | with_reducible exact absurd hc hcn | skip)) | refine WP.ret ?_ | refine WP.skip ?_ | refine WP.exit ?_ | refine WP.goto ?_ | refine WP.label ?_ | refine WP.block ?_)))
            | (with_reducible refine thn_n ?_)
            | (with_reducible refine thn_r ?_)
            | (with_reducible refine thn_e ?_)
            | (with_reducible refine thn_g ?_)
            | (with_reducible refine blk_n ?_)
            | (with_reducible refine blk_r ?_)
            | (with_reducible refine blk_e ?_)
            | (with_reducible refine blk_g ?_)
            | (((with_reducible refine blk_o ?_ ?_); first | exact rfl | skip))
            | (refine Endz.mk' (by first | exact Or.inl rfl | exact Or.inr rfl) (by repeat (first | exact RVs.nil | apply RVs.cons | exact RV1.tmp rfl | exact RV1.row rfl rfl rfl (by repeat (first | exact look_here | apply look_there)) (by exact rfl) | exact RV1.cell rfl rfl rfl (by repeat (first | exact look_here | apply look_there)) (by exact rfl))) (by rfl) (by repeat (first | exact List.nil_sublist _ | exact List.Sublist.refl _ | apply List.Sublist.cons_cons | apply List.Sublist.cons))))
          refine ⟨1, by decide, by decide, ?_⟩
          rw [e]
          exact Wk.of ⟨rfl, rfl, rfl, rfl, rfl, rfl, rfl, rfl, trivial⟩ (by repeat (first | exact List.nil_sublist _ | exact List.Sublist.refl _ | apply List.Sublist.cons_cons | apply List.Sublist.cons))
  | 1, _ =>
    · -- the 1. end
      have eS : cvSt X Y n i 2 = cvStep X Y n (cvSt X Y n i 1) (Y i) := rfl
      generalize hq : cvSt X Y n i 1 = s at *
      by_cases hcn : cntN X Y (Y i) n < mx 2 1
      · have e : cvSt X Y n i 2 = s := by rw [eS]; unfold cvStep; rw [if_pos hcn]
        repeat' (first
          | (((first | (with_reducible refine gQ0 ?_) | ((with_reducible refine gQ1 ?_ ?_); (focus (apply wg (r := true); (iterate 6 apply Eq.refl))))); (first | ((with_reducible apply q_load layOk); (iterate 3 apply Eq.refl); (focus (repeat (with_reducible (first | apply lh | apply lt)))); apply Eq.refl) | ((with_reducible apply q_idxPN (m := 1) layOk); (iterate 5 apply Eq.refl); (focus (decide))) | ((with_reducible apply q_alloc (k := ks _) layOk); apply Eq.refl; (focus (repeat (with_reducible (first | apply lh | apply lt)))); apply Eq.refl) | ((with_reducible apply q_move); apply Eq.refl) | ((with_reducible apply q_assign); apply Eq.refl) | ((with_reducible apply q_int); (iterate 3 apply Eq.refl)) | ((with_reducible apply q_fa layOk); (iterate 5 apply Eq.refl)) | ((with_reducible apply q_load layOk); (iterate 3 apply Eq.refl); (focus (repeat (with_reducible (first | apply lh | apply lt)))); apply Eq.refl) | ((with_reducible apply q_loadr layOk); (iterate 3 apply Eq.refl); (focus (repeat (with_reducible (first | apply lh | apply lt)))); apply Eq.refl) | ((with_reducible apply q_build layOk); (iterate 4 apply Eq.refl)) | ((with_reducible apply q_max); apply Eq.refl) | ((with_reducible apply q_not); apply Eq.refl) | ((with_reducible apply q_alloc (k := ks _) layOk); apply Eq.refl; (focus (repeat (with_reducible (first | apply lh | apply lt)))); apply Eq.refl) | ((with_reducible apply q_len layOk); (iterate 4 apply Eq.refl)) | ((with_reducible apply isF (f := 135)); (refine q_call1r rfl (ref_in tb hn ha _) (by first | (focus ((repeat (with_reducible (first | apply lh | apply lt))); done)) | (focus (apply lx; (focus (repeat (with_reducible (first | apply lh | apply lt)))); exact rfl))) ?_)) | ((with_reducible apply isF (f := 89)); (refine q_call0 rfl (ref_Hull _ _ _ _) ?_)) | ((with_reducible apply e_store layOk); (iterate 3 apply Eq.refl); (focus (repeat (with_reducible (first | apply lh | apply lt)))); (iterate 5 apply Eq.refl)))))
          | (((with_reducible refine gR ?_); (first | refine RK.peelN rfl ?_ | refine RK.donef rfl ⟨_, rfl, ?_⟩ | refine RK.donet rfl (by kernel_rfl) ⟨_, rfl, ?_⟩)))
          | ((first | (with_reducible refine gQv ?_ ?_) | (with_reducible refine gQe ?_ ?_)); (focus (first | (apply wg (r := false); (iterate 6 apply Eq.refl)) | (apply wz; (iterate 4 apply Eq.refl)))))
          | ((with_reducible refine gK ?_); ((first | (apply gsD; (iterate 4 apply Eq.refl)) | (apply RKo.gsplitE; (iterate 4 apply Eq.refl)) | (apply RKo.gsplitN; (iterate 4 apply Eq.refl)) | (apply RKo.gsplit; (iterate 4 apply Eq.refl))) <;> (intro hc; first | with_reducible exact ff hc | with_reducible exact ff' hc | exact absurd hc (by decide) | with_reducible exact absurd hcn hc | with_reducible exact absurd hc hcn | skip)))
          | (((with_reducible refine gW ?_); (first | with_reducible refine WP.seq ?_ | refine WP.reg mixed (fun ks => _) (fun ks => rfl) (fun ks => ?_) | ((first | (apply cdD; apply Eq.refl) | (apply WP.condE; apply Eq.refl) | (apply WP.condN; apply Eq.refl) | (apply WP.condA; apply Eq.refl)) <;> (intro hc; first | with_reducible exact ff hc | with_reducible exact ff' hc | exact absurd hc (by decide) | with_reducible exact absurd hcn hc | with_reducible exact absurd hc hcn | skip)) | refine WP.ret ?_ | refine WP.skip ?_ | refine WP.exit ?_ | refine WP.goto ?_ | refine WP.label ?_ | refine WP.block ?_)))
          | (with_reducible refine thn_n ?_)
          | (with_reducible refine thn_r ?_)
          | (with_reducible refine thn_e ?_)
          | (with_reducible refine thn_g ?_)
          | (with_reducible refine blk_n ?_)
          | (with_reducible refine blk_r ?_)
          | (with_reducible refine blk_e ?_)
          | (with_reducible refine blk_g ?_)
          | (((with_reducible refine blk_o ?_ ?_); first | exact rfl | skip))
          | (refine Endz.mk' (by first | exact Or.inl rfl | exact Or.inr rfl) (by repeat (first | exact RVs.nil | apply RVs.cons | exact RV1.tmp rfl | exact RV1.row rfl rfl rfl (by repeat (first | exact look_here | apply look_there)) (by exact rfl) | exact RV1.cell rfl rfl rfl (by repeat (first | exact look_here | apply look_there)) (by exact rfl))) (by rfl) (by repeat (first | exact List.nil_sublist _ | exact List.Sublist.refl _ | apply List.Sublist.cons_cons | apply List.Sublist.cons))))
        refine ⟨2, by decide, by decide, ?_⟩
        rw [e]
        exact Wk.of ⟨rfl, rfl, rfl, rfl, rfl, rfl, rfl, rfl, trivial⟩ (by repeat (first | exact List.nil_sublist _ | exact List.Sublist.refl _ | apply List.Sublist.cons_cons | apply List.Sublist.cons))
      · obtain ⟨fd, lo, hi⟩ := s
        cases fd with
        | true =>
          have e : cvSt X Y n i 2 = (true, mn lo (Y i), mx hi (Y i)) := by rw [eS]; unfold cvStep; rw [if_neg hcn, mnn, mxx]; rfl
          dsimp only
          repeat' (first
            | (((first | (with_reducible refine gQ0 ?_) | ((with_reducible refine gQ1 ?_ ?_); (focus (apply wg (r := true); (iterate 6 apply Eq.refl))))); (first | ((with_reducible apply q_load layOk); (iterate 3 apply Eq.refl); (focus (repeat (with_reducible (first | apply lh | apply lt)))); apply Eq.refl) | ((with_reducible apply q_idxPN (m := 1) layOk); (iterate 5 apply Eq.refl); (focus (decide))) | ((with_reducible apply q_alloc (k := ks _) layOk); apply Eq.refl; (focus (repeat (with_reducible (first | apply lh | apply lt)))); apply Eq.refl) | ((with_reducible apply q_move); apply Eq.refl) | ((with_reducible apply q_assign); apply Eq.refl) | ((with_reducible apply q_int); (iterate 3 apply Eq.refl)) | ((with_reducible apply q_fa layOk); (iterate 5 apply Eq.refl)) | ((with_reducible apply q_load layOk); (iterate 3 apply Eq.refl); (focus (repeat (with_reducible (first | apply lh | apply lt)))); apply Eq.refl) | ((with_reducible apply q_loadr layOk); (iterate 3 apply Eq.refl); (focus (repeat (with_reducible (first | apply lh | apply lt)))); apply Eq.refl) | ((with_reducible apply q_build layOk); (iterate 4 apply Eq.refl)) | ((with_reducible apply q_max); apply Eq.refl) | ((with_reducible apply q_not); apply Eq.refl) | ((with_reducible apply q_alloc (k := ks _) layOk); apply Eq.refl; (focus (repeat (with_reducible (first | apply lh | apply lt)))); apply Eq.refl) | ((with_reducible apply q_len layOk); (iterate 4 apply Eq.refl)) | ((with_reducible apply isF (f := 135)); (refine q_call1r rfl (ref_in tb hn ha _) (by first | (focus ((repeat (with_reducible (first | apply lh | apply lt))); done)) | (focus (apply lx; (focus (repeat (with_reducible (first | apply lh | apply lt)))); exact rfl))) ?_)) | ((with_reducible apply isF (f := 89)); (refine q_call0 rfl (ref_Hull _ _ _ _) ?_)) | ((with_reducible apply e_store layOk); (iterate 3 apply Eq.refl); (focus (repeat (with_reducible (first | apply lh | apply lt)))); (iterate 5 apply Eq.refl)))))
            | (((with_reducible refine gR ?_); (first | refine RK.peelN rfl ?_ | refine RK.donef rfl ⟨_, rfl, ?_⟩ | refine RK.donet rfl (by kernel_rfl) ⟨_, rfl, ?_⟩)))
            | ((first | (with_reducible refine gQv ?_ ?_) | (with_reducible refine gQe ?_ ?_)); (focus (first | (apply wg (r := false); (iterate 6 apply Eq.refl)) | (apply wz; (iterate 4 apply Eq.refl)))))
            | ((with_reducible refine gK ?_); ((first | (apply gsD; (iterate 4 apply Eq.refl)) | (apply RKo.gsplitE; (iterate 4 apply Eq.refl)) | (apply RKo.gsplitN; (iterate 4 apply Eq.refl)) | (apply RKo.gsplit; (iterate 4 apply Eq.refl))) <;> (intro hc; first | with_reducible exact ff hc | with_reducible exact ff' hc | exact absurd hc (by decide) | with_reducible exact absurd hcn hc | with_reducible exact absurd hc hcn | skip)))
            | (((with_reducible refine gW ?_); (first | with_reducible refine WP.seq ?_ | refine WP.reg mixed (fun ks => _) (fun ks => rfl) (fun ks => ?_) | ((first | (apply cdD; apply Eq.refl) | (apply WP.condE; apply Eq.refl) | (apply WP.condN; apply Eq.refl) | (apply WP.condA; apply Eq.refl)) <;> (intro hc; first | with_reducible exact ff hc | with_reducible exact ff' hc | exact absurd hc (by decide) | with_reducible exact absurd hcn hc | with_reducible exact absurd hc hcn | skip)) | refine WP.ret ?_ | refine WP.skip ?_ | refine WP.exit ?_ | refine WP.goto ?_ | refine WP.label ?_ | refine WP.block ?_)))
            | (with_reducible refine thn_n ?_)
            | (with_reducible refine thn_r ?_)
            | (with_reducible refine thn_e ?_)
            | (with_reducible refine thn_g ?_)
            | (with_reducible refine blk_n ?_)
            | (with_reducible refine blk_r ?_)
            | (with_reducible refine blk_e ?_)
            | (with_reducible refine blk_g ?_)
            | (((with_reducible refine blk_o ?_ ?_); first | exact rfl | skip))
            | (refine Endz.mk' (by first | exact Or.inl rfl | exact Or.inr rfl) (by repeat (first | exact RVs.nil | apply RVs.cons | exact RV1.tmp rfl | exact RV1.row rfl rfl rfl (by repeat (first | exact look_here | apply look_there)) (by exact rfl) | exact RV1.cell rfl rfl rfl (by repeat (first | exact look_here | apply look_there)) (by exact rfl))) (by rfl) (by repeat (first | exact List.nil_sublist _ | exact List.Sublist.refl _ | apply List.Sublist.cons_cons | apply List.Sublist.cons))))
          refine ⟨2, by decide, by decide, ?_⟩
          rw [e]
          exact Wk.of ⟨rfl, rfl, rfl, rfl, rfl, rfl, rfl, rfl, trivial⟩ (by repeat (first | exact List.nil_sublist _ | exact List.Sublist.refl _ | apply List.Sublist.cons_cons | apply List.Sublist.cons))
        | false =>
          have e : cvSt X Y n i 2 = (true, mn (Y i) (Y i), mx (Y i) (Y i)) := by rw [eS]; unfold cvStep; rw [if_neg hcn]; simp [mnn, mxx]
          dsimp only
          repeat' (first
            | (((first | (with_reducible refine gQ0 ?_) | ((with_reducible refine gQ1 ?_ ?_); (focus (apply wg (r := true); (iterate 6 apply Eq.refl))))); (first | ((with_reducible apply q_load layOk); (iterate 3 apply Eq.refl); (focus (repeat (with_reducible (first | apply lh | apply lt)))); apply Eq.refl) | ((with_reducible apply q_idxPN (m := 1) layOk); (iterate 5 apply Eq.refl); (focus (decide))) | ((with_reducible apply q_alloc (k := ks _) layOk); apply Eq.refl; (focus (repeat (with_reducible (first | apply lh | apply lt)))); apply Eq.refl) | ((with_reducible apply q_move); apply Eq.refl) | ((with_reducible apply q_assign); apply Eq.refl) | ((with_reducible apply q_int); (iterate 3 apply Eq.refl)) | ((with_reducible apply q_fa layOk); (iterate 5 apply Eq.refl)) | ((with_reducible apply q_load layOk); (iterate 3 apply Eq.refl); (focus (repeat (with_reducible (first | apply lh | apply lt)))); apply Eq.refl) | ((with_reducible apply q_loadr layOk); (iterate 3 apply Eq.refl); (focus (repeat (with_reducible (first | apply lh | apply lt)))); apply Eq.refl) | ((with_reducible apply q_build layOk); (iterate 4 apply Eq.refl)) | ((with_reducible apply q_max); apply Eq.refl) | ((with_reducible apply q_not); apply Eq.refl) | ((with_reducible apply q_alloc (k := ks _) layOk); apply Eq.refl; (focus (repeat (with_reducible (first | apply lh | apply lt)))); apply Eq.refl) | ((with_reducible apply q_len layOk); (iterate 4 apply Eq.refl)) | ((with_reducible apply isF (f := 135)); (refine q_call1r rfl (ref_in tb hn ha _) (by first | (focus ((repeat (with_reducible (first | apply lh | apply lt))); done)) | (focus (apply lx; (focus (repeat (with_reducible (first | apply lh | apply lt)))); exact rfl))) ?_)) | ((with_reducible apply isF (f := 89)); (refine q_call0 rfl (ref_Hull _ _ _ _) ?_)) | ((with_reducible apply e_store layOk); (iterate 3 apply Eq.refl); (focus (repeat (with_reducible (first | apply lh | apply lt)))); (iterate 5 apply Eq.refl)))))
            | (((with_reducible refine gR ?_); (first | refine RK.peelN rfl ?_ | refine RK.donef rfl ⟨_, rfl, ?_⟩ | refine RK.donet rfl (by kernel_rfl) ⟨_, rfl, ?_⟩)))
            | ((first | (with_reducible refine gQv ?_ ?_) | (with_reducible refine gQe ?_ ?_)); (focus (first | (apply wg (r := false); (iterate 6 apply Eq.refl)) | (apply wz; (iterate 4 apply Eq.refl)))))
            | ((with_reducible refine gK ?_); ((first | (apply gsD; (iterate 4 apply Eq.refl)) | (apply RKo.gsplitE; (iterate 4 apply Eq.refl)) | (apply RKo.gsplitN; (iterate 4 apply Eq.refl)) | (apply RKo.gsplit; (iterate 4 apply Eq.refl))) <;> (intro hc; first | with_reducible exact ff hc | with_reducible exact ff' hc | exact absurd hc (by decide) | with_reducible exact absurd hcn hc | with_reducible exact absurd hc hcn | skip)))
            | (((with_reducible refine gW ?_); (first | with_reducible refine WP.seq ?_ | refine WP.reg mixed (fun ks => _) (fun ks => rfl) (fun ks => ?_) | ((first | (apply cdD; apply Eq.refl) | (apply WP.condE; apply Eq.refl) | (apply WP.condN; apply Eq.refl) | (apply WP.condA; apply Eq.refl)) <;> (intro hc; first | with_reducible exact ff hc | with_reducible exact ff' hc | exact absurd hc (by decide) | with_reducible exact absurd hcn hc | with_reducible exact absurd hc hcn | skip)) | refine WP.ret ?_ | refine WP.skip ?_ | refine WP.exit ?_ | refine WP.goto ?_ | refine WP.label ?_ | refine WP.block ?_)))
            | (with_reducible refine thn_n ?_)
            | (with_reducible refine thn_r ?_)
            | (with_reducible refine thn_e ?_)
            | (with_reducible refine thn_g ?_)
            | (with_reducible refine blk_n ?_)
            | (with_reducible refine blk_r ?_)
            | (with_reducible refine blk_e ?_)
            | (with_reducible refine blk_g ?_)
            | (((with_reducible refine blk_o ?_ ?_); first | exact rfl | skip))
            | (refine Endz.mk' (by first | exact Or.inl rfl | exact Or.inr rfl) (by repeat (first | exact RVs.nil | apply RVs.cons | exact RV1.tmp rfl | exact RV1.row rfl rfl rfl (by repeat (first | exact look_here | apply look_there)) (by exact rfl) | exact RV1.cell rfl rfl rfl (by repeat (first | exact look_here | apply look_there)) (by exact rfl))) (by rfl) (by repeat (first | exact List.nil_sublist _ | exact List.Sublist.refl _ | apply List.Sublist.cons_cons | apply List.Sublist.cons))))
          refine ⟨2, by decide, by decide, ?_⟩
          rw [e]
          exact Wk.of ⟨rfl, rfl, rfl, rfl, rfl, rfl, rfl, rfl, trivial⟩ (by repeat (first | exact List.nil_sublist _ | exact List.Sublist.refl _ | apply List.Sublist.cons_cons | apply List.Sublist.cons))
  | 2, _ =>
    repeat' (first
      | (((first | (with_reducible refine gQ0 ?_) | ((with_reducible refine gQ1 ?_ ?_); (focus (apply wg (r := true); (iterate 6 apply Eq.refl))))); (first | ((with_reducible apply q_move); apply Eq.refl) | ((with_reducible apply q_assign); apply Eq.refl) | ((with_reducible apply q_int); (iterate 3 apply Eq.refl)) | ((with_reducible apply q_fa layOk); (iterate 5 apply Eq.refl)) | ((with_reducible apply q_load layOk); (iterate 3 apply Eq.refl); (focus (repeat (with_reducible (first | apply lh | apply lt)))); apply Eq.refl) | ((with_reducible apply q_loadr layOk); (iterate 3 apply Eq.refl); (focus (repeat (with_reducible (first | apply lh | apply lt)))); apply Eq.refl) | ((with_reducible apply q_build layOk); (iterate 4 apply Eq.refl)) | ((with_reducible apply q_max); apply Eq.refl) | ((with_reducible apply q_not); apply Eq.refl) | ((with_reducible apply q_alloc (k := ks _) layOk); apply Eq.refl; (focus (repeat (with_reducible (first | apply lh | apply lt)))); apply Eq.refl) | ((with_reducible apply q_len layOk); (iterate 4 apply Eq.refl)) | ((with_reducible apply e_store layOk); (iterate 3 apply Eq.refl); (focus (repeat (with_reducible (first | apply lh | apply lt)))); (iterate 5 apply Eq.refl)))))
      | (((with_reducible refine gR ?_); (first | refine RK.peelN rfl ?_ | refine RK.donef rfl ⟨_, rfl, ?_⟩ | refine RK.donet rfl (by kernel_rfl) ⟨_, rfl, ?_⟩)))
      | ((first | (with_reducible refine gQv ?_ ?_) | (with_reducible refine gQe ?_ ?_)); (focus (first | (apply wg (r := false); (iterate 6 apply Eq.refl)) | (apply wz; (iterate 4 apply Eq.refl)))))
      | ((with_reducible refine gK ?_); ((first | (apply gsD; (iterate 4 apply Eq.refl)) | (apply RKo.gsplitE; (iterate 4 apply Eq.refl)) | (apply RKo.gsplitN; (iterate 4 apply Eq.refl)) | (apply RKo.gsplit; (iterate 4 apply Eq.refl))) <;> (intro hc; first | with_reducible exact ff hc | with_reducible exact ff' hc | exact absurd hc (by decide) | skip)))
      | (((with_reducible refine gW ?_); (first | with_reducible refine WP.seq ?_ | refine WP.reg mixed (fun ks => _) (fun ks => rfl) (fun ks => ?_) | ((first | (apply cdD; apply Eq.refl) | (apply WP.condE; apply Eq.refl) | (apply WP.condN; apply Eq.refl) | (apply WP.condA; apply Eq.refl)) <;> (intro hc; first | with_reducible exact ff hc | with_reducible exact ff' hc | exact absurd hc (by decide) | skip)) | refine WP.ret ?_ | refine WP.skip ?_ | refine WP.exit ?_ | refine WP.goto ?_ | refine WP.label ?_ | refine WP.block ?_)))
      | (with_reducible refine thn_n ?_)
      | (with_reducible refine thn_r ?_)
      | (with_reducible refine thn_e ?_)
      | (with_reducible refine thn_g ?_)
      | (with_reducible refine blk_n ?_)
      | (with_reducible refine blk_r ?_)
      | (with_reducible refine blk_e ?_)
      | (with_reducible refine blk_g ?_)
      | (((with_reducible refine blk_o ?_ ?_); first | exact rfl | skip))
      | (refine Endz.mk' (by first | exact Or.inl rfl | exact Or.inr rfl) (by repeat (first | exact RVs.nil | apply RVs.cons | exact RV1.tmp rfl | exact RV1.row rfl rfl rfl (by repeat (first | exact look_here | apply look_there)) (by exact rfl) | exact RV1.cell rfl rfl rfl (by repeat (first | exact look_here | apply look_there)) (by exact rfl))) (by rfl) (by repeat (first | exact List.nil_sublist _ | exact List.Sublist.refl _ | apply List.Sublist.cons_cons | apply List.Sublist.cons))))
    refine ⟨i + 1, hlt, by show n - (i + 1) < n - i; omega, Wk.of ⟨rfl, rfl, rfl, rfl, rfl, ?_, trivial⟩ (by repeat (first | exact List.nil_sublist _ | exact List.Sublist.refl _ | apply List.Sublist.cons_cons | apply List.Sublist.cons))⟩
    exact congrArg (fun x => some (I64 x)) (kp1 (by omega))
end Go.Proofs.YtlhhcongoplfpaaDoor
namespace Go.Proofs.YtlhhcongoplfpaaDoor
open Go Go.Proofs.YtlhhcongoplfpaaDoorAB
variable {G : Nat}
set_option linter.unusedSimpArgs false
set_option linter.unusedVariables false

/-- The document's battery's cells. -/
abbrev rbat (c : Cfg) (x1 x2 y1 y2 q1 q2 : Int) (kn : Bool) : List Value := c.cells ++ [I64 x1, I64 x2, I64 y1, I64 y2, I64 q1, I64 q2, .bool kn]
theorem rClampM (x lo hi : Int) : mx (mn x hi) lo = rClamp x lo hi := by
  have e : mn x hi = if x > hi then hi else x := by unfold mn; rfl
  rw [e]; rfl
theorem rAdd_inQ {a b : Int} (h1 : -1000000000000 ≤ a) (h2 : a ≤ 1000000000000) (h3 : -1000000000000 ≤ b) (h4 : b ≤ 1000000000000) : rAdd a b = a + b := fAdd_in h1 h2 h3 h4
theorem ref_ClampM (a b lo hi : Int) : Ctr Tryd.prog G 106 [.agg #[I64 (a), I64 (b)], I64 lo, I64 hi] [] (.agg #[I64 (mx (mn a hi) lo), I64 (mx (mn b hi) lo)]) [] := by
  have h := ref_ClampSpan (G := G) a b lo hi
  rw [← rClampM, ← rClampM] at h
  exact h
theorem ref_CountedW {c : Cfg} (F : Fx c) {lo hi v : Int} (w : Wd lo hi) (h4 : -1000000 < v) (h5 : v < 1000000) (fr : Bool) : Ctr Tryd.prog G 111 [.agg ⟨c.cells⟩, .agg #[I64 (lo), I64 (hi)], .agg #[I64 v, .bool fr]] [] (.agg #[I64 (qLo c lo v fr), I64 (qHi c hi v fr)]) [] := by
  have h := ref_Counted (G := G) c lo hi v fr
  obtain ⟨ea, eb⟩ := out_eq F.hI F.e0 F.e4 (fr := fr) h4 h5
  have hC := F.hC; have hI := F.hI; have e0 := F.e0; have e4 := F.e4
  unfold Wd at w
  have r1 : routLo c v fr = outLo c v fr := by
    rw [ea]; cases fr
    · show IntKind.i64.wrap (0 - c.Imax) = _; rw [hI, if_neg (show ¬ (false = true) by decide)]; decide
    · show rwLo v c.AmpErr = _; unfold rwLo; rw [if_neg (by omega), rSub_in (by omega) (by omega) (by omega) (by omega)]; rfl
  have r2 : routHi c v fr = outHi c v fr := by
    rw [eb]; cases fr
    · show c.Imax = _; rw [hI]; rfl
    · show rwHi v c.AmpErr = _; unfold rwHi; rw [if_neg (by omega), rAdd_inQ (by omega) (by omega) (by omega) (by omega)]; rfl
  have k1 : -2000000 < outLo c v fr ∧ outLo c v fr < 2000000 := by rw [ea]; split <;> omega
  have k2 : -2000000 < outHi c v fr ∧ outHi c v fr < 2000000 := by rw [eb]; split <;> omega
  have q1 : rqLo c lo v fr = qLo c lo v fr := by unfold rqLo qLo; rw [r2, rClampM, fSub_in (by omega) (by omega) (by omega) (by omega), rSub_in (by omega) (by omega) (by omega) (by omega)]
  have q2 : rqHi c hi v fr = qHi c hi v fr := by unfold rqHi qHi; rw [r1, rClampM, fSub_in (by omega) (by omega) (by omega) (by omega), rSub_in (by omega) (by omega) (by omega) (by omega)]
  rw [q1, q2] at h
  exact h
theorem ref_WidenW {c : Cfg} (F : Fx c) {a b : Int} (w : Wd a b) : Ctr Tryd.prog G 95 [.agg #[I64 (a), I64 (b)], I64 c.Drift] [] (.agg #[I64 (wLo a c.Drift), I64 (wHi b c.Drift)]) [] := by
  have h := ref_Widen (G := G) a b c.Drift
  have e := wide_eq F.hD w
  have hD := F.hD
  unfold Wd at w
  have r1 : rwLo a c.Drift = wLo a c.Drift := by rw [e.1]; unfold rwLo; rw [hD, if_neg (by decide), rSub_in (by omega) (by omega) (by omega) (by omega)]
  have r2 : rwHi b c.Drift = wHi b c.Drift := by rw [e.2]; unfold rwHi; rw [hD, if_neg (by decide), rAdd_inQ (by omega) (by omega) (by omega) (by omega)]
  rw [r1, r2] at h
  exact h
set_option maxHeartbeats 4000000 in
theorem rbat_New_true (c : Cfg) (kb : Nat) (a b : Int) : Ctr Tryd.prog G 58 [.agg ⟨c.cells⟩, .agg #[I64 (a), I64 (b)], .bool true] [(kb, .gone)] (.pointer (some ⟨kb, 0, none⟩)) [.cells (rbat c (mx (mn a c.Cap) 0) (mx (mn b c.Cap) 0) (mx (mn a c.Cap) 0) (mx (mn b c.Cap) 0) (mx (mn a c.Cap) 0) (mx (mn b c.Cap) 0) true) 82] := by
  refine Ctr.by layOk Tryd.func58 Tryd.ntmps58 rfl rfl rfl rfl rfl ?_
  repeat' (first
    | (((with_reducible refine gQ0 ?_); (first | ((with_reducible apply q_box (ty := 82) (k := kb)); apply Eq.refl; (focus (repeat (with_reducible (first | apply lh | apply lt)))); apply Eq.refl) | ((with_reducible apply q_move); apply Eq.refl) | ((with_reducible apply q_assign); apply Eq.refl) | ((with_reducible apply q_fa layOk); (iterate 5 apply Eq.refl)) | ((with_reducible apply q_load layOk); (iterate 3 apply Eq.refl); (focus (repeat (with_reducible (first | apply lh | apply lt)))); apply Eq.refl) | ((with_reducible apply q_loadr layOk); (iterate 3 apply Eq.refl); (focus (repeat (with_reducible (first | apply lh | apply lt)))); apply Eq.refl) | ((with_reducible apply q_build layOk); (iterate 4 apply Eq.refl)) | ((with_reducible apply q_not); apply Eq.refl) | ((with_reducible apply q_box (k := ks _)); apply Eq.refl; (focus (repeat (with_reducible (first | apply lh | apply lt)))); apply Eq.refl) | ((with_reducible apply isF (f := 106)); (refine q_call0 rfl (ref_ClampM _ _ _ _) ?_)) | ((with_reducible apply e_store layOk); (iterate 3 apply Eq.refl); (focus (repeat (with_reducible (first | apply lh | apply lt)))); (iterate 5 apply Eq.refl)))))
    | (((with_reducible refine gR ?_); (first | refine RK.peelN rfl ?_ | refine RK.donef rfl ⟨_, rfl, ?_⟩ | refine RK.donet rfl (by kernel_rfl) ⟨_, rfl, ?_⟩)))
    | (((with_reducible refine gW ?_); (first | with_reducible refine WP.seq ?_ | refine WP.reg mixed (fun ks => _) (fun ks => rfl) (fun ks => ?_) | ((first | (apply cdD; apply Eq.refl) | (apply WP.condE; apply Eq.refl) | (apply WP.condN; apply Eq.refl) | (apply WP.condA; apply Eq.refl)) <;> (intro hc; first | with_reducible exact ff hc | with_reducible exact ff' hc | exact absurd hc (by decide) | skip)) | refine WP.ret ?_ | refine WP.skip ?_ | refine WP.exit ?_ | refine WP.goto ?_ | refine WP.label ?_ | refine WP.block ?_)))
    | (with_reducible refine thn_n ?_)
    | (with_reducible refine thn_r ?_)
    | (with_reducible refine thn_e ?_)
    | (with_reducible refine thn_g ?_)
    | (with_reducible refine blk_n ?_)
    | (with_reducible refine blk_r ?_)
    | (with_reducible refine blk_e ?_)
    | (with_reducible refine blk_g ?_)
    | (((with_reducible refine blk_o ?_ ?_); first | exact rfl | skip))
    | (refine Endz.mk' (by first | exact Or.inl rfl | exact Or.inr rfl) (by repeat (first | exact RVs.nil | apply RVs.cons | exact RV1.tmp rfl | exact RV1.row rfl rfl rfl (by repeat (first | exact look_here | apply look_there)) (by exact rfl) | exact RV1.cell rfl rfl rfl (by repeat (first | exact look_here | apply look_there)) (by exact rfl))) (by rfl) (by repeat (first | exact List.nil_sublist _ | exact List.Sublist.refl _ | apply List.Sublist.cons_cons | apply List.Sublist.cons))))
set_option maxHeartbeats 4000000 in
theorem rbat_New_false (c : Cfg) (kb : Nat) (a b : Int) : Ctr Tryd.prog G 58 [.agg ⟨c.cells⟩, .agg #[I64 (a), I64 (b)], .bool false] [(kb, .gone)] (.pointer (some ⟨kb, 0, none⟩)) [.cells (rbat c (mx (mn 0 c.Cap) 0) (mx (mn c.Cap c.Cap) 0) (mx (mn 0 c.Cap) 0) (mx (mn c.Cap c.Cap) 0) (mx (mn 0 c.Cap) 0) (mx (mn c.Cap c.Cap) 0) false) 82] := by
  refine Ctr.by layOk Tryd.func58 Tryd.ntmps58 rfl rfl rfl rfl rfl ?_
  repeat' (first
    | (((with_reducible refine gQ0 ?_); (first | ((with_reducible apply q_box (ty := 82) (k := kb)); apply Eq.refl; (focus (repeat (with_reducible (first | apply lh | apply lt)))); apply Eq.refl) | ((with_reducible apply q_move); apply Eq.refl) | ((with_reducible apply q_assign); apply Eq.refl) | ((with_reducible apply q_fa layOk); (iterate 5 apply Eq.refl)) | ((with_reducible apply q_load layOk); (iterate 3 apply Eq.refl); (focus (repeat (with_reducible (first | apply lh | apply lt)))); apply Eq.refl) | ((with_reducible apply q_loadr layOk); (iterate 3 apply Eq.refl); (focus (repeat (with_reducible (first | apply lh | apply lt)))); apply Eq.refl) | ((with_reducible apply q_build layOk); (iterate 4 apply Eq.refl)) | ((with_reducible apply q_not); apply Eq.refl) | ((with_reducible apply q_box (k := ks _)); apply Eq.refl; (focus (repeat (with_reducible (first | apply lh | apply lt)))); apply Eq.refl) | ((with_reducible apply isF (f := 106)); (refine q_call0 rfl (ref_ClampM _ _ _ _) ?_)) | ((with_reducible apply e_store layOk); (iterate 3 apply Eq.refl); (focus (repeat (with_reducible (first | apply lh | apply lt)))); (iterate 5 apply Eq.refl)))))
    | (((with_reducible refine gR ?_); (first | refine RK.peelN rfl ?_ | refine RK.donef rfl ⟨_, rfl, ?_⟩ | refine RK.donet rfl (by kernel_rfl) ⟨_, rfl, ?_⟩)))
    | (((with_reducible refine gW ?_); (first | with_reducible refine WP.seq ?_ | refine WP.reg mixed (fun ks => _) (fun ks => rfl) (fun ks => ?_) | ((first | (apply cdD; apply Eq.refl) | (apply WP.condE; apply Eq.refl) | (apply WP.condN; apply Eq.refl) | (apply WP.condA; apply Eq.refl)) <;> (intro hc; first | with_reducible exact ff hc | with_reducible exact ff' hc | exact absurd hc (by decide) | skip)) | refine WP.ret ?_ | refine WP.skip ?_ | refine WP.exit ?_ | refine WP.goto ?_ | refine WP.label ?_ | refine WP.block ?_)))
    | (with_reducible refine thn_n ?_)
    | (with_reducible refine thn_r ?_)
    | (with_reducible refine thn_e ?_)
    | (with_reducible refine thn_g ?_)
    | (with_reducible refine blk_n ?_)
    | (with_reducible refine blk_r ?_)
    | (with_reducible refine blk_e ?_)
    | (with_reducible refine blk_g ?_)
    | (((with_reducible refine blk_o ?_ ?_); first | exact rfl | skip))
    | (refine Endz.mk' (by first | exact Or.inl rfl | exact Or.inr rfl) (by repeat (first | exact RVs.nil | apply RVs.cons | exact RV1.tmp rfl | exact RV1.row rfl rfl rfl (by repeat (first | exact look_here | apply look_there)) (by exact rfl) | exact RV1.cell rfl rfl rfl (by repeat (first | exact look_here | apply look_there)) (by exact rfl))) (by rfl) (by repeat (first | exact List.nil_sublist _ | exact List.Sublist.refl _ | apply List.Sublist.cons_cons | apply List.Sublist.cons))))
end Go.Proofs.YtlhhcongoplfpaaDoor
