/- What functions of this program do, each as a contract that its callers use, and what follows of it in plain numbers.
   By an AI agent. -/
import Derived.Test.YtekcchmnncefhaaGreatDoorAB
import Derived.Test.YtekcchmnncefhaaGreatDoorG2
import Derived.Test.YtekcchmnncefhaaGreatDoorG3
import Derived.Test.YtekcchmnncefhaaGreatDoorG4
import Derived.Test.YtekcchmnncefhaaGreatDoorG1
import Derived.Laws.Bits64
namespace Go.Proofs.YtekcchmnncefhaaGreatDoor
open Go Go.Proofs.YtekcchmnncefhaaGreatDoorAB
set_option linter.unusedSimpArgs false
set_option linter.unusedVariables false
set_option maxRecDepth 20000

set_option maxHeartbeats 4000000 in
theorem ref_newest_nn {ob : AObj} {k f cap : Nat} {B : Nat → Int} (bt : Bt ob f 88 B) (h88 : 88 ≤ cap) (i1 : ¬ isRec B) (i2 : ¬ isRec (fun i => B (44 + i))) : Ctr Tryz.prog 7 56 [.slice (some ⟨k, f, none⟩) 88 cap] [(k, ob)] (I64 (-1)) [ob] := by
  have z1 : ¬ ((88 : Nat) : Int) ≠ 88 := by decide
  have bt1 : Bt ob f 44 B := ⟨fun i hi => bt.a i (by omega)⟩
  have bt2 : Bt ob (f + 44 * 1) 44 (fun i => B (44 + i)) := bt.sh 44 44 (by decide)
  have hc1 : 44 ≤ cap := by omega
  obtain ⟨c1, n1, _, _, r1⟩ := ref_Read_no bt1 hc1 i1
  obtain ⟨c2, n2, _, _, r2⟩ := ref_Read_no (cap := 44) bt2 (by decide) i2
  refine Ctr.by layOk Tryz.func56 Tryz.ntmps56 rfl rfl rfl rfl rfl ?_
  repeat' (first
    | ((first | (with_reducible apply gQ0) | ((with_reducible apply gQ1); exact wt_)); (first | (apply q_sliceH (m := 44) layOk; (iterate 5 apply Eq.refl); (focus (decide)); exact h88) | (apply q_sliceL (p := 44) layOk; (iterate 5 apply Eq.refl); (focus (decide)); exact h88; (focus (decide))) | (apply q_alloc (k := ks _) layOk; apply Eq.refl; exact lk_; apply Eq.refl) | (apply q_move; apply Eq.refl) | (apply q_assign; apply Eq.refl) | (apply q_int; (iterate 3 apply Eq.refl)) | (apply q_alloc (k := ks _) layOk; apply Eq.refl; exact lk_; apply Eq.refl) | (apply q_pick_t; apply Eq.refl; apply Eq.refl) | (apply q_len layOk; (iterate 4 apply Eq.refl)) | (apply q_extract; apply Eq.refl; apply Eq.refl) | (refine q_call1r rfl r1 lc_ ?_) | (refine q_call1r rfl r2 lc_ ?_) | (apply e_store layOk; (iterate 3 apply Eq.refl); exact lk_; (iterate 5 apply Eq.refl))))
    | ((with_reducible apply gR); (first | refine RK.peelN rfl ?_ | refine RK.donef rfl ⟨_, rfl, ?_⟩))
    | ((with_reducible apply gQv); focus exact wf_)
    | ((with_reducible apply gK); (fail_if_success ((apply gM); (iterate 3 apply Eq.refl))); ((apply RKo.gsplitN; (iterate 4 apply Eq.refl)) <;> (intro hc; (first | with_reducible exact absurd hc n1 | with_reducible exact absurd hc n2 | with_reducible exact absurd hc z1 | skip))))
    | ((with_reducible apply gW); (first | with_reducible apply WP.seq | refine WP.reg mixed (fun ks => _) (fun ks => rfl) (fun ks => ?_) | ((apply WP.condN; apply Eq.refl) <;> (intro hc; (first | with_reducible exact absurd hc n1 | with_reducible exact absurd hc n2 | with_reducible exact absurd hc z1 | skip))) | apply WP.ret | apply WP.skip | apply WP.block))
    | (first | with_reducible apply thn_n | with_reducible apply thn_r | with_reducible apply blk_r)
    | (refine Endz.mk' en_ rv_ (by rfl) sb_))

set_option maxHeartbeats 4000000 in
theorem ref_newest_no {ob : AObj} {k f cap : Nat} {B : Nat → Int} (bt : Bt ob f 88 B) (h88 : 88 ≤ cap) (i1 : ¬ isRec B) (i2 : isRec (fun i => B (44 + i))) : Ctr Tryz.prog 7 56 [.slice (some ⟨k, f, none⟩) 88 cap] [(k, ob)] (I64 1) [ob] := by
  have z1 : ¬ ((88 : Nat) : Int) ≠ 88 := by decide
  have bt1 : Bt ob f 44 B := ⟨fun i hi => bt.a i (by omega)⟩
  have bt2 : Bt ob (f + 44 * 1) 44 (fun i => B (44 + i)) := bt.sh 44 44 (by decide)
  have hc1 : 44 ≤ cap := by omega
  obtain ⟨c1, n1, _, _, r1⟩ := ref_Read_no bt1 hc1 i1
  refine Ctr.by layOk Tryz.func56 Tryz.ntmps56 rfl rfl rfl rfl rfl ?_
  repeat' (first
    | ((first | (with_reducible apply gQ0) | ((with_reducible apply gQ1); exact wt_)); (first | (apply q_sliceH (m := 44) layOk; (iterate 5 apply Eq.refl); (focus (decide)); exact h88) | (apply q_sliceL (p := 44) layOk; (iterate 5 apply Eq.refl); (focus (decide)); exact h88; (focus (decide))) | (apply q_alloc (k := ks _) layOk; apply Eq.refl; exact lk_; apply Eq.refl) | (apply q_move; apply Eq.refl) | (apply q_assign; apply Eq.refl) | (apply q_int; (iterate 3 apply Eq.refl)) | (apply q_alloc (k := ks _) layOk; apply Eq.refl; exact lk_; apply Eq.refl) | (apply q_pick_t; apply Eq.refl; apply Eq.refl) | (apply q_len layOk; (iterate 4 apply Eq.refl)) | (apply q_extract; apply Eq.refl; apply Eq.refl) | (refine q_call1r rfl r1 lc_ ?_) | (apply isF (f := 75); (refine q_call1r rfl (ref_Read_ok bt2 (by decide) i2.1 i2.2.1 i2.2.2) lc_ ?_)) | (apply e_store layOk; (iterate 3 apply Eq.refl); exact lk_; (iterate 5 apply Eq.refl))))
    | ((with_reducible apply gR); (first | refine RK.peelN rfl ?_ | refine RK.donef rfl ⟨_, rfl, ?_⟩))
    | ((with_reducible apply gQv); focus exact wf_)
    | ((with_reducible apply gK); (fail_if_success ((apply gM); (iterate 3 apply Eq.refl))); ((apply RKo.gsplitN; (iterate 4 apply Eq.refl)) <;> (intro hc; (first | with_reducible exact absurd hc n1 | with_reducible exact absurd hc z1 | exact absurd rfl hc | skip))))
    | ((with_reducible apply gW); (first | with_reducible apply WP.seq | refine WP.reg mixed (fun ks => _) (fun ks => rfl) (fun ks => ?_) | ((apply WP.condN; apply Eq.refl) <;> (intro hc; (first | with_reducible exact absurd hc n1 | with_reducible exact absurd hc z1 | exact absurd rfl hc | skip))) | apply WP.ret | apply WP.skip | apply WP.block))
    | (first | with_reducible apply thn_n | with_reducible apply thn_r | with_reducible apply blk_r)
    | (refine Endz.mk' en_ rv_ (by rfl) sb_))

set_option maxHeartbeats 4000000 in
theorem ref_newest_on {ob : AObj} {k f cap : Nat} {B : Nat → Int} (bt : Bt ob f 88 B) (h88 : 88 ≤ cap) (i1 : isRec B) (i2 : ¬ isRec (fun i => B (44 + i))) : Ctr Tryz.prog 7 56 [.slice (some ⟨k, f, none⟩) 88 cap] [(k, ob)] (I64 0) [ob] := by
  have z1 : ¬ ((88 : Nat) : Int) ≠ 88 := by decide
  have bt1 : Bt ob f 44 B := ⟨fun i hi => bt.a i (by omega)⟩
  have bt2 : Bt ob (f + 44 * 1) 44 (fun i => B (44 + i)) := bt.sh 44 44 (by decide)
  have hc1 : 44 ≤ cap := by omega
  obtain ⟨c2, n2, _, _, r2⟩ := ref_Read_no (cap := 44) bt2 (by decide) i2
  refine Ctr.by layOk Tryz.func56 Tryz.ntmps56 rfl rfl rfl rfl rfl ?_
  repeat' (first
    | ((with_reducible apply gQ0); (first | (apply q_sliceH (m := 44) layOk; (iterate 5 apply Eq.refl); (focus (decide)); exact h88) | (apply q_sliceL (p := 44) layOk; (iterate 5 apply Eq.refl); (focus (decide)); exact h88; (focus (decide))) | (apply q_alloc (k := ks _) layOk; apply Eq.refl; exact lk_; apply Eq.refl) | (apply q_move; apply Eq.refl) | (apply q_assign; apply Eq.refl) | (apply q_int; (iterate 3 apply Eq.refl)) | (apply q_alloc (k := ks _) layOk; apply Eq.refl; exact lk_; apply Eq.refl) | (apply q_pick_f; apply Eq.refl; apply Eq.refl) | (apply q_len layOk; (iterate 4 apply Eq.refl)) | (apply q_extract; apply Eq.refl; apply Eq.refl) | (apply isF (f := 75); (refine q_call1r rfl (ref_Read_ok bt1 hc1 i1.1 i1.2.1 i1.2.2) lc_ ?_)) | (refine q_call1r rfl r2 lc_ ?_) | (apply e_store layOk; (iterate 3 apply Eq.refl); exact lk_; (iterate 5 apply Eq.refl))))
    | ((with_reducible apply gR); (first | refine RK.peelN rfl ?_ | refine RK.donef rfl ⟨_, rfl, ?_⟩))
    | ((with_reducible apply gQv); focus exact wf_)
    | ((with_reducible apply gK); (fail_if_success ((apply gM); (iterate 3 apply Eq.refl))); ((apply RKo.gsplitN; (iterate 4 apply Eq.refl)) <;> (intro hc; (first | with_reducible exact ff' hc | with_reducible exact absurd hc n2 | with_reducible exact absurd hc z1 | exact absurd rfl hc | skip))))
    | ((with_reducible apply gW); (first | with_reducible apply WP.seq | refine WP.reg mixed (fun ks => _) (fun ks => rfl) (fun ks => ?_) | ((first | (apply WP.condN; apply Eq.refl) | (apply WP.condA; apply Eq.refl)) <;> (intro hc; (first | with_reducible exact ff' hc | with_reducible exact absurd hc n2 | with_reducible exact absurd hc z1 | exact absurd rfl hc | skip))) | apply WP.ret | apply WP.skip | apply WP.block))
    | (first | with_reducible apply thn_n | with_reducible apply thn_r | with_reducible apply blk_r)
    | (refine Endz.mk' en_ rv_ (by rfl) sb_))

set_option maxHeartbeats 4000000 in
theorem ref_newest_oo_t {ob : AObj} {k f cap : Nat} {B : Nat → Int} (bt : Bt ob f 88 B) (h88 : 88 ≤ cap) (i1 : isRec B) (i2 : isRec (fun i => B (44 + i))) (hl : laterB (IntKind.u32.wrap (numN (fun i => (fun i => B (44 + i)) (1 + i)) 4)) (IntKind.u32.wrap (numN (fun i => B (1 + i)) 4)) = true) : Ctr Tryz.prog 7 56 [.slice (some ⟨k, f, none⟩) 88 cap] [(k, ob)] (I64 1) [ob] := by
  have z1 : ¬ ((88 : Nat) : Int) ≠ 88 := by decide
  have bt1 : Bt ob f 44 B := ⟨fun i hi => bt.a i (by omega)⟩
  have bt2 : Bt ob (f + 44 * 1) 44 (fun i => B (44 + i)) := bt.sh 44 44 (by decide)
  have hc1 : 44 ≤ cap := by omega
  have hl3 := of_decide_eq_true hl
  refine Ctr.by layOk Tryz.func56 Tryz.ntmps56 rfl rfl rfl rfl rfl ?_
  repeat' (first
    | ((with_reducible apply gQ0); (first | (apply q_sliceH (m := 44) layOk; (iterate 5 apply Eq.refl); (focus (decide)); exact h88) | (apply q_sliceL (p := 44) layOk; (iterate 5 apply Eq.refl); (focus (decide)); exact h88; (focus (decide))) | (apply q_alloc (k := ks _) layOk; apply Eq.refl; exact lk_; apply Eq.refl) | (apply q_move; apply Eq.refl) | (apply q_assign; apply Eq.refl) | (apply q_int; (iterate 3 apply Eq.refl)) | (apply q_fa layOk; (iterate 5 apply Eq.refl)) | (apply q_load layOk; (iterate 3 apply Eq.refl); exact lk_; apply Eq.refl) | (apply q_alloc (k := ks _) layOk; apply Eq.refl; exact lk_; apply Eq.refl) | (apply q_pick_f; apply Eq.refl; apply Eq.refl) | (apply q_len layOk; (iterate 4 apply Eq.refl)) | (apply q_extract; apply Eq.refl; apply Eq.refl) | (apply isF (f := 92); (refine q_call0 rfl (ref_Later _ _) ?_)) | (apply isF (f := 75); (refine q_call1r rfl (ref_Read_ok bt1 hc1 i1.1 i1.2.1 i1.2.2) lc_ ?_)) | (apply isF (f := 75); (refine q_call1r rfl (ref_Read_ok bt2 (by decide) i2.1 i2.2.1 i2.2.2) lc_ ?_)) | (apply e_store layOk; (iterate 3 apply Eq.refl); exact lk_; (iterate 5 apply Eq.refl))))
    | ((with_reducible apply gR); (first | refine RK.peelN rfl ?_ | refine RK.donef rfl ⟨_, rfl, ?_⟩))
    | ((with_reducible apply gQv); focus exact wf_)
    | ((with_reducible apply gK); (fail_if_success ((apply gM); (iterate 3 apply Eq.refl))); ((apply RKo.gsplitN; (iterate 4 apply Eq.refl)) <;> (intro hc; (first | with_reducible exact ff' hc | with_reducible exact absurd hl3 hc | with_reducible exact absurd hc z1 | exact absurd rfl hc | skip))))
    | ((with_reducible apply gW); (first | with_reducible apply WP.seq | refine WP.reg mixed (fun ks => _) (fun ks => rfl) (fun ks => ?_) | ((first | (apply cdD; apply Eq.refl) | (apply WP.condN; apply Eq.refl) | (apply WP.condA; apply Eq.refl)) <;> (intro hc; (first | with_reducible exact ff' hc | with_reducible exact absurd hl3 hc | with_reducible exact absurd hc z1 | exact absurd rfl hc | skip))) | apply WP.ret | apply WP.skip | apply WP.block))
    | (first | with_reducible apply thn_n | with_reducible apply thn_r | with_reducible apply blk_r)
    | (refine Endz.mk' en_ rv_ (by rfl) sb_))

set_option maxHeartbeats 4000000 in
theorem ref_newest_oo_f {ob : AObj} {k f cap : Nat} {B : Nat → Int} (bt : Bt ob f 88 B) (h88 : 88 ≤ cap) (i1 : isRec B) (i2 : isRec (fun i => B (44 + i))) (hl : laterB (IntKind.u32.wrap (numN (fun i => (fun i => B (44 + i)) (1 + i)) 4)) (IntKind.u32.wrap (numN (fun i => B (1 + i)) 4)) = false) : Ctr Tryz.prog 7 56 [.slice (some ⟨k, f, none⟩) 88 cap] [(k, ob)] (I64 0) [ob] := by
  have z1 : ¬ ((88 : Nat) : Int) ≠ 88 := by decide
  have bt1 : Bt ob f 44 B := ⟨fun i hi => bt.a i (by omega)⟩
  have bt2 : Bt ob (f + 44 * 1) 44 (fun i => B (44 + i)) := bt.sh 44 44 (by decide)
  have hc1 : 44 ≤ cap := by omega
  have hl3 := of_decide_eq_false hl
  refine Ctr.by layOk Tryz.func56 Tryz.ntmps56 rfl rfl rfl rfl rfl ?_
  repeat' (first
    | ((with_reducible apply gQ0); (first | (apply q_sliceH (m := 44) layOk; (iterate 5 apply Eq.refl); (focus (decide)); exact h88) | (apply q_sliceL (p := 44) layOk; (iterate 5 apply Eq.refl); (focus (decide)); exact h88; (focus (decide))) | (apply q_alloc (k := ks _) layOk; apply Eq.refl; exact lk_; apply Eq.refl) | (apply q_move; apply Eq.refl) | (apply q_assign; apply Eq.refl) | (apply q_int; (iterate 3 apply Eq.refl)) | (apply q_fa layOk; (iterate 5 apply Eq.refl)) | (apply q_load layOk; (iterate 3 apply Eq.refl); exact lk_; apply Eq.refl) | (apply q_alloc (k := ks _) layOk; apply Eq.refl; exact lk_; apply Eq.refl) | (apply q_pick_f; apply Eq.refl; apply Eq.refl) | (apply q_len layOk; (iterate 4 apply Eq.refl)) | (apply q_extract; apply Eq.refl; apply Eq.refl) | (apply isF (f := 92); (refine q_call0 rfl (ref_Later _ _) ?_)) | (apply isF (f := 75); (refine q_call1r rfl (ref_Read_ok bt1 hc1 i1.1 i1.2.1 i1.2.2) lc_ ?_)) | (apply isF (f := 75); (refine q_call1r rfl (ref_Read_ok bt2 (by decide) i2.1 i2.2.1 i2.2.2) lc_ ?_)) | (apply e_store layOk; (iterate 3 apply Eq.refl); exact lk_; (iterate 5 apply Eq.refl))))
    | ((with_reducible apply gR); (first | refine RK.peelN rfl ?_ | refine RK.donef rfl ⟨_, rfl, ?_⟩))
    | ((with_reducible apply gQv); focus exact wf_)
    | ((with_reducible apply gK); (fail_if_success ((apply gM); (iterate 3 apply Eq.refl))); ((apply RKo.gsplitN; (iterate 4 apply Eq.refl)) <;> (intro hc; (first | with_reducible exact ff' hc | with_reducible exact absurd hc hl3 | with_reducible exact absurd hc z1 | exact absurd rfl hc | skip))))
    | ((with_reducible apply gW); (first | with_reducible apply WP.seq | refine WP.reg mixed (fun ks => _) (fun ks => rfl) (fun ks => ?_) | ((first | (apply cdD; apply Eq.refl) | (apply WP.condN; apply Eq.refl) | (apply WP.condA; apply Eq.refl)) <;> (intro hc; (first | with_reducible exact ff' hc | with_reducible exact absurd hc hl3 | with_reducible exact absurd hc z1 | exact absurd rfl hc | skip))) | apply WP.ret | apply WP.skip | apply WP.block))
    | (first | with_reducible apply thn_n | with_reducible apply blk_n)
    | (refine Endz.mk' en_ rv_ (by rfl) sb_))

set_option maxHeartbeats 4000000 in
theorem ref_recover_nn {ob : AObj} {k f cap : Nat} {B : Nat → Int} (bt : Bt ob f 88 B) (h88 : 88 ≤ cap) (i1 : ¬ isRec B) (i2 : ¬ isRec (fun i => B (44 + i))) : Ctr Tryz.prog 7 34 [.slice (some ⟨k, f, none⟩) 88 cap] [(k, ob)] (.tuple #[.agg #[.int .u32 0, I64 0, .int .u32 0, I64 0, I64 0, I64 0, I64 0], I64 107]) [ob] := by
  have bt1 : Bt ob f 44 B := ⟨fun i hi => bt.a i (by omega)⟩
  have bt2 : Bt ob (f + 44 * 1) 44 (fun i => B (44 + i)) := bt.sh 44 44 (by decide)
  have hc1 : 44 ≤ cap := by omega
  refine Ctr.by layOk Tryz.func34 Tryz.ntmps34 rfl rfl rfl rfl rfl ?_
  repeat' (first
    | ((with_reducible apply gQ0); (first | (apply q_alloc (k := ks _) layOk; apply Eq.refl; exact lk_; apply Eq.refl) | (apply q_move; apply Eq.refl) | (apply q_assign; apply Eq.refl) | (apply q_int; (iterate 3 apply Eq.refl)) | (apply q_build layOk; (iterate 4 apply Eq.refl)) | (apply q_alloc (k := ks _) layOk; apply Eq.refl; exact lk_; apply Eq.refl) | (apply isF (f := 54); (refine q_call0 rfl (ref_len_ok rfl) ?_)) | (apply isF (f := 56); (refine q_call1r rfl (ref_newest_nn bt h88 i1 i2) lc_ ?_)) | (apply e_store layOk; (iterate 3 apply Eq.refl); exact lk_; (iterate 5 apply Eq.refl))))
    | ((with_reducible apply gR); (first | refine RK.peelN rfl ?_ | refine RK.donef rfl ⟨_, rfl, ?_⟩))
    | ((with_reducible apply gW); (first | with_reducible apply WP.seq | refine WP.reg mixed (fun ks => _) (fun ks => rfl) (fun ks => ?_) | ((first | (apply cdD; apply Eq.refl) | (apply WP.condN; apply Eq.refl)) <;> (intro hc; (first | exact absurd rfl hc | exact absurd hc (by decide) | skip))) | apply WP.ret | apply WP.skip))
    | (first | with_reducible apply thn_n | with_reducible apply thn_r)
    | (refine Endz.mk' en_ rv_ (by rfl) sb_))

set_option maxHeartbeats 4000000 in
theorem ref_recover_no {ob : AObj} {k f cap : Nat} {B : Nat → Int} (bt : Bt ob f 88 B) (h88 : 88 ≤ cap) (i1 : ¬ isRec B) (i2 : isRec (fun i => B (44 + i))) : Ctr Tryz.prog 7 34 [.slice (some ⟨k, f, none⟩) 88 cap] [(k, ob)] (.tuple #[.agg #[.int .u32 (IntKind.u32.wrap (numN (fun i => (fun i => B (44 + i)) (1 + i)) 4)), I64 (IntKind.i64.wrap ((fun i => B (44 + i)) 5)), .int .u32 (IntKind.u32.wrap (numN (fun i => (fun i => B (44 + i)) (6 + i)) 4)), I64 (IntKind.i64.wrap (numN (fun i => (fun i => B (44 + i)) (10 + i)) 8)), I64 (IntKind.i64.wrap (numN (fun i => (fun i => B (44 + i)) (18 + i)) 8)), I64 (IntKind.i64.wrap (numN (fun i => (fun i => B (44 + i)) (26 + i)) 8)), I64 (IntKind.i64.wrap (numN (fun i => (fun i => B (44 + i)) (34 + i)) 8))], I64 0]) [ob] := by
  have bt1 : Bt ob f 44 B := ⟨fun i hi => bt.a i (by omega)⟩
  have bt2 : Bt ob (f + 44 * 1) 44 (fun i => B (44 + i)) := bt.sh 44 44 (by decide)
  have hc1 : 44 ≤ cap := by omega
  refine Ctr.by layOk Tryz.func34 Tryz.ntmps34 rfl rfl rfl rfl rfl ?_
  repeat' (first
    | ((with_reducible apply gQ0); (first | (apply q_sliceLH (p := 44) (q := 88) layOk; (iterate 5 apply Eq.refl); (focus (decide)); (focus (decide)); (focus (decide)); (focus (decide)); exact h88; (focus (decide))) | (apply q_alloc (k := ks _) layOk; apply Eq.refl; exact lk_; apply Eq.refl) | (apply q_move; apply Eq.refl) | (apply q_assign; apply Eq.refl) | (apply q_int; (iterate 3 apply Eq.refl)) | (apply q_alloc (k := ks _) layOk; apply Eq.refl; exact lk_; apply Eq.refl) | (apply q_extract; apply Eq.refl; apply Eq.refl) | (apply isF (f := 54); (refine q_call0 rfl (ref_len_ok rfl) ?_)) | (apply isF (f := 56); (refine q_call1r rfl (ref_newest_no bt h88 i1 i2) lc_ ?_)) | (apply isF (f := 75); (refine q_call1r rfl (ref_Read_ok (cap := 44) bt2 (by decide) i2.1 i2.2.1 i2.2.2) lc_ ?_)) | (apply e_store layOk; (iterate 3 apply Eq.refl); exact lk_; (iterate 5 apply Eq.refl))))
    | ((with_reducible apply gR); (first | refine RK.peelN rfl ?_ | refine RK.donef rfl ⟨_, rfl, ?_⟩))
    | ((with_reducible apply gW); (first | with_reducible apply WP.seq | refine WP.reg mixed (fun ks => _) (fun ks => rfl) (fun ks => ?_) | ((first | (apply cdD; apply Eq.refl) | (apply WP.condN; apply Eq.refl)) <;> (intro hc; (first | exact absurd rfl hc | exact absurd hc (by decide) | skip))) | apply WP.ret | apply WP.skip))
    | (with_reducible apply thn_n)
    | (refine Endz.mk' en_ rv_ (by rfl) sb_))

set_option maxHeartbeats 4000000 in
theorem ref_recover_oo_t {ob : AObj} {k f cap : Nat} {B : Nat → Int} (bt : Bt ob f 88 B) (h88 : 88 ≤ cap) (i1 : isRec B) (i2 : isRec (fun i => B (44 + i))) (hl : laterB (IntKind.u32.wrap (numN (fun i => (fun i => B (44 + i)) (1 + i)) 4)) (IntKind.u32.wrap (numN (fun i => B (1 + i)) 4)) = true) : Ctr Tryz.prog 7 34 [.slice (some ⟨k, f, none⟩) 88 cap] [(k, ob)] (.tuple #[.agg #[.int .u32 (IntKind.u32.wrap (numN (fun i => (fun i => B (44 + i)) (1 + i)) 4)), I64 (IntKind.i64.wrap ((fun i => B (44 + i)) 5)), .int .u32 (IntKind.u32.wrap (numN (fun i => (fun i => B (44 + i)) (6 + i)) 4)), I64 (IntKind.i64.wrap (numN (fun i => (fun i => B (44 + i)) (10 + i)) 8)), I64 (IntKind.i64.wrap (numN (fun i => (fun i => B (44 + i)) (18 + i)) 8)), I64 (IntKind.i64.wrap (numN (fun i => (fun i => B (44 + i)) (26 + i)) 8)), I64 (IntKind.i64.wrap (numN (fun i => (fun i => B (44 + i)) (34 + i)) 8))], I64 0]) [ob] := by
  have bt1 : Bt ob f 44 B := ⟨fun i hi => bt.a i (by omega)⟩
  have bt2 : Bt ob (f + 44 * 1) 44 (fun i => B (44 + i)) := bt.sh 44 44 (by decide)
  have hc1 : 44 ≤ cap := by omega
  refine Ctr.by layOk Tryz.func34 Tryz.ntmps34 rfl rfl rfl rfl rfl ?_
  repeat' (first
    | ((with_reducible apply gQ0); (first | (apply q_sliceLH (p := 44) (q := 88) layOk; (iterate 5 apply Eq.refl); (focus (decide)); (focus (decide)); (focus (decide)); (focus (decide)); exact h88; (focus (decide))) | (apply q_alloc (k := ks _) layOk; apply Eq.refl; exact lk_; apply Eq.refl) | (apply q_move; apply Eq.refl) | (apply q_assign; apply Eq.refl) | (apply q_int; (iterate 3 apply Eq.refl)) | (apply q_alloc (k := ks _) layOk; apply Eq.refl; exact lk_; apply Eq.refl) | (apply q_extract; apply Eq.refl; apply Eq.refl) | (apply isF (f := 54); (refine q_call0 rfl (ref_len_ok rfl) ?_)) | (apply isF (f := 56); (refine q_call1r rfl (ref_newest_oo_t bt h88 i1 i2 hl) lc_ ?_)) | (apply isF (f := 75); (refine q_call1r rfl (ref_Read_ok (cap := 44) bt2 (by decide) i2.1 i2.2.1 i2.2.2) lc_ ?_)) | (apply e_store layOk; (iterate 3 apply Eq.refl); exact lk_; (iterate 5 apply Eq.refl))))
    | ((with_reducible apply gR); (first | refine RK.peelN rfl ?_ | refine RK.donef rfl ⟨_, rfl, ?_⟩))
    | ((with_reducible apply gW); (first | with_reducible apply WP.seq | refine WP.reg mixed (fun ks => _) (fun ks => rfl) (fun ks => ?_) | ((first | (apply cdD; apply Eq.refl) | (apply WP.condN; apply Eq.refl)) <;> (intro hc; (first | exact absurd rfl hc | exact absurd hc (by decide) | skip))) | apply WP.ret | apply WP.skip))
    | (with_reducible apply thn_n)
    | (refine Endz.mk' en_ rv_ (by rfl) sb_))

set_option maxHeartbeats 4000000 in
theorem ref_recover_on {ob : AObj} {k f cap : Nat} {B : Nat → Int} (bt : Bt ob f 88 B) (h88 : 88 ≤ cap) (i1 : isRec B) (i2 : ¬ isRec (fun i => B (44 + i))) : Ctr Tryz.prog 7 34 [.slice (some ⟨k, f, none⟩) 88 cap] [(k, ob)] (.tuple #[.agg #[.int .u32 (IntKind.u32.wrap (numN (fun i => B (1 + i)) 4)), I64 (IntKind.i64.wrap (B 5)), .int .u32 (IntKind.u32.wrap (numN (fun i => B (6 + i)) 4)), I64 (IntKind.i64.wrap (numN (fun i => B (10 + i)) 8)), I64 (IntKind.i64.wrap (numN (fun i => B (18 + i)) 8)), I64 (IntKind.i64.wrap (numN (fun i => B (26 + i)) 8)), I64 (IntKind.i64.wrap (numN (fun i => B (34 + i)) 8))], I64 0]) [ob] := by
  have bt1 : Bt ob f 44 B := ⟨fun i hi => bt.a i (by omega)⟩
  have bt2 : Bt ob (f + 44 * 1) 44 (fun i => B (44 + i)) := bt.sh 44 44 (by decide)
  have hc1 : 44 ≤ cap := by omega
  have bt0 : Bt ob (f + 0 * 1) 44 B := ⟨fun i hi => by rw [show f + 0 * 1 + i * 1 = f + i * 1 by omega]; exact bt.a i (by omega)⟩
  refine Ctr.by layOk Tryz.func34 Tryz.ntmps34 rfl rfl rfl rfl rfl ?_
  repeat' (first
    | ((with_reducible apply gQ0); (first | (apply q_sliceLH (p := 0) (q := 44) layOk; (iterate 5 apply Eq.refl); (focus (decide)); (focus (decide)); (focus (decide)); (focus (decide)); exact h88; (focus (decide))) | (apply q_alloc (k := ks _) layOk; apply Eq.refl; exact lk_; apply Eq.refl) | (apply q_move; apply Eq.refl) | (apply q_assign; apply Eq.refl) | (apply q_int; (iterate 3 apply Eq.refl)) | (apply q_alloc (k := ks _) layOk; apply Eq.refl; exact lk_; apply Eq.refl) | (apply q_extract; apply Eq.refl; apply Eq.refl) | (apply isF (f := 54); (refine q_call0 rfl (ref_len_ok rfl) ?_)) | (apply isF (f := 56); (refine q_call1r rfl (ref_newest_on bt h88 i1 i2) lc_ ?_)) | (apply isF (f := 75); (refine q_call1r rfl (ref_Read_ok (cap := 44) bt0 (by decide) i1.1 i1.2.1 i1.2.2) lc_ ?_)) | (apply e_store layOk; (iterate 3 apply Eq.refl); exact lk_; (iterate 5 apply Eq.refl))))
    | ((with_reducible apply gR); (first | refine RK.peelN rfl ?_ | refine RK.donef rfl ⟨_, rfl, ?_⟩))
    | ((with_reducible apply gW); (first | with_reducible apply WP.seq | refine WP.reg mixed (fun ks => _) (fun ks => rfl) (fun ks => ?_) | ((first | (apply cdD; apply Eq.refl) | (apply WP.condN; apply Eq.refl)) <;> (intro hc; (first | exact absurd rfl hc | exact absurd hc (by decide) | skip))) | apply WP.ret | apply WP.skip))
    | (with_reducible apply thn_n)
    | (refine Endz.mk' en_ rv_ (by rfl) sb_))

set_option maxHeartbeats 4000000 in
theorem ref_recover_oo_f {ob : AObj} {k f cap : Nat} {B : Nat → Int} (bt : Bt ob f 88 B) (h88 : 88 ≤ cap) (i1 : isRec B) (i2 : isRec (fun i => B (44 + i))) (hl : laterB (IntKind.u32.wrap (numN (fun i => (fun i => B (44 + i)) (1 + i)) 4)) (IntKind.u32.wrap (numN (fun i => B (1 + i)) 4)) = false) : Ctr Tryz.prog 7 34 [.slice (some ⟨k, f, none⟩) 88 cap] [(k, ob)] (.tuple #[.agg #[.int .u32 (IntKind.u32.wrap (numN (fun i => B (1 + i)) 4)), I64 (IntKind.i64.wrap (B 5)), .int .u32 (IntKind.u32.wrap (numN (fun i => B (6 + i)) 4)), I64 (IntKind.i64.wrap (numN (fun i => B (10 + i)) 8)), I64 (IntKind.i64.wrap (numN (fun i => B (18 + i)) 8)), I64 (IntKind.i64.wrap (numN (fun i => B (26 + i)) 8)), I64 (IntKind.i64.wrap (numN (fun i => B (34 + i)) 8))], I64 0]) [ob] := by
  have bt1 : Bt ob f 44 B := ⟨fun i hi => bt.a i (by omega)⟩
  have bt2 : Bt ob (f + 44 * 1) 44 (fun i => B (44 + i)) := bt.sh 44 44 (by decide)
  have hc1 : 44 ≤ cap := by omega
  have bt0 : Bt ob (f + 0 * 1) 44 B := ⟨fun i hi => by rw [show f + 0 * 1 + i * 1 = f + i * 1 by omega]; exact bt.a i (by omega)⟩
  refine Ctr.by layOk Tryz.func34 Tryz.ntmps34 rfl rfl rfl rfl rfl ?_
  repeat' (first
    | ((with_reducible apply gQ0); (first | (apply q_sliceLH (p := 0) (q := 44) layOk; (iterate 5 apply Eq.refl); (focus (decide)); (focus (decide)); (focus (decide)); (focus (decide)); exact h88; (focus (decide))) | (apply q_alloc (k := ks _) layOk; apply Eq.refl; exact lk_; apply Eq.refl) | (apply q_move; apply Eq.refl) | (apply q_assign; apply Eq.refl) | (apply q_int; (iterate 3 apply Eq.refl)) | (apply q_alloc (k := ks _) layOk; apply Eq.refl; exact lk_; apply Eq.refl) | (apply q_extract; apply Eq.refl; apply Eq.refl) | (apply isF (f := 54); (refine q_call0 rfl (ref_len_ok rfl) ?_)) | (apply isF (f := 56); (refine q_call1r rfl (ref_newest_oo_f bt h88 i1 i2 hl) lc_ ?_)) | (apply isF (f := 75); (refine q_call1r rfl (ref_Read_ok (cap := 44) bt0 (by decide) i1.1 i1.2.1 i1.2.2) lc_ ?_)) | (apply e_store layOk; (iterate 3 apply Eq.refl); exact lk_; (iterate 5 apply Eq.refl))))
    | ((with_reducible apply gR); (first | refine RK.peelN rfl ?_ | refine RK.donef rfl ⟨_, rfl, ?_⟩))
    | ((with_reducible apply gW); (first | with_reducible apply WP.seq | refine WP.reg mixed (fun ks => _) (fun ks => rfl) (fun ks => ?_) | ((first | (apply cdD; apply Eq.refl) | (apply WP.condN; apply Eq.refl)) <;> (intro hc; (first | exact absurd rfl hc | exact absurd hc (by decide) | skip))) | apply WP.ret | apply WP.skip))
    | (with_reducible apply thn_n)
    | (refine Endz.mk' en_ rv_ (by rfl) sb_))
end Go.Proofs.YtekcchmnncefhaaGreatDoor
namespace Go.Proofs.YtekcchmnncefhaaGreatDoor
open Go Go.Proofs.YtekcchmnncefhaaGreatDoorAB
set_option linter.unusedSimpArgs false
set_option linter.unusedVariables false
set_option maxRecDepth 20000
theorem wk_P13_0 {p : Prop} (h : p := by
  repeat' (first
    | ((first | (with_reducible apply gQ0) | ((with_reducible apply gQ1); exact wt_)); (first | (apply q_box (k := ks _); apply Eq.refl; exact lk_; apply Eq.refl) | (apply q_move; apply Eq.refl) | (apply q_assign; apply Eq.refl) | (apply q_int; (iterate 3 apply Eq.refl)) | (apply q_fa layOk; (iterate 5 apply Eq.refl)) | (apply q_load layOk; (iterate 3 apply Eq.refl); exact lk_; apply Eq.refl) | (apply q_pick_t; apply Eq.refl; apply Eq.refl) | (apply q_pick_f; apply Eq.refl; apply Eq.refl)))
    | ((with_reducible apply gR); (first | refine RK.peelN rfl ?_ | refine RK.donef rfl ⟨_, rfl, ?_⟩))
    | ((with_reducible apply gQv); focus exact wf_)
    | ((with_reducible apply gK); (fail_if_success ((apply gM); (iterate 3 apply Eq.refl))); ((apply gsD; (iterate 4 apply Eq.refl)) <;> (intro hc; (first | with_reducible exact absurd h1 hc | with_reducible exact absurd hc h1 | skip))))
    | ((with_reducible apply gW); (first | with_reducible apply WP.seq | refine WP.reg mixed (fun ks => _) (fun ks => rfl) (fun ks => ?_) | apply WP.ret))
    | (with_reducible apply thn_n)
    | (refine Endz.mk' en_ rv_ (by first | rfl | exact congrArg Value.bool (decide_eq_true (by assumption)) | exact congrArg Value.bool (decide_eq_false (by assumption))) sb_))) : p := h
theorem wk_P13_1 {p : Prop} (h : p := by
  repeat' (first
    | ((with_reducible apply gQ0); (first | (apply q_loadr (ty := 237) layOk; (iterate 3 apply Eq.refl); exact lk_; exact (br.s x hx)) | (apply q_idxN (m := x) layOk; (iterate 4 apply Eq.refl); exact ha; apply Eq.refl; exact hx) | (apply q_alloc (k := ks _) layOk; apply Eq.refl; exact lk_; apply Eq.refl) | (apply q_move; apply Eq.refl) | (apply q_assign; apply Eq.refl) | (apply q_int; (iterate 3 apply Eq.refl)) | (apply q_fa layOk; (iterate 5 apply Eq.refl)) | (apply q_load layOk; (iterate 3 apply Eq.refl); exact lk_; apply Eq.refl) | (apply q_build layOk; (iterate 4 apply Eq.refl)) | (apply q_not; apply Eq.refl) | (apply isF (f := 112); (refine q_call0 rfl (span_Has_t _ _ _ g1 g2) ?_)) | (apply isF (f := 112); (refine q_call0 rfl (span_Has_f _ _ _ hb) ?_)) | (apply e_store layOk; (iterate 3 apply Eq.refl); exact lk_; (iterate 5 apply Eq.refl))))
    | ((with_reducible apply gR); (first | refine RK.peelN rfl ?_ | refine RK.donef rfl ⟨_, rfl, ?_⟩))
    | ((with_reducible apply gW); (first | with_reducible apply WP.seq | refine WP.reg mixed (fun ks => _) (fun ks => rfl) (fun ks => ?_) | ((first | (apply cdD; apply Eq.refl) | (apply WP.condA; apply Eq.refl)) <;> (intro hc; (first | with_reducible exact absurd hlt hc | with_reducible exact absurd hc nt1 | with_reducible exact absurd hc hge | with_reducible exact absurd hc nt2 | skip))) | apply WP.ret | apply WP.skip | apply WP.exit | apply WP.block))
    | (first | with_reducible apply thn_n | with_reducible apply thn_r | with_reducible apply thn_e | with_reducible apply blk_n | with_reducible apply blk_r | with_reducible apply blk_e)
    | (refine Endz.mk' en_ rv_ (by rfl) sb_)
    | (exact ⟨x + 1, hm, by show n - (x + 1) < n - x; omega, Wk.of ⟨rfl, rfl, congrArg (fun x => some (I64 x)) hw, trivial⟩ sb_⟩)
    | (exact ⟨x + 1, hm, by show m - (x + 1) < m - x; omega, Wk.of ⟨rfl, rfl, congrArg (fun x => some (I64 x)) hw, trivial⟩ sb_⟩))) : p := h

set_option maxHeartbeats 4000000 in
theorem span_Has_t (lo hi x : Int) (h1 : lo ≤ x) (h2 : x ≤ hi) : Ctr Tryz.prog 7 112 [.agg #[I64 (lo), I64 (hi)], I64 x] [] (.bool true) [] := by
  refine Ctr.by layOk Tryz.func112 Tryz.ntmps112 rfl rfl rfl rfl rfl ?_
  exact wk_P13_0

set_option maxHeartbeats 4000000 in
theorem span_Has_l (lo hi x : Int) (h1 : ¬ lo ≤ x) : Ctr Tryz.prog 7 112 [.agg #[I64 (lo), I64 (hi)], I64 x] [] (.bool false) [] := by
  refine Ctr.by layOk Tryz.func112 Tryz.ntmps112 rfl rfl rfl rfl rfl ?_
  exact wk_P13_0

set_option maxHeartbeats 4000000 in
theorem span_Has_h (lo hi x : Int) (h1 : lo ≤ x) (h2 : ¬ x ≤ hi) : Ctr Tryz.prog 7 112 [.agg #[I64 (lo), I64 (hi)], I64 x] [] (.bool false) [] := by
  refine Ctr.by layOk Tryz.func112 Tryz.ntmps112 rfl rfl rfl rfl rfl ?_
  exact wk_P13_0
/-- Bounds that can be read: the number, the least, the greatest. -/
structure Br (ob : AObj) (f n : Nat) (N A B : Nat → Int) : Prop where
  s : ∀ i, i < n → ob.seg (f + i * 3) 3 = some [.int .i64 (N i), .int .i64 (A i), .int .i64 (B i)]
theorem span_Has_f (lo hi x : Int) (h : ¬ (lo ≤ x ∧ x ≤ hi)) : Ctr Tryz.prog 7 112 [.agg #[I64 (lo), I64 (hi)], I64 x] [] (.bool false) [] := by
  by_cases h1 : lo ≤ x
  · exact span_Has_h lo hi x h1 (fun h2 => h ⟨h1, h2⟩)
  · exact span_Has_l lo hi x h1

set_option maxHeartbeats 4000000 in
theorem all_ok {ob : AObj} {k f n cap : Nat} {a : Option Addr} {N A B : Nat → Int} (br : Br ob f n N A B) (ha : 0 < n → a = some ⟨k, f, none⟩) (hn : n ≤ 1000000) (hg : ∀ i, i < n → A i ≤ N i ∧ N i ≤ B i) : Ctr Tryz.prog 7 95 [.slice a n cap] [(k, ob)] (.tuple #[I64 0, .bool true]) [ob] := by
  have nt1 : ¬ (!true) = true := by decide
  have nt2 : ¬ (!false) = false := by decide
  refine Ctr.by layOk Tryz.func95 Tryz.ntmps95 rfl rfl rfl rfl rfl ?_
  repeat' (first
    | ((with_reducible apply gQ0); (first | (apply q_move; apply Eq.refl) | (apply q_assign; apply Eq.refl) | (apply q_len layOk; (iterate 4 apply Eq.refl))))
    | ((with_reducible apply gR); (first | refine RK.peelN rfl ?_ | refine RK.donef rfl ⟨_, rfl, ?_⟩))
    | ((with_reducible apply gW); (first | with_reducible apply WP.seq | refine WP.reg mixed (fun ks => _) (fun ks => rfl) (fun ks => ?_) | apply WP.block))
    | (with_reducible apply thn_n))
  refine WP.loopI (n := 24) (α := Nat) (fun x => [(6, some (.slice a n cap)), (7, some (I64 (n : Int))), (8, some (I64 (x : Int)))]) (fun x => [(k, ob)]) (fun x => x ≤ n) (fun x => n - x) 0 (Wk.of ⟨rfl, rfl, rfl, trivial⟩ sb_) (Nat.zero_le _) (fun x ix => ?_)
  have ix : x ≤ n := ix
  by_cases hm : x < n
  · have hx : x < n := by omega
    have hlt : (x : Int) < (n : Int) := by omega
    have hw := kpB (x := x) (by omega)
    obtain ⟨g1, g2⟩ := hg x hm
    exact wk_P13_1
  · obtain rfl : x = n := by omega
    have hge : ¬ (x : Int) < (x : Int) := by omega
    exact wk_P13_1

set_option maxHeartbeats 4000000 in
theorem all_bad {ob : AObj} {k f n cap : Nat} {a : Option Addr} {N A B : Nat → Int} (br : Br ob f n N A B) (ha : 0 < n → a = some ⟨k, f, none⟩) (hn : n ≤ 1000000) (m : Nat) (hmn : m < n) (hg : ∀ i, i < m → A i ≤ N i ∧ N i ≤ B i) (hb : ¬ (A m ≤ N m ∧ N m ≤ B m)) : Ctr Tryz.prog 7 95 [.slice a n cap] [(k, ob)] (.tuple #[I64 (m : Int), .bool false]) [ob] := by
  have nt1 : ¬ (!true) = true := by decide
  have nt2 : ¬ (!false) = false := by decide
  refine Ctr.by layOk Tryz.func95 Tryz.ntmps95 rfl rfl rfl rfl rfl ?_
  repeat' (first
    | ((with_reducible apply gQ0); (first | (apply q_move; apply Eq.refl) | (apply q_assign; apply Eq.refl) | (apply q_len layOk; (iterate 4 apply Eq.refl))))
    | ((with_reducible apply gR); (first | refine RK.peelN rfl ?_ | refine RK.donef rfl ⟨_, rfl, ?_⟩))
    | ((with_reducible apply gW); (first | with_reducible apply WP.seq | refine WP.reg mixed (fun ks => _) (fun ks => rfl) (fun ks => ?_) | apply WP.block))
    | (with_reducible apply thn_n))
  refine WP.loopI (n := 24) (α := Nat) (fun x => [(6, some (.slice a n cap)), (7, some (I64 (n : Int))), (8, some (I64 (x : Int)))]) (fun x => [(k, ob)]) (fun x => x ≤ m) (fun x => m - x) 0 (Wk.of ⟨rfl, rfl, rfl, trivial⟩ sb_) (Nat.zero_le _) (fun x ix => ?_)
  have ix : x ≤ m := ix
  by_cases hm : x < m
  · have hx : x < n := by omega
    have hlt : (x : Int) < (n : Int) := by omega
    have hw := kpB (x := x) (by omega)
    obtain ⟨g1, g2⟩ := hg x hm
    exact wk_P13_1
  · obtain rfl : x = m := by omega
    have hx := hmn
    have hlt : (x : Int) < (n : Int) := by omega
    exact wk_P13_1
end Go.Proofs.YtekcchmnncefhaaGreatDoor
namespace Go.Proofs.YtekcchmnncefhaaGreatDoor
open Go Go.Proofs.YtekcchmnncefhaaGreatDoorAB
set_option linter.unusedSimpArgs false
set_option linter.unusedVariables false
set_option maxRecDepth 20000
theorem wk_P14_0 {p : Prop} (h : p := by
  repeat' (first
    | ((with_reducible apply gQ0); (first | (apply q_buildS (k := kn) layOk; (iterate 8 apply Eq.refl); exact lk_; apply Eq.refl) | (apply q_box (k := ks _); apply Eq.refl; exact lk_; apply Eq.refl) | (apply q_assign; apply Eq.refl) | (apply q_fa layOk; (iterate 5 apply Eq.refl)) | (apply q_load layOk; (iterate 3 apply Eq.refl); exact lk_; apply Eq.refl) | (apply q_build layOk; (iterate 4 apply Eq.refl))))
    | ((with_reducible apply gR); (first | refine RK.peelN rfl ?_ | refine RK.donef rfl ⟨_, rfl, ?_⟩))
    | ((with_reducible apply gW); (first | with_reducible apply WP.seq | refine WP.reg mixed (fun ks => _) (fun ks => rfl) (fun ks => ?_) | apply WP.ret))
    | (with_reducible apply thn_n)
    | (refine Endz.mk' en_ rv_ (by rfl) sb_))) : p := h

set_option maxHeartbeats 4000000 in
theorem config_bounds (kn : Nat) (c : Cfg) : Ctr Tryz.prog 7 96 [.agg ⟨c.cells⟩] [(kn, .gone)] (.slice (some ⟨kn, 0, none⟩) 20 20) [.cells (I64 (c.D) :: I64 (1) :: I64 (100) :: I64 (c.B) :: I64 (1) :: I64 (100) :: I64 (c.S) :: I64 (1) :: I64 (100) :: I64 (c.P) :: I64 (1) :: I64 (100) :: I64 (c.H) :: I64 (1) :: I64 (100) :: I64 (c.Cap) :: I64 (1) :: I64 (1073741824) :: I64 (c.Qmin) :: I64 (0) :: I64 (c.Cap) :: I64 (c.Imax) :: I64 (1) :: I64 (500000) :: I64 (c.Trip) :: I64 (1) :: I64 (500000) :: I64 (c.Vmin) :: I64 (1) :: I64 (60000) :: I64 (c.Vdark) :: I64 (1) :: I64 (60000) :: I64 (c.CellMin) :: I64 (0) :: I64 (6000) :: I64 (c.CellMax) :: I64 (c.CellMin) :: I64 (6000) :: I64 (c.CellGap) :: I64 (0) :: I64 (6000) :: I64 (c.TempMax) :: I64 (-500) :: I64 (1500) :: I64 (c.Coil) :: I64 (1) :: I64 (30000) :: I64 (c.Ohm) :: I64 (0) :: I64 (100000) :: I64 (c.SagErr) :: I64 (0) :: I64 (60000) :: I64 (c.AmpErr) :: I64 (0) :: I64 (500000) :: I64 (c.Drift) :: I64 (0) :: I64 (1073741824) :: []) 237] := by
  refine Ctr.by layOk Tryz.func96 Tryz.ntmps96 rfl rfl rfl rfl rfl ?_
  exact wk_P14_0

set_option maxHeartbeats 4000000 in
theorem config_ends (kn : Nat) (c : Cfg) : Ctr Tryz.prog 7 98 [.agg ⟨c.cells⟩] [(kn, .gone)] (.slice (some ⟨kn, 0, none⟩) 5 5) [.cells (I64 (c.GenMax) :: I64 (0) :: I64 (1073741824) :: I64 (c.BatMax) :: I64 (0) :: I64 (1073741824) :: I64 (c.ExtMax) :: I64 (0) :: I64 (1073741824) :: I64 (c.Eland) :: I64 (0) :: I64 (1073741824) :: I64 (c.Margin) :: I64 (c.Imax) :: I64 (1073741824) :: []) 237] := by
  refine Ctr.by layOk Tryz.func98 Tryz.ntmps98 rfl rfl rfl rfl rfl ?_
  exact wk_P14_0
end Go.Proofs.YtekcchmnncefhaaGreatDoor
namespace Go.Proofs.YtekcchmnncefhaaGreatDoor
open Go Go.Proofs.YtekcchmnncefhaaGreatDoorAB
set_option linter.unusedSimpArgs false
set_option linter.unusedVariables false
set_option maxRecDepth 20000
theorem wk_P16_0 {p : Prop} (h : p := by
  repeat' (first
    | ((first | (with_reducible apply gQ0) | ((with_reducible apply gQ1); exact wt_)); (first | (apply q_loadr (ty := 57) layOk; (iterate 3 apply Eq.refl); exact lk_; exact (br.s x hx)) | (apply q_idxN (m := x) layOk; (iterate 4 apply Eq.refl); exact ha; apply Eq.refl; exact hx) | (apply q_alloc (k := ks _) layOk; apply Eq.refl; exact lk_; apply Eq.refl) | (apply q_move; apply Eq.refl) | (apply q_int; (iterate 3 apply Eq.refl)) | (apply q_fa layOk; (iterate 5 apply Eq.refl)) | (apply q_load layOk; (iterate 3 apply Eq.refl); exact lk_; apply Eq.refl) | (apply q_pick_f; apply Eq.refl; apply Eq.refl) | (apply e_store layOk; (iterate 3 apply Eq.refl); exact lk_; (iterate 5 apply Eq.refl))))
    | ((with_reducible apply gR); (first | refine RK.peelN rfl ?_ | refine RK.donef rfl ⟨_, rfl, ?_⟩))
    | ((with_reducible apply gQv); focus exact wf_)
    | ((with_reducible apply gK); (fail_if_success ((apply gM); (iterate 3 apply Eq.refl))); ((apply gsD; (iterate 4 apply Eq.refl)) <;> (intro hc; (first | with_reducible exact absurd hc g1 | with_reducible exact absurd hc g2 | with_reducible exact absurd hc g3' | with_reducible exact absurd hc g4' | with_reducible exact absurd hc g5 | with_reducible exact absurd hc g6 | with_reducible exact absurd hlt hc | skip))))
    | ((with_reducible apply gW); (first | with_reducible apply WP.seq | refine WP.reg mixed (fun ks => _) (fun ks => rfl) (fun ks => ?_) | ((apply cdD; apply Eq.refl) <;> (intro hc; (first | with_reducible exact absurd hc g1 | with_reducible exact absurd hc g2 | with_reducible exact absurd hc g3' | with_reducible exact absurd hc g4' | with_reducible exact absurd hc g5 | with_reducible exact absurd hc g6 | with_reducible exact absurd hlt hc | skip))) | apply WP.skip | apply WP.block))
    | (first | with_reducible apply thn_n | with_reducible apply blk_n)
    | (exact ⟨x + 1, hm, by show n - (x + 1) < n - x; omega, Wk.of ⟨rfl, rfl, rfl, congrArg (fun x => some (I64 x)) hw, trivial⟩ sb_⟩)
    | (exact ⟨x + 1, hm, by show m - (x + 1) < m - x; omega, Wk.of ⟨rfl, rfl, rfl, congrArg (fun x => some (I64 x)) hw, trivial⟩ sb_⟩))) : p := h
theorem wk_P16_1 {p : Prop} (h : p := by
  repeat' (first
    | ((first | (with_reducible apply gQ0) | ((with_reducible apply gQ1); exact wt_)); (first | (apply q_loadr (ty := 57) layOk; (iterate 3 apply Eq.refl); exact lk_; exact (br.s x hx)) | (apply q_idxN (m := x) layOk; (iterate 4 apply Eq.refl); exact ha; apply Eq.refl; exact hx) | (apply q_alloc (k := ks _) layOk; apply Eq.refl; exact lk_; apply Eq.refl) | (apply q_move; apply Eq.refl) | (apply q_assign; apply Eq.refl) | (apply q_int; (iterate 3 apply Eq.refl)) | (apply q_fa layOk; (iterate 5 apply Eq.refl)) | (apply q_load layOk; (iterate 3 apply Eq.refl); exact lk_; apply Eq.refl) | (apply q_pick_t; apply Eq.refl; apply Eq.refl) | (apply q_pick_f; apply Eq.refl; apply Eq.refl) | (apply q_len layOk; (iterate 4 apply Eq.refl)) | (apply e_store layOk; (iterate 3 apply Eq.refl); exact lk_; (iterate 5 apply Eq.refl))))
    | ((with_reducible apply gR); (first | refine RK.peelN rfl ?_ | refine RK.donef rfl ⟨_, rfl, ?_⟩))
    | ((with_reducible apply gQv); focus exact wf_)
    | ((with_reducible apply gK); (fail_if_success ((apply gM); (iterate 3 apply Eq.refl))); ((first | (apply gsD; (iterate 4 apply Eq.refl)) | (apply RKo.gsplit; (iterate 4 apply Eq.refl))) <;> (intro hc; (first | with_reducible exact absurd hc hge | with_reducible exact ff hc | with_reducible exact absurd hlt hc | with_reducible exact absurd q hc | with_reducible exact absurd hc g1 | with_reducible exact absurd hc g2 | with_reducible exact absurd q1 hc | with_reducible exact absurd hc q1 | with_reducible exact absurd q2 hc | with_reducible exact absurd hc g3' | with_reducible exact absurd hc g4' | with_reducible exact absurd hc g5 | with_reducible exact absurd h1 hc | with_reducible exact absurd hc h1 | skip))))
    | ((with_reducible apply gW); (first | with_reducible apply WP.seq | refine WP.reg mixed (fun ks => _) (fun ks => rfl) (fun ks => ?_) | ((first | (apply cdD; apply Eq.refl) | (apply WP.condA; apply Eq.refl)) <;> (intro hc; (first | with_reducible exact absurd hc hge | with_reducible exact ff hc | with_reducible exact absurd hlt hc | with_reducible exact absurd q hc | with_reducible exact absurd hc g1 | with_reducible exact absurd hc g2 | with_reducible exact absurd q1 hc | with_reducible exact absurd hc q1 | with_reducible exact absurd q2 hc | with_reducible exact absurd hc g3' | with_reducible exact absurd hc g4' | with_reducible exact absurd hc g5 | with_reducible exact absurd h1 hc | with_reducible exact absurd hc h1 | skip))) | apply WP.ret | apply WP.skip | apply WP.exit | apply WP.block))
    | (first | with_reducible apply thn_n | with_reducible apply thn_r | with_reducible apply thn_e | with_reducible apply blk_r | with_reducible apply blk_e)
    | (refine Endz.mk' en_ rv_ (by first | rfl | exact congrArg Value.bool (decide_eq_true (by assumption)) | exact congrArg Value.bool (decide_eq_false (by assumption))) sb_))) : p := h
def cbN (c : Cfg) : Nat → Int
  | 0 => c.D
  | 1 => c.B
  | 2 => c.S
  | 3 => c.P
  | 4 => c.H
  | 5 => c.Cap
  | 6 => c.Qmin
  | 7 => c.Imax
  | 8 => c.Trip
  | 9 => c.Vmin
  | 10 => c.Vdark
  | 11 => c.CellMin
  | 12 => c.CellMax
  | 13 => c.CellGap
  | 14 => c.TempMax
  | 15 => c.Coil
  | 16 => c.Ohm
  | 17 => c.SagErr
  | 18 => c.AmpErr
  | 19 => c.Drift
  | _ => 0
def cbA (c : Cfg) : Nat → Int
  | 0 => 1
  | 1 => 1
  | 2 => 1
  | 3 => 1
  | 4 => 1
  | 5 => 1
  | 6 => 0
  | 7 => 1
  | 8 => 1
  | 9 => 1
  | 10 => 1
  | 11 => 0
  | 12 => c.CellMin
  | 13 => 0
  | 14 => -500
  | 15 => 1
  | 16 => 0
  | 17 => 0
  | 18 => 0
  | 19 => 0
  | _ => 0
def cbB (c : Cfg) : Nat → Int
  | 0 => 100
  | 1 => 100
  | 2 => 100
  | 3 => 100
  | 4 => 100
  | 5 => 1073741824
  | 6 => c.Cap
  | 7 => 500000
  | 8 => 500000
  | 9 => 60000
  | 10 => 60000
  | 11 => 6000
  | 12 => 6000
  | 13 => 6000
  | 14 => 1500
  | 15 => 30000
  | 16 => 100000
  | 17 => 60000
  | 18 => 500000
  | 19 => 1073741824
  | _ => 0
theorem cb_br (c : Cfg) : Br (.cells (I64 (c.D) :: I64 (1) :: I64 (100) :: I64 (c.B) :: I64 (1) :: I64 (100) :: I64 (c.S) :: I64 (1) :: I64 (100) :: I64 (c.P) :: I64 (1) :: I64 (100) :: I64 (c.H) :: I64 (1) :: I64 (100) :: I64 (c.Cap) :: I64 (1) :: I64 (1073741824) :: I64 (c.Qmin) :: I64 (0) :: I64 (c.Cap) :: I64 (c.Imax) :: I64 (1) :: I64 (500000) :: I64 (c.Trip) :: I64 (1) :: I64 (500000) :: I64 (c.Vmin) :: I64 (1) :: I64 (60000) :: I64 (c.Vdark) :: I64 (1) :: I64 (60000) :: I64 (c.CellMin) :: I64 (0) :: I64 (6000) :: I64 (c.CellMax) :: I64 (c.CellMin) :: I64 (6000) :: I64 (c.CellGap) :: I64 (0) :: I64 (6000) :: I64 (c.TempMax) :: I64 (-500) :: I64 (1500) :: I64 (c.Coil) :: I64 (1) :: I64 (30000) :: I64 (c.Ohm) :: I64 (0) :: I64 (100000) :: I64 (c.SagErr) :: I64 (0) :: I64 (60000) :: I64 (c.AmpErr) :: I64 (0) :: I64 (500000) :: I64 (c.Drift) :: I64 (0) :: I64 (1073741824) :: []) 237) 0 20 (cbN c) (cbA c) (cbB c) := ⟨fun i hi => by
  match i, hi with
  | 0, _ => exact rfl
  | 1, _ => exact rfl
  | 2, _ => exact rfl
  | 3, _ => exact rfl
  | 4, _ => exact rfl
  | 5, _ => exact rfl
  | 6, _ => exact rfl
  | 7, _ => exact rfl
  | 8, _ => exact rfl
  | 9, _ => exact rfl
  | 10, _ => exact rfl
  | 11, _ => exact rfl
  | 12, _ => exact rfl
  | 13, _ => exact rfl
  | 14, _ => exact rfl
  | 15, _ => exact rfl
  | 16, _ => exact rfl
  | 17, _ => exact rfl
  | 18, _ => exact rfl
  | 19, _ => exact rfl
  | i + 20, h => exact absurd h (by omega)⟩
def ceN (c : Cfg) : Nat → Int
  | 0 => c.GenMax
  | 1 => c.BatMax
  | 2 => c.ExtMax
  | 3 => c.Eland
  | 4 => c.Margin
  | _ => 0
def ceA (c : Cfg) : Nat → Int
  | 0 => 0
  | 1 => 0
  | 2 => 0
  | 3 => 0
  | 4 => c.Imax
  | _ => 0
def ceB (c : Cfg) : Nat → Int
  | 0 => 1073741824
  | 1 => 1073741824
  | 2 => 1073741824
  | 3 => 1073741824
  | 4 => 1073741824
  | _ => 0
theorem ce_br (c : Cfg) : Br (.cells (I64 (c.GenMax) :: I64 (0) :: I64 (1073741824) :: I64 (c.BatMax) :: I64 (0) :: I64 (1073741824) :: I64 (c.ExtMax) :: I64 (0) :: I64 (1073741824) :: I64 (c.Eland) :: I64 (0) :: I64 (1073741824) :: I64 (c.Margin) :: I64 (c.Imax) :: I64 (1073741824) :: []) 237) 0 5 (ceN c) (ceA c) (ceB c) := ⟨fun i hi => by
  match i, hi with
  | 0, _ => exact rfl
  | 1, _ => exact rfl
  | 2, _ => exact rfl
  | 3, _ => exact rfl
  | 4, _ => exact rfl
  | i + 5, h => exact absurd h (by omega)⟩
/-- A feeder that may be. -/
def fdOK (U W V : Nat → Int) (i : Nat) : Prop := ¬ U i < 4 ∧ ¬ U i > 6 ∧ (0 ≤ W i ∧ W i ≤ 1073741824) ∧ ¬ V i < 0 ∧ ¬ V i > 100
theorem fd_or {U W V : Nat → Int} {i : Nat} (h : ¬ fdOK U W V i) : U i < 4 ∨ (¬ U i < 4 ∧ U i > 6) ∨ (¬ U i < 4 ∧ ¬ U i > 6 ∧ ¬ (0 ≤ W i ∧ W i ≤ 1073741824)) ∨ (¬ U i < 4 ∧ ¬ U i > 6 ∧ (0 ≤ W i ∧ W i ≤ 1073741824) ∧ V i < 0) ∨ (¬ U i < 4 ∧ ¬ U i > 6 ∧ (0 ≤ W i ∧ W i ≤ 1073741824) ∧ ¬ V i < 0 ∧ V i > 100) := by
  unfold fdOK at h; omega

set_option maxHeartbeats 4000000 in
theorem feeders_ok {ob : AObj} {k f n cap : Nat} {a : Option Addr} {U W V : Nat → Int} (br : Br ob f n U W V) (ha : 0 < n → a = some ⟨k, f, none⟩) (hn : n ≤ 1000000) (hg : ∀ i, i < n → fdOK U W V i) (h16 : n ≤ 16) : Ctr Tryz.prog 7 99 [.slice a n cap] [(k, ob)] (.bool true) [ob] := by
  refine Ctr.by layOk Tryz.func99 Tryz.ntmps99 rfl rfl rfl rfl rfl ?_
  repeat' (first
    | ((with_reducible apply gQ0); (first | (apply q_move; apply Eq.refl) | (apply q_assign; apply Eq.refl) | (apply q_len layOk; (iterate 4 apply Eq.refl))))
    | ((with_reducible apply gR); (first | refine RK.peelN rfl ?_ | refine RK.donef rfl ⟨_, rfl, ?_⟩))
    | ((with_reducible apply gW); (first | with_reducible apply WP.seq | refine WP.reg mixed (fun ks => _) (fun ks => rfl) (fun ks => ?_) | apply WP.block))
    | (with_reducible apply thn_n))
  refine WP.loopI (n := 43) (α := Nat) (fun x => [(0, some (.slice a n cap)), (5, some (.slice a n cap)), (6, some (I64 (n : Int))), (7, some (I64 (x : Int)))]) (fun x => [(k, ob)]) (fun x => x ≤ n) (fun x => n - x) 0 (Wk.of ⟨rfl, rfl, rfl, rfl, trivial⟩ sb_) (Nat.zero_le _) (fun x ix => ?_)
  have ix : x ≤ n := ix
  by_cases hm : x < n
  · have hx : x < n := by omega
    have hlt : (x : Int) < (n : Int) := by omega
    have hw := kpB (x := x) (by omega)
    obtain ⟨g1, g2, ⟨g3, g4⟩, g5, g6⟩ := hg x hm
    have g3' : ¬ W x < 0 := by omega
    have g4' : ¬ W x > 1073741824 := by omega
    exact wk_P16_0
  · obtain rfl : x = n := by omega
    have hge : ¬ (x : Int) < (x : Int) := by omega
    have hd : (x : Int) ≤ 16 := by omega
    exact wk_P16_1

set_option maxHeartbeats 4000000 in
theorem feeders_long {ob : AObj} {k f n cap : Nat} {a : Option Addr} {U W V : Nat → Int} (br : Br ob f n U W V) (ha : 0 < n → a = some ⟨k, f, none⟩) (hn : n ≤ 1000000) (hg : ∀ i, i < n → fdOK U W V i) (h16 : 16 < n) : Ctr Tryz.prog 7 99 [.slice a n cap] [(k, ob)] (.bool false) [ob] := by
  refine Ctr.by layOk Tryz.func99 Tryz.ntmps99 rfl rfl rfl rfl rfl ?_
  repeat' (first
    | ((with_reducible apply gQ0); (first | (apply q_move; apply Eq.refl) | (apply q_assign; apply Eq.refl) | (apply q_len layOk; (iterate 4 apply Eq.refl))))
    | ((with_reducible apply gR); (first | refine RK.peelN rfl ?_ | refine RK.donef rfl ⟨_, rfl, ?_⟩))
    | ((with_reducible apply gW); (first | with_reducible apply WP.seq | refine WP.reg mixed (fun ks => _) (fun ks => rfl) (fun ks => ?_) | apply WP.block))
    | (with_reducible apply thn_n))
  refine WP.loopI (n := 43) (α := Nat) (fun x => [(0, some (.slice a n cap)), (5, some (.slice a n cap)), (6, some (I64 (n : Int))), (7, some (I64 (x : Int)))]) (fun x => [(k, ob)]) (fun x => x ≤ n) (fun x => n - x) 0 (Wk.of ⟨rfl, rfl, rfl, rfl, trivial⟩ sb_) (Nat.zero_le _) (fun x ix => ?_)
  have ix : x ≤ n := ix
  by_cases hm : x < n
  · have hx : x < n := by omega
    have hlt : (x : Int) < (n : Int) := by omega
    have hw := kpB (x := x) (by omega)
    obtain ⟨g1, g2, ⟨g3, g4⟩, g5, g6⟩ := hg x hm
    have g3' : ¬ W x < 0 := by omega
    have g4' : ¬ W x > 1073741824 := by omega
    exact wk_P16_0
  · obtain rfl : x = n := by omega
    have hge : ¬ (x : Int) < (x : Int) := by omega
    have hd : ¬ (x : Int) ≤ 16 := by omega
    exact wk_P16_1

set_option maxHeartbeats 4000000 in
theorem feeders_bad {ob : AObj} {k f n cap : Nat} {a : Option Addr} {U W V : Nat → Int} (br : Br ob f n U W V) (ha : 0 < n → a = some ⟨k, f, none⟩) (hn : n ≤ 1000000) (m : Nat) (hmn : m < n) (hg : ∀ i, i < m → fdOK U W V i) (hb : ¬ fdOK U W V m) : Ctr Tryz.prog 7 99 [.slice a n cap] [(k, ob)] (.bool false) [ob] := by
  refine Ctr.by layOk Tryz.func99 Tryz.ntmps99 rfl rfl rfl rfl rfl ?_
  repeat' (first
    | ((with_reducible apply gQ0); (first | (apply q_move; apply Eq.refl) | (apply q_assign; apply Eq.refl) | (apply q_len layOk; (iterate 4 apply Eq.refl))))
    | ((with_reducible apply gR); (first | refine RK.peelN rfl ?_ | refine RK.donef rfl ⟨_, rfl, ?_⟩))
    | ((with_reducible apply gW); (first | with_reducible apply WP.seq | refine WP.reg mixed (fun ks => _) (fun ks => rfl) (fun ks => ?_) | apply WP.block))
    | (with_reducible apply thn_n))
  refine WP.loopI (n := 43) (α := Nat) (fun x => [(0, some (.slice a n cap)), (5, some (.slice a n cap)), (6, some (I64 (n : Int))), (7, some (I64 (x : Int)))]) (fun x => [(k, ob)]) (fun x => x ≤ m) (fun x => m - x) 0 (Wk.of ⟨rfl, rfl, rfl, rfl, trivial⟩ sb_) (Nat.zero_le _) (fun x ix => ?_)
  have ix : x ≤ m := ix
  by_cases hm : x < m
  · have hx : x < n := by omega
    have hlt : (x : Int) < (n : Int) := by omega
    have hw := kpB (x := x) (by omega)
    obtain ⟨g1, g2, ⟨g3, g4⟩, g5, g6⟩ := hg x hm
    have g3' : ¬ W x < 0 := by omega
    have g4' : ¬ W x > 1073741824 := by omega
    exact wk_P16_0
  · obtain rfl : x = m := by omega
    have hx := hmn
    have hlt : (x : Int) < (n : Int) := by omega
    rcases fd_or hb with q | ⟨g1, q⟩ | ⟨g1, g2, q⟩ | ⟨g1, g2, ⟨g3, g4⟩, q⟩ | ⟨g1, g2, ⟨g3, g4⟩, g5, q⟩
    · skip
      exact wk_P16_1
    · skip
      exact wk_P16_1
    · by_cases q1 : W x < 0
      · skip
        exact wk_P16_1
      · have q2 : W x > 1073741824 := by omega
        exact wk_P16_1
    · have g3' : ¬ W x < 0 := by omega
      have g4' : ¬ W x > 1073741824 := by omega
      exact wk_P16_1
    · have g3' : ¬ W x < 0 := by omega
      have g4' : ¬ W x > 1073741824 := by omega
      exact wk_P16_1


set_option maxHeartbeats 4000000 in
theorem ref_bound_t (lo hi x : Int) (h1 : lo ≤ x) (h2 : x ≤ hi) : Ctr Tryz.prog 7 73 [I64 x, I64 lo, I64 hi] [] (.bool true) [] := by
  refine Ctr.by layOk Tryz.func73 Tryz.ntmps73 rfl rfl rfl rfl rfl ?_
  exact wk_P16_1

set_option maxHeartbeats 4000000 in
theorem ref_bound_l (lo hi x : Int) (h1 : ¬ lo ≤ x) : Ctr Tryz.prog 7 73 [I64 x, I64 lo, I64 hi] [] (.bool false) [] := by
  refine Ctr.by layOk Tryz.func73 Tryz.ntmps73 rfl rfl rfl rfl rfl ?_
  exact wk_P16_1

set_option maxHeartbeats 4000000 in
theorem ref_bound_h (lo hi x : Int) (h1 : lo ≤ x) (h2 : ¬ x ≤ hi) : Ctr Tryz.prog 7 73 [I64 x, I64 lo, I64 hi] [] (.bool false) [] := by
  refine Ctr.by layOk Tryz.func73 Tryz.ntmps73 rfl rfl rfl rfl rfl ?_
  exact wk_P16_1
theorem ref_bound_f (lo hi x : Int) (h : ¬ (lo ≤ x ∧ x ≤ hi)) : Ctr Tryz.prog 7 73 [I64 x, I64 lo, I64 hi] [] (.bool false) [] := by
  by_cases h1 : lo ≤ x
  · exact ref_bound_h lo hi x h1 (fun h2 => h ⟨h1, h2⟩)
  · exact ref_bound_l lo hi x h1
end Go.Proofs.YtekcchmnncefhaaGreatDoor
/-! Tables, in plain numbers: lines through points, and where a line has a height. -/
namespace Go.Proofs.YtekcchmnncefhaaGreatDoorAB
set_option linter.unusedVariables false
set_option linter.unusedSimpArgs false
theorem ltge (a b : Int) : a < b ∨ b ≤ a := by omega
structure TOk (n : Nat) (X Y : Nat → Int) : Prop where
  n2 : 2 ≤ n
  n64 : n ≤ 64
  x1 : ∀ i, i < n → -1073741824 ≤ X i
  x2 : ∀ i, i < n → X i ≤ 1073741824
  y1 : ∀ i, i < n → -1073741824 ≤ Y i
  y2 : ∀ i, i < n → Y i ≤ 1073741824
  xs : ∀ i, i + 1 < n → X i < X (i + 1)
  ys : ∀ i, i + 1 < n → Y i ≤ Y (i + 1)
/-- The first place from k on that is not left of x. -/
def fkA (X : Nat → Int) (x : Int) : Nat → Nat → Nat
  | 0, k => k
  | m + 1, k => if X k < x then fkA X x m (k + 1) else k
theorem fkA_spec {X : Nat → Int} {x : Int} : ∀ {m k : Nat}, k ≤ fkA X x m k ∧ fkA X x m k ≤ k + m ∧ (∀ j, k ≤ j → j < fkA X x m k → X j < x) ∧ (fkA X x m k < k + m → x ≤ X (fkA X x m k))
  | 0, k => ⟨Nat.le_refl _, Nat.le_refl _, fun j h1 h2 => by unfold fkA at h2; omega, fun h => by unfold fkA at h; omega⟩
  | m + 1, k => by
    unfold fkA
    split
    · rename_i h
      obtain ⟨a, b, c, d⟩ := fkA_spec (X := X) (x := x) (m := m) (k := k + 1)
      refine ⟨by omega, by omega, fun j h1 h2 => ?_, fun h2 => d (by omega)⟩
      rcases Nat.lt_or_ge k j with h3 | h3
      · exact c j h3 h2
      · obtain rfl : j = k := by omega
        exact h
    · rename_i h
      exact ⟨Nat.le_refl _, by omega, fun j h1 h2 => by omega, fun _ => by omega⟩
def dn (a b : Int) : Int := a / b
def up (a b : Int) : Int := -((-a) / b)
def tLo (n : Nat) (X Y : Nat → Int) (x : Int) : Int :=
  let k := fkA X x n 0
  if k = n then Y (k - 1) else if k = 0 ∨ X k = x then Y k else Y (k - 1) + dn ((Y k - Y (k - 1)) * (x - X (k - 1))) (X k - X (k - 1))
def tHi (n : Nat) (X Y : Nat → Int) (x : Int) : Int :=
  let k := fkA X x n 0
  if k = n then Y (k - 1) else if k = 0 ∨ X k = x then Y k else Y (k - 1) + up ((Y k - Y (k - 1)) * (x - X (k - 1))) (X k - X (k - 1))
section
variable {n : Nat} {X Y : Nat → Int}
theorem TOk.xmono (o : TOk n X Y) : ∀ {j i : Nat}, i ≤ j → j < n → X i ≤ X j ∧ (i < j → X i < X j)
  | 0, i, h, _ => by obtain rfl : i = 0 := by omega
                     exact ⟨Int.le_refl _, fun h => absurd h (Nat.lt_irrefl _)⟩
  | j + 1, i, h, hj => by
    rcases Nat.lt_or_ge i (j + 1) with h1 | h1
    · have h2 := (o.xmono (j := j) (i := i) (by omega) (by omega)).1
      have h3 := o.xs j hj
      exact ⟨by omega, fun _ => by omega⟩
    · obtain rfl : i = j + 1 := by omega
      exact ⟨Int.le_refl _, fun h => absurd h (Nat.lt_irrefl _)⟩
theorem dn_zero {b : Int} : dn 0 b = 0 := by unfold dn; exact Int.zero_ediv _
theorem up_zero {b : Int} : up 0 b = 0 := by unfold up; simp
theorem dn_mul {a b : Int} (h : 0 < b) : dn (a * b) b = a := by unfold dn; exact Int.mul_ediv_cancel _ (by omega)
theorem up_mul {a b : Int} (h : 0 < b) : up (a * b) b = a := by
  unfold up; rw [← Int.neg_mul, Int.mul_ediv_cancel _ (by omega)]; omega
theorem dn_mono {a c b : Int} (h : 0 < b) (hc : a ≤ c) : dn a b ≤ dn c b := by unfold dn; exact Int.ediv_le_ediv h hc
theorem up_mono {a c b : Int} (h : 0 < b) (hc : a ≤ c) : up a b ≤ up c b := by
  unfold up; have := Int.ediv_le_ediv h (show -c ≤ -a by omega); omega
theorem dn_up {a b : Int} (h : 0 < b) : dn a b ≤ up a b ∧ up a b ≤ dn a b + 1 := by
  unfold dn up
  have h1 := Int.mul_ediv_self_le (x := a) (k := b) (by omega)
  have h2 := Int.lt_mul_ediv_self_add (x := a) (k := b) h
  have h3 := Int.mul_ediv_self_le (x := -a) (k := b) (by omega)
  have h4 := Int.lt_mul_ediv_self_add (x := -a) (k := b) h
  generalize a / b = p at *
  generalize -a / b = q at *
  have e1 : b * p + b * q = b * (p + q) := by rw [Int.mul_add]
  constructor
  · have : ¬ (0 < p + q) := fun hh => by
      have := Int.mul_le_mul_of_nonneg_left (show 1 ≤ p + q by omega) (show 0 ≤ b by omega)
      omega
    omega
  · have : ¬ (p + q < -1) := fun hh => by
      have := Int.mul_le_mul_of_nonneg_left (show p + q ≤ -2 by omega) (show 0 ≤ b by omega)
      omega
    omega
/-- Between two points, ends and all. -/
theorem TOk.seg (o : TOk n X Y) {i : Nat} {x : Int} (hi : i + 1 < n) (h1 : X i ≤ x) (h2 : x ≤ X (i + 1)) :
    tLo n X Y x = Y i + dn ((Y (i + 1) - Y i) * (x - X i)) (X (i + 1) - X i) ∧ tHi n X Y x = Y i + up ((Y (i + 1) - Y i) * (x - X i)) (X (i + 1) - X i) := by
  obtain ⟨a, b, c, d⟩ := fkA_spec (X := X) (x := x) (m := n) (k := 0)
  have hw := o.xs i hi
  rcases ltge (X i) x with h3 | h3
  · -- then the place is i + 1
    have hk : fkA X x n 0 = i + 1 := by
      generalize fkA X x n 0 = k at *
      have k1 : i < k := by
        rcases Nat.lt_or_ge i k with h | h
        · exact h
        · have hd := d (by omega)
          have hx := (o.xmono h (by omega)).1
          omega
      have k2 : k ≤ i + 1 := by
        rcases Nat.lt_or_ge (i + 1) k with h | h
        · have hc := c (i + 1) (by omega) h
          omega
        · exact h
      omega
    unfold tLo tHi
    dsimp only
    rw [hk]
    rw [if_neg (show ¬ i + 1 = n by omega), if_neg (show ¬ i + 1 = n by omega)]
    simp only [Nat.add_sub_cancel]
    by_cases he : X (i + 1) = x
    · rw [if_pos (.inr he), if_pos (.inr he), he]
      rw [dn_mul (by omega), up_mul (by omega)]
      omega
    · rw [if_neg (show ¬ (i + 1 = 0 ∨ X (i + 1) = x) by omega), if_neg (show ¬ (i + 1 = 0 ∨ X (i + 1) = x) by omega)]
      exact ⟨rfl, rfl⟩
  · obtain rfl : x = X i := by omega
    have hk : fkA X (X i) n 0 = i := by
      generalize fkA X (X i) n 0 = k at *
      have k1 : i ≤ k := by
        rcases Nat.lt_or_ge k i with h | h
        · have hd := d (by omega)
          have hx := (o.xmono (i := k) (j := i) (by omega) (by omega)).2 h
          omega
        · exact h
      have k2 : k ≤ i := by
        rcases Nat.lt_or_ge i k with h | h
        · have hc := c i (by omega) h
          omega
        · exact h
      omega
    unfold tLo tHi
    dsimp only
    rw [hk]
    rw [if_neg (show ¬ i = n by omega), if_neg (show ¬ i = n by omega), if_pos (.inr rfl), if_pos (.inr rfl), Int.sub_self, Int.mul_zero, dn_zero, up_zero]
    omega
theorem TOk.left (o : TOk n X Y) {x : Int} (h : x ≤ X 0) : tLo n X Y x = Y 0 ∧ tHi n X Y x = Y 0 := by
  obtain ⟨a, b, c, d⟩ := fkA_spec (X := X) (x := x) (m := n) (k := 0)
  have := o.n2
  have hk : fkA X x n 0 = 0 := by
    rcases Nat.eq_zero_or_pos (fkA X x n 0) with h1 | h1
    · exact h1
    · have := c 0 (Nat.le_refl _) h1
      omega
  unfold tLo tHi
  dsimp only
  rw [hk]
  rw [if_neg (show ¬ 0 = n by omega), if_neg (show ¬ 0 = n by omega), if_pos (.inl rfl), if_pos (.inl rfl)]
  exact ⟨rfl, rfl⟩
theorem TOk.right (o : TOk n X Y) {x : Int} (h : X (n - 1) ≤ x) : tLo n X Y x = Y (n - 1) ∧ tHi n X Y x = Y (n - 1) := by
  have hn := o.n2
  rcases ltge (X (n - 1)) x with h3 | h3
  · obtain ⟨a, b, c, d⟩ := fkA_spec (X := X) (x := x) (m := n) (k := 0)
    have hk : fkA X x n 0 = n := by
      generalize fkA X x n 0 = k at *
      rcases Nat.lt_or_ge k n with h1 | h1
      · have hd := d (by omega)
        have := (o.xmono (i := k) (j := n - 1) (by omega) (by omega)).1
        omega
      · omega
    unfold tLo tHi
    dsimp only
    rw [hk]
    rw [if_pos rfl, if_pos rfl]
    exact ⟨rfl, rfl⟩
  · obtain rfl : x = X (n - 1) := by omega
    obtain ⟨e1, e2⟩ := o.seg (i := n - 2) (x := X (n - 1)) (by omega) (by rw [show n - 1 = n - 2 + 1 by omega]; have := o.xs (n - 2) (by omega); omega) (by rw [show n - 2 + 1 = n - 1 by omega]; exact Int.le_refl _)
    rw [e1, e2]
    have hw := o.xs (n - 2) (by omega)
    rw [show n - 2 + 1 = n - 1 by omega] at hw ⊢
    rw [dn_mul (by omega), up_mul (by omega)]
    omega
/-- Where a number is. -/
theorem TOk.where_ (o : TOk n X Y) (x : Int) : x ≤ X 0 ∨ X (n - 1) ≤ x ∨ ∃ i, i + 1 < n ∧ X i ≤ x ∧ x ≤ X (i + 1) ∧ X i < x := by
  obtain ⟨a, b, c, d⟩ := fkA_spec (X := X) (x := x) (m := n) (k := 0)
  have hn := o.n2
  generalize fkA X x n 0 = k at *
  rcases Nat.eq_zero_or_pos k with h | h
  · subst h; exact .inl (d (by omega))
  · rcases Nat.lt_or_ge k n with h2 | h2
    · have h3 := c (k - 1) (by omega) (by omega)
      have h4 := d (by omega)
      exact .inr (.inr ⟨k - 1, by omega, by omega, by rw [show k - 1 + 1 = k by omega]; exact h4, h3⟩)
    · have h3 := c (n - 1) (by omega) (by omega)
      exact .inr (.inl (by omega))
theorem TOk.step (o : TOk n X Y) (x : Int) : tLo n X Y x ≤ tLo n X Y (x + 1) ∧ tHi n X Y x ≤ tHi n X Y (x + 1) := by
  rcases o.where_ (x + 1) with h | h | ⟨i, hi, h1, h2, h3⟩
  · rw [(o.left h).1, (o.left h).2, (o.left (x := x) (by omega)).1, (o.left (x := x) (by omega)).2]; exact ⟨Int.le_refl _, Int.le_refl _⟩
  · rcases ltge x (X (n - 1)) with h4 | h4
    · have hn := o.n2
      have hx := o.xs (n - 2) (by omega)
      rw [show n - 2 + 1 = n - 1 by omega] at hx
      have e1 := o.seg (i := n - 2) (x := x) (by omega) (by omega) (by rw [show n - 2 + 1 = n - 1 by omega]; omega)
      have e2 := o.seg (i := n - 2) (x := x + 1) (by omega) (by omega) (by rw [show n - 2 + 1 = n - 1 by omega]; omega)
      rw [e1.1, e1.2, e2.1, e2.2]
      have hy := o.ys (n - 2) (by omega)
      rw [show n - 2 + 1 = n - 1 by omega] at hy ⊢
      have := Int.mul_le_mul_of_nonneg_left (show x - X (n - 2) ≤ x + 1 - X (n - 2) by omega) (show 0 ≤ Y (n - 1) - Y (n - 2) by omega)
      exact ⟨by have := dn_mono (b := X (n - 1) - X (n - 2)) (by omega) this; omega, by have := up_mono (b := X (n - 1) - X (n - 2)) (by omega) this; omega⟩
    · rw [(o.right h).1, (o.right h).2, (o.right h4).1, (o.right h4).2]; exact ⟨Int.le_refl _, Int.le_refl _⟩
  · have e1 := o.seg (i := i) (x := x) hi (by omega) (by omega)
    have e2 := o.seg (i := i) (x := x + 1) hi (by omega) (by omega)
    rw [e1.1, e1.2, e2.1, e2.2]
    have hy := o.ys i hi
    have hx := o.xs i hi
    have := Int.mul_le_mul_of_nonneg_left (show x - X i ≤ x + 1 - X i by omega) (show 0 ≤ Y (i + 1) - Y i by omega)
    exact ⟨by have := dn_mono (b := X (i + 1) - X i) (by omega) this; omega, by have := up_mono (b := X (i + 1) - X i) (by omega) this; omega⟩
theorem TOk.mono' (o : TOk n X Y) (x : Int) : ∀ d : Nat, tLo n X Y x ≤ tLo n X Y (x + d) ∧ tHi n X Y x ≤ tHi n X Y (x + d)
  | 0 => by rw [show x + ((0 : Nat) : Int) = x by omega]; exact ⟨Int.le_refl _, Int.le_refl _⟩
  | d + 1 => by
    have h1 := o.mono' x d
    have h2 := o.step (x + d)
    rw [show x + ((d + 1 : Nat) : Int) = x + d + 1 by omega]
    omega
theorem TOk.mono (o : TOk n X Y) {x y : Int} (h : x ≤ y) : tLo n X Y x ≤ tLo n X Y y ∧ tHi n X Y x ≤ tHi n X Y y := by
  have := o.mono' x (y - x).toNat
  rw [show x + ((y - x).toNat : Int) = y by omega] at this
  exact this
theorem TOk.apart (o : TOk n X Y) (x : Int) : tLo n X Y x ≤ tHi n X Y x ∧ tHi n X Y x ≤ tLo n X Y x + 1 := by
  rcases o.where_ x with h | h | ⟨i, hi, h1, h2, h3⟩
  · rw [(o.left h).1, (o.left h).2]; omega
  · rw [(o.right h).1, (o.right h).2]; omega
  · have e1 := o.seg hi h1 h2
    rw [e1.1, e1.2]
    have := dn_up (a := (Y (i + 1) - Y i) * (x - X i)) (b := X (i + 1) - X i) (by have := o.xs i hi; omega)
    omega
theorem TOk.hi1 (o : TOk n X Y) (x : Int) : tHi n X Y x ≤ Y (n - 1) := by
  rcases ltge (X (n - 1)) x with h | h
  · rw [(o.right (x := x) (by omega)).2]; exact Int.le_refl _
  · have := (o.mono h).2; rw [(o.right (x := X (n - 1)) (by omega)).2] at this; exact this
open Classical in
theorem TOk.ends (o : TOk n X Y) : X 0 < X (n - 1) := (o.xmono (i := 0) (j := n - 1) (by omega) (by have := o.n2; omega)).2 (by have := o.n2; omega)
end
end Go.Proofs.YtekcchmnncefhaaGreatDoorAB
namespace Go.Proofs.YtekcchmnncefhaaGreatDoor
open Go Go.Proofs.YtekcchmnncefhaaGreatDoorAB
set_option linter.unusedSimpArgs false
set_option linter.unusedVariables false

def inB (x : Int) : Prop := ¬ x < -1073741824 ∧ ¬ x > 1073741824
def goodAt (X Y : Nat → Int) (i : Nat) : Prop := (inB (X i) ∧ inB (Y i)) ∧ ((i : Int) > 0 → ¬ X i ≤ X (i - 1) ∧ ¬ Y i < Y (i - 1))
/-- What is amiss, with no place. -/
inductive Chk | fine | short | long
def IsN (n : Nat) (X Y : Nat → Int) : Chk → Prop
  | .fine => TOk n X Y
  | .short => n < 2
  | .long => 64 < n
/-- What is amiss at a place: 2, out of range; 3, no rise. -/
def IsA (n : Nat) (X Y : Nat → Int) (g m : Nat) : Prop := (2 ≤ n ∧ n ≤ 64) ∧ m < n ∧ (∀ j, j < m → goodAt X Y j) ∧ ((g = 4 ∧ ¬ (inB (X m) ∧ inB (Y m))) ∨ (g = 5 ∧ (inB (X m) ∧ inB (Y m)) ∧ (m : Int) > 0 ∧ (X m ≤ X (m - 1) ∨ Y m < Y (m - 1))))
theorem scan (X Y : Nat → Int) : ∀ n : Nat, (∀ i, i < n → goodAt X Y i) ∨ ∃ m, m < n ∧ (∀ j, j < m → goodAt X Y j) ∧ ¬ goodAt X Y m
  | 0 => .inl fun i h => absurd h (Nat.not_lt_zero i)
  | n + 1 => by
    rcases scan X Y n with h | ⟨m, h1, h2, h3⟩
    · by_cases g : goodAt X Y n
      · refine .inl fun i hi => ?_
        by_cases e : i = n
        · subst e; exact g
        · exact h i (by omega)
      · exact .inr ⟨n, by omega, h, g⟩
    · exact .inr ⟨m, by omega, h2, h3⟩
theorem chk_ex (n : Nat) (X Y : Nat → Int) : (∃ c, IsN n X Y c) ∨ ∃ g m, IsA n X Y g m := by
  by_cases h1 : n < 2
  · exact .inl ⟨.short, h1⟩
  by_cases h2 : 64 < n
  · exact .inl ⟨.long, h2⟩
  rcases scan X Y n with h | ⟨m, h3, h4, h5⟩
  · refine .inl ⟨.fine, ⟨by omega, by omega, fun i hi => ?_, fun i hi => ?_, fun i hi => ?_, fun i hi => ?_, fun i hi => ?_, fun i hi => ?_⟩⟩
    · have := (h i hi).1.1.1; omega
    · have := (h i hi).1.1.2; omega
    · have := (h i hi).1.2.1; omega
    · have := (h i hi).1.2.2; omega
    · have := ((h (i + 1) hi).2 (by omega)).1; rw [Nat.add_sub_cancel] at this; omega
    · have := ((h (i + 1) hi).2 (by omega)).2; rw [Nat.add_sub_cancel] at this; omega
  · by_cases hb : inB (X m) ∧ inB (Y m)
    · by_cases hm : (m : Int) > 0
      · by_cases hu : X m ≤ X (m - 1) ∨ Y m < Y (m - 1)
        · exact .inr ⟨5, m, ⟨by omega, by omega⟩, h3, h4, .inr ⟨rfl, hb, hm, hu⟩⟩
        · exact absurd ⟨hb, fun _ => ⟨fun q => hu (.inl q), fun q => hu (.inr q)⟩⟩ h5
      · exact absurd ⟨hb, fun q => absurd q hm⟩ h5
    · exact .inr ⟨4, m, ⟨by omega, by omega⟩, h3, h4, .inl ⟨rfl, hb⟩⟩
theorem out_or {x : Int} (h : ¬ inB x) : x < -1073741824 ∨ (¬ x < -1073741824 ∧ x > 1073741824) := by unfold inB at h; omega
end Go.Proofs.YtekcchmnncefhaaGreatDoor
namespace Go.Proofs.YtekcchmnncefhaaGreatDoor
open Go Go.Proofs.YtekcchmnncefhaaGreatDoorAB
set_option linter.unusedSimpArgs false
set_option linter.unusedVariables false
theorem km1 {x : Nat} (h : 0 < x) (h2 : x ≤ 64) : IntKind.i64.wrap ((x : Int) - 1) = ((x - 1 : Nat) : Int) := by
  rw [wrap_in (by omega) (by omega)]; omega
theorem kp1 {x : Nat} (h2 : x ≤ 64) : IntKind.i64.wrap ((x : Int) + 1) = ((x + 1 : Nat) : Int) := by
  rw [wrap_in (by omega) (by omega)]; omega
end Go.Proofs.YtekcchmnncefhaaGreatDoor
namespace Go.Proofs.YtekcchmnncefhaaGreatDoor
open Go Go.Proofs.YtekcchmnncefhaaGreatDoorAB
variable {G : Nat}
set_option linter.unusedSimpArgs false
set_option linter.unusedVariables false

theorem tok_lo {n : Nat} {X Y : Nat → Int} (o : TOk n X Y) {x : Nat} (h : x < n) : (¬ X x < -1073741824 ∧ ¬ X x > 1073741824) ∧ (¬ Y x < -1073741824 ∧ ¬ Y x > 1073741824) :=
  ⟨⟨by have := o.x1 x h; omega, by have := o.x2 x h; omega⟩, by have := o.y1 x h; omega, by have := o.y2 x h; omega⟩
theorem tok_up {n : Nat} {X Y : Nat → Int} (o : TOk n X Y) {x : Nat} (h : x < n) (h0 : (x : Int) > 0) : ¬ X x ≤ X (x - 1) ∧ ¬ Y x < Y (x - 1) := by
  have h1 := o.xs (x - 1) (by omega)
  have h2 := o.ys (x - 1) (by omega)
  rw [show x - 1 + 1 = x by omega] at h1 h2
  omega
set_option maxHeartbeats 4000000 in
theorem outside_in (x : Int) (h : ¬ x < -1073741824 ∧ ¬ x > 1073741824) : Ctr Tryz.prog G 113 [I64 (x)] [] (.bool false) [] := by
  refine Ctr.by layOk Tryz.func113 Tryz.ntmps113 rfl rfl rfl rfl rfl ?_
  repeat' (first
    | ((first | (with_reducible apply gQ0) | ((with_reducible apply gQ1); exact wt_)); (first | (apply q_move; apply Eq.refl) | (apply q_assign; apply Eq.refl) | (apply q_int; (iterate 3 apply Eq.refl)) | (apply q_pick_f; apply Eq.refl; apply Eq.refl)))
    | ((with_reducible apply gR); (first | refine RK.peelN rfl ?_ | refine RK.donef rfl ⟨_, rfl, ?_⟩))
    | ((with_reducible apply gQv); focus exact wf_)
    | ((with_reducible apply gK); (fail_if_success ((apply gM); (iterate 3 apply Eq.refl))); ((apply gsD; (iterate 4 apply Eq.refl)) <;> (intro hc; (first | with_reducible exact absurd hc h.1 | skip))))
    | ((with_reducible apply gW); (first | with_reducible apply WP.seq | refine WP.reg mixed (fun ks => _) (fun ks => rfl) (fun ks => ?_) | apply WP.ret))
    | (with_reducible apply thn_n)
    | (refine Endz.mk' en_ rv_ (by first | rfl | (simp [tup, h.1, h.2]; done)) sb_))

set_option maxHeartbeats 8000000 in
theorem table_Check {ob : AObj} {k f n cap : Nat} {X Y : Nat → Int} {a : Option Addr} (tb : Tb ob f n X Y) (ok : TOk n X Y) (ha : 0 < n → a = some ⟨k, f, none⟩) : Ctr Tryz.prog G 97 [.slice a n cap] [(k, ob)] .nilIface [ob] := by
  have hn2' := ok.n2
  have hn64' := ok.n64
  have hn1 : ¬ (n : Int) < 2 := by omega
  have hn2 : ¬ (n : Int) > 64 := by omega
  refine Ctr.by layOk Tryz.func97 Tryz.ntmps97 rfl rfl rfl rfl rfl ?_
  repeat' (first
    | ((with_reducible apply gQ0); (first | (apply q_move; apply Eq.refl) | (apply q_assign; apply Eq.refl) | (apply q_int; (iterate 3 apply Eq.refl)) | (apply q_len layOk; (iterate 4 apply Eq.refl))))
    | ((with_reducible apply gR); (first | refine RK.peelN rfl ?_ | refine RK.donef rfl ⟨_, rfl, ?_⟩))
    | ((with_reducible apply gW); (first | with_reducible apply WP.seq | refine WP.reg mixed (fun ks => _) (fun ks => rfl) (fun ks => ?_) | ((apply cdD; apply Eq.refl) <;> (intro hc; (first | with_reducible exact absurd hc hn1 | with_reducible exact absurd hc hn2 | skip))) | apply WP.skip | apply WP.block))
    | (first | with_reducible apply thn_n | with_reducible apply blk_n))
  refine WP.loopI (n := 65) (α := Nat) (fun x => [(0, some (.slice a n cap)), (15, some (.slice a n cap)), (16, some (I64 (n : Int))), (17, some (I64 (x : Int)))])
    (fun x => [(k, ob)]) (fun x => x ≤ n) (fun x => n - x) 0 (Wk.of ⟨rfl, rfl, rfl, rfl, trivial⟩ (by repeat (first | exact List.nil_sublist _ | exact List.Sublist.refl _ | apply List.Sublist.cons_cons | apply List.Sublist.cons))) (Nat.zero_le _) (fun x ix => ?_)
  by_cases hlt : x < n
  · have hlt' : (x : Int) < (n : Int) := by omega
    have hb := tok_lo ok hlt
    repeat' (first
      | ((first | (with_reducible apply gQ0) | ((with_reducible apply gQ1); exact wt_)); (first | (apply q_loadr layOk; (iterate 3 apply Eq.refl); exact lk_; exact (tb.seg _ hlt)) | (apply q_load layOk; (iterate 3 apply Eq.refl); exact lk_; exact (tb.ax _ (by omega))) | (apply q_load layOk; (iterate 3 apply Eq.refl); exact lk_; exact (tb.ay _ (by omega))) | (apply q_idxN layOk; (iterate 4 apply Eq.refl); exact ha; apply Eq.refl; exact hlt) | (apply q_idxN layOk; (iterate 4 apply Eq.refl); exact ha; exact (km1 (by have h0 : (x : Int) > 0 := (by assumption); omega) (by omega)); (focus (omega))) | (apply q_move; apply Eq.refl) | (apply q_assign; apply Eq.refl) | (apply q_int; (iterate 3 apply Eq.refl)) | (apply q_fa layOk; (iterate 5 apply Eq.refl)) | (apply q_load layOk; (iterate 3 apply Eq.refl); exact lk_; apply Eq.refl) | (apply q_alloc (k := ks _) layOk; apply Eq.refl; exact lk_; apply Eq.refl) | (apply q_pick_t; apply Eq.refl; apply Eq.refl) | (apply q_pick_f; apply Eq.refl; apply Eq.refl) | (apply isF (f := 113); (refine q_call0 rfl (outside_in _ hb.1) ?_)) | (apply isF (f := 113); (refine q_call0 rfl (outside_in _ hb.2) ?_)) | (apply e_store layOk; (iterate 3 apply Eq.refl); exact lk_; (iterate 5 apply Eq.refl))))
      | ((with_reducible apply gR); (first | refine RK.peelN rfl ?_ | refine RK.donef rfl ⟨_, rfl, ?_⟩ | refine RK.donet rfl (by kernel_rfl) ⟨_, rfl, ?_⟩))
      | ((with_reducible apply gQv); focus exact wf_)
      | ((with_reducible apply gK); (fail_if_success ((apply gM); (iterate 3 apply Eq.refl))); ((first | (apply gsD; (iterate 4 apply Eq.refl)) | (apply RKo.gsplit; (iterate 4 apply Eq.refl))) <;> (intro hc; (first | with_reducible exact ff' hc | with_reducible exact absurd hlt' hc | with_reducible exact absurd hc (tok_up ok hlt (by assumption)).1 | with_reducible exact absurd hc (tok_up ok hlt (by assumption)).2 | skip))))
      | ((with_reducible apply gW); (first | with_reducible apply WP.seq | refine WP.reg mixed (fun ks => _) (fun ks => rfl) (fun ks => ?_) | ((first | (apply cdD; apply Eq.refl) | (apply WP.condA; apply Eq.refl)) <;> (intro hc; (first | with_reducible exact ff' hc | with_reducible exact absurd hlt' hc | with_reducible exact absurd hc (tok_up ok hlt (by assumption)).1 | with_reducible exact absurd hc (tok_up ok hlt (by assumption)).2 | skip))) | apply WP.skip | apply WP.block))
      | (first | with_reducible apply thn_n | with_reducible apply blk_n))
    all_goals
      refine ⟨x + 1, hlt, by show n - (x + 1) < n - x; omega, Wk.of ⟨rfl, rfl, rfl, ?_, trivial⟩ (by repeat (first | exact List.nil_sublist _ | exact List.Sublist.refl _ | apply List.Sublist.cons_cons | apply List.Sublist.cons))⟩
      exact congrArg (fun x => some (I64 x)) (kp1 (by omega))
  · have hge : ¬ (x : Int) < (n : Int) := by omega
    repeat' (first
      | ((with_reducible apply gQ0); (first | (apply q_assign; apply Eq.refl) | (apply q_int; (iterate 3 apply Eq.refl))))
      | ((with_reducible apply gR); (first | refine RK.peelN rfl ?_ | refine RK.donef rfl ⟨_, rfl, ?_⟩))
      | ((with_reducible apply gW); (first | with_reducible apply WP.seq | refine WP.reg mixed (fun ks => _) (fun ks => rfl) (fun ks => ?_) | ((apply cdD; apply Eq.refl) <;> (intro hc; (first | with_reducible exact absurd hc hge | skip))) | apply WP.ret | apply WP.exit))
      | (first | with_reducible apply thn_n | with_reducible apply thn_e | with_reducible apply blk_e)
      | (refine Endz.mk' en_ rv_ (by rfl) sb_))
end Go.Proofs.YtekcchmnncefhaaGreatDoor
namespace Go.Proofs.YtekcchmnncefhaaGreatDoor
open Go Go.Proofs.YtekcchmnncefhaaGreatDoorAB
variable {G : Nat}
set_option linter.unusedSimpArgs false
set_option linter.unusedVariables false
set_option maxHeartbeats 4000000 in
theorem wk_DS4_0 {p : Prop} (h : p := by
  repeat' (first
    | ((with_reducible apply gQ0); (first | (apply q_move; apply Eq.refl) | (apply q_int; (iterate 3 apply Eq.refl)) | (apply q_build layOk; (iterate 4 apply Eq.refl)) | (apply q_alloc (k := ks _) layOk; apply Eq.refl; exact lk_; apply Eq.refl) | (apply q_len layOk; (iterate 4 apply Eq.refl)) | (apply isF (f := 41); (refine q_call0 rfl (ref_None ()) ?_)) | (apply e_store layOk; (iterate 3 apply Eq.refl); exact lk_; (iterate 5 apply Eq.refl))))
    | ((with_reducible apply gR); (first | refine RK.peelN rfl ?_ | refine RK.donef rfl ⟨_, rfl, ?_⟩))
    | ((with_reducible apply gW); (first | with_reducible apply WP.seq | refine WP.reg mixed (fun ks => _) (fun ks => rfl) (fun ks => ?_) | ((apply cdD; apply Eq.refl) <;> (intro hc; (first | with_reducible exact absurd hc hge | skip))) | apply WP.ret | apply WP.exit))
    | (first | with_reducible apply thn_n | with_reducible apply thn_e | with_reducible apply blk_e)
    | (refine Endz.mk' en_ rv_ (by rfl) sb_))) : p := h
theorem ref_None (u : Unit) : Ctr Tryz.prog G 41 [] [] (.agg #[I64 0, .bool false, I64 0]) [] := by
  refine Ctr.by layOk Tryz.func41 Tryz.ntmps41 rfl rfl rfl rfl rfl ?_
  exact wk_DS4_0

set_option maxHeartbeats 8000000 in
theorem ref_CheckTable {ob : AObj} {k f n cap : Nat} {X Y : Nat → Int} {a : Option Addr} (tb : Tb ob f n X Y) (ok : TOk n X Y) (ha : 0 < n → a = some ⟨k, f, none⟩) : Ctr Tryz.prog G 74 [.slice a n cap] [(k, ob)] (.agg #[I64 0, .bool false, I64 0]) [ob] := by
  have hn2' := ok.n2
  have hn64' := ok.n64
  have hn1 : ¬ (n : Int) < 2 := by omega
  have hn2 : ¬ (n : Int) > 64 := by omega
  refine Ctr.by layOk Tryz.func74 Tryz.ntmps74 rfl rfl rfl rfl rfl ?_
  repeat' (first
    | ((with_reducible apply gQ0); (first | (apply q_move; apply Eq.refl) | (apply q_assign; apply Eq.refl) | (apply q_int; (iterate 3 apply Eq.refl)) | (apply q_alloc (k := ks _) layOk; apply Eq.refl; exact lk_; apply Eq.refl) | (apply q_len layOk; (iterate 4 apply Eq.refl))))
    | ((with_reducible apply gR); (first | refine RK.peelN rfl ?_ | refine RK.donef rfl ⟨_, rfl, ?_⟩))
    | ((with_reducible apply gW); (first | with_reducible apply WP.seq | refine WP.reg mixed (fun ks => _) (fun ks => rfl) (fun ks => ?_) | ((apply cdD; apply Eq.refl) <;> (intro hc; (first | with_reducible exact absurd hc hn1 | with_reducible exact absurd hc hn2 | skip))) | apply WP.skip | apply WP.block))
    | (with_reducible apply thn_n))
  rename_i r0 r1 c1 r3
  refine WP.loopI (n := 83) (α := Nat) (fun x => [(0, some (.slice a n cap)), (2, some (pP (r0 0))), (3, some (I64 (x : Int)))])
    (fun x => [(k, ob), (r0 0, .cells [I64 0, .bool false, I64 0] 41)]) (fun x => x ≤ n) (fun x => n - x) 0 (Wk.of ⟨rfl, rfl, rfl, trivial⟩ (by repeat (first | exact List.nil_sublist _ | exact List.Sublist.refl _ | apply List.Sublist.cons_cons | apply List.Sublist.cons))) (Nat.zero_le _) (fun x ix => ?_)
  by_cases hlt : x < n
  · have hlt' : (x : Int) < (n : Int) := by omega
    have hb := tok_lo ok hlt
    repeat' (first
      | ((first | (with_reducible apply gQ0) | ((with_reducible apply gQ1); exact wt_)); (first | (apply q_load layOk; (iterate 3 apply Eq.refl); exact lk_; exact (tb.ax _ hlt)) | (apply q_load layOk; (iterate 3 apply Eq.refl); exact lk_; exact (tb.ay _ hlt)) | (apply q_load layOk; (iterate 3 apply Eq.refl); exact lk_; exact (tb.ax _ (by omega))) | (apply q_load layOk; (iterate 3 apply Eq.refl); exact lk_; exact (tb.ay _ (by omega))) | (apply q_idxN layOk; (iterate 4 apply Eq.refl); exact ha; apply Eq.refl; exact hlt) | (apply q_idxN layOk; (iterate 4 apply Eq.refl); exact ha; exact (km1 (by have h0 : (x : Int) > 0 := (by assumption); omega) (by omega)); (focus (omega))) | (apply q_move; apply Eq.refl) | (apply q_assign; apply Eq.refl) | (apply q_int; (iterate 3 apply Eq.refl)) | (apply q_fa layOk; (iterate 5 apply Eq.refl)) | (apply q_pick_t; apply Eq.refl; apply Eq.refl) | (apply q_pick_f; apply Eq.refl; apply Eq.refl) | (apply q_len layOk; (iterate 4 apply Eq.refl))))
      | ((with_reducible apply gR); (first | refine RK.peelN rfl ?_ | refine RK.donef rfl ⟨_, rfl, ?_⟩ | refine RK.donet rfl (by kernel_rfl) ⟨_, rfl, ?_⟩))
      | ((with_reducible apply gQv); focus exact wf_)
      | ((with_reducible apply gK); (fail_if_success ((apply gM); (iterate 3 apply Eq.refl))); ((apply gsD; (iterate 4 apply Eq.refl)) <;> (intro hc; (first | with_reducible exact ff' hc | with_reducible exact absurd hlt' hc | with_reducible exact absurd hc hb.1.1 | with_reducible exact absurd hc hb.1.2 | with_reducible exact absurd hc hb.2.1 | with_reducible exact absurd hc hb.2.2 | with_reducible exact absurd hc (tok_up ok hlt (by assumption)).1 | with_reducible exact absurd hc (tok_up ok hlt (by assumption)).2 | skip))))
      | ((with_reducible apply gW); (first | with_reducible apply WP.seq | refine WP.reg mixed (fun ks => _) (fun ks => rfl) (fun ks => ?_) | ((first | (apply cdD; apply Eq.refl) | (apply WP.condA; apply Eq.refl)) <;> (intro hc; (first | with_reducible exact ff' hc | with_reducible exact absurd hlt' hc | with_reducible exact absurd hc hb.1.1 | with_reducible exact absurd hc hb.1.2 | with_reducible exact absurd hc hb.2.1 | with_reducible exact absurd hc hb.2.2 | with_reducible exact absurd hc (tok_up ok hlt (by assumption)).1 | with_reducible exact absurd hc (tok_up ok hlt (by assumption)).2 | skip))) | apply WP.skip | apply WP.block))
      | (first | with_reducible apply thn_n | with_reducible apply blk_n))
    all_goals
      refine ⟨x + 1, hlt, by show n - (x + 1) < n - x; omega, Wk.of ⟨rfl, rfl, ?_, trivial⟩ (by repeat (first | exact List.nil_sublist _ | exact List.Sublist.refl _ | apply List.Sublist.cons_cons | apply List.Sublist.cons))⟩
      exact congrArg (fun x => some (I64 x)) (kp1 (by omega))
  · have hge : ¬ (x : Int) < (n : Int) := by omega
    exact wk_DS4_0
end Go.Proofs.YtekcchmnncefhaaGreatDoor
namespace Go.Proofs.YtekcchmnncefhaaGreatDoor
open Go Go.Proofs.YtekcchmnncefhaaGreatDoorAB
set_option linter.unusedSimpArgs false
set_option linter.unusedVariables false
set_option maxRecDepth 20000
set_option maxHeartbeats 4000000 in
theorem wk_ET2_0 {p : Prop} (h : p := by
  repeat' (first
    | ((first | (with_reducible apply gQ0) | ((with_reducible apply gQ1); exact wt_)); (first | (apply q_loadr layOk; (iterate 3 apply Eq.refl); exact lk_; exact (tb.seg _ hlt)) | (apply q_idxN layOk; (iterate 4 apply Eq.refl); exact ha; apply Eq.refl; exact hlt) | (apply q_box (ty := 140) (k := kn); apply Eq.refl; exact lk_; apply Eq.refl) | (apply q_mkIface; (focus (kernel_rfl)); apply Eq.refl) | (apply q_load layOk; (iterate 3 apply Eq.refl); exact lk_; exact (tb.ax _ (by omega))) | (apply q_idxN layOk; (iterate 4 apply Eq.refl); exact ha; exact (km1 (by omega) (by omega)); (focus (omega))) | (apply q_load layOk; (iterate 3 apply Eq.refl); exact lk_; exact (tb.ay _ (by omega))) | (apply q_move; apply Eq.refl) | (apply q_assign; apply Eq.refl) | (apply q_int; (iterate 3 apply Eq.refl)) | (apply q_fa layOk; (iterate 5 apply Eq.refl)) | (apply q_load layOk; (iterate 3 apply Eq.refl); exact lk_; apply Eq.refl) | (apply q_build layOk; (iterate 4 apply Eq.refl)) | (apply q_alloc (k := ks _) layOk; apply Eq.refl; exact lk_; apply Eq.refl) | (apply q_pick_t; apply Eq.refl; apply Eq.refl) | (apply q_pick_f; apply Eq.refl; apply Eq.refl) | (apply q_len layOk; (iterate 4 apply Eq.refl)) | (apply isF (f := 113); (refine q_call0 rfl (outside_in _ hX) ?_)) | (apply isF (f := 113); (refine q_call0 rfl (outside_lo _ q) ?_)) | (apply isF (f := 113); (refine q_call0 rfl (outside_hi _ q1 q) ?_)) | (apply isF (f := 113); (refine q_call0 rfl (outside_in _ hb.1) ?_)) | (apply isF (f := 113); (refine q_call0 rfl (outside_in _ hb.2) ?_)) | (apply e_store layOk; (iterate 3 apply Eq.refl); exact lk_; (iterate 5 apply Eq.refl))))
    | ((with_reducible apply gR); (first | refine RK.peelN rfl ?_ | refine RK.donef rfl ⟨_, rfl, ?_⟩ | refine RK.donet rfl (by kernel_rfl) ⟨_, rfl, ?_⟩))
    | ((with_reducible apply gQv); focus exact wf_)
    | ((with_reducible apply gK); (fail_if_success ((apply gM); (iterate 3 apply Eq.refl))); ((first | (apply gsD; (iterate 4 apply Eq.refl)) | (apply RKo.gsplit; (iterate 4 apply Eq.refl))) <;> (intro hc; (first | with_reducible exact absurd hn1 hc | with_reducible exact absurd hc hn1 | with_reducible exact absurd hn2 hc | with_reducible exact ff hc | with_reducible exact ff' hc | with_reducible exact absurd hlt' hc | with_reducible exact absurd hm0 hc | with_reducible exact absurd q1 hc | with_reducible exact absurd hc q1 | with_reducible exact absurd q2 hc | skip))))
    | ((with_reducible apply gW); (first | with_reducible apply WP.seq | refine WP.reg mixed (fun ks => _) (fun ks => rfl) (fun ks => ?_) | ((first | (apply cdD; apply Eq.refl) | (apply WP.condA; apply Eq.refl)) <;> (intro hc; (first | with_reducible exact absurd hn1 hc | with_reducible exact absurd hc hn1 | with_reducible exact absurd hn2 hc | with_reducible exact ff hc | with_reducible exact ff' hc | with_reducible exact absurd hlt' hc | with_reducible exact absurd hm0 hc | with_reducible exact absurd q1 hc | with_reducible exact absurd hc q1 | with_reducible exact absurd q2 hc | skip))) | apply WP.ret | apply WP.skip | apply WP.block))
    | (first | with_reducible apply thn_n | with_reducible apply thn_r | with_reducible apply blk_r)
    | (refine Endz.mk' en_ rv_ (by rfl) sb_))) : p := h
theorem outside_lo (x : Int) (h : x < -1073741824) : Ctr Tryz.prog 7 113 [I64 x] [] (.bool true) [] := by
  refine Ctr.by layOk Tryz.func113 Tryz.ntmps113 rfl rfl rfl rfl rfl ?_
  repeat' (first
    | ((with_reducible apply gQ0); (first | (apply q_move; apply Eq.refl) | (apply q_assign; apply Eq.refl) | (apply q_int; (iterate 3 apply Eq.refl)) | (apply q_pick_t; apply Eq.refl; apply Eq.refl)))
    | ((with_reducible apply gR); (first | refine RK.peelN rfl ?_ | refine RK.donef rfl ⟨_, rfl, ?_⟩))
    | ((with_reducible apply gQv); focus exact wf_)
    | ((with_reducible apply gK); (fail_if_success ((apply gM); (iterate 3 apply Eq.refl))); ((apply gsD; (iterate 4 apply Eq.refl)) <;> (intro hc; (first | with_reducible exact absurd h hc | skip))))
    | ((with_reducible apply gW); (first | with_reducible apply WP.seq | refine WP.reg mixed (fun ks => _) (fun ks => rfl) (fun ks => ?_) | apply WP.ret))
    | (with_reducible apply thn_n)
    | (refine Endz.mk' en_ rv_ (by first | rfl | (simp [tup, h]; done)) sb_))
set_option maxHeartbeats 4000000 in
theorem outside_hi (x : Int) (h : ¬ x < -1073741824) (h2 : x > 1073741824) : Ctr Tryz.prog 7 113 [I64 x] [] (.bool true) [] := by
  refine Ctr.by layOk Tryz.func113 Tryz.ntmps113 rfl rfl rfl rfl rfl ?_
  repeat' (first
    | ((first | (with_reducible apply gQ0) | ((with_reducible apply gQ1); exact wt_)); (first | (apply q_move; apply Eq.refl) | (apply q_assign; apply Eq.refl) | (apply q_int; (iterate 3 apply Eq.refl)) | (apply q_pick_f; apply Eq.refl; apply Eq.refl)))
    | ((with_reducible apply gR); (first | refine RK.peelN rfl ?_ | refine RK.donef rfl ⟨_, rfl, ?_⟩))
    | ((with_reducible apply gQv); focus exact wf_)
    | ((with_reducible apply gK); (fail_if_success ((apply gM); (iterate 3 apply Eq.refl))); ((apply gsD; (iterate 4 apply Eq.refl)) <;> (intro hc; (first | with_reducible exact absurd hc h | skip))))
    | ((with_reducible apply gW); (first | with_reducible apply WP.seq | refine WP.reg mixed (fun ks => _) (fun ks => rfl) (fun ks => ?_) | apply WP.ret))
    | (with_reducible apply thn_n)
    | (refine Endz.mk' en_ rv_ (by first | rfl | (simp [tup, h, h2]; done)) sb_))
/-- An error with no place, as a value. -/
def errN (E O : Nat → Nat) : Chk → Value
  | .fine => .nilIface
  | .short => errG E O 0
  | .long => errG E O 1
def fN : Chk → Value
  | .fine => .agg #[I64 0, .bool false, I64 0]
  | .short => .agg #[I64 103, .bool false, I64 0]
  | .long => .agg #[I64 102, .bool false, I64 0]
def cdG (g : Nat) : Int := if g = 4 then 101 else 105

set_option maxHeartbeats 8000000 in
theorem table_CheckS (E O B : Nat → Nat) {ob : AObj} {k f n cap : Nat} {X Y : Nat → Int} {a : Option Addr} (tb : Tb ob f n X Y) (ha : 0 < n → a = some ⟨k, f, none⟩) (hn : n < 2) : Ctr Tryz.prog 7 97 [.slice a n cap] [(k, ob), (0, .ro 0 [(errG E O 0)]), (1, .ro 0 [(errG E O 1)]), (4, .ro 0 [(errG E O 4)]), (5, .ro 0 [(errG E O 5)])] ((errG E O 0)) [ob, .ro 0 [(errG E O 0)], .ro 0 [(errG E O 1)], .ro 0 [(errG E O 4)], .ro 0 [(errG E O 5)]] := by
  have hn1 : (n : Int) < 2 := by omega
  refine Ctr.by layOk Tryz.func97 Tryz.ntmps97 rfl rfl rfl rfl rfl ?_
  exact wk_ET2_0

set_option maxHeartbeats 8000000 in
theorem table_CheckL (E O B : Nat → Nat) {ob : AObj} {k f n cap : Nat} {X Y : Nat → Int} {a : Option Addr} (tb : Tb ob f n X Y) (ha : 0 < n → a = some ⟨k, f, none⟩) (hn : 64 < n) : Ctr Tryz.prog 7 97 [.slice a n cap] [(k, ob), (0, .ro 0 [(errG E O 0)]), (1, .ro 0 [(errG E O 1)]), (4, .ro 0 [(errG E O 4)]), (5, .ro 0 [(errG E O 5)])] ((errG E O 1)) [ob, .ro 0 [(errG E O 0)], .ro 0 [(errG E O 1)], .ro 0 [(errG E O 4)], .ro 0 [(errG E O 5)]] := by
  have hn1 : ¬ (n : Int) < 2 := by omega
  have hn2 : (n : Int) > 64 := by omega
  refine Ctr.by layOk Tryz.func97 Tryz.ntmps97 rfl rfl rfl rfl rfl ?_
  exact wk_ET2_0

set_option maxHeartbeats 8000000 in
theorem table_CheckA4 (E O B : Nat → Nat) {ob : AObj} {k f n cap : Nat} {X Y : Nat → Int} {a : Option Addr} (tb : Tb ob f n X Y) (ha : 0 < n → a = some ⟨k, f, none⟩) (kn m : Nat) (h : IsA n X Y 4 m) : Ctr Tryz.prog 7 97 [.slice a n cap] [(k, ob), (0, .ro 0 [(errG E O 0)]), (1, .ro 0 [(errG E O 1)]), (4, .ro 0 [(errG E O 4)]), (5, .ro 0 [(errG E O 5)]), (kn, .gone)] (.iface 138 (pP kn)) [ob, .ro 0 [(errG E O 0)], .ro 0 [(errG E O 1)], .ro 0 [(errG E O 4)], .ro 0 [(errG E O 5)], .cells [I64 (m : Int), (errG E O 4)] 140] := by
  obtain ⟨⟨hn1', hn2'⟩, hm, hgood, ⟨_, hbad⟩ | ⟨q, _⟩⟩ := h
  rotate_left
  · exact absurd q (by decide)
  refine Ctr.by layOk Tryz.func97 Tryz.ntmps97 rfl rfl rfl rfl rfl ?_
  have hn1 : ¬ (n : Int) < 2 := by omega
  have hn2 : ¬ (n : Int) > 64 := by omega
  repeat' (first
    | ((with_reducible apply gQ0); (first | (apply q_move; apply Eq.refl) | (apply q_assign; apply Eq.refl) | (apply q_int; (iterate 3 apply Eq.refl)) | (apply q_len layOk; (iterate 4 apply Eq.refl))))
    | ((with_reducible apply gR); (first | refine RK.peelN rfl ?_ | refine RK.donef rfl ⟨_, rfl, ?_⟩))
    | ((with_reducible apply gW); (first | with_reducible apply WP.seq | refine WP.reg mixed (fun ks => _) (fun ks => rfl) (fun ks => ?_) | ((apply cdD; apply Eq.refl) <;> (intro hc; (first | with_reducible exact absurd hc hn1 | with_reducible exact absurd hc hn2 | skip))) | apply WP.skip | apply WP.block))
    | (first | with_reducible apply thn_n | with_reducible apply blk_n))
  refine WP.loopI (n := 65) (α := Nat) (fun x => [(0, some (.slice a n cap)), (15, some (.slice a n cap)), (16, some (I64 (n : Int))), (17, some (I64 (x : Int)))])
    (fun x => [(k, ob), (0, .ro 0 [(errG E O 0)]), (1, .ro 0 [(errG E O 1)]), (4, .ro 0 [(errG E O 4)]), (5, .ro 0 [(errG E O 5)]), (kn, .gone)]) (fun x => x ≤ m) (fun x => m - x) 0 (Wk.of ⟨rfl, rfl, rfl, rfl, trivial⟩ (by repeat (first | exact List.nil_sublist _ | exact List.Sublist.refl _ | apply List.Sublist.cons_cons | apply List.Sublist.cons))) (Nat.zero_le _) (fun x ix => ?_)
  have ix : x ≤ m := ix
  have hlt : x < n := by omega
  have hlt' : (x : Int) < (n : Int) := by omega
  by_cases hxm : x < m
  · obtain ⟨hb, gu⟩ := hgood x hxm
    have hb1 := hb.1; have hb2 := hb.2
    repeat' (first
      | ((first | (with_reducible apply gQ0) | ((with_reducible apply gQ1); exact wt_)); (first | (apply q_loadr layOk; (iterate 3 apply Eq.refl); exact lk_; exact (tb.seg _ hlt)) | (apply q_load layOk; (iterate 3 apply Eq.refl); exact lk_; exact (tb.ax _ (by omega))) | (apply q_load layOk; (iterate 3 apply Eq.refl); exact lk_; exact (tb.ay _ (by omega))) | (apply q_idxN layOk; (iterate 4 apply Eq.refl); exact ha; apply Eq.refl; exact hlt) | (apply q_idxN layOk; (iterate 4 apply Eq.refl); exact ha; exact (km1 (by have h0 : (x : Int) > 0 := (by assumption); omega) (by omega)); (focus (omega))) | (apply q_move; apply Eq.refl) | (apply q_assign; apply Eq.refl) | (apply q_int; (iterate 3 apply Eq.refl)) | (apply q_fa layOk; (iterate 5 apply Eq.refl)) | (apply q_load layOk; (iterate 3 apply Eq.refl); exact lk_; apply Eq.refl) | (apply q_alloc (k := ks _) layOk; apply Eq.refl; exact lk_; apply Eq.refl) | (apply q_pick_t; apply Eq.refl; apply Eq.refl) | (apply q_pick_f; apply Eq.refl; apply Eq.refl) | (apply isF (f := 113); (refine q_call0 rfl (outside_in _ hb1) ?_)) | (apply isF (f := 113); (refine q_call0 rfl (outside_in _ hb2) ?_)) | (apply e_store layOk; (iterate 3 apply Eq.refl); exact lk_; (iterate 5 apply Eq.refl))))
      | ((with_reducible apply gR); (first | refine RK.peelN rfl ?_ | refine RK.donef rfl ⟨_, rfl, ?_⟩ | refine RK.donet rfl (by kernel_rfl) ⟨_, rfl, ?_⟩))
      | ((with_reducible apply gQv); focus exact wf_)
      | ((with_reducible apply gK); (fail_if_success ((apply gM); (iterate 3 apply Eq.refl))); ((first | (apply gsD; (iterate 4 apply Eq.refl)) | (apply RKo.gsplit; (iterate 4 apply Eq.refl))) <;> (intro hc; (first | with_reducible exact ff' hc | with_reducible exact absurd hlt' hc | with_reducible exact absurd hc (gu (by assumption)).1 | with_reducible exact absurd hc (gu (by assumption)).2 | skip))))
      | ((with_reducible apply gW); (first | with_reducible apply WP.seq | refine WP.reg mixed (fun ks => _) (fun ks => rfl) (fun ks => ?_) | ((first | (apply cdD; apply Eq.refl) | (apply WP.condA; apply Eq.refl)) <;> (intro hc; (first | with_reducible exact ff' hc | with_reducible exact absurd hlt' hc | with_reducible exact absurd hc (gu (by assumption)).1 | with_reducible exact absurd hc (gu (by assumption)).2 | skip))) | apply WP.skip | apply WP.block))
      | (first | with_reducible apply thn_n | with_reducible apply blk_n))
    all_goals
      refine ⟨x + 1, hxm, by show m - (x + 1) < m - x; omega, Wk.of ⟨rfl, rfl, rfl, ?_, trivial⟩ (by repeat (first | exact List.nil_sublist _ | exact List.Sublist.refl _ | apply List.Sublist.cons_cons | apply List.Sublist.cons))⟩
      exact congrArg (fun x => some (I64 x)) (kp1 (by omega))
  · obtain rfl : x = m := by omega
    by_cases hX : inB (X x)
    · by_cases hY : inB (Y x)
      · exact absurd ⟨hX, hY⟩ hbad
      · rcases out_or hY with q | ⟨q1, q⟩
        · skip
          exact wk_ET2_0
        · skip
          exact wk_ET2_0
    · rcases out_or hX with q | ⟨q1, q⟩
      · skip
        exact wk_ET2_0
      · skip
        exact wk_ET2_0



set_option maxHeartbeats 8000000 in
theorem table_CheckA5 (E O B : Nat → Nat) {ob : AObj} {k f n cap : Nat} {X Y : Nat → Int} {a : Option Addr} (tb : Tb ob f n X Y) (ha : 0 < n → a = some ⟨k, f, none⟩) (kn m : Nat) (h : IsA n X Y 5 m) : Ctr Tryz.prog 7 97 [.slice a n cap] [(k, ob), (0, .ro 0 [(errG E O 0)]), (1, .ro 0 [(errG E O 1)]), (4, .ro 0 [(errG E O 4)]), (5, .ro 0 [(errG E O 5)]), (kn, .gone)] (.iface 138 (pP kn)) [ob, .ro 0 [(errG E O 0)], .ro 0 [(errG E O 1)], .ro 0 [(errG E O 4)], .ro 0 [(errG E O 5)], .cells [I64 (m : Int), (errG E O 5)] 140] := by
  obtain ⟨⟨hn1', hn2'⟩, hm, hgood, ⟨q, _⟩ | ⟨_, hb, hm0, hup⟩⟩ := h
  · exact absurd q (by decide)
  refine Ctr.by layOk Tryz.func97 Tryz.ntmps97 rfl rfl rfl rfl rfl ?_
  have hn1 : ¬ (n : Int) < 2 := by omega
  have hn2 : ¬ (n : Int) > 64 := by omega
  repeat' (first
    | ((with_reducible apply gQ0); (first | (apply q_move; apply Eq.refl) | (apply q_assign; apply Eq.refl) | (apply q_int; (iterate 3 apply Eq.refl)) | (apply q_len layOk; (iterate 4 apply Eq.refl))))
    | ((with_reducible apply gR); (first | refine RK.peelN rfl ?_ | refine RK.donef rfl ⟨_, rfl, ?_⟩))
    | ((with_reducible apply gW); (first | with_reducible apply WP.seq | refine WP.reg mixed (fun ks => _) (fun ks => rfl) (fun ks => ?_) | ((apply cdD; apply Eq.refl) <;> (intro hc; (first | with_reducible exact absurd hc hn1 | with_reducible exact absurd hc hn2 | skip))) | apply WP.skip | apply WP.block))
    | (first | with_reducible apply thn_n | with_reducible apply blk_n))
  refine WP.loopI (n := 65) (α := Nat) (fun x => [(0, some (.slice a n cap)), (15, some (.slice a n cap)), (16, some (I64 (n : Int))), (17, some (I64 (x : Int)))])
    (fun x => [(k, ob), (0, .ro 0 [(errG E O 0)]), (1, .ro 0 [(errG E O 1)]), (4, .ro 0 [(errG E O 4)]), (5, .ro 0 [(errG E O 5)]), (kn, .gone)]) (fun x => x ≤ m) (fun x => m - x) 0 (Wk.of ⟨rfl, rfl, rfl, rfl, trivial⟩ (by repeat (first | exact List.nil_sublist _ | exact List.Sublist.refl _ | apply List.Sublist.cons_cons | apply List.Sublist.cons))) (Nat.zero_le _) (fun x ix => ?_)
  have ix : x ≤ m := ix
  have hlt : x < n := by omega
  have hlt' : (x : Int) < (n : Int) := by omega
  by_cases hxm : x < m
  · obtain ⟨hb, gu⟩ := hgood x hxm
    have hb1 := hb.1; have hb2 := hb.2
    repeat' (first
      | ((first | (with_reducible apply gQ0) | ((with_reducible apply gQ1); exact wt_)); (first | (apply q_loadr layOk; (iterate 3 apply Eq.refl); exact lk_; exact (tb.seg _ hlt)) | (apply q_load layOk; (iterate 3 apply Eq.refl); exact lk_; exact (tb.ax _ (by omega))) | (apply q_load layOk; (iterate 3 apply Eq.refl); exact lk_; exact (tb.ay _ (by omega))) | (apply q_idxN layOk; (iterate 4 apply Eq.refl); exact ha; apply Eq.refl; exact hlt) | (apply q_idxN layOk; (iterate 4 apply Eq.refl); exact ha; exact (km1 (by have h0 : (x : Int) > 0 := (by assumption); omega) (by omega)); (focus (omega))) | (apply q_move; apply Eq.refl) | (apply q_assign; apply Eq.refl) | (apply q_int; (iterate 3 apply Eq.refl)) | (apply q_fa layOk; (iterate 5 apply Eq.refl)) | (apply q_load layOk; (iterate 3 apply Eq.refl); exact lk_; apply Eq.refl) | (apply q_alloc (k := ks _) layOk; apply Eq.refl; exact lk_; apply Eq.refl) | (apply q_pick_t; apply Eq.refl; apply Eq.refl) | (apply q_pick_f; apply Eq.refl; apply Eq.refl) | (apply isF (f := 113); (refine q_call0 rfl (outside_in _ hb1) ?_)) | (apply isF (f := 113); (refine q_call0 rfl (outside_in _ hb2) ?_)) | (apply e_store layOk; (iterate 3 apply Eq.refl); exact lk_; (iterate 5 apply Eq.refl))))
      | ((with_reducible apply gR); (first | refine RK.peelN rfl ?_ | refine RK.donef rfl ⟨_, rfl, ?_⟩ | refine RK.donet rfl (by kernel_rfl) ⟨_, rfl, ?_⟩))
      | ((with_reducible apply gQv); focus exact wf_)
      | ((with_reducible apply gK); (fail_if_success ((apply gM); (iterate 3 apply Eq.refl))); ((first | (apply gsD; (iterate 4 apply Eq.refl)) | (apply RKo.gsplit; (iterate 4 apply Eq.refl))) <;> (intro hc; (first | with_reducible exact ff' hc | with_reducible exact absurd hlt' hc | with_reducible exact absurd hc (gu (by assumption)).1 | with_reducible exact absurd hc (gu (by assumption)).2 | skip))))
      | ((with_reducible apply gW); (first | with_reducible apply WP.seq | refine WP.reg mixed (fun ks => _) (fun ks => rfl) (fun ks => ?_) | ((first | (apply cdD; apply Eq.refl) | (apply WP.condA; apply Eq.refl)) <;> (intro hc; (first | with_reducible exact ff' hc | with_reducible exact absurd hlt' hc | with_reducible exact absurd hc (gu (by assumption)).1 | with_reducible exact absurd hc (gu (by assumption)).2 | skip))) | apply WP.skip | apply WP.block))
      | (first | with_reducible apply thn_n | with_reducible apply blk_n))
    all_goals
      refine ⟨x + 1, hxm, by show m - (x + 1) < m - x; omega, Wk.of ⟨rfl, rfl, rfl, ?_, trivial⟩ (by repeat (first | exact List.nil_sublist _ | exact List.Sublist.refl _ | apply List.Sublist.cons_cons | apply List.Sublist.cons))⟩
      exact congrArg (fun x => some (I64 x)) (kp1 (by omega))
  · obtain rfl : x = m := by omega
    by_cases q1 : X x ≤ X (x - 1)
    · skip
      exact wk_ET2_0
    · have q2 : Y x < Y (x - 1) := by rcases hup with q | q; exact absurd q q1; exact q
      exact wk_ET2_0



theorem table_CheckN (E O B : Nat → Nat) {ob : AObj} {k f n cap : Nat} {X Y : Nat → Int} {a : Option Addr} (tb : Tb ob f n X Y) (ha : 0 < n → a = some ⟨k, f, none⟩) (c : Chk) (h : IsN n X Y c) : Ctr Tryz.prog 7 97 [.slice a n cap] [(k, ob), (0, .ro 0 [(errG E O 0)]), (1, .ro 0 [(errG E O 1)]), (4, .ro 0 [(errG E O 4)]), (5, .ro 0 [(errG E O 5)])] (errN E O c) [ob, .ro 0 [(errG E O 0)], .ro 0 [(errG E O 1)], .ro 0 [(errG E O 4)], .ro 0 [(errG E O 5)]] := by
  cases c with
  | fine => exact ((((table_Check tb h ha).more (0, .ro 0 [(errG E O 0)])).more (1, .ro 0 [(errG E O 1)])).more (4, .ro 0 [(errG E O 4)])).more (5, .ro 0 [(errG E O 5)])
  | short => exact table_CheckS E O B tb ha h
  | long => exact table_CheckL E O B tb ha h
theorem isA_g {n : Nat} {X Y : Nat → Int} {g m : Nat} (h : IsA n X Y g m) : g = 4 ∨ g = 5 := by
  rcases h.2.2.2 with ⟨q, _⟩ | ⟨q, _⟩
  · exact .inl q
  · exact .inr q
theorem table_CheckA (E O B : Nat → Nat) {ob : AObj} {k f n cap : Nat} {X Y : Nat → Int} {a : Option Addr} (tb : Tb ob f n X Y) (ha : 0 < n → a = some ⟨k, f, none⟩) (kn g m : Nat) (h : IsA n X Y g m) : Ctr Tryz.prog 7 97 [.slice a n cap] [(k, ob), (0, .ro 0 [(errG E O 0)]), (1, .ro 0 [(errG E O 1)]), (4, .ro 0 [(errG E O 4)]), (5, .ro 0 [(errG E O 5)]), (kn, .gone)] (.iface 138 (pP kn)) [ob, .ro 0 [(errG E O 0)], .ro 0 [(errG E O 1)], .ro 0 [(errG E O 4)], .ro 0 [(errG E O 5)], .cells [I64 (m : Int), errG E O g] 140] := by
  rcases isA_g h with rfl | rfl
  · exact table_CheckA4 E O B tb ha kn m h
  · exact table_CheckA5 E O B tb ha kn m h
end Go.Proofs.YtekcchmnncefhaaGreatDoor
