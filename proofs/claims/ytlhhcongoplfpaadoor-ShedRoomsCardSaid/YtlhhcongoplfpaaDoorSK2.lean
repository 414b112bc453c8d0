/- What functions of this program do, each as a contract that its callers use, and what follows of it in plain numbers.
   By an AI agent. -/
import Derived.Test.YtlhhcongoplfpaaDoorDLO
import Derived.Test.YtlhhcongoplfpaaDoorSK1
namespace Go.Proofs.YtlhhcongoplfpaaDoor
open Go Go.Proofs.YtlhhcongoplfpaaDoorAB
set_option linter.unusedSimpArgs false
set_option linter.unusedVariables false

/-- The example's configuration. -/
def c1 (k1 kf : Nat) : Cfg := { cfgOf 0 0 0 (some ⟨k1, 0, none⟩) none 0 0 with H := 1, fdA := some ⟨kf, 0, none⟩, fdL := 1, fdC := 1 }
theorem fr1 (k1 kf : Nat) : Fr (.cells [nI 4, I64 5, I64 0] 97) (c1 k1 kf).fdL (fun _ => 4) (fun _ => 5) (fun _ => 0) := by
  refine ⟨fun i h => ?_, fun i h => ?_, fun i h => ?_, fun i h => ?_⟩ <;> (match i, (show i < 1 from h) with | 0, _ => rfl)
theorem capOf1 (k1 kf : Nat) : capOf (c1 k1 kf) = capOf (c1 0 0) := by
  funext s
  match s with
  | 0 => rfl
  | 1 => rfl
  | 2 => rfl
  | 3 => rfl
  | s + 4 => rfl
theorem want1 (k1 kf : Nat) : wantN (c1 k1 kf) (fun _ => 4) (fun _ => 5) (fun _ => 0) 1 0 false = 1 := by
  unfold wantN; rw [capOf1]; show (wantL (srcF (fun _ => 4) 1) (fun _ => 5) (capOf (c1 0 0)) (sortN (fun _ => 0) (ordN (okW 0 false fun _ => 0) 1))).2 = 1
  decide +kernel
theorem want0 (k1 kf : Nat) : wantN (c1 k1 kf) (fun _ => 4) (fun _ => 5) (fun _ => 0) 0 0 false = 0 := by
  unfold wantN; rw [capOf1]; show (wantL (srcF (fun _ => 4) 0) (fun _ => 5) (capOf (c1 0 0)) (sortN (fun _ => 0) (ordN (okW 0 false fun _ => 0) 1))).2 = 0
  decide +kernel
theorem Want_1 (k1 kf : Nat) : Ctr Tryd.prog 6 66 [.agg ⟨(c1 k1 kf).cells⟩, I64 1, I64 0, .bool false] [(5, .ro 0 tzv), (kf, .cells [nI 4, I64 5, I64 0] 97)] (I64 1) [.ro 0 tzv, .cells [nI 4, I64 5, I64 0] 97] := by
  have h := shed_Want (fr1 k1 kf) (kf := kf) (fun _ => rfl) (show 1 ≤ 7 by decide) (fun i _ => ⟨by decide, by decide⟩) 1 0 false
  rw [want1] at h; exact h
theorem Want_0 (k1 kf : Nat) : Ctr Tryd.prog 6 66 [.agg ⟨(c1 k1 kf).cells⟩, I64 0, I64 0, .bool false] [(5, .ro 0 tzv), (kf, .cells [nI 4, I64 5, I64 0] 97)] (I64 0) [.ro 0 tzv, .cells [nI 4, I64 5, I64 0] 97] := by
  have h := shed_Want (fr1 k1 kf) (kf := kf) (fun _ => rfl) (show 1 ≤ 7 by decide) (fun i _ => ⟨by decide, by decide⟩) 0 0 false
  rw [want0] at h; exact h
theorem Step_1 (p q : Nat) : Ctr Tryd.prog 6 68 [.pointer (some ⟨p, 0, none⟩), I64 1] [(p, .cells [I64 1, .slice (some ⟨q, 0, none⟩) 1 1, I64 ((0 : Nat) : Int)] 150), (q, .cells (lm (fun _ => 0) 1) 3)] (I64 1) [.cells [I64 1, .slice (some ⟨q, 0, none⟩) 1 1, I64 1] 150, .cells (lm (kTurns 1 (tB 1) (fun _ => 0, 0) 1).1 1) 3] := by
  have h := keeper_Step p q 1 1 (by decide) (fun _ => 0) 0 (by decide) 1
  rw [show (kTurns 1 (tB 1) (fun _ => 0, 0) 1).2 = 1 by decide +kernel] at h; exact h
theorem New_1 (k1 kf p q : Nat) : Ctr Tryd.prog 6 67 [.agg ⟨(c1 k1 kf).cells⟩] [(p, .gone), (q, .gone)] (.pointer (some ⟨p, 0, none⟩)) [.cells [I64 1, .slice (some ⟨q, 0, none⟩) 1 1, I64 ((0 : Nat) : Int)] 150, .cells (lm (fun _ => 0) 1) 3] := keeper_New (c1 k1 kf) (show 1 ≤ 7 by decide) p q
set_option maxHeartbeats 4000000 in
theorem first25 (u : Unit) : Ctr Tryd.prog 6 65 [] [(5, .ro 0 tzv)] (.bool true) [.ro 0 tzv] := by
  refine Ctr.by layOk Tryd.func65 Tryd.ntmps65 rfl rfl rfl rfl rfl ?_
  repeat' (first
    | (((first | (with_reducible refine gQ0 ?_) | ((with_reducible refine gQ1 ?_ ?_); (focus (apply wg (r := true); (iterate 6 apply Eq.refl))))); (first | ((with_reducible apply q_buildS (k := ks _) layOk); (iterate 8 apply Eq.refl); (focus (repeat (with_reducible (first | apply lh | apply lt)))); apply Eq.refl) | ((with_reducible apply q_move); apply Eq.refl) | ((with_reducible apply q_assign); apply Eq.refl) | ((with_reducible apply q_int); (iterate 3 apply Eq.refl)) | ((with_reducible apply q_fa layOk); (iterate 5 apply Eq.refl)) | ((with_reducible apply q_load layOk); (iterate 3 apply Eq.refl); (focus (repeat (with_reducible (first | apply lh | apply lt)))); apply Eq.refl) | ((with_reducible apply q_loadr layOk); (iterate 3 apply Eq.refl); (focus (repeat (with_reducible (first | apply lh | apply lt)))); apply Eq.refl) | ((with_reducible apply q_build layOk); (iterate 4 apply Eq.refl)) | ((with_reducible apply q_alloc (k := ks _) layOk); apply Eq.refl; (focus (repeat (with_reducible (first | apply lh | apply lt)))); apply Eq.refl) | ((with_reducible apply q_pick_t); (iterate 2 apply Eq.refl)) | ((with_reducible apply q_pick_f); (iterate 2 apply Eq.refl)) | ((with_reducible apply q_nenil); (focus (kernel_rfl)); (iterate 2 apply Eq.refl)) | ((with_reducible apply isF (f := 41)); (refine q_call1 rfl (make_Config0 0 0 0 (ks _) cnt0) (by first | (focus ((repeat (with_reducible (first | apply lh | apply lt))); done)) | (focus (apply lx; (focus (repeat (with_reducible (first | apply lh | apply lt)))); exact rfl))) (by exact rfl) ?_)) | (refine q_callW rfl (New_1 _ _ (ks 0) (ks 1)) (by repeat (first | exact Fd.nil | apply Fd.cons | (focus ((repeat (with_reducible (first | apply lh | apply lt))); done)) | (focus (apply lx; (focus (repeat (with_reducible (first | apply lh | apply lt)))); exact rfl)))) (by decide) rfl (by exact rfl) ?_) | (refine q_callR rfl (Want_1 _ _) rfl (by repeat (first | exact Fd.nil | apply Fd.cons | (focus ((repeat (with_reducible (first | apply lh | apply lt))); done)) | (focus (apply lx; (focus (repeat (with_reducible (first | apply lh | apply lt)))); exact rfl)))) (by decide) ?_) | (refine q_callR rfl (Want_0 _ _) rfl (by repeat (first | exact Fd.nil | apply Fd.cons | (focus ((repeat (with_reducible (first | apply lh | apply lt))); done)) | (focus (apply lx; (focus (repeat (with_reducible (first | apply lh | apply lt)))); exact rfl)))) (by decide) ?_) | (refine q_callW rfl (Step_1 _ _) (by repeat (first | exact Fd.nil | apply Fd.cons | (focus ((repeat (with_reducible (first | apply lh | apply lt))); done)) | (focus (apply lx; (focus (repeat (with_reducible (first | apply lh | apply lt)))); exact rfl)))) (by decide) rfl (by exact rfl) ?_) | ((with_reducible apply e_store layOk); (iterate 3 apply Eq.refl); (focus (repeat (with_reducible (first | apply lh | apply lt)))); (iterate 5 apply Eq.refl)))))
    | (((with_reducible refine gR ?_); (first | refine RK.peelN rfl ?_ | refine RK.donef rfl ⟨_, rfl, ?_⟩ | refine RK.donet rfl (by kernel_rfl) ⟨_, rfl, ?_⟩)))
    | ((first | (with_reducible refine gQv ?_ ?_) | (with_reducible refine gQe ?_ ?_)); (focus (first | (apply wg (r := false); (iterate 6 apply Eq.refl)) | (apply wz; (iterate 4 apply Eq.refl)))))
    | ((with_reducible refine gK ?_); ((first | (apply gsD; (iterate 4 apply Eq.refl)) | (apply RKo.gsplitE; (iterate 4 apply Eq.refl)) | (apply RKo.gsplitN; (iterate 4 apply Eq.refl)) | (apply RKo.gsplit; (iterate 4 apply Eq.refl))) <;> (intro hc; first | with_reducible exact ff hc | with_reducible exact ff' hc | exact absurd hc (by decide) | exact absurd rfl hc | skip)))
    | (((with_reducible refine gW ?_); (first | with_reducible refine WP.seq ?_ | refine WP.reg mixed (fun ks => _) (fun ks => rfl) (fun ks => ?_) | ((first | (apply cdD; apply Eq.refl) | (apply WP.condE; apply Eq.refl) | (apply WP.condN; apply Eq.refl) | (apply WP.condA; apply Eq.refl)) <;> (intro hc; first | with_reducible exact ff hc | with_reducible exact ff' hc | exact absurd hc (by decide) | exact absurd rfl hc | skip)) | refine WP.ret ?_ | refine WP.skip ?_ | refine WP.exit ?_ | refine WP.goto ?_ | refine WP.label ?_ | refine WP.block ?_)))
    | (with_reducible refine thn_n ?_)
    | (with_reducible refine thn_r ?_)
    | (with_reducible refine thn_e ?_)
    | (with_reducible refine thn_g ?_)
    | (with_reducible refine blk_n ?_)
    | (with_reducible refine blk_r ?_)
    | (with_reducible refine blk_e ?_)
    | (with_reducible refine blk_g ?_)
    | (((with_reducible refine blk_o ?_ ?_); first | exact rfl | skip))
    | (refine Endz.mk' (by first | exact Or.inl rfl | exact Or.inr rfl) (by repeat (first | exact RVs.nil | apply RVs.cons | exact RV1.tmp rfl | exact RV1.row rfl rfl rfl (by repeat (first | exact look_here | apply look_there)) (by exact rfl) | exact RV1.cell rfl rfl rfl (by repeat (first | exact look_here | apply look_there)) (by exact rfl))) (by rfl) (by repeat (first | exact List.nil_sublist _ | exact List.Sublist.refl _ | apply List.Sublist.cons_cons | apply List.Sublist.cons))))
end Go.Proofs.YtlhhcongoplfpaaDoor
