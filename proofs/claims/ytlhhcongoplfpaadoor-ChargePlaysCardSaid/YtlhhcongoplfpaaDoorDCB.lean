/- What functions of this program do, each as a contract that its callers use, and what follows of it in plain numbers.
   By an AI agent. -/
import Derived.Test.YtlhhcongoplfpaaDoorAB
import Derived.Test.YtlhhcongoplfpaaDoorDLO
import Derived.Test.YtlhhcongoplfpaaDoorDCA
import Derived.Test.YtlhhcongoplfpaaDoorABM
import Derived.Test.YtlhhcongoplfpaaDoorDSB
namespace Go.Proofs.YtlhhcongoplfpaaDoor
open Go Go.Proofs.YtlhhcongoplfpaaDoorAB
variable {G : Nat}
set_option linter.unusedSimpArgs false
set_option linter.unusedVariables false

/-- A counter behind the vote: as it was, where it meets it; else the vote, a little wider. -/
def stLo (c : Cfg) (lo hi x y : Int) : Int := if mIs lo hi x y = true then lo else mx (mn (wLo x c.Drift) c.Cap) 0
def stHi (c : Cfg) (lo hi x y : Int) : Int := if mIs lo hi x y = true then hi else mx (mn (wHi y c.Drift) c.Cap) 0

set_option maxRecDepth 20000 in
set_option maxHeartbeats 8000000 in
theorem stepN0 (c : Cfg) {ob : AObj} {k f : Nat} {X Y : Nat → Int} (tb : Tb ob f c.ocL X Y) (ok : TOk c.ocL X Y) (ha : 0 < c.ocL → c.ocA = some ⟨k, f, none⟩) (b p q : Nat) (kn : Bool) (lo hi lo1 hi1 lo2 hi2 v a1 a2 : Int) (pv f1 f2 : Bool) (hO : c.Ohm = 20) (h1 : -1000000000 ≤ a1) (h2 : a1 ≤ 1000000000) (v1 : -1000000000 ≤ v) (v2 : v ≤ 1000000000) (e1 : 0 ≤ c.SagErr) (e2 : c.SagErr ≤ 1000000000) (hs : sIs c v pv f1 = false) (hm1 : mIs (qLo c lo1 a1 f1) (qHi c hi1 a1 f1) (vtLo (qLo c lo1 a1 f1) (qHi c hi1 a1 f1) (qLo c lo2 a2 f2) (qHi c hi2 a2 f2) 0 0 false) (vtHi (qLo c lo1 a1 f1) (qHi c hi1 a1 f1) (qLo c lo2 a2 f2) (qHi c hi2 a2 f2) 0 0 false) = false) (hm2 : mIs (qLo c lo2 a2 f2) (qHi c hi2 a2 f2) (vtLo (qLo c lo1 a1 f1) (qHi c hi1 a1 f1) (qLo c lo2 a2 f2) (qHi c hi2 a2 f2) 0 0 false) (vtHi (qLo c lo1 a1 f1) (qHi c hi1 a1 f1) (qLo c lo2 a2 f2) (qHi c hi2 a2 f2) 0 0 false) = false) : Ctr Tryd.prog G 60 [.pointer (some ⟨b, 0, none⟩), .agg #[I64 (v), .bool pv], .agg #[I64 (a1), .bool f1], .agg #[I64 (a2), .bool f2]] [(b, .cells (bat c p q kn (lo) (hi)) 137), (p, .cells (cnt_ c (lo1) (hi1)) 159), (q, .cells (cnt_ c (lo2) (hi2)) 159), (k, ob)] (.agg #[I64 ((vtLo (qLo c lo1 a1 f1) (qHi c hi1 a1 f1) (qLo c lo2 a2 f2) (qHi c hi2 a2 f2) 0 0 false)), I64 ((vtHi (qLo c lo1 a1 f1) (qHi c hi1 a1 f1) (qLo c lo2 a2 f2) (qHi c hi2 a2 f2) 0 0 false))]) [.cells (bat c p q kn ((vtLo (qLo c lo1 a1 f1) (qHi c hi1 a1 f1) (qLo c lo2 a2 f2) (qHi c hi2 a2 f2) 0 0 false)) ((vtHi (qLo c lo1 a1 f1) (qHi c hi1 a1 f1) (qLo c lo2 a2 f2) (qHi c hi2 a2 f2) 0 0 false))) 137, .cells (cnt_ c (mx (mn (wLo (vtLo (qLo c lo1 a1 f1) (qHi c hi1 a1 f1) (qLo c lo2 a2 f2) (qHi c hi2 a2 f2) 0 0 false) c.Drift) c.Cap) 0) (mx (mn (wHi (vtHi (qLo c lo1 a1 f1) (qHi c hi1 a1 f1) (qLo c lo2 a2 f2) (qHi c hi2 a2 f2) 0 0 false) c.Drift) c.Cap) 0)) 159, .cells (cnt_ c (mx (mn (wLo (vtLo (qLo c lo1 a1 f1) (qHi c hi1 a1 f1) (qLo c lo2 a2 f2) (qHi c hi2 a2 f2) 0 0 false) c.Drift) c.Cap) 0) (mx (mn (wHi (vtHi (qLo c lo1 a1 f1) (qHi c hi1 a1 f1) (qLo c lo2 a2 f2) (qHi c hi2 a2 f2) 0 0 false) c.Drift) c.Cap) 0)) 159, ob] := by
  have hsag := sag_Charge (G := G) c tb ok ha v a1 pv f1 hO h1 h2 v1 v2 e1 e2
  have z1 : sLo c X Y v a1 pv f1 = 0 := by unfold sLo; rw [if_neg (of_decide_eq_false hs)]
  have z2 : sHi c X Y v a1 pv f1 = 0 := by unfold sHi; rw [if_neg (of_decide_eq_false hs)]
  rw [hs, z1, z2] at hsag
  refine Ctr.by layOk Tryd.func60 Tryd.ntmps60 rfl rfl rfl rfl rfl ?_
  repeat' (first
    | (with_reducible refine loopW_s ?_)
    | (((first | (with_reducible refine gQ0 ?_) | ((with_reducible refine gQ1 ?_ ?_); (focus (apply wg (r := true); (iterate 6 apply Eq.refl))))); (first | ((with_reducible apply q_box (k := ks _)); apply Eq.refl; (focus (repeat (with_reducible (first | apply lh | apply lt)))); apply Eq.refl) | ((with_reducible apply q_alloc (k := ks _) layOk); apply Eq.refl; (focus (repeat (with_reducible (first | apply lh | apply lt)))); apply Eq.refl) | ((with_reducible apply q_move); apply Eq.refl) | ((with_reducible apply q_assign); apply Eq.refl) | ((with_reducible apply q_int); (iterate 3 apply Eq.refl)) | ((with_reducible apply q_nilCheck); apply Eq.refl) | ((with_reducible apply q_fa layOk); (iterate 5 apply Eq.refl)) | ((with_reducible apply q_load layOk); (iterate 3 apply Eq.refl); (focus (repeat (with_reducible (first | apply lh | apply lt)))); apply Eq.refl) | ((with_reducible apply q_loadr layOk); (iterate 3 apply Eq.refl); (focus (repeat (with_reducible (first | apply lh | apply lt)))); apply Eq.refl) | ((with_reducible apply q_build layOk); (iterate 4 apply Eq.refl)) | ((with_reducible apply q_not); apply Eq.refl) | ((with_reducible apply q_box (k := ks _)); apply Eq.refl; (focus (repeat (with_reducible (first | apply lh | apply lt)))); apply Eq.refl) | ((with_reducible apply q_alloc (k := ks _) layOk); apply Eq.refl; (focus (repeat (with_reducible (first | apply lh | apply lt)))); apply Eq.refl) | ((with_reducible apply q_pick_t); (iterate 2 apply Eq.refl)) | ((with_reducible apply q_pick_f); (iterate 2 apply Eq.refl)) | ((with_reducible apply q_extract); (iterate 2 apply Eq.refl)) | ((with_reducible apply q_indexc layOk); (iterate 6 apply Eq.refl); (focus (decide)); (focus (decide)); apply Eq.refl) | ((with_reducible apply isF (f := 107)); (refine q_call1 rfl (Counter_Step p c _ _ _ _) (by first | (focus ((repeat (with_reducible (first | apply lh | apply lt))); done)) | (focus (apply lx; (focus (repeat (with_reducible (first | apply lh | apply lt)))); exact rfl))) (by exact rfl) ?_)) | ((with_reducible apply isF (f := 107)); (refine q_call1 rfl (Counter_Step q c _ _ _ _) (by first | (focus ((repeat (with_reducible (first | apply lh | apply lt))); done)) | (focus (apply lx; (focus (repeat (with_reducible (first | apply lh | apply lt)))); exact rfl))) (by exact rfl) ?_)) | (refine q_call1r rfl hsag (by first | (focus ((repeat (with_reducible (first | apply lh | apply lt))); done)) | (focus (apply lx; (focus (repeat (with_reducible (first | apply lh | apply lt)))); exact rfl))) ?_) | ((with_reducible apply isF (f := 109)); (refine q_callR rfl (Bat_vote_false c b p q _ _ _ _ _ _ _ _ _) rfl (by repeat (first | exact Fd.nil | apply Fd.cons | (focus ((repeat (with_reducible (first | apply lh | apply lt))); done)) | (focus (apply lx; (focus (repeat (with_reducible (first | apply lh | apply lt)))); exact rfl)))) (by decide) ?_)) | ((with_reducible apply isF (f := 105)); (refine q_call1r rfl (Counter_Q p c _ _) (by first | (focus ((repeat (with_reducible (first | apply lh | apply lt))); done)) | (focus (apply lx; (focus (repeat (with_reducible (first | apply lh | apply lt)))); exact rfl))) ?_)) | ((with_reducible apply isF (f := 105)); (refine q_call1r rfl (Counter_Q q c _ _) (by first | (focus ((repeat (with_reducible (first | apply lh | apply lt))); done)) | (focus (apply lx; (focus (repeat (with_reducible (first | apply lh | apply lt)))); exact rfl))) ?_)) | ((with_reducible apply isF (f := 110)); (refine q_call0 rfl (span_Meet _ _ _ _) ?_)) | ((with_reducible apply isF (f := 92)); (refine q_call0 rfl (span_Widen _ _ _) ?_)) | ((with_reducible apply isF (f := 108)); (refine q_call1 rfl (Counter_Set p c _ _ _ _) (by first | (focus ((repeat (with_reducible (first | apply lh | apply lt))); done)) | (focus (apply lx; (focus (repeat (with_reducible (first | apply lh | apply lt)))); exact rfl))) (by exact rfl) ?_)) | ((with_reducible apply isF (f := 108)); (refine q_call1 rfl (Counter_Set q c _ _ _ _) (by first | (focus ((repeat (with_reducible (first | apply lh | apply lt))); done)) | (focus (apply lx; (focus (repeat (with_reducible (first | apply lh | apply lt)))); exact rfl))) (by exact rfl) ?_)) | ((with_reducible apply e_store layOk); (iterate 3 apply Eq.refl); (focus (repeat (with_reducible (first | apply lh | apply lt)))); (iterate 5 apply Eq.refl)))))
    | (((with_reducible refine gR ?_); (first | refine RK.peelN rfl ?_ | refine RK.donef rfl ⟨_, rfl, ?_⟩ | refine RK.donet rfl (by kernel_rfl) ⟨_, rfl, ?_⟩)))
    | ((first | (with_reducible refine gQv ?_ ?_) | (with_reducible refine gQe ?_ ?_)); (focus (first | (apply wg (r := false); (iterate 6 apply Eq.refl)) | (apply wz; (iterate 4 apply Eq.refl)))))
    | ((with_reducible refine gK ?_); ((first | (apply gsD; (iterate 4 apply Eq.refl)) | (apply RKo.gsplitE; (iterate 4 apply Eq.refl)) | (apply RKo.gsplitN; (iterate 4 apply Eq.refl)) | (apply RKo.gsplit; (iterate 4 apply Eq.refl))) <;> (intro hc; first | with_reducible exact ff hc | with_reducible exact ff' hc | exact absurd hc (by decide) | with_reducible exact absurd hc (by rw [hm1]; decide) | with_reducible exact absurd hc (by rw [hm2]; decide) | skip)))
    | (((with_reducible refine gW ?_); (first | refine WP.unroll 3 ?_ | with_reducible refine WP.seq ?_ | refine WP.reg mixed (fun ks => _) (fun ks => rfl) (fun ks => ?_) | ((first | (apply cdD; apply Eq.refl) | (apply WP.condE; apply Eq.refl) | (apply WP.condN; apply Eq.refl) | (apply WP.condA; apply Eq.refl)) <;> (intro hc; first | with_reducible exact ff hc | with_reducible exact ff' hc | exact absurd hc (by decide) | with_reducible exact absurd hc (by rw [hm1]; decide) | with_reducible exact absurd hc (by rw [hm2]; decide) | skip)) | refine WP.ret ?_ | refine WP.skip ?_ | refine WP.exit ?_ | refine WP.goto ?_ | refine WP.label ?_ | refine WP.block ?_)))
    | (with_reducible refine thn_n ?_)
    | (with_reducible refine thn_r ?_)
    | (with_reducible refine thn_e ?_)
    | (with_reducible refine thn_g ?_)
    | (with_reducible refine blk_n ?_)
    | (with_reducible refine blk_r ?_)
    | (with_reducible refine blk_e ?_)
    | (with_reducible refine blk_g ?_)
    | (((with_reducible refine blk_o ?_ ?_); first | exact rfl | skip))
    | (refine Endz.mk' (by first | exact Or.inl rfl | exact Or.inr rfl) (by repeat (first | exact RVs.nil | apply RVs.cons | exact RV1.tmp rfl | exact RV1.row rfl rfl rfl (by repeat (first | exact look_here | apply look_there)) (by exact rfl) | exact RV1.cell rfl rfl rfl (by repeat (first | exact look_here | apply look_there)) (by exact rfl))) (by rfl) (by repeat (first | exact List.nil_sublist _ | exact List.Sublist.refl _ | apply List.Sublist.cons_cons | apply List.Sublist.cons))))

set_option maxRecDepth 20000 in
set_option maxHeartbeats 8000000 in
theorem stepN1 (c : Cfg) {ob : AObj} {k f : Nat} {X Y : Nat → Int} (tb : Tb ob f c.ocL X Y) (ok : TOk c.ocL X Y) (ha : 0 < c.ocL → c.ocA = some ⟨k, f, none⟩) (b p q : Nat) (kn : Bool) (lo hi lo1 hi1 lo2 hi2 v a1 a2 : Int) (pv f1 f2 : Bool) (hO : c.Ohm = 20) (h1 : -1000000000 ≤ a1) (h2 : a1 ≤ 1000000000) (v1 : -1000000000 ≤ v) (v2 : v ≤ 1000000000) (e1 : 0 ≤ c.SagErr) (e2 : c.SagErr ≤ 1000000000) (hs : sIs c v pv f1 = false) (hm1 : mIs (qLo c lo1 a1 f1) (qHi c hi1 a1 f1) (vtLo (qLo c lo1 a1 f1) (qHi c hi1 a1 f1) (qLo c lo2 a2 f2) (qHi c hi2 a2 f2) 0 0 false) (vtHi (qLo c lo1 a1 f1) (qHi c hi1 a1 f1) (qLo c lo2 a2 f2) (qHi c hi2 a2 f2) 0 0 false) = true) (hm2 : mIs (qLo c lo2 a2 f2) (qHi c hi2 a2 f2) (vtLo (qLo c lo1 a1 f1) (qHi c hi1 a1 f1) (qLo c lo2 a2 f2) (qHi c hi2 a2 f2) 0 0 false) (vtHi (qLo c lo1 a1 f1) (qHi c hi1 a1 f1) (qLo c lo2 a2 f2) (qHi c hi2 a2 f2) 0 0 false) = false) : Ctr Tryd.prog G 60 [.pointer (some ⟨b, 0, none⟩), .agg #[I64 (v), .bool pv], .agg #[I64 (a1), .bool f1], .agg #[I64 (a2), .bool f2]] [(b, .cells (bat c p q kn (lo) (hi)) 137), (p, .cells (cnt_ c (lo1) (hi1)) 159), (q, .cells (cnt_ c (lo2) (hi2)) 159), (k, ob)] (.agg #[I64 ((vtLo (qLo c lo1 a1 f1) (qHi c hi1 a1 f1) (qLo c lo2 a2 f2) (qHi c hi2 a2 f2) 0 0 false)), I64 ((vtHi (qLo c lo1 a1 f1) (qHi c hi1 a1 f1) (qLo c lo2 a2 f2) (qHi c hi2 a2 f2) 0 0 false))]) [.cells (bat c p q kn ((vtLo (qLo c lo1 a1 f1) (qHi c hi1 a1 f1) (qLo c lo2 a2 f2) (qHi c hi2 a2 f2) 0 0 false)) ((vtHi (qLo c lo1 a1 f1) (qHi c hi1 a1 f1) (qLo c lo2 a2 f2) (qHi c hi2 a2 f2) 0 0 false))) 137, .cells (cnt_ c ((qLo c lo1 a1 f1)) ((qHi c hi1 a1 f1))) 159, .cells (cnt_ c (mx (mn (wLo (vtLo (qLo c lo1 a1 f1) (qHi c hi1 a1 f1) (qLo c lo2 a2 f2) (qHi c hi2 a2 f2) 0 0 false) c.Drift) c.Cap) 0) (mx (mn (wHi (vtHi (qLo c lo1 a1 f1) (qHi c hi1 a1 f1) (qLo c lo2 a2 f2) (qHi c hi2 a2 f2) 0 0 false) c.Drift) c.Cap) 0)) 159, ob] := by
  have hsag := sag_Charge (G := G) c tb ok ha v a1 pv f1 hO h1 h2 v1 v2 e1 e2
  have z1 : sLo c X Y v a1 pv f1 = 0 := by unfold sLo; rw [if_neg (of_decide_eq_false hs)]
  have z2 : sHi c X Y v a1 pv f1 = 0 := by unfold sHi; rw [if_neg (of_decide_eq_false hs)]
  rw [hs, z1, z2] at hsag
  refine Ctr.by layOk Tryd.func60 Tryd.ntmps60 rfl rfl rfl rfl rfl ?_
  repeat' (first
    | (with_reducible refine loopW_s ?_)
    | (((first | (with_reducible refine gQ0 ?_) | ((with_reducible refine gQ1 ?_ ?_); (focus (apply wg (r := true); (iterate 6 apply Eq.refl))))); (first | ((with_reducible apply q_box (k := ks _)); apply Eq.refl; (focus (repeat (with_reducible (first | apply lh | apply lt)))); apply Eq.refl) | ((with_reducible apply q_alloc (k := ks _) layOk); apply Eq.refl; (focus (repeat (with_reducible (first | apply lh | apply lt)))); apply Eq.refl) | ((with_reducible apply q_move); apply Eq.refl) | ((with_reducible apply q_assign); apply Eq.refl) | ((with_reducible apply q_int); (iterate 3 apply Eq.refl)) | ((with_reducible apply q_nilCheck); apply Eq.refl) | ((with_reducible apply q_fa layOk); (iterate 5 apply Eq.refl)) | ((with_reducible apply q_load layOk); (iterate 3 apply Eq.refl); (focus (repeat (with_reducible (first | apply lh | apply lt)))); apply Eq.refl) | ((with_reducible apply q_loadr layOk); (iterate 3 apply Eq.refl); (focus (repeat (with_reducible (first | apply lh | apply lt)))); apply Eq.refl) | ((with_reducible apply q_build layOk); (iterate 4 apply Eq.refl)) | ((with_reducible apply q_not); apply Eq.refl) | ((with_reducible apply q_box (k := ks _)); apply Eq.refl; (focus (repeat (with_reducible (first | apply lh | apply lt)))); apply Eq.refl) | ((with_reducible apply q_alloc (k := ks _) layOk); apply Eq.refl; (focus (repeat (with_reducible (first | apply lh | apply lt)))); apply Eq.refl) | ((with_reducible apply q_pick_t); (iterate 2 apply Eq.refl)) | ((with_reducible apply q_pick_f); (iterate 2 apply Eq.refl)) | ((with_reducible apply q_extract); (iterate 2 apply Eq.refl)) | ((with_reducible apply q_indexc layOk); (iterate 6 apply Eq.refl); (focus (decide)); (focus (decide)); apply Eq.refl) | ((with_reducible apply isF (f := 107)); (refine q_call1 rfl (Counter_Step p c _ _ _ _) (by first | (focus ((repeat (with_reducible (first | apply lh | apply lt))); done)) | (focus (apply lx; (focus (repeat (with_reducible (first | apply lh | apply lt)))); exact rfl))) (by exact rfl) ?_)) | ((with_reducible apply isF (f := 107)); (refine q_call1 rfl (Counter_Step q c _ _ _ _) (by first | (focus ((repeat (with_reducible (first | apply lh | apply lt))); done)) | (focus (apply lx; (focus (repeat (with_reducible (first | apply lh | apply lt)))); exact rfl))) (by exact rfl) ?_)) | (refine q_call1r rfl hsag (by first | (focus ((repeat (with_reducible (first | apply lh | apply lt))); done)) | (focus (apply lx; (focus (repeat (with_reducible (first | apply lh | apply lt)))); exact rfl))) ?_) | ((with_reducible apply isF (f := 109)); (refine q_callR rfl (Bat_vote_false c b p q _ _ _ _ _ _ _ _ _) rfl (by repeat (first | exact Fd.nil | apply Fd.cons | (focus ((repeat (with_reducible (first | apply lh | apply lt))); done)) | (focus (apply lx; (focus (repeat (with_reducible (first | apply lh | apply lt)))); exact rfl)))) (by decide) ?_)) | ((with_reducible apply isF (f := 105)); (refine q_call1r rfl (Counter_Q p c _ _) (by first | (focus ((repeat (with_reducible (first | apply lh | apply lt))); done)) | (focus (apply lx; (focus (repeat (with_reducible (first | apply lh | apply lt)))); exact rfl))) ?_)) | ((with_reducible apply isF (f := 105)); (refine q_call1r rfl (Counter_Q q c _ _) (by first | (focus ((repeat (with_reducible (first | apply lh | apply lt))); done)) | (focus (apply lx; (focus (repeat (with_reducible (first | apply lh | apply lt)))); exact rfl))) ?_)) | ((with_reducible apply isF (f := 110)); (refine q_call0 rfl (span_Meet _ _ _ _) ?_)) | ((with_reducible apply isF (f := 92)); (refine q_call0 rfl (span_Widen _ _ _) ?_)) | ((with_reducible apply isF (f := 108)); (refine q_call1 rfl (Counter_Set p c _ _ _ _) (by first | (focus ((repeat (with_reducible (first | apply lh | apply lt))); done)) | (focus (apply lx; (focus (repeat (with_reducible (first | apply lh | apply lt)))); exact rfl))) (by exact rfl) ?_)) | ((with_reducible apply isF (f := 108)); (refine q_call1 rfl (Counter_Set q c _ _ _ _) (by first | (focus ((repeat (with_reducible (first | apply lh | apply lt))); done)) | (focus (apply lx; (focus (repeat (with_reducible (first | apply lh | apply lt)))); exact rfl))) (by exact rfl) ?_)) | ((with_reducible apply e_store layOk); (iterate 3 apply Eq.refl); (focus (repeat (with_reducible (first | apply lh | apply lt)))); (iterate 5 apply Eq.refl)))))
    | (((with_reducible refine gR ?_); (first | refine RK.peelN rfl ?_ | refine RK.donef rfl ⟨_, rfl, ?_⟩ | refine RK.donet rfl (by kernel_rfl) ⟨_, rfl, ?_⟩)))
    | ((first | (with_reducible refine gQv ?_ ?_) | (with_reducible refine gQe ?_ ?_)); (focus (first | (apply wg (r := false); (iterate 6 apply Eq.refl)) | (apply wz; (iterate 4 apply Eq.refl)))))
    | ((with_reducible refine gK ?_); ((first | (apply gsD; (iterate 4 apply Eq.refl)) | (apply RKo.gsplitE; (iterate 4 apply Eq.refl)) | (apply RKo.gsplitN; (iterate 4 apply Eq.refl)) | (apply RKo.gsplit; (iterate 4 apply Eq.refl))) <;> (intro hc; first | with_reducible exact ff hc | with_reducible exact ff' hc | exact absurd hc (by decide) | with_reducible exact absurd hc (by rw [hm1]; decide) | with_reducible exact absurd hc (by rw [hm2]; decide) | skip)))
    | (((with_reducible refine gW ?_); (first | refine WP.unroll 3 ?_ | with_reducible refine WP.seq ?_ | refine WP.reg mixed (fun ks => _) (fun ks => rfl) (fun ks => ?_) | ((first | (apply cdD; apply Eq.refl) | (apply WP.condE; apply Eq.refl) | (apply WP.condN; apply Eq.refl) | (apply WP.condA; apply Eq.refl)) <;> (intro hc; first | with_reducible exact ff hc | with_reducible exact ff' hc | exact absurd hc (by decide) | with_reducible exact absurd hc (by rw [hm1]; decide) | with_reducible exact absurd hc (by rw [hm2]; decide) | skip)) | refine WP.ret ?_ | refine WP.skip ?_ | refine WP.exit ?_ | refine WP.goto ?_ | refine WP.label ?_ | refine WP.block ?_)))
    | (with_reducible refine thn_n ?_)
    | (with_reducible refine thn_r ?_)
    | (with_reducible refine thn_e ?_)
    | (with_reducible refine thn_g ?_)
    | (with_reducible refine blk_n ?_)
    | (with_reducible refine blk_r ?_)
    | (with_reducible refine blk_e ?_)
    | (with_reducible refine blk_g ?_)
    | (((with_reducible refine blk_o ?_ ?_); first | exact rfl | skip))
    | (refine Endz.mk' (by first | exact Or.inl rfl | exact Or.inr rfl) (by repeat (first | exact RVs.nil | apply RVs.cons | exact RV1.tmp rfl | exact RV1.row rfl rfl rfl (by repeat (first | exact look_here | apply look_there)) (by exact rfl) | exact RV1.cell rfl rfl rfl (by repeat (first | exact look_here | apply look_there)) (by exact rfl))) (by rfl) (by repeat (first | exact List.nil_sublist _ | exact List.Sublist.refl _ | apply List.Sublist.cons_cons | apply List.Sublist.cons))))

set_option maxRecDepth 20000 in
set_option maxHeartbeats 8000000 in
theorem stepN2 (c : Cfg) {ob : AObj} {k f : Nat} {X Y : Nat → Int} (tb : Tb ob f c.ocL X Y) (ok : TOk c.ocL X Y) (ha : 0 < c.ocL → c.ocA = some ⟨k, f, none⟩) (b p q : Nat) (kn : Bool) (lo hi lo1 hi1 lo2 hi2 v a1 a2 : Int) (pv f1 f2 : Bool) (hO : c.Ohm = 20) (h1 : -1000000000 ≤ a1) (h2 : a1 ≤ 1000000000) (v1 : -1000000000 ≤ v) (v2 : v ≤ 1000000000) (e1 : 0 ≤ c.SagErr) (e2 : c.SagErr ≤ 1000000000) (hs : sIs c v pv f1 = false) (hm1 : mIs (qLo c lo1 a1 f1) (qHi c hi1 a1 f1) (vtLo (qLo c lo1 a1 f1) (qHi c hi1 a1 f1) (qLo c lo2 a2 f2) (qHi c hi2 a2 f2) 0 0 false) (vtHi (qLo c lo1 a1 f1) (qHi c hi1 a1 f1) (qLo c lo2 a2 f2) (qHi c hi2 a2 f2) 0 0 false) = false) (hm2 : mIs (qLo c lo2 a2 f2) (qHi c hi2 a2 f2) (vtLo (qLo c lo1 a1 f1) (qHi c hi1 a1 f1) (qLo c lo2 a2 f2) (qHi c hi2 a2 f2) 0 0 false) (vtHi (qLo c lo1 a1 f1) (qHi c hi1 a1 f1) (qLo c lo2 a2 f2) (qHi c hi2 a2 f2) 0 0 false) = true) : Ctr Tryd.prog G 60 [.pointer (some ⟨b, 0, none⟩), .agg #[I64 (v), .bool pv], .agg #[I64 (a1), .bool f1], .agg #[I64 (a2), .bool f2]] [(b, .cells (bat c p q kn (lo) (hi)) 137), (p, .cells (cnt_ c (lo1) (hi1)) 159), (q, .cells (cnt_ c (lo2) (hi2)) 159), (k, ob)] (.agg #[I64 ((vtLo (qLo c lo1 a1 f1) (qHi c hi1 a1 f1) (qLo c lo2 a2 f2) (qHi c hi2 a2 f2) 0 0 false)), I64 ((vtHi (qLo c lo1 a1 f1) (qHi c hi1 a1 f1) (qLo c lo2 a2 f2) (qHi c hi2 a2 f2) 0 0 false))]) [.cells (bat c p q kn ((vtLo (qLo c lo1 a1 f1) (qHi c hi1 a1 f1) (qLo c lo2 a2 f2) (qHi c hi2 a2 f2) 0 0 false)) ((vtHi (qLo c lo1 a1 f1) (qHi c hi1 a1 f1) (qLo c lo2 a2 f2) (qHi c hi2 a2 f2) 0 0 false))) 137, .cells (cnt_ c (mx (mn (wLo (vtLo (qLo c lo1 a1 f1) (qHi c hi1 a1 f1) (qLo c lo2 a2 f2) (qHi c hi2 a2 f2) 0 0 false) c.Drift) c.Cap) 0) (mx (mn (wHi (vtHi (qLo c lo1 a1 f1) (qHi c hi1 a1 f1) (qLo c lo2 a2 f2) (qHi c hi2 a2 f2) 0 0 false) c.Drift) c.Cap) 0)) 159, .cells (cnt_ c ((qLo c lo2 a2 f2)) ((qHi c hi2 a2 f2))) 159, ob] := by
  have hsag := sag_Charge (G := G) c tb ok ha v a1 pv f1 hO h1 h2 v1 v2 e1 e2
  have z1 : sLo c X Y v a1 pv f1 = 0 := by unfold sLo; rw [if_neg (of_decide_eq_false hs)]
  have z2 : sHi c X Y v a1 pv f1 = 0 := by unfold sHi; rw [if_neg (of_decide_eq_false hs)]
  rw [hs, z1, z2] at hsag
  refine Ctr.by layOk Tryd.func60 Tryd.ntmps60 rfl rfl rfl rfl rfl ?_
  repeat' (first
    | (with_reducible refine loopW_s ?_)
    | (((first | (with_reducible refine gQ0 ?_) | ((with_reducible refine gQ1 ?_ ?_); (focus (apply wg (r := true); (iterate 6 apply Eq.refl))))); (first | ((with_reducible apply q_box (k := ks _)); apply Eq.refl; (focus (repeat (with_reducible (first | apply lh | apply lt)))); apply Eq.refl) | ((with_reducible apply q_alloc (k := ks _) layOk); apply Eq.refl; (focus (repeat (with_reducible (first | apply lh | apply lt)))); apply Eq.refl) | ((with_reducible apply q_move); apply Eq.refl) | ((with_reducible apply q_assign); apply Eq.refl) | ((with_reducible apply q_int); (iterate 3 apply Eq.refl)) | ((with_reducible apply q_nilCheck); apply Eq.refl) | ((with_reducible apply q_fa layOk); (iterate 5 apply Eq.refl)) | ((with_reducible apply q_load layOk); (iterate 3 apply Eq.refl); (focus (repeat (with_reducible (first | apply lh | apply lt)))); apply Eq.refl) | ((with_reducible apply q_loadr layOk); (iterate 3 apply Eq.refl); (focus (repeat (with_reducible (first | apply lh | apply lt)))); apply Eq.refl) | ((with_reducible apply q_build layOk); (iterate 4 apply Eq.refl)) | ((with_reducible apply q_not); apply Eq.refl) | ((with_reducible apply q_box (k := ks _)); apply Eq.refl; (focus (repeat (with_reducible (first | apply lh | apply lt)))); apply Eq.refl) | ((with_reducible apply q_alloc (k := ks _) layOk); apply Eq.refl; (focus (repeat (with_reducible (first | apply lh | apply lt)))); apply Eq.refl) | ((with_reducible apply q_pick_t); (iterate 2 apply Eq.refl)) | ((with_reducible apply q_pick_f); (iterate 2 apply Eq.refl)) | ((with_reducible apply q_extract); (iterate 2 apply Eq.refl)) | ((with_reducible apply q_indexc layOk); (iterate 6 apply Eq.refl); (focus (decide)); (focus (decide)); apply Eq.refl) | ((with_reducible apply isF (f := 107)); (refine q_call1 rfl (Counter_Step p c _ _ _ _) (by first | (focus ((repeat (with_reducible (first | apply lh | apply lt))); done)) | (focus (apply lx; (focus (repeat (with_reducible (first | apply lh | apply lt)))); exact rfl))) (by exact rfl) ?_)) | ((with_reducible apply isF (f := 107)); (refine q_call1 rfl (Counter_Step q c _ _ _ _) (by first | (focus ((repeat (with_reducible (first | apply lh | apply lt))); done)) | (focus (apply lx; (focus (repeat (with_reducible (first | apply lh | apply lt)))); exact rfl))) (by exact rfl) ?_)) | (refine q_call1r rfl hsag (by first | (focus ((repeat (with_reducible (first | apply lh | apply lt))); done)) | (focus (apply lx; (focus (repeat (with_reducible (first | apply lh | apply lt)))); exact rfl))) ?_) | ((with_reducible apply isF (f := 109)); (refine q_callR rfl (Bat_vote_false c b p q _ _ _ _ _ _ _ _ _) rfl (by repeat (first | exact Fd.nil | apply Fd.cons | (focus ((repeat (with_reducible (first | apply lh | apply lt))); done)) | (focus (apply lx; (focus (repeat (with_reducible (first | apply lh | apply lt)))); exact rfl)))) (by decide) ?_)) | ((with_reducible apply isF (f := 105)); (refine q_call1r rfl (Counter_Q p c _ _) (by first | (focus ((repeat (with_reducible (first | apply lh | apply lt))); done)) | (focus (apply lx; (focus (repeat (with_reducible (first | apply lh | apply lt)))); exact rfl))) ?_)) | ((with_reducible apply isF (f := 105)); (refine q_call1r rfl (Counter_Q q c _ _) (by first | (focus ((repeat (with_reducible (first | apply lh | apply lt))); done)) | (focus (apply lx; (focus (repeat (with_reducible (first | apply lh | apply lt)))); exact rfl))) ?_)) | ((with_reducible apply isF (f := 110)); (refine q_call0 rfl (span_Meet _ _ _ _) ?_)) | ((with_reducible apply isF (f := 92)); (refine q_call0 rfl (span_Widen _ _ _) ?_)) | ((with_reducible apply isF (f := 108)); (refine q_call1 rfl (Counter_Set p c _ _ _ _) (by first | (focus ((repeat (with_reducible (first | apply lh | apply lt))); done)) | (focus (apply lx; (focus (repeat (with_reducible (first | apply lh | apply lt)))); exact rfl))) (by exact rfl) ?_)) | ((with_reducible apply isF (f := 108)); (refine q_call1 rfl (Counter_Set q c _ _ _ _) (by first | (focus ((repeat (with_reducible (first | apply lh | apply lt))); done)) | (focus (apply lx; (focus (repeat (with_reducible (first | apply lh | apply lt)))); exact rfl))) (by exact rfl) ?_)) | ((with_reducible apply e_store layOk); (iterate 3 apply Eq.refl); (focus (repeat (with_reducible (first | apply lh | apply lt)))); (iterate 5 apply Eq.refl)))))
    | (((with_reducible refine gR ?_); (first | refine RK.peelN rfl ?_ | refine RK.donef rfl ⟨_, rfl, ?_⟩ | refine RK.donet rfl (by kernel_rfl) ⟨_, rfl, ?_⟩)))
    | ((first | (with_reducible refine gQv ?_ ?_) | (with_reducible refine gQe ?_ ?_)); (focus (first | (apply wg (r := false); (iterate 6 apply Eq.refl)) | (apply wz; (iterate 4 apply Eq.refl)))))
    | ((with_reducible refine gK ?_); ((first | (apply gsD; (iterate 4 apply Eq.refl)) | (apply RKo.gsplitE; (iterate 4 apply Eq.refl)) | (apply RKo.gsplitN; (iterate 4 apply Eq.refl)) | (apply RKo.gsplit; (iterate 4 apply Eq.refl))) <;> (intro hc; first | with_reducible exact ff hc | with_reducible exact ff' hc | exact absurd hc (by decide) | with_reducible exact absurd hc (by rw [hm1]; decide) | with_reducible exact absurd hc (by rw [hm2]; decide) | skip)))
    | (((with_reducible refine gW ?_); (first | refine WP.unroll 3 ?_ | with_reducible refine WP.seq ?_ | refine WP.reg mixed (fun ks => _) (fun ks => rfl) (fun ks => ?_) | ((first | (apply cdD; apply Eq.refl) | (apply WP.condE; apply Eq.refl) | (apply WP.condN; apply Eq.refl) | (apply WP.condA; apply Eq.refl)) <;> (intro hc; first | with_reducible exact ff hc | with_reducible exact ff' hc | exact absurd hc (by decide) | with_reducible exact absurd hc (by rw [hm1]; decide) | with_reducible exact absurd hc (by rw [hm2]; decide) | skip)) | refine WP.ret ?_ | refine WP.skip ?_ | refine WP.exit ?_ | refine WP.goto ?_ | refine WP.label ?_ | refine WP.block ?_)))
    | (with_reducible refine thn_n ?_)
    | (with_reducible refine thn_r ?_)
    | (with_reducible refine thn_e ?_)
    | (with_reducible refine thn_g ?_)
    | (with_reducible refine blk_n ?_)
    | (with_reducible refine blk_r ?_)
    | (with_reducible refine blk_e ?_)
    | (with_reducible refine blk_g ?_)
    | (((with_reducible refine blk_o ?_ ?_); first | exact rfl | skip))
    | (refine Endz.mk' (by first | exact Or.inl rfl | exact Or.inr rfl) (by repeat (first | exact RVs.nil | apply RVs.cons | exact RV1.tmp rfl | exact RV1.row rfl rfl rfl (by repeat (first | exact look_here | apply look_there)) (by exact rfl) | exact RV1.cell rfl rfl rfl (by repeat (first | exact look_here | apply look_there)) (by exact rfl))) (by rfl) (by repeat (first | exact List.nil_sublist _ | exact List.Sublist.refl _ | apply List.Sublist.cons_cons | apply List.Sublist.cons))))

set_option maxRecDepth 20000 in
set_option maxHeartbeats 8000000 in
theorem stepN3 (c : Cfg) {ob : AObj} {k f : Nat} {X Y : Nat → Int} (tb : Tb ob f c.ocL X Y) (ok : TOk c.ocL X Y) (ha : 0 < c.ocL → c.ocA = some ⟨k, f, none⟩) (b p q : Nat) (kn : Bool) (lo hi lo1 hi1 lo2 hi2 v a1 a2 : Int) (pv f1 f2 : Bool) (hO : c.Ohm = 20) (h1 : -1000000000 ≤ a1) (h2 : a1 ≤ 1000000000) (v1 : -1000000000 ≤ v) (v2 : v ≤ 1000000000) (e1 : 0 ≤ c.SagErr) (e2 : c.SagErr ≤ 1000000000) (hs : sIs c v pv f1 = false) (hm1 : mIs (qLo c lo1 a1 f1) (qHi c hi1 a1 f1) (vtLo (qLo c lo1 a1 f1) (qHi c hi1 a1 f1) (qLo c lo2 a2 f2) (qHi c hi2 a2 f2) 0 0 false) (vtHi (qLo c lo1 a1 f1) (qHi c hi1 a1 f1) (qLo c lo2 a2 f2) (qHi c hi2 a2 f2) 0 0 false) = true) (hm2 : mIs (qLo c lo2 a2 f2) (qHi c hi2 a2 f2) (vtLo (qLo c lo1 a1 f1) (qHi c hi1 a1 f1) (qLo c lo2 a2 f2) (qHi c hi2 a2 f2) 0 0 false) (vtHi (qLo c lo1 a1 f1) (qHi c hi1 a1 f1) (qLo c lo2 a2 f2) (qHi c hi2 a2 f2) 0 0 false) = true) : Ctr Tryd.prog G 60 [.pointer (some ⟨b, 0, none⟩), .agg #[I64 (v), .bool pv], .agg #[I64 (a1), .bool f1], .agg #[I64 (a2), .bool f2]] [(b, .cells (bat c p q kn (lo) (hi)) 137), (p, .cells (cnt_ c (lo1) (hi1)) 159), (q, .cells (cnt_ c (lo2) (hi2)) 159), (k, ob)] (.agg #[I64 ((vtLo (qLo c lo1 a1 f1) (qHi c hi1 a1 f1) (qLo c lo2 a2 f2) (qHi c hi2 a2 f2) 0 0 false)), I64 ((vtHi (qLo c lo1 a1 f1) (qHi c hi1 a1 f1) (qLo c lo2 a2 f2) (qHi c hi2 a2 f2) 0 0 false))]) [.cells (bat c p q kn ((vtLo (qLo c lo1 a1 f1) (qHi c hi1 a1 f1) (qLo c lo2 a2 f2) (qHi c hi2 a2 f2) 0 0 false)) ((vtHi (qLo c lo1 a1 f1) (qHi c hi1 a1 f1) (qLo c lo2 a2 f2) (qHi c hi2 a2 f2) 0 0 false))) 137, .cells (cnt_ c ((qLo c lo1 a1 f1)) ((qHi c hi1 a1 f1))) 159, .cells (cnt_ c ((qLo c lo2 a2 f2)) ((qHi c hi2 a2 f2))) 159, ob] := by
  have hsag := sag_Charge (G := G) c tb ok ha v a1 pv f1 hO h1 h2 v1 v2 e1 e2
  have z1 : sLo c X Y v a1 pv f1 = 0 := by unfold sLo; rw [if_neg (of_decide_eq_false hs)]
  have z2 : sHi c X Y v a1 pv f1 = 0 := by unfold sHi; rw [if_neg (of_decide_eq_false hs)]
  rw [hs, z1, z2] at hsag
  refine Ctr.by layOk Tryd.func60 Tryd.ntmps60 rfl rfl rfl rfl rfl ?_
  repeat' (first
    | (with_reducible refine loopW_s ?_)
    | (((first | (with_reducible refine gQ0 ?_) | ((with_reducible refine gQ1 ?_ ?_); (focus (apply wg (r := true); (iterate 6 apply Eq.refl))))); (first | ((with_reducible apply q_box (k := ks _)); apply Eq.refl; (focus (repeat (with_reducible (first | apply lh | apply lt)))); apply Eq.refl) | ((with_reducible apply q_alloc (k := ks _) layOk); apply Eq.refl; (focus (repeat (with_reducible (first | apply lh | apply lt)))); apply Eq.refl) | ((with_reducible apply q_move); apply Eq.refl) | ((with_reducible apply q_assign); apply Eq.refl) | ((with_reducible apply q_int); (iterate 3 apply Eq.refl)) | ((with_reducible apply q_nilCheck); apply Eq.refl) | ((with_reducible apply q_fa layOk); (iterate 5 apply Eq.refl)) | ((with_reducible apply q_load layOk); (iterate 3 apply Eq.refl); (focus (repeat (with_reducible (first | apply lh | apply lt)))); apply Eq.refl) | ((with_reducible apply q_loadr layOk); (iterate 3 apply Eq.refl); (focus (repeat (with_reducible (first | apply lh | apply lt)))); apply Eq.refl) | ((with_reducible apply q_build layOk); (iterate 4 apply Eq.refl)) | ((with_reducible apply q_not); apply Eq.refl) | ((with_reducible apply q_box (k := ks _)); apply Eq.refl; (focus (repeat (with_reducible (first | apply lh | apply lt)))); apply Eq.refl) | ((with_reducible apply q_alloc (k := ks _) layOk); apply Eq.refl; (focus (repeat (with_reducible (first | apply lh | apply lt)))); apply Eq.refl) | ((with_reducible apply q_pick_t); (iterate 2 apply Eq.refl)) | ((with_reducible apply q_pick_f); (iterate 2 apply Eq.refl)) | ((with_reducible apply q_extract); (iterate 2 apply Eq.refl)) | ((with_reducible apply q_indexc layOk); (iterate 6 apply Eq.refl); (focus (decide)); (focus (decide)); apply Eq.refl) | ((with_reducible apply isF (f := 107)); (refine q_call1 rfl (Counter_Step p c _ _ _ _) (by first | (focus ((repeat (with_reducible (first | apply lh | apply lt))); done)) | (focus (apply lx; (focus (repeat (with_reducible (first | apply lh | apply lt)))); exact rfl))) (by exact rfl) ?_)) | ((with_reducible apply isF (f := 107)); (refine q_call1 rfl (Counter_Step q c _ _ _ _) (by first | (focus ((repeat (with_reducible (first | apply lh | apply lt))); done)) | (focus (apply lx; (focus (repeat (with_reducible (first | apply lh | apply lt)))); exact rfl))) (by exact rfl) ?_)) | (refine q_call1r rfl hsag (by first | (focus ((repeat (with_reducible (first | apply lh | apply lt))); done)) | (focus (apply lx; (focus (repeat (with_reducible (first | apply lh | apply lt)))); exact rfl))) ?_) | ((with_reducible apply isF (f := 109)); (refine q_callR rfl (Bat_vote_false c b p q _ _ _ _ _ _ _ _ _) rfl (by repeat (first | exact Fd.nil | apply Fd.cons | (focus ((repeat (with_reducible (first | apply lh | apply lt))); done)) | (focus (apply lx; (focus (repeat (with_reducible (first | apply lh | apply lt)))); exact rfl)))) (by decide) ?_)) | ((with_reducible apply isF (f := 105)); (refine q_call1r rfl (Counter_Q p c _ _) (by first | (focus ((repeat (with_reducible (first | apply lh | apply lt))); done)) | (focus (apply lx; (focus (repeat (with_reducible (first | apply lh | apply lt)))); exact rfl))) ?_)) | ((with_reducible apply isF (f := 105)); (refine q_call1r rfl (Counter_Q q c _ _) (by first | (focus ((repeat (with_reducible (first | apply lh | apply lt))); done)) | (focus (apply lx; (focus (repeat (with_reducible (first | apply lh | apply lt)))); exact rfl))) ?_)) | ((with_reducible apply isF (f := 110)); (refine q_call0 rfl (span_Meet _ _ _ _) ?_)) | ((with_reducible apply isF (f := 92)); (refine q_call0 rfl (span_Widen _ _ _) ?_)) | ((with_reducible apply isF (f := 108)); (refine q_call1 rfl (Counter_Set p c _ _ _ _) (by first | (focus ((repeat (with_reducible (first | apply lh | apply lt))); done)) | (focus (apply lx; (focus (repeat (with_reducible (first | apply lh | apply lt)))); exact rfl))) (by exact rfl) ?_)) | ((with_reducible apply isF (f := 108)); (refine q_call1 rfl (Counter_Set q c _ _ _ _) (by first | (focus ((repeat (with_reducible (first | apply lh | apply lt))); done)) | (focus (apply lx; (focus (repeat (with_reducible (first | apply lh | apply lt)))); exact rfl))) (by exact rfl) ?_)) | ((with_reducible apply e_store layOk); (iterate 3 apply Eq.refl); (focus (repeat (with_reducible (first | apply lh | apply lt)))); (iterate 5 apply Eq.refl)))))
    | (((with_reducible refine gR ?_); (first | refine RK.peelN rfl ?_ | refine RK.donef rfl ⟨_, rfl, ?_⟩ | refine RK.donet rfl (by kernel_rfl) ⟨_, rfl, ?_⟩)))
    | ((first | (with_reducible refine gQv ?_ ?_) | (with_reducible refine gQe ?_ ?_)); (focus (first | (apply wg (r := false); (iterate 6 apply Eq.refl)) | (apply wz; (iterate 4 apply Eq.refl)))))
    | ((with_reducible refine gK ?_); ((first | (apply gsD; (iterate 4 apply Eq.refl)) | (apply RKo.gsplitE; (iterate 4 apply Eq.refl)) | (apply RKo.gsplitN; (iterate 4 apply Eq.refl)) | (apply RKo.gsplit; (iterate 4 apply Eq.refl))) <;> (intro hc; first | with_reducible exact ff hc | with_reducible exact ff' hc | exact absurd hc (by decide) | with_reducible exact absurd hc (by rw [hm1]; decide) | with_reducible exact absurd hc (by rw [hm2]; decide) | skip)))
    | (((with_reducible refine gW ?_); (first | refine WP.unroll 3 ?_ | with_reducible refine WP.seq ?_ | refine WP.reg mixed (fun ks => _) (fun ks => rfl) (fun ks => ?_) | ((first | (apply cdD; apply Eq.refl) | (apply WP.condE; apply Eq.refl) | (apply WP.condN; apply Eq.refl) | (apply WP.condA; apply Eq.refl)) <;> (intro hc; first | with_reducible exact ff hc | with_reducible exact ff' hc | exact absurd hc (by decide) | with_reducible exact absurd hc (by rw [hm1]; decide) | with_reducible exact absurd hc (by rw [hm2]; decide) | skip)) | refine WP.ret ?_ | refine WP.skip ?_ | refine WP.exit ?_ | refine WP.goto ?_ | refine WP.label ?_ | refine WP.block ?_)))
    | (with_reducible refine thn_n ?_)
    | (with_reducible refine thn_r ?_)
    | (with_reducible refine thn_e ?_)
    | (with_reducible refine thn_g ?_)
    | (with_reducible refine blk_n ?_)
    | (with_reducible refine blk_r ?_)
    | (with_reducible refine blk_e ?_)
    | (with_reducible refine blk_g ?_)
    | (((with_reducible refine blk_o ?_ ?_); first | exact rfl | skip))
    | (refine Endz.mk' (by first | exact Or.inl rfl | exact Or.inr rfl) (by repeat (first | exact RVs.nil | apply RVs.cons | exact RV1.tmp rfl | exact RV1.row rfl rfl rfl (by repeat (first | exact look_here | apply look_there)) (by exact rfl) | exact RV1.cell rfl rfl rfl (by repeat (first | exact look_here | apply look_there)) (by exact rfl))) (by rfl) (by repeat (first | exact List.nil_sublist _ | exact List.Sublist.refl _ | apply List.Sublist.cons_cons | apply List.Sublist.cons))))
end Go.Proofs.YtlhhcongoplfpaaDoor
namespace Go.Proofs.YtlhhcongoplfpaaDoor
open Go Go.Proofs.YtlhhcongoplfpaaDoorAB
variable {G : Nat}
set_option linter.unusedSimpArgs false
set_option linter.unusedVariables false

set_option maxRecDepth 20000 in
set_option maxHeartbeats 8000000 in
theorem stepK0 (c : Cfg) {ob : AObj} {k f : Nat} {X Y : Nat → Int} (tb : Tb ob f c.ocL X Y) (ok : TOk c.ocL X Y) (ha : 0 < c.ocL → c.ocA = some ⟨k, f, none⟩) (b p q : Nat) (lo hi lo1 hi1 lo2 hi2 v a1 a2 : Int) (pv f1 f2 : Bool) (hO : c.Ohm = 20) (h1 : -1000000000 ≤ a1) (h2 : a1 ≤ 1000000000) (v1 : -1000000000 ≤ v) (v2 : v ≤ 1000000000) (e1 : 0 ≤ c.SagErr) (e2 : c.SagErr ≤ 1000000000) (hs : sIs c v pv f1 = true) (hm1 : mIs (qLo c lo1 a1 f1) (qHi c hi1 a1 f1) (vtLo (qLo c lo1 a1 f1) (qHi c hi1 a1 f1) (qLo c lo2 a2 f2) (qHi c hi2 a2 f2) (sLo c X Y v a1 pv f1) (sHi c X Y v a1 pv f1) true) (vtHi (qLo c lo1 a1 f1) (qHi c hi1 a1 f1) (qLo c lo2 a2 f2) (qHi c hi2 a2 f2) (sLo c X Y v a1 pv f1) (sHi c X Y v a1 pv f1) true) = false) (hm2 : mIs (qLo c lo2 a2 f2) (qHi c hi2 a2 f2) (vtLo (qLo c lo1 a1 f1) (qHi c hi1 a1 f1) (qLo c lo2 a2 f2) (qHi c hi2 a2 f2) (sLo c X Y v a1 pv f1) (sHi c X Y v a1 pv f1) true) (vtHi (qLo c lo1 a1 f1) (qHi c hi1 a1 f1) (qLo c lo2 a2 f2) (qHi c hi2 a2 f2) (sLo c X Y v a1 pv f1) (sHi c X Y v a1 pv f1) true) = false) : Ctr Tryd.prog G 60 [.pointer (some ⟨b, 0, none⟩), .agg #[I64 (v), .bool pv], .agg #[I64 (a1), .bool f1], .agg #[I64 (a2), .bool f2]] [(b, .cells (bat c p q true (lo) (hi)) 137), (p, .cells (cnt_ c (lo1) (hi1)) 159), (q, .cells (cnt_ c (lo2) (hi2)) 159), (k, ob)] (.agg #[I64 ((vtLo (qLo c lo1 a1 f1) (qHi c hi1 a1 f1) (qLo c lo2 a2 f2) (qHi c hi2 a2 f2) (sLo c X Y v a1 pv f1) (sHi c X Y v a1 pv f1) true)), I64 ((vtHi (qLo c lo1 a1 f1) (qHi c hi1 a1 f1) (qLo c lo2 a2 f2) (qHi c hi2 a2 f2) (sLo c X Y v a1 pv f1) (sHi c X Y v a1 pv f1) true))]) [.cells (bat c p q true ((vtLo (qLo c lo1 a1 f1) (qHi c hi1 a1 f1) (qLo c lo2 a2 f2) (qHi c hi2 a2 f2) (sLo c X Y v a1 pv f1) (sHi c X Y v a1 pv f1) true)) ((vtHi (qLo c lo1 a1 f1) (qHi c hi1 a1 f1) (qLo c lo2 a2 f2) (qHi c hi2 a2 f2) (sLo c X Y v a1 pv f1) (sHi c X Y v a1 pv f1) true))) 137, .cells (cnt_ c (mx (mn (wLo (vtLo (qLo c lo1 a1 f1) (qHi c hi1 a1 f1) (qLo c lo2 a2 f2) (qHi c hi2 a2 f2) (sLo c X Y v a1 pv f1) (sHi c X Y v a1 pv f1) true) c.Drift) c.Cap) 0) (mx (mn (wHi (vtHi (qLo c lo1 a1 f1) (qHi c hi1 a1 f1) (qLo c lo2 a2 f2) (qHi c hi2 a2 f2) (sLo c X Y v a1 pv f1) (sHi c X Y v a1 pv f1) true) c.Drift) c.Cap) 0)) 159, .cells (cnt_ c (mx (mn (wLo (vtLo (qLo c lo1 a1 f1) (qHi c hi1 a1 f1) (qLo c lo2 a2 f2) (qHi c hi2 a2 f2) (sLo c X Y v a1 pv f1) (sHi c X Y v a1 pv f1) true) c.Drift) c.Cap) 0) (mx (mn (wHi (vtHi (qLo c lo1 a1 f1) (qHi c hi1 a1 f1) (qLo c lo2 a2 f2) (qHi c hi2 a2 f2) (sLo c X Y v a1 pv f1) (sHi c X Y v a1 pv f1) true) c.Drift) c.Cap) 0)) 159, ob] := by
  have hsag := sag_Charge (G := G) c tb ok ha v a1 pv f1 hO h1 h2 v1 v2 e1 e2
  rw [hs] at hsag
  refine Ctr.by layOk Tryd.func60 Tryd.ntmps60 rfl rfl rfl rfl rfl ?_
  repeat' (first
    | (with_reducible refine loopW_s ?_)
    | (((first | (with_reducible refine gQ0 ?_) | ((with_reducible refine gQ1 ?_ ?_); (focus (apply wg (r := true); (iterate 6 apply Eq.refl))))); (first | ((with_reducible apply q_box (k := ks _)); apply Eq.refl; (focus (repeat (with_reducible (first | apply lh | apply lt)))); apply Eq.refl) | ((with_reducible apply q_alloc (k := ks _) layOk); apply Eq.refl; (focus (repeat (with_reducible (first | apply lh | apply lt)))); apply Eq.refl) | ((with_reducible apply q_move); apply Eq.refl) | ((with_reducible apply q_assign); apply Eq.refl) | ((with_reducible apply q_int); (iterate 3 apply Eq.refl)) | ((with_reducible apply q_nilCheck); apply Eq.refl) | ((with_reducible apply q_fa layOk); (iterate 5 apply Eq.refl)) | ((with_reducible apply q_load layOk); (iterate 3 apply Eq.refl); (focus (repeat (with_reducible (first | apply lh | apply lt)))); apply Eq.refl) | ((with_reducible apply q_loadr layOk); (iterate 3 apply Eq.refl); (focus (repeat (with_reducible (first | apply lh | apply lt)))); apply Eq.refl) | ((with_reducible apply q_build layOk); (iterate 4 apply Eq.refl)) | ((with_reducible apply q_not); apply Eq.refl) | ((with_reducible apply q_box (k := ks _)); apply Eq.refl; (focus (repeat (with_reducible (first | apply lh | apply lt)))); apply Eq.refl) | ((with_reducible apply q_alloc (k := ks _) layOk); apply Eq.refl; (focus (repeat (with_reducible (first | apply lh | apply lt)))); apply Eq.refl) | ((with_reducible apply q_pick_t); (iterate 2 apply Eq.refl)) | ((with_reducible apply q_pick_f); (iterate 2 apply Eq.refl)) | ((with_reducible apply q_extract); (iterate 2 apply Eq.refl)) | ((with_reducible apply q_indexc layOk); (iterate 6 apply Eq.refl); (focus (decide)); (focus (decide)); apply Eq.refl) | ((with_reducible apply isF (f := 107)); (refine q_call1 rfl (Counter_Step p c _ _ _ _) (by first | (focus ((repeat (with_reducible (first | apply lh | apply lt))); done)) | (focus (apply lx; (focus (repeat (with_reducible (first | apply lh | apply lt)))); exact rfl))) (by exact rfl) ?_)) | ((with_reducible apply isF (f := 107)); (refine q_call1 rfl (Counter_Step q c _ _ _ _) (by first | (focus ((repeat (with_reducible (first | apply lh | apply lt))); done)) | (focus (apply lx; (focus (repeat (with_reducible (first | apply lh | apply lt)))); exact rfl))) (by exact rfl) ?_)) | (refine q_call1r rfl hsag (by first | (focus ((repeat (with_reducible (first | apply lh | apply lt))); done)) | (focus (apply lx; (focus (repeat (with_reducible (first | apply lh | apply lt)))); exact rfl))) ?_) | ((with_reducible apply isF (f := 109)); (refine q_callR rfl (Bat_vote_true c b p q _ _ _ _ _ _ _ _ _) rfl (by repeat (first | exact Fd.nil | apply Fd.cons | (focus ((repeat (with_reducible (first | apply lh | apply lt))); done)) | (focus (apply lx; (focus (repeat (with_reducible (first | apply lh | apply lt)))); exact rfl)))) (by decide) ?_)) | ((with_reducible apply isF (f := 105)); (refine q_call1r rfl (Counter_Q p c _ _) (by first | (focus ((repeat (with_reducible (first | apply lh | apply lt))); done)) | (focus (apply lx; (focus (repeat (with_reducible (first | apply lh | apply lt)))); exact rfl))) ?_)) | ((with_reducible apply isF (f := 105)); (refine q_call1r rfl (Counter_Q q c _ _) (by first | (focus ((repeat (with_reducible (first | apply lh | apply lt))); done)) | (focus (apply lx; (focus (repeat (with_reducible (first | apply lh | apply lt)))); exact rfl))) ?_)) | ((with_reducible apply isF (f := 110)); (refine q_call0 rfl (span_Meet _ _ _ _) ?_)) | ((with_reducible apply isF (f := 92)); (refine q_call0 rfl (span_Widen _ _ _) ?_)) | ((with_reducible apply isF (f := 108)); (refine q_call1 rfl (Counter_Set p c _ _ _ _) (by first | (focus ((repeat (with_reducible (first | apply lh | apply lt))); done)) | (focus (apply lx; (focus (repeat (with_reducible (first | apply lh | apply lt)))); exact rfl))) (by exact rfl) ?_)) | ((with_reducible apply isF (f := 108)); (refine q_call1 rfl (Counter_Set q c _ _ _ _) (by first | (focus ((repeat (with_reducible (first | apply lh | apply lt))); done)) | (focus (apply lx; (focus (repeat (with_reducible (first | apply lh | apply lt)))); exact rfl))) (by exact rfl) ?_)) | ((with_reducible apply e_store layOk); (iterate 3 apply Eq.refl); (focus (repeat (with_reducible (first | apply lh | apply lt)))); (iterate 5 apply Eq.refl)))))
    | (((with_reducible refine gR ?_); (first | refine RK.peelN rfl ?_ | refine RK.donef rfl ⟨_, rfl, ?_⟩ | refine RK.donet rfl (by kernel_rfl) ⟨_, rfl, ?_⟩)))
    | ((first | (with_reducible refine gQv ?_ ?_) | (with_reducible refine gQe ?_ ?_)); (focus (first | (apply wg (r := false); (iterate 6 apply Eq.refl)) | (apply wz; (iterate 4 apply Eq.refl)))))
    | ((with_reducible refine gK ?_); ((first | (apply gsD; (iterate 4 apply Eq.refl)) | (apply RKo.gsplitE; (iterate 4 apply Eq.refl)) | (apply RKo.gsplitN; (iterate 4 apply Eq.refl)) | (apply RKo.gsplit; (iterate 4 apply Eq.refl))) <;> (intro hc; first | with_reducible exact ff hc | with_reducible exact ff' hc | exact absurd hc (by decide) | with_reducible exact absurd hc (by rw [hm1]; decide) | with_reducible exact absurd hc (by rw [hm2]; decide) | skip)))
    | (((with_reducible refine gW ?_); (first | refine WP.unroll 3 ?_ | with_reducible refine WP.seq ?_ | refine WP.reg mixed (fun ks => _) (fun ks => rfl) (fun ks => ?_) | ((first | (apply cdD; apply Eq.refl) | (apply WP.condE; apply Eq.refl) | (apply WP.condN; apply Eq.refl) | (apply WP.condA; apply Eq.refl)) <;> (intro hc; first | with_reducible exact ff hc | with_reducible exact ff' hc | exact absurd hc (by decide) | with_reducible exact absurd hc (by rw [hm1]; decide) | with_reducible exact absurd hc (by rw [hm2]; decide) | skip)) | refine WP.ret ?_ | refine WP.skip ?_ | refine WP.exit ?_ | refine WP.goto ?_ | refine WP.label ?_ | refine WP.block ?_)))
    | (with_reducible refine thn_n ?_)
    | (with_reducible refine thn_r ?_)
    | (with_reducible refine thn_e ?_)
    | (with_reducible refine thn_g ?_)
    | (with_reducible refine blk_n ?_)
    | (with_reducible refine blk_r ?_)
    | (with_reducible refine blk_e ?_)
    | (with_reducible refine blk_g ?_)
    | (((with_reducible refine blk_o ?_ ?_); first | exact rfl | skip))
    | (refine Endz.mk' (by first | exact Or.inl rfl | exact Or.inr rfl) (by repeat (first | exact RVs.nil | apply RVs.cons | exact RV1.tmp rfl | exact RV1.row rfl rfl rfl (by repeat (first | exact look_here | apply look_there)) (by exact rfl) | exact RV1.cell rfl rfl rfl (by repeat (first | exact look_here | apply look_there)) (by exact rfl))) (by rfl) (by repeat (first | exact List.nil_sublist _ | exact List.Sublist.refl _ | apply List.Sublist.cons_cons | apply List.Sublist.cons))))

set_option maxRecDepth 20000 in
set_option maxHeartbeats 8000000 in
theorem stepK1 (c : Cfg) {ob : AObj} {k f : Nat} {X Y : Nat → Int} (tb : Tb ob f c.ocL X Y) (ok : TOk c.ocL X Y) (ha : 0 < c.ocL → c.ocA = some ⟨k, f, none⟩) (b p q : Nat) (lo hi lo1 hi1 lo2 hi2 v a1 a2 : Int) (pv f1 f2 : Bool) (hO : c.Ohm = 20) (h1 : -1000000000 ≤ a1) (h2 : a1 ≤ 1000000000) (v1 : -1000000000 ≤ v) (v2 : v ≤ 1000000000) (e1 : 0 ≤ c.SagErr) (e2 : c.SagErr ≤ 1000000000) (hs : sIs c v pv f1 = true) (hm1 : mIs (qLo c lo1 a1 f1) (qHi c hi1 a1 f1) (vtLo (qLo c lo1 a1 f1) (qHi c hi1 a1 f1) (qLo c lo2 a2 f2) (qHi c hi2 a2 f2) (sLo c X Y v a1 pv f1) (sHi c X Y v a1 pv f1) true) (vtHi (qLo c lo1 a1 f1) (qHi c hi1 a1 f1) (qLo c lo2 a2 f2) (qHi c hi2 a2 f2) (sLo c X Y v a1 pv f1) (sHi c X Y v a1 pv f1) true) = true) (hm2 : mIs (qLo c lo2 a2 f2) (qHi c hi2 a2 f2) (vtLo (qLo c lo1 a1 f1) (qHi c hi1 a1 f1) (qLo c lo2 a2 f2) (qHi c hi2 a2 f2) (sLo c X Y v a1 pv f1) (sHi c X Y v a1 pv f1) true) (vtHi (qLo c lo1 a1 f1) (qHi c hi1 a1 f1) (qLo c lo2 a2 f2) (qHi c hi2 a2 f2) (sLo c X Y v a1 pv f1) (sHi c X Y v a1 pv f1) true) = false) : Ctr Tryd.prog G 60 [.pointer (some ⟨b, 0, none⟩), .agg #[I64 (v), .bool pv], .agg #[I64 (a1), .bool f1], .agg #[I64 (a2), .bool f2]] [(b, .cells (bat c p q true (lo) (hi)) 137), (p, .cells (cnt_ c (lo1) (hi1)) 159), (q, .cells (cnt_ c (lo2) (hi2)) 159), (k, ob)] (.agg #[I64 ((vtLo (qLo c lo1 a1 f1) (qHi c hi1 a1 f1) (qLo c lo2 a2 f2) (qHi c hi2 a2 f2) (sLo c X Y v a1 pv f1) (sHi c X Y v a1 pv f1) true)), I64 ((vtHi (qLo c lo1 a1 f1) (qHi c hi1 a1 f1) (qLo c lo2 a2 f2) (qHi c hi2 a2 f2) (sLo c X Y v a1 pv f1) (sHi c X Y v a1 pv f1) true))]) [.cells (bat c p q true ((vtLo (qLo c lo1 a1 f1) (qHi c hi1 a1 f1) (qLo c lo2 a2 f2) (qHi c hi2 a2 f2) (sLo c X Y v a1 pv f1) (sHi c X Y v a1 pv f1) true)) ((vtHi (qLo c lo1 a1 f1) (qHi c hi1 a1 f1) (qLo c lo2 a2 f2) (qHi c hi2 a2 f2) (sLo c X Y v a1 pv f1) (sHi c X Y v a1 pv f1) true))) 137, .cells (cnt_ c ((qLo c lo1 a1 f1)) ((qHi c hi1 a1 f1))) 159, .cells (cnt_ c (mx (mn (wLo (vtLo (qLo c lo1 a1 f1) (qHi c hi1 a1 f1) (qLo c lo2 a2 f2) (qHi c hi2 a2 f2) (sLo c X Y v a1 pv f1) (sHi c X Y v a1 pv f1) true) c.Drift) c.Cap) 0) (mx (mn (wHi (vtHi (qLo c lo1 a1 f1) (qHi c hi1 a1 f1) (qLo c lo2 a2 f2) (qHi c hi2 a2 f2) (sLo c X Y v a1 pv f1) (sHi c X Y v a1 pv f1) true) c.Drift) c.Cap) 0)) 159, ob] := by
  have hsag := sag_Charge (G := G) c tb ok ha v a1 pv f1 hO h1 h2 v1 v2 e1 e2
  rw [hs] at hsag
  refine Ctr.by layOk Tryd.func60 Tryd.ntmps60 rfl rfl rfl rfl rfl ?_
  repeat' (first
    | (with_reducible refine loopW_s ?_)
    | (((first | (with_reducible refine gQ0 ?_) | ((with_reducible refine gQ1 ?_ ?_); (focus (apply wg (r := true); (iterate 6 apply Eq.refl))))); (first | ((with_reducible apply q_box (k := ks _)); apply Eq.refl; (focus (repeat (with_reducible (first | apply lh | apply lt)))); apply Eq.refl) | ((with_reducible apply q_alloc (k := ks _) layOk); apply Eq.refl; (focus (repeat (with_reducible (first | apply lh | apply lt)))); apply Eq.refl) | ((with_reducible apply q_move); apply Eq.refl) | ((with_reducible apply q_assign); apply Eq.refl) | ((with_reducible apply q_int); (iterate 3 apply Eq.refl)) | ((with_reducible apply q_nilCheck); apply Eq.refl) | ((with_reducible apply q_fa layOk); (iterate 5 apply Eq.refl)) | ((with_reducible apply q_load layOk); (iterate 3 apply Eq.refl); (focus (repeat (with_reducible (first | apply lh | apply lt)))); apply Eq.refl) | ((with_reducible apply q_loadr layOk); (iterate 3 apply Eq.refl); (focus (repeat (with_reducible (first | apply lh | apply lt)))); apply Eq.refl) | ((with_reducible apply q_build layOk); (iterate 4 apply Eq.refl)) | ((with_reducible apply q_not); apply Eq.refl) | ((with_reducible apply q_box (k := ks _)); apply Eq.refl; (focus (repeat (with_reducible (first | apply lh | apply lt)))); apply Eq.refl) | ((with_reducible apply q_alloc (k := ks _) layOk); apply Eq.refl; (focus (repeat (with_reducible (first | apply lh | apply lt)))); apply Eq.refl) | ((with_reducible apply q_pick_t); (iterate 2 apply Eq.refl)) | ((with_reducible apply q_pick_f); (iterate 2 apply Eq.refl)) | ((with_reducible apply q_extract); (iterate 2 apply Eq.refl)) | ((with_reducible apply q_indexc layOk); (iterate 6 apply Eq.refl); (focus (decide)); (focus (decide)); apply Eq.refl) | ((with_reducible apply isF (f := 107)); (refine q_call1 rfl (Counter_Step p c _ _ _ _) (by first | (focus ((repeat (with_reducible (first | apply lh | apply lt))); done)) | (focus (apply lx; (focus (repeat (with_reducible (first | apply lh | apply lt)))); exact rfl))) (by exact rfl) ?_)) | ((with_reducible apply isF (f := 107)); (refine q_call1 rfl (Counter_Step q c _ _ _ _) (by first | (focus ((repeat (with_reducible (first | apply lh | apply lt))); done)) | (focus (apply lx; (focus (repeat (with_reducible (first | apply lh | apply lt)))); exact rfl))) (by exact rfl) ?_)) | (refine q_call1r rfl hsag (by first | (focus ((repeat (with_reducible (first | apply lh | apply lt))); done)) | (focus (apply lx; (focus (repeat (with_reducible (first | apply lh | apply lt)))); exact rfl))) ?_) | ((with_reducible apply isF (f := 109)); (refine q_callR rfl (Bat_vote_true c b p q _ _ _ _ _ _ _ _ _) rfl (by repeat (first | exact Fd.nil | apply Fd.cons | (focus ((repeat (with_reducible (first | apply lh | apply lt))); done)) | (focus (apply lx; (focus (repeat (with_reducible (first | apply lh | apply lt)))); exact rfl)))) (by decide) ?_)) | ((with_reducible apply isF (f := 105)); (refine q_call1r rfl (Counter_Q p c _ _) (by first | (focus ((repeat (with_reducible (first | apply lh | apply lt))); done)) | (focus (apply lx; (focus (repeat (with_reducible (first | apply lh | apply lt)))); exact rfl))) ?_)) | ((with_reducible apply isF (f := 105)); (refine q_call1r rfl (Counter_Q q c _ _) (by first | (focus ((repeat (with_reducible (first | apply lh | apply lt))); done)) | (focus (apply lx; (focus (repeat (with_reducible (first | apply lh | apply lt)))); exact rfl))) ?_)) | ((with_reducible apply isF (f := 110)); (refine q_call0 rfl (span_Meet _ _ _ _) ?_)) | ((with_reducible apply isF (f := 92)); (refine q_call0 rfl (span_Widen _ _ _) ?_)) | ((with_reducible apply isF (f := 108)); (refine q_call1 rfl (Counter_Set p c _ _ _ _) (by first | (focus ((repeat (with_reducible (first | apply lh | apply lt))); done)) | (focus (apply lx; (focus (repeat (with_reducible (first | apply lh | apply lt)))); exact rfl))) (by exact rfl) ?_)) | ((with_reducible apply isF (f := 108)); (refine q_call1 rfl (Counter_Set q c _ _ _ _) (by first | (focus ((repeat (with_reducible (first | apply lh | apply lt))); done)) | (focus (apply lx; (focus (repeat (with_reducible (first | apply lh | apply lt)))); exact rfl))) (by exact rfl) ?_)) | ((with_reducible apply e_store layOk); (iterate 3 apply Eq.refl); (focus (repeat (with_reducible (first | apply lh | apply lt)))); (iterate 5 apply Eq.refl)))))
    | (((with_reducible refine gR ?_); (first | refine RK.peelN rfl ?_ | refine RK.donef rfl ⟨_, rfl, ?_⟩ | refine RK.donet rfl (by kernel_rfl) ⟨_, rfl, ?_⟩)))
    | ((first | (with_reducible refine gQv ?_ ?_) | (with_reducible refine gQe ?_ ?_)); (focus (first | (apply wg (r := false); (iterate 6 apply Eq.refl)) | (apply wz; (iterate 4 apply Eq.refl)))))
    | ((with_reducible refine gK ?_); ((first | (apply gsD; (iterate 4 apply Eq.refl)) | (apply RKo.gsplitE; (iterate 4 apply Eq.refl)) | (apply RKo.gsplitN; (iterate 4 apply Eq.refl)) | (apply RKo.gsplit; (iterate 4 apply Eq.refl))) <;> (intro hc; first | with_reducible exact ff hc | with_reducible exact ff' hc | exact absurd hc (by decide) | with_reducible exact absurd hc (by rw [hm1]; decide) | with_reducible exact absurd hc (by rw [hm2]; decide) | skip)))
    | (((with_reducible refine gW ?_); (first | refine WP.unroll 3 ?_ | with_reducible refine WP.seq ?_ | refine WP.reg mixed (fun ks => _) (fun ks => rfl) (fun ks => ?_) | ((first | (apply cdD; apply Eq.refl) | (apply WP.condE; apply Eq.refl) | (apply WP.condN; apply Eq.refl) | (apply WP.condA; apply Eq.refl)) <;> (intro hc; first | with_reducible exact ff hc | with_reducible exact ff' hc | exact absurd hc (by decide) | with_reducible exact absurd hc (by rw [hm1]; decide) | with_reducible exact absurd hc (by rw [hm2]; decide) | skip)) | refine WP.ret ?_ | refine WP.skip ?_ | refine WP.exit ?_ | refine WP.goto ?_ | refine WP.label ?_ | refine WP.block ?_)))
    | (with_reducible refine thn_n ?_)
    | (with_reducible refine thn_r ?_)
    | (with_reducible refine thn_e ?_)
    | (with_reducible refine thn_g ?_)
    | (with_reducible refine blk_n ?_)
    | (with_reducible refine blk_r ?_)
    | (with_reducible refine blk_e ?_)
    | (with_reducible refine blk_g ?_)
    | (((with_reducible refine blk_o ?_ ?_); first | exact rfl | skip))
    | (refine Endz.mk' (by first | exact Or.inl rfl | exact Or.inr rfl) (by repeat (first | exact RVs.nil | apply RVs.cons | exact RV1.tmp rfl | exact RV1.row rfl rfl rfl (by repeat (first | exact look_here | apply look_there)) (by exact rfl) | exact RV1.cell rfl rfl rfl (by repeat (first | exact look_here | apply look_there)) (by exact rfl))) (by rfl) (by repeat (first | exact List.nil_sublist _ | exact List.Sublist.refl _ | apply List.Sublist.cons_cons | apply List.Sublist.cons))))

set_option maxRecDepth 20000 in
set_option maxHeartbeats 8000000 in
theorem stepK2 (c : Cfg) {ob : AObj} {k f : Nat} {X Y : Nat → Int} (tb : Tb ob f c.ocL X Y) (ok : TOk c.ocL X Y) (ha : 0 < c.ocL → c.ocA = some ⟨k, f, none⟩) (b p q : Nat) (lo hi lo1 hi1 lo2 hi2 v a1 a2 : Int) (pv f1 f2 : Bool) (hO : c.Ohm = 20) (h1 : -1000000000 ≤ a1) (h2 : a1 ≤ 1000000000) (v1 : -1000000000 ≤ v) (v2 : v ≤ 1000000000) (e1 : 0 ≤ c.SagErr) (e2 : c.SagErr ≤ 1000000000) (hs : sIs c v pv f1 = true) (hm1 : mIs (qLo c lo1 a1 f1) (qHi c hi1 a1 f1) (vtLo (qLo c lo1 a1 f1) (qHi c hi1 a1 f1) (qLo c lo2 a2 f2) (qHi c hi2 a2 f2) (sLo c X Y v a1 pv f1) (sHi c X Y v a1 pv f1) true) (vtHi (qLo c lo1 a1 f1) (qHi c hi1 a1 f1) (qLo c lo2 a2 f2) (qHi c hi2 a2 f2) (sLo c X Y v a1 pv f1) (sHi c X Y v a1 pv f1) true) = false) (hm2 : mIs (qLo c lo2 a2 f2) (qHi c hi2 a2 f2) (vtLo (qLo c lo1 a1 f1) (qHi c hi1 a1 f1) (qLo c lo2 a2 f2) (qHi c hi2 a2 f2) (sLo c X Y v a1 pv f1) (sHi c X Y v a1 pv f1) true) (vtHi (qLo c lo1 a1 f1) (qHi c hi1 a1 f1) (qLo c lo2 a2 f2) (qHi c hi2 a2 f2) (sLo c X Y v a1 pv f1) (sHi c X Y v a1 pv f1) true) = true) : Ctr Tryd.prog G 60 [.pointer (some ⟨b, 0, none⟩), .agg #[I64 (v), .bool pv], .agg #[I64 (a1), .bool f1], .agg #[I64 (a2), .bool f2]] [(b, .cells (bat c p q true (lo) (hi)) 137), (p, .cells (cnt_ c (lo1) (hi1)) 159), (q, .cells (cnt_ c (lo2) (hi2)) 159), (k, ob)] (.agg #[I64 ((vtLo (qLo c lo1 a1 f1) (qHi c hi1 a1 f1) (qLo c lo2 a2 f2) (qHi c hi2 a2 f2) (sLo c X Y v a1 pv f1) (sHi c X Y v a1 pv f1) true)), I64 ((vtHi (qLo c lo1 a1 f1) (qHi c hi1 a1 f1) (qLo c lo2 a2 f2) (qHi c hi2 a2 f2) (sLo c X Y v a1 pv f1) (sHi c X Y v a1 pv f1) true))]) [.cells (bat c p q true ((vtLo (qLo c lo1 a1 f1) (qHi c hi1 a1 f1) (qLo c lo2 a2 f2) (qHi c hi2 a2 f2) (sLo c X Y v a1 pv f1) (sHi c X Y v a1 pv f1) true)) ((vtHi (qLo c lo1 a1 f1) (qHi c hi1 a1 f1) (qLo c lo2 a2 f2) (qHi c hi2 a2 f2) (sLo c X Y v a1 pv f1) (sHi c X Y v a1 pv f1) true))) 137, .cells (cnt_ c (mx (mn (wLo (vtLo (qLo c lo1 a1 f1) (qHi c hi1 a1 f1) (qLo c lo2 a2 f2) (qHi c hi2 a2 f2) (sLo c X Y v a1 pv f1) (sHi c X Y v a1 pv f1) true) c.Drift) c.Cap) 0) (mx (mn (wHi (vtHi (qLo c lo1 a1 f1) (qHi c hi1 a1 f1) (qLo c lo2 a2 f2) (qHi c hi2 a2 f2) (sLo c X Y v a1 pv f1) (sHi c X Y v a1 pv f1) true) c.Drift) c.Cap) 0)) 159, .cells (cnt_ c ((qLo c lo2 a2 f2)) ((qHi c hi2 a2 f2))) 159, ob] := by
  have hsag := sag_Charge (G := G) c tb ok ha v a1 pv f1 hO h1 h2 v1 v2 e1 e2
  rw [hs] at hsag
  refine Ctr.by layOk Tryd.func60 Tryd.ntmps60 rfl rfl rfl rfl rfl ?_
  repeat' (first
    | (with_reducible refine loopW_s ?_)
    | (((first | (with_reducible refine gQ0 ?_) | ((with_reducible refine gQ1 ?_ ?_); (focus (apply wg (r := true); (iterate 6 apply Eq.refl))))); (first | ((with_reducible apply q_box (k := ks _)); apply Eq.refl; (focus (repeat (with_reducible (first | apply lh | apply lt)))); apply Eq.refl) | ((with_reducible apply q_alloc (k := ks _) layOk); apply Eq.refl; (focus (repeat (with_reducible (first | apply lh | apply lt)))); apply Eq.refl) | ((with_reducible apply q_move); apply Eq.refl) | ((with_reducible apply q_assign); apply Eq.refl) | ((with_reducible apply q_int); (iterate 3 apply Eq.refl)) | ((with_reducible apply q_nilCheck); apply Eq.refl) | ((with_reducible apply q_fa layOk); (iterate 5 apply Eq.refl)) | ((with_reducible apply q_load layOk); (iterate 3 apply Eq.refl); (focus (repeat (with_reducible (first | apply lh | apply lt)))); apply Eq.refl) | ((with_reducible apply q_loadr layOk); (iterate 3 apply Eq.refl); (focus (repeat (with_reducible (first | apply lh | apply lt)))); apply Eq.refl) | ((with_reducible apply q_build layOk); (iterate 4 apply Eq.refl)) | ((with_reducible apply q_not); apply Eq.refl) | ((with_reducible apply q_box (k := ks _)); apply Eq.refl; (focus (repeat (with_reducible (first | apply lh | apply lt)))); apply Eq.refl) | ((with_reducible apply q_alloc (k := ks _) layOk); apply Eq.refl; (focus (repeat (with_reducible (first | apply lh | apply lt)))); apply Eq.refl) | ((with_reducible apply q_pick_t); (iterate 2 apply Eq.refl)) | ((with_reducible apply q_pick_f); (iterate 2 apply Eq.refl)) | ((with_reducible apply q_extract); (iterate 2 apply Eq.refl)) | ((with_reducible apply q_indexc layOk); (iterate 6 apply Eq.refl); (focus (decide)); (focus (decide)); apply Eq.refl) | ((with_reducible apply isF (f := 107)); (refine q_call1 rfl (Counter_Step p c _ _ _ _) (by first | (focus ((repeat (with_reducible (first | apply lh | apply lt))); done)) | (focus (apply lx; (focus (repeat (with_reducible (first | apply lh | apply lt)))); exact rfl))) (by exact rfl) ?_)) | ((with_reducible apply isF (f := 107)); (refine q_call1 rfl (Counter_Step q c _ _ _ _) (by first | (focus ((repeat (with_reducible (first | apply lh | apply lt))); done)) | (focus (apply lx; (focus (repeat (with_reducible (first | apply lh | apply lt)))); exact rfl))) (by exact rfl) ?_)) | (refine q_call1r rfl hsag (by first | (focus ((repeat (with_reducible (first | apply lh | apply lt))); done)) | (focus (apply lx; (focus (repeat (with_reducible (first | apply lh | apply lt)))); exact rfl))) ?_) | ((with_reducible apply isF (f := 109)); (refine q_callR rfl (Bat_vote_true c b p q _ _ _ _ _ _ _ _ _) rfl (by repeat (first | exact Fd.nil | apply Fd.cons | (focus ((repeat (with_reducible (first | apply lh | apply lt))); done)) | (focus (apply lx; (focus (repeat (with_reducible (first | apply lh | apply lt)))); exact rfl)))) (by decide) ?_)) | ((with_reducible apply isF (f := 105)); (refine q_call1r rfl (Counter_Q p c _ _) (by first | (focus ((repeat (with_reducible (first | apply lh | apply lt))); done)) | (focus (apply lx; (focus (repeat (with_reducible (first | apply lh | apply lt)))); exact rfl))) ?_)) | ((with_reducible apply isF (f := 105)); (refine q_call1r rfl (Counter_Q q c _ _) (by first | (focus ((repeat (with_reducible (first | apply lh | apply lt))); done)) | (focus (apply lx; (focus (repeat (with_reducible (first | apply lh | apply lt)))); exact rfl))) ?_)) | ((with_reducible apply isF (f := 110)); (refine q_call0 rfl (span_Meet _ _ _ _) ?_)) | ((with_reducible apply isF (f := 92)); (refine q_call0 rfl (span_Widen _ _ _) ?_)) | ((with_reducible apply isF (f := 108)); (refine q_call1 rfl (Counter_Set p c _ _ _ _) (by first | (focus ((repeat (with_reducible (first | apply lh | apply lt))); done)) | (focus (apply lx; (focus (repeat (with_reducible (first | apply lh | apply lt)))); exact rfl))) (by exact rfl) ?_)) | ((with_reducible apply isF (f := 108)); (refine q_call1 rfl (Counter_Set q c _ _ _ _) (by first | (focus ((repeat (with_reducible (first | apply lh | apply lt))); done)) | (focus (apply lx; (focus (repeat (with_reducible (first | apply lh | apply lt)))); exact rfl))) (by exact rfl) ?_)) | ((with_reducible apply e_store layOk); (iterate 3 apply Eq.refl); (focus (repeat (with_reducible (first | apply lh | apply lt)))); (iterate 5 apply Eq.refl)))))
    | (((with_reducible refine gR ?_); (first | refine RK.peelN rfl ?_ | refine RK.donef rfl ⟨_, rfl, ?_⟩ | refine RK.donet rfl (by kernel_rfl) ⟨_, rfl, ?_⟩)))
    | ((first | (with_reducible refine gQv ?_ ?_) | (with_reducible refine gQe ?_ ?_)); (focus (first | (apply wg (r := false); (iterate 6 apply Eq.refl)) | (apply wz; (iterate 4 apply Eq.refl)))))
    | ((with_reducible refine gK ?_); ((first | (apply gsD; (iterate 4 apply Eq.refl)) | (apply RKo.gsplitE; (iterate 4 apply Eq.refl)) | (apply RKo.gsplitN; (iterate 4 apply Eq.refl)) | (apply RKo.gsplit; (iterate 4 apply Eq.refl))) <;> (intro hc; first | with_reducible exact ff hc | with_reducible exact ff' hc | exact absurd hc (by decide) | with_reducible exact absurd hc (by rw [hm1]; decide) | with_reducible exact absurd hc (by rw [hm2]; decide) | skip)))
    | (((with_reducible refine gW ?_); (first | refine WP.unroll 3 ?_ | with_reducible refine WP.seq ?_ | refine WP.reg mixed (fun ks => _) (fun ks => rfl) (fun ks => ?_) | ((first | (apply cdD; apply Eq.refl) | (apply WP.condE; apply Eq.refl) | (apply WP.condN; apply Eq.refl) | (apply WP.condA; apply Eq.refl)) <;> (intro hc; first | with_reducible exact ff hc | with_reducible exact ff' hc | exact absurd hc (by decide) | with_reducible exact absurd hc (by rw [hm1]; decide) | with_reducible exact absurd hc (by rw [hm2]; decide) | skip)) | refine WP.ret ?_ | refine WP.skip ?_ | refine WP.exit ?_ | refine WP.goto ?_ | refine WP.label ?_ | refine WP.block ?_)))
    | (with_reducible refine thn_n ?_)
    | (with_reducible refine thn_r ?_)
    | (with_reducible refine thn_e ?_)
    | (with_reducible refine thn_g ?_)
    | (with_reducible refine blk_n ?_)
    | (with_reducible refine blk_r ?_)
    | (with_reducible refine blk_e ?_)
    | (with_reducible refine blk_g ?_)
    | (((with_reducible refine blk_o ?_ ?_); first | exact rfl | skip))
    | (refine Endz.mk' (by first | exact Or.inl rfl | exact Or.inr rfl) (by repeat (first | exact RVs.nil | apply RVs.cons | exact RV1.tmp rfl | exact RV1.row rfl rfl rfl (by repeat (first | exact look_here | apply look_there)) (by exact rfl) | exact RV1.cell rfl rfl rfl (by repeat (first | exact look_here | apply look_there)) (by exact rfl))) (by rfl) (by repeat (first | exact List.nil_sublist _ | exact List.Sublist.refl _ | apply List.Sublist.cons_cons | apply List.Sublist.cons))))

set_option maxRecDepth 20000 in
set_option maxHeartbeats 8000000 in
theorem stepK3 (c : Cfg) {ob : AObj} {k f : Nat} {X Y : Nat → Int} (tb : Tb ob f c.ocL X Y) (ok : TOk c.ocL X Y) (ha : 0 < c.ocL → c.ocA = some ⟨k, f, none⟩) (b p q : Nat) (lo hi lo1 hi1 lo2 hi2 v a1 a2 : Int) (pv f1 f2 : Bool) (hO : c.Ohm = 20) (h1 : -1000000000 ≤ a1) (h2 : a1 ≤ 1000000000) (v1 : -1000000000 ≤ v) (v2 : v ≤ 1000000000) (e1 : 0 ≤ c.SagErr) (e2 : c.SagErr ≤ 1000000000) (hs : sIs c v pv f1 = true) (hm1 : mIs (qLo c lo1 a1 f1) (qHi c hi1 a1 f1) (vtLo (qLo c lo1 a1 f1) (qHi c hi1 a1 f1) (qLo c lo2 a2 f2) (qHi c hi2 a2 f2) (sLo c X Y v a1 pv f1) (sHi c X Y v a1 pv f1) true) (vtHi (qLo c lo1 a1 f1) (qHi c hi1 a1 f1) (qLo c lo2 a2 f2) (qHi c hi2 a2 f2) (sLo c X Y v a1 pv f1) (sHi c X Y v a1 pv f1) true) = true) (hm2 : mIs (qLo c lo2 a2 f2) (qHi c hi2 a2 f2) (vtLo (qLo c lo1 a1 f1) (qHi c hi1 a1 f1) (qLo c lo2 a2 f2) (qHi c hi2 a2 f2) (sLo c X Y v a1 pv f1) (sHi c X Y v a1 pv f1) true) (vtHi (qLo c lo1 a1 f1) (qHi c hi1 a1 f1) (qLo c lo2 a2 f2) (qHi c hi2 a2 f2) (sLo c X Y v a1 pv f1) (sHi c X Y v a1 pv f1) true) = true) : Ctr Tryd.prog G 60 [.pointer (some ⟨b, 0, none⟩), .agg #[I64 (v), .bool pv], .agg #[I64 (a1), .bool f1], .agg #[I64 (a2), .bool f2]] [(b, .cells (bat c p q true (lo) (hi)) 137), (p, .cells (cnt_ c (lo1) (hi1)) 159), (q, .cells (cnt_ c (lo2) (hi2)) 159), (k, ob)] (.agg #[I64 ((vtLo (qLo c lo1 a1 f1) (qHi c hi1 a1 f1) (qLo c lo2 a2 f2) (qHi c hi2 a2 f2) (sLo c X Y v a1 pv f1) (sHi c X Y v a1 pv f1) true)), I64 ((vtHi (qLo c lo1 a1 f1) (qHi c hi1 a1 f1) (qLo c lo2 a2 f2) (qHi c hi2 a2 f2) (sLo c X Y v a1 pv f1) (sHi c X Y v a1 pv f1) true))]) [.cells (bat c p q true ((vtLo (qLo c lo1 a1 f1) (qHi c hi1 a1 f1) (qLo c lo2 a2 f2) (qHi c hi2 a2 f2) (sLo c X Y v a1 pv f1) (sHi c X Y v a1 pv f1) true)) ((vtHi (qLo c lo1 a1 f1) (qHi c hi1 a1 f1) (qLo c lo2 a2 f2) (qHi c hi2 a2 f2) (sLo c X Y v a1 pv f1) (sHi c X Y v a1 pv f1) true))) 137, .cells (cnt_ c ((qLo c lo1 a1 f1)) ((qHi c hi1 a1 f1))) 159, .cells (cnt_ c ((qLo c lo2 a2 f2)) ((qHi c hi2 a2 f2))) 159, ob] := by
  have hsag := sag_Charge (G := G) c tb ok ha v a1 pv f1 hO h1 h2 v1 v2 e1 e2
  rw [hs] at hsag
  refine Ctr.by layOk Tryd.func60 Tryd.ntmps60 rfl rfl rfl rfl rfl ?_
  repeat' (first
    | (with_reducible refine loopW_s ?_)
    | (((first | (with_reducible refine gQ0 ?_) | ((with_reducible refine gQ1 ?_ ?_); (focus (apply wg (r := true); (iterate 6 apply Eq.refl))))); (first | ((with_reducible apply q_box (k := ks _)); apply Eq.refl; (focus (repeat (with_reducible (first | apply lh | apply lt)))); apply Eq.refl) | ((with_reducible apply q_alloc (k := ks _) layOk); apply Eq.refl; (focus (repeat (with_reducible (first | apply lh | apply lt)))); apply Eq.refl) | ((with_reducible apply q_move); apply Eq.refl) | ((with_reducible apply q_assign); apply Eq.refl) | ((with_reducible apply q_int); (iterate 3 apply Eq.refl)) | ((with_reducible apply q_nilCheck); apply Eq.refl) | ((with_reducible apply q_fa layOk); (iterate 5 apply Eq.refl)) | ((with_reducible apply q_load layOk); (iterate 3 apply Eq.refl); (focus (repeat (with_reducible (first | apply lh | apply lt)))); apply Eq.refl) | ((with_reducible apply q_loadr layOk); (iterate 3 apply Eq.refl); (focus (repeat (with_reducible (first | apply lh | apply lt)))); apply Eq.refl) | ((with_reducible apply q_build layOk); (iterate 4 apply Eq.refl)) | ((with_reducible apply q_not); apply Eq.refl) | ((with_reducible apply q_box (k := ks _)); apply Eq.refl; (focus (repeat (with_reducible (first | apply lh | apply lt)))); apply Eq.refl) | ((with_reducible apply q_alloc (k := ks _) layOk); apply Eq.refl; (focus (repeat (with_reducible (first | apply lh | apply lt)))); apply Eq.refl) | ((with_reducible apply q_pick_t); (iterate 2 apply Eq.refl)) | ((with_reducible apply q_pick_f); (iterate 2 apply Eq.refl)) | ((with_reducible apply q_extract); (iterate 2 apply Eq.refl)) | ((with_reducible apply q_indexc layOk); (iterate 6 apply Eq.refl); (focus (decide)); (focus (decide)); apply Eq.refl) | ((with_reducible apply isF (f := 107)); (refine q_call1 rfl (Counter_Step p c _ _ _ _) (by first | (focus ((repeat (with_reducible (first | apply lh | apply lt))); done)) | (focus (apply lx; (focus (repeat (with_reducible (first | apply lh | apply lt)))); exact rfl))) (by exact rfl) ?_)) | ((with_reducible apply isF (f := 107)); (refine q_call1 rfl (Counter_Step q c _ _ _ _) (by first | (focus ((repeat (with_reducible (first | apply lh | apply lt))); done)) | (focus (apply lx; (focus (repeat (with_reducible (first | apply lh | apply lt)))); exact rfl))) (by exact rfl) ?_)) | (refine q_call1r rfl hsag (by first | (focus ((repeat (with_reducible (first | apply lh | apply lt))); done)) | (focus (apply lx; (focus (repeat (with_reducible (first | apply lh | apply lt)))); exact rfl))) ?_) | ((with_reducible apply isF (f := 109)); (refine q_callR rfl (Bat_vote_true c b p q _ _ _ _ _ _ _ _ _) rfl (by repeat (first | exact Fd.nil | apply Fd.cons | (focus ((repeat (with_reducible (first | apply lh | apply lt))); done)) | (focus (apply lx; (focus (repeat (with_reducible (first | apply lh | apply lt)))); exact rfl)))) (by decide) ?_)) | ((with_reducible apply isF (f := 105)); (refine q_call1r rfl (Counter_Q p c _ _) (by first | (focus ((repeat (with_reducible (first | apply lh | apply lt))); done)) | (focus (apply lx; (focus (repeat (with_reducible (first | apply lh | apply lt)))); exact rfl))) ?_)) | ((with_reducible apply isF (f := 105)); (refine q_call1r rfl (Counter_Q q c _ _) (by first | (focus ((repeat (with_reducible (first | apply lh | apply lt))); done)) | (focus (apply lx; (focus (repeat (with_reducible (first | apply lh | apply lt)))); exact rfl))) ?_)) | ((with_reducible apply isF (f := 110)); (refine q_call0 rfl (span_Meet _ _ _ _) ?_)) | ((with_reducible apply isF (f := 92)); (refine q_call0 rfl (span_Widen _ _ _) ?_)) | ((with_reducible apply isF (f := 108)); (refine q_call1 rfl (Counter_Set p c _ _ _ _) (by first | (focus ((repeat (with_reducible (first | apply lh | apply lt))); done)) | (focus (apply lx; (focus (repeat (with_reducible (first | apply lh | apply lt)))); exact rfl))) (by exact rfl) ?_)) | ((with_reducible apply isF (f := 108)); (refine q_call1 rfl (Counter_Set q c _ _ _ _) (by first | (focus ((repeat (with_reducible (first | apply lh | apply lt))); done)) | (focus (apply lx; (focus (repeat (with_reducible (first | apply lh | apply lt)))); exact rfl))) (by exact rfl) ?_)) | ((with_reducible apply e_store layOk); (iterate 3 apply Eq.refl); (focus (repeat (with_reducible (first | apply lh | apply lt)))); (iterate 5 apply Eq.refl)))))
    | (((with_reducible refine gR ?_); (first | refine RK.peelN rfl ?_ | refine RK.donef rfl ⟨_, rfl, ?_⟩ | refine RK.donet rfl (by kernel_rfl) ⟨_, rfl, ?_⟩)))
    | ((first | (with_reducible refine gQv ?_ ?_) | (with_reducible refine gQe ?_ ?_)); (focus (first | (apply wg (r := false); (iterate 6 apply Eq.refl)) | (apply wz; (iterate 4 apply Eq.refl)))))
    | ((with_reducible refine gK ?_); ((first | (apply gsD; (iterate 4 apply Eq.refl)) | (apply RKo.gsplitE; (iterate 4 apply Eq.refl)) | (apply RKo.gsplitN; (iterate 4 apply Eq.refl)) | (apply RKo.gsplit; (iterate 4 apply Eq.refl))) <;> (intro hc; first | with_reducible exact ff hc | with_reducible exact ff' hc | exact absurd hc (by decide) | with_reducible exact absurd hc (by rw [hm1]; decide) | with_reducible exact absurd hc (by rw [hm2]; decide) | skip)))
    | (((with_reducible refine gW ?_); (first | refine WP.unroll 3 ?_ | with_reducible refine WP.seq ?_ | refine WP.reg mixed (fun ks => _) (fun ks => rfl) (fun ks => ?_) | ((first | (apply cdD; apply Eq.refl) | (apply WP.condE; apply Eq.refl) | (apply WP.condN; apply Eq.refl) | (apply WP.condA; apply Eq.refl)) <;> (intro hc; first | with_reducible exact ff hc | with_reducible exact ff' hc | exact absurd hc (by decide) | with_reducible exact absurd hc (by rw [hm1]; decide) | with_reducible exact absurd hc (by rw [hm2]; decide) | skip)) | refine WP.ret ?_ | refine WP.skip ?_ | refine WP.exit ?_ | refine WP.goto ?_ | refine WP.label ?_ | refine WP.block ?_)))
    | (with_reducible refine thn_n ?_)
    | (with_reducible refine thn_r ?_)
    | (with_reducible refine thn_e ?_)
    | (with_reducible refine thn_g ?_)
    | (with_reducible refine blk_n ?_)
    | (with_reducible refine blk_r ?_)
    | (with_reducible refine blk_e ?_)
    | (with_reducible refine blk_g ?_)
    | (((with_reducible refine blk_o ?_ ?_); first | exact rfl | skip))
    | (refine Endz.mk' (by first | exact Or.inl rfl | exact Or.inr rfl) (by repeat (first | exact RVs.nil | apply RVs.cons | exact RV1.tmp rfl | exact RV1.row rfl rfl rfl (by repeat (first | exact look_here | apply look_there)) (by exact rfl) | exact RV1.cell rfl rfl rfl (by repeat (first | exact look_here | apply look_there)) (by exact rfl))) (by rfl) (by repeat (first | exact List.nil_sublist _ | exact List.Sublist.refl _ | apply List.Sublist.cons_cons | apply List.Sublist.cons))))
end Go.Proofs.YtlhhcongoplfpaaDoor
namespace Go.Proofs.YtlhhcongoplfpaaDoor
open Go Go.Proofs.YtlhhcongoplfpaaDoorAB
variable {G : Nat}
set_option linter.unusedSimpArgs false
set_option linter.unusedVariables false

set_option maxRecDepth 20000 in
set_option maxHeartbeats 8000000 in
theorem stepU0 (c : Cfg) {ob : AObj} {k f : Nat} {X Y : Nat → Int} (tb : Tb ob f c.ocL X Y) (ok : TOk c.ocL X Y) (ha : 0 < c.ocL → c.ocA = some ⟨k, f, none⟩) (b p q : Nat) (lo hi lo1 hi1 lo2 hi2 v a1 a2 : Int) (pv f1 f2 : Bool) (hO : c.Ohm = 20) (h1 : -1000000000 ≤ a1) (h2 : a1 ≤ 1000000000) (v1 : -1000000000 ≤ v) (v2 : v ≤ 1000000000) (e1 : 0 ≤ c.SagErr) (e2 : c.SagErr ≤ 1000000000) (hs : sIs c v pv f1 = true) (hm1 : mIs (mx (mn (sLo c X Y v a1 pv f1) c.Cap) 0) (mx (mn (sHi c X Y v a1 pv f1) c.Cap) 0) (vtLo (mx (mn (sLo c X Y v a1 pv f1) c.Cap) 0) (mx (mn (sHi c X Y v a1 pv f1) c.Cap) 0) (mx (mn (sLo c X Y v a1 pv f1) c.Cap) 0) (mx (mn (sHi c X Y v a1 pv f1) c.Cap) 0) (sLo c X Y v a1 pv f1) (sHi c X Y v a1 pv f1) true) (vtHi (mx (mn (sLo c X Y v a1 pv f1) c.Cap) 0) (mx (mn (sHi c X Y v a1 pv f1) c.Cap) 0) (mx (mn (sLo c X Y v a1 pv f1) c.Cap) 0) (mx (mn (sHi c X Y v a1 pv f1) c.Cap) 0) (sLo c X Y v a1 pv f1) (sHi c X Y v a1 pv f1) true) = false) (hm2 : mIs (mx (mn (sLo c X Y v a1 pv f1) c.Cap) 0) (mx (mn (sHi c X Y v a1 pv f1) c.Cap) 0) (vtLo (mx (mn (sLo c X Y v a1 pv f1) c.Cap) 0) (mx (mn (sHi c X Y v a1 pv f1) c.Cap) 0) (mx (mn (sLo c X Y v a1 pv f1) c.Cap) 0) (mx (mn (sHi c X Y v a1 pv f1) c.Cap) 0) (sLo c X Y v a1 pv f1) (sHi c X Y v a1 pv f1) true) (vtHi (mx (mn (sLo c X Y v a1 pv f1) c.Cap) 0) (mx (mn (sHi c X Y v a1 pv f1) c.Cap) 0) (mx (mn (sLo c X Y v a1 pv f1) c.Cap) 0) (mx (mn (sHi c X Y v a1 pv f1) c.Cap) 0) (sLo c X Y v a1 pv f1) (sHi c X Y v a1 pv f1) true) = false) : Ctr Tryd.prog G 60 [.pointer (some ⟨b, 0, none⟩), .agg #[I64 (v), .bool pv], .agg #[I64 (a1), .bool f1], .agg #[I64 (a2), .bool f2]] [(b, .cells (bat c p q false (lo) (hi)) 137), (p, .cells (cnt_ c (lo1) (hi1)) 159), (q, .cells (cnt_ c (lo2) (hi2)) 159), (k, ob)] (.agg #[I64 ((vtLo (mx (mn (sLo c X Y v a1 pv f1) c.Cap) 0) (mx (mn (sHi c X Y v a1 pv f1) c.Cap) 0) (mx (mn (sLo c X Y v a1 pv f1) c.Cap) 0) (mx (mn (sHi c X Y v a1 pv f1) c.Cap) 0) (sLo c X Y v a1 pv f1) (sHi c X Y v a1 pv f1) true)), I64 ((vtHi (mx (mn (sLo c X Y v a1 pv f1) c.Cap) 0) (mx (mn (sHi c X Y v a1 pv f1) c.Cap) 0) (mx (mn (sLo c X Y v a1 pv f1) c.Cap) 0) (mx (mn (sHi c X Y v a1 pv f1) c.Cap) 0) (sLo c X Y v a1 pv f1) (sHi c X Y v a1 pv f1) true))]) [.cells (bat c p q true ((vtLo (mx (mn (sLo c X Y v a1 pv f1) c.Cap) 0) (mx (mn (sHi c X Y v a1 pv f1) c.Cap) 0) (mx (mn (sLo c X Y v a1 pv f1) c.Cap) 0) (mx (mn (sHi c X Y v a1 pv f1) c.Cap) 0) (sLo c X Y v a1 pv f1) (sHi c X Y v a1 pv f1) true)) ((vtHi (mx (mn (sLo c X Y v a1 pv f1) c.Cap) 0) (mx (mn (sHi c X Y v a1 pv f1) c.Cap) 0) (mx (mn (sLo c X Y v a1 pv f1) c.Cap) 0) (mx (mn (sHi c X Y v a1 pv f1) c.Cap) 0) (sLo c X Y v a1 pv f1) (sHi c X Y v a1 pv f1) true))) 137, .cells (cnt_ c (mx (mn (wLo (vtLo (mx (mn (sLo c X Y v a1 pv f1) c.Cap) 0) (mx (mn (sHi c X Y v a1 pv f1) c.Cap) 0) (mx (mn (sLo c X Y v a1 pv f1) c.Cap) 0) (mx (mn (sHi c X Y v a1 pv f1) c.Cap) 0) (sLo c X Y v a1 pv f1) (sHi c X Y v a1 pv f1) true) c.Drift) c.Cap) 0) (mx (mn (wHi (vtHi (mx (mn (sLo c X Y v a1 pv f1) c.Cap) 0) (mx (mn (sHi c X Y v a1 pv f1) c.Cap) 0) (mx (mn (sLo c X Y v a1 pv f1) c.Cap) 0) (mx (mn (sHi c X Y v a1 pv f1) c.Cap) 0) (sLo c X Y v a1 pv f1) (sHi c X Y v a1 pv f1) true) c.Drift) c.Cap) 0)) 159, .cells (cnt_ c (mx (mn (wLo (vtLo (mx (mn (sLo c X Y v a1 pv f1) c.Cap) 0) (mx (mn (sHi c X Y v a1 pv f1) c.Cap) 0) (mx (mn (sLo c X Y v a1 pv f1) c.Cap) 0) (mx (mn (sHi c X Y v a1 pv f1) c.Cap) 0) (sLo c X Y v a1 pv f1) (sHi c X Y v a1 pv f1) true) c.Drift) c.Cap) 0) (mx (mn (wHi (vtHi (mx (mn (sLo c X Y v a1 pv f1) c.Cap) 0) (mx (mn (sHi c X Y v a1 pv f1) c.Cap) 0) (mx (mn (sLo c X Y v a1 pv f1) c.Cap) 0) (mx (mn (sHi c X Y v a1 pv f1) c.Cap) 0) (sLo c X Y v a1 pv f1) (sHi c X Y v a1 pv f1) true) c.Drift) c.Cap) 0)) 159, ob] := by
  have hsag := sag_Charge (G := G) c tb ok ha v a1 pv f1 hO h1 h2 v1 v2 e1 e2
  rw [hs] at hsag
  refine Ctr.by layOk Tryd.func60 Tryd.ntmps60 rfl rfl rfl rfl rfl ?_
  repeat' (first
    | (with_reducible refine loopW_s ?_)
    | (((first | (with_reducible refine gQ0 ?_) | ((with_reducible refine gQ1 ?_ ?_); (focus (apply wg (r := true); (iterate 6 apply Eq.refl))))); (first | ((with_reducible apply q_box (k := ks _)); apply Eq.refl; (focus (repeat (with_reducible (first | apply lh | apply lt)))); apply Eq.refl) | ((with_reducible apply q_alloc (k := ks _) layOk); apply Eq.refl; (focus (repeat (with_reducible (first | apply lh | apply lt)))); apply Eq.refl) | ((with_reducible apply q_move); apply Eq.refl) | ((with_reducible apply q_assign); apply Eq.refl) | ((with_reducible apply q_int); (iterate 3 apply Eq.refl)) | ((with_reducible apply q_nilCheck); apply Eq.refl) | ((with_reducible apply q_fa layOk); (iterate 5 apply Eq.refl)) | ((with_reducible apply q_load layOk); (iterate 3 apply Eq.refl); (focus (repeat (with_reducible (first | apply lh | apply lt)))); apply Eq.refl) | ((with_reducible apply q_loadr layOk); (iterate 3 apply Eq.refl); (focus (repeat (with_reducible (first | apply lh | apply lt)))); apply Eq.refl) | ((with_reducible apply q_build layOk); (iterate 4 apply Eq.refl)) | ((with_reducible apply q_not); apply Eq.refl) | ((with_reducible apply q_box (k := ks _)); apply Eq.refl; (focus (repeat (with_reducible (first | apply lh | apply lt)))); apply Eq.refl) | ((with_reducible apply q_alloc (k := ks _) layOk); apply Eq.refl; (focus (repeat (with_reducible (first | apply lh | apply lt)))); apply Eq.refl) | ((with_reducible apply q_pick_t); (iterate 2 apply Eq.refl)) | ((with_reducible apply q_pick_f); (iterate 2 apply Eq.refl)) | ((with_reducible apply q_extract); (iterate 2 apply Eq.refl)) | ((with_reducible apply q_indexc layOk); (iterate 6 apply Eq.refl); (focus (decide)); (focus (decide)); apply Eq.refl) | ((with_reducible apply isF (f := 107)); (refine q_call1 rfl (Counter_Step p c _ _ _ _) (by first | (focus ((repeat (with_reducible (first | apply lh | apply lt))); done)) | (focus (apply lx; (focus (repeat (with_reducible (first | apply lh | apply lt)))); exact rfl))) (by exact rfl) ?_)) | ((with_reducible apply isF (f := 107)); (refine q_call1 rfl (Counter_Step q c _ _ _ _) (by first | (focus ((repeat (with_reducible (first | apply lh | apply lt))); done)) | (focus (apply lx; (focus (repeat (with_reducible (first | apply lh | apply lt)))); exact rfl))) (by exact rfl) ?_)) | (refine q_call1r rfl hsag (by first | (focus ((repeat (with_reducible (first | apply lh | apply lt))); done)) | (focus (apply lx; (focus (repeat (with_reducible (first | apply lh | apply lt)))); exact rfl))) ?_) | ((with_reducible apply isF (f := 109)); (refine q_callR rfl (Bat_vote_true c b p q _ _ _ _ _ _ _ _ _) rfl (by repeat (first | exact Fd.nil | apply Fd.cons | (focus ((repeat (with_reducible (first | apply lh | apply lt))); done)) | (focus (apply lx; (focus (repeat (with_reducible (first | apply lh | apply lt)))); exact rfl)))) (by decide) ?_)) | ((with_reducible apply isF (f := 105)); (refine q_call1r rfl (Counter_Q p c _ _) (by first | (focus ((repeat (with_reducible (first | apply lh | apply lt))); done)) | (focus (apply lx; (focus (repeat (with_reducible (first | apply lh | apply lt)))); exact rfl))) ?_)) | ((with_reducible apply isF (f := 105)); (refine q_call1r rfl (Counter_Q q c _ _) (by first | (focus ((repeat (with_reducible (first | apply lh | apply lt))); done)) | (focus (apply lx; (focus (repeat (with_reducible (first | apply lh | apply lt)))); exact rfl))) ?_)) | ((with_reducible apply isF (f := 110)); (refine q_call0 rfl (span_Meet _ _ _ _) ?_)) | ((with_reducible apply isF (f := 92)); (refine q_call0 rfl (span_Widen _ _ _) ?_)) | ((with_reducible apply isF (f := 108)); (refine q_call1 rfl (Counter_Set p c _ _ _ _) (by first | (focus ((repeat (with_reducible (first | apply lh | apply lt))); done)) | (focus (apply lx; (focus (repeat (with_reducible (first | apply lh | apply lt)))); exact rfl))) (by exact rfl) ?_)) | ((with_reducible apply isF (f := 108)); (refine q_call1 rfl (Counter_Set q c _ _ _ _) (by first | (focus ((repeat (with_reducible (first | apply lh | apply lt))); done)) | (focus (apply lx; (focus (repeat (with_reducible (first | apply lh | apply lt)))); exact rfl))) (by exact rfl) ?_)) | ((with_reducible apply e_store layOk); (iterate 3 apply Eq.refl); (focus (repeat (with_reducible (first | apply lh | apply lt)))); (iterate 5 apply Eq.refl)))))
    | (((with_reducible refine gR ?_); (first | refine RK.peelN rfl ?_ | refine RK.donef rfl ⟨_, rfl, ?_⟩ | refine RK.donet rfl (by kernel_rfl) ⟨_, rfl, ?_⟩)))
    | ((first | (with_reducible refine gQv ?_ ?_) | (with_reducible refine gQe ?_ ?_)); (focus (first | (apply wg (r := false); (iterate 6 apply Eq.refl)) | (apply wz; (iterate 4 apply Eq.refl)))))
    | ((with_reducible refine gK ?_); ((first | (apply gsD; (iterate 4 apply Eq.refl)) | (apply RKo.gsplitE; (iterate 4 apply Eq.refl)) | (apply RKo.gsplitN; (iterate 4 apply Eq.refl)) | (apply RKo.gsplit; (iterate 4 apply Eq.refl))) <;> (intro hc; first | with_reducible exact ff hc | with_reducible exact ff' hc | exact absurd hc (by decide) | with_reducible exact absurd hc (by rw [hm1]; decide) | with_reducible exact absurd hc (by rw [hm2]; decide) | skip)))
    | (((with_reducible refine gW ?_); (first | refine WP.unroll 3 ?_ | with_reducible refine WP.seq ?_ | refine WP.reg mixed (fun ks => _) (fun ks => rfl) (fun ks => ?_) | ((first | (apply cdD; apply Eq.refl) | (apply WP.condE; apply Eq.refl) | (apply WP.condN; apply Eq.refl) | (apply WP.condA; apply Eq.refl)) <;> (intro hc; first | with_reducible exact ff hc | with_reducible exact ff' hc | exact absurd hc (by decide) | with_reducible exact absurd hc (by rw [hm1]; decide) | with_reducible exact absurd hc (by rw [hm2]; decide) | skip)) | refine WP.ret ?_ | refine WP.skip ?_ | refine WP.exit ?_ | refine WP.goto ?_ | refine WP.label ?_ | refine WP.block ?_)))
    | (with_reducible refine thn_n ?_)
    | (with_reducible refine thn_r ?_)
    | (with_reducible refine thn_e ?_)
    | (with_reducible refine thn_g ?_)
    | (with_reducible refine blk_n ?_)
    | (with_reducible refine blk_r ?_)
    | (with_reducible refine blk_e ?_)
    | (with_reducible refine blk_g ?_)
    | (((with_reducible refine blk_o ?_ ?_); first | exact rfl | skip))
    | (refine Endz.mk' (by first | exact Or.inl rfl | exact Or.inr rfl) (by repeat (first | exact RVs.nil | apply RVs.cons | exact RV1.tmp rfl | exact RV1.row rfl rfl rfl (by repeat (first | exact look_here | apply look_there)) (by exact rfl) | exact RV1.cell rfl rfl rfl (by repeat (first | exact look_here | apply look_there)) (by exact rfl))) (by rfl) (by repeat (first | exact List.nil_sublist _ | exact List.Sublist.refl _ | apply List.Sublist.cons_cons | apply List.Sublist.cons))))

set_option maxRecDepth 20000 in
set_option maxHeartbeats 8000000 in
theorem stepU3 (c : Cfg) {ob : AObj} {k f : Nat} {X Y : Nat → Int} (tb : Tb ob f c.ocL X Y) (ok : TOk c.ocL X Y) (ha : 0 < c.ocL → c.ocA = some ⟨k, f, none⟩) (b p q : Nat) (lo hi lo1 hi1 lo2 hi2 v a1 a2 : Int) (pv f1 f2 : Bool) (hO : c.Ohm = 20) (h1 : -1000000000 ≤ a1) (h2 : a1 ≤ 1000000000) (v1 : -1000000000 ≤ v) (v2 : v ≤ 1000000000) (e1 : 0 ≤ c.SagErr) (e2 : c.SagErr ≤ 1000000000) (hs : sIs c v pv f1 = true) (hm1 : mIs (mx (mn (sLo c X Y v a1 pv f1) c.Cap) 0) (mx (mn (sHi c X Y v a1 pv f1) c.Cap) 0) (vtLo (mx (mn (sLo c X Y v a1 pv f1) c.Cap) 0) (mx (mn (sHi c X Y v a1 pv f1) c.Cap) 0) (mx (mn (sLo c X Y v a1 pv f1) c.Cap) 0) (mx (mn (sHi c X Y v a1 pv f1) c.Cap) 0) (sLo c X Y v a1 pv f1) (sHi c X Y v a1 pv f1) true) (vtHi (mx (mn (sLo c X Y v a1 pv f1) c.Cap) 0) (mx (mn (sHi c X Y v a1 pv f1) c.Cap) 0) (mx (mn (sLo c X Y v a1 pv f1) c.Cap) 0) (mx (mn (sHi c X Y v a1 pv f1) c.Cap) 0) (sLo c X Y v a1 pv f1) (sHi c X Y v a1 pv f1) true) = true) (hm2 : mIs (mx (mn (sLo c X Y v a1 pv f1) c.Cap) 0) (mx (mn (sHi c X Y v a1 pv f1) c.Cap) 0) (vtLo (mx (mn (sLo c X Y v a1 pv f1) c.Cap) 0) (mx (mn (sHi c X Y v a1 pv f1) c.Cap) 0) (mx (mn (sLo c X Y v a1 pv f1) c.Cap) 0) (mx (mn (sHi c X Y v a1 pv f1) c.Cap) 0) (sLo c X Y v a1 pv f1) (sHi c X Y v a1 pv f1) true) (vtHi (mx (mn (sLo c X Y v a1 pv f1) c.Cap) 0) (mx (mn (sHi c X Y v a1 pv f1) c.Cap) 0) (mx (mn (sLo c X Y v a1 pv f1) c.Cap) 0) (mx (mn (sHi c X Y v a1 pv f1) c.Cap) 0) (sLo c X Y v a1 pv f1) (sHi c X Y v a1 pv f1) true) = true) : Ctr Tryd.prog G 60 [.pointer (some ⟨b, 0, none⟩), .agg #[I64 (v), .bool pv], .agg #[I64 (a1), .bool f1], .agg #[I64 (a2), .bool f2]] [(b, .cells (bat c p q false (lo) (hi)) 137), (p, .cells (cnt_ c (lo1) (hi1)) 159), (q, .cells (cnt_ c (lo2) (hi2)) 159), (k, ob)] (.agg #[I64 ((vtLo (mx (mn (sLo c X Y v a1 pv f1) c.Cap) 0) (mx (mn (sHi c X Y v a1 pv f1) c.Cap) 0) (mx (mn (sLo c X Y v a1 pv f1) c.Cap) 0) (mx (mn (sHi c X Y v a1 pv f1) c.Cap) 0) (sLo c X Y v a1 pv f1) (sHi c X Y v a1 pv f1) true)), I64 ((vtHi (mx (mn (sLo c X Y v a1 pv f1) c.Cap) 0) (mx (mn (sHi c X Y v a1 pv f1) c.Cap) 0) (mx (mn (sLo c X Y v a1 pv f1) c.Cap) 0) (mx (mn (sHi c X Y v a1 pv f1) c.Cap) 0) (sLo c X Y v a1 pv f1) (sHi c X Y v a1 pv f1) true))]) [.cells (bat c p q true ((vtLo (mx (mn (sLo c X Y v a1 pv f1) c.Cap) 0) (mx (mn (sHi c X Y v a1 pv f1) c.Cap) 0) (mx (mn (sLo c X Y v a1 pv f1) c.Cap) 0) (mx (mn (sHi c X Y v a1 pv f1) c.Cap) 0) (sLo c X Y v a1 pv f1) (sHi c X Y v a1 pv f1) true)) ((vtHi (mx (mn (sLo c X Y v a1 pv f1) c.Cap) 0) (mx (mn (sHi c X Y v a1 pv f1) c.Cap) 0) (mx (mn (sLo c X Y v a1 pv f1) c.Cap) 0) (mx (mn (sHi c X Y v a1 pv f1) c.Cap) 0) (sLo c X Y v a1 pv f1) (sHi c X Y v a1 pv f1) true))) 137, .cells (cnt_ c ((mx (mn (sLo c X Y v a1 pv f1) c.Cap) 0)) ((mx (mn (sHi c X Y v a1 pv f1) c.Cap) 0))) 159, .cells (cnt_ c ((mx (mn (sLo c X Y v a1 pv f1) c.Cap) 0)) ((mx (mn (sHi c X Y v a1 pv f1) c.Cap) 0))) 159, ob] := by
  have hsag := sag_Charge (G := G) c tb ok ha v a1 pv f1 hO h1 h2 v1 v2 e1 e2
  rw [hs] at hsag
  refine Ctr.by layOk Tryd.func60 Tryd.ntmps60 rfl rfl rfl rfl rfl ?_
  repeat' (first
    | (with_reducible refine loopW_s ?_)
    | (((first | (with_reducible refine gQ0 ?_) | ((with_reducible refine gQ1 ?_ ?_); (focus (apply wg (r := true); (iterate 6 apply Eq.refl))))); (first | ((with_reducible apply q_box (k := ks _)); apply Eq.refl; (focus (repeat (with_reducible (first | apply lh | apply lt)))); apply Eq.refl) | ((with_reducible apply q_alloc (k := ks _) layOk); apply Eq.refl; (focus (repeat (with_reducible (first | apply lh | apply lt)))); apply Eq.refl) | ((with_reducible apply q_move); apply Eq.refl) | ((with_reducible apply q_assign); apply Eq.refl) | ((with_reducible apply q_int); (iterate 3 apply Eq.refl)) | ((with_reducible apply q_nilCheck); apply Eq.refl) | ((with_reducible apply q_fa layOk); (iterate 5 apply Eq.refl)) | ((with_reducible apply q_load layOk); (iterate 3 apply Eq.refl); (focus (repeat (with_reducible (first | apply lh | apply lt)))); apply Eq.refl) | ((with_reducible apply q_loadr layOk); (iterate 3 apply Eq.refl); (focus (repeat (with_reducible (first | apply lh | apply lt)))); apply Eq.refl) | ((with_reducible apply q_build layOk); (iterate 4 apply Eq.refl)) | ((with_reducible apply q_not); apply Eq.refl) | ((with_reducible apply q_box (k := ks _)); apply Eq.refl; (focus (repeat (with_reducible (first | apply lh | apply lt)))); apply Eq.refl) | ((with_reducible apply q_alloc (k := ks _) layOk); apply Eq.refl; (focus (repeat (with_reducible (first | apply lh | apply lt)))); apply Eq.refl) | ((with_reducible apply q_pick_t); (iterate 2 apply Eq.refl)) | ((with_reducible apply q_pick_f); (iterate 2 apply Eq.refl)) | ((with_reducible apply q_extract); (iterate 2 apply Eq.refl)) | ((with_reducible apply q_indexc layOk); (iterate 6 apply Eq.refl); (focus (decide)); (focus (decide)); apply Eq.refl) | ((with_reducible apply isF (f := 107)); (refine q_call1 rfl (Counter_Step p c _ _ _ _) (by first | (focus ((repeat (with_reducible (first | apply lh | apply lt))); done)) | (focus (apply lx; (focus (repeat (with_reducible (first | apply lh | apply lt)))); exact rfl))) (by exact rfl) ?_)) | ((with_reducible apply isF (f := 107)); (refine q_call1 rfl (Counter_Step q c _ _ _ _) (by first | (focus ((repeat (with_reducible (first | apply lh | apply lt))); done)) | (focus (apply lx; (focus (repeat (with_reducible (first | apply lh | apply lt)))); exact rfl))) (by exact rfl) ?_)) | (refine q_call1r rfl hsag (by first | (focus ((repeat (with_reducible (first | apply lh | apply lt))); done)) | (focus (apply lx; (focus (repeat (with_reducible (first | apply lh | apply lt)))); exact rfl))) ?_) | ((with_reducible apply isF (f := 109)); (refine q_callR rfl (Bat_vote_true c b p q _ _ _ _ _ _ _ _ _) rfl (by repeat (first | exact Fd.nil | apply Fd.cons | (focus ((repeat (with_reducible (first | apply lh | apply lt))); done)) | (focus (apply lx; (focus (repeat (with_reducible (first | apply lh | apply lt)))); exact rfl)))) (by decide) ?_)) | ((with_reducible apply isF (f := 105)); (refine q_call1r rfl (Counter_Q p c _ _) (by first | (focus ((repeat (with_reducible (first | apply lh | apply lt))); done)) | (focus (apply lx; (focus (repeat (with_reducible (first | apply lh | apply lt)))); exact rfl))) ?_)) | ((with_reducible apply isF (f := 105)); (refine q_call1r rfl (Counter_Q q c _ _) (by first | (focus ((repeat (with_reducible (first | apply lh | apply lt))); done)) | (focus (apply lx; (focus (repeat (with_reducible (first | apply lh | apply lt)))); exact rfl))) ?_)) | ((with_reducible apply isF (f := 110)); (refine q_call0 rfl (span_Meet _ _ _ _) ?_)) | ((with_reducible apply isF (f := 92)); (refine q_call0 rfl (span_Widen _ _ _) ?_)) | ((with_reducible apply isF (f := 108)); (refine q_call1 rfl (Counter_Set p c _ _ _ _) (by first | (focus ((repeat (with_reducible (first | apply lh | apply lt))); done)) | (focus (apply lx; (focus (repeat (with_reducible (first | apply lh | apply lt)))); exact rfl))) (by exact rfl) ?_)) | ((with_reducible apply isF (f := 108)); (refine q_call1 rfl (Counter_Set q c _ _ _ _) (by first | (focus ((repeat (with_reducible (first | apply lh | apply lt))); done)) | (focus (apply lx; (focus (repeat (with_reducible (first | apply lh | apply lt)))); exact rfl))) (by exact rfl) ?_)) | ((with_reducible apply e_store layOk); (iterate 3 apply Eq.refl); (focus (repeat (with_reducible (first | apply lh | apply lt)))); (iterate 5 apply Eq.refl)))))
    | (((with_reducible refine gR ?_); (first | refine RK.peelN rfl ?_ | refine RK.donef rfl ⟨_, rfl, ?_⟩ | refine RK.donet rfl (by kernel_rfl) ⟨_, rfl, ?_⟩)))
    | ((first | (with_reducible refine gQv ?_ ?_) | (with_reducible refine gQe ?_ ?_)); (focus (first | (apply wg (r := false); (iterate 6 apply Eq.refl)) | (apply wz; (iterate 4 apply Eq.refl)))))
    | ((with_reducible refine gK ?_); ((first | (apply gsD; (iterate 4 apply Eq.refl)) | (apply RKo.gsplitE; (iterate 4 apply Eq.refl)) | (apply RKo.gsplitN; (iterate 4 apply Eq.refl)) | (apply RKo.gsplit; (iterate 4 apply Eq.refl))) <;> (intro hc; first | with_reducible exact ff hc | with_reducible exact ff' hc | exact absurd hc (by decide) | with_reducible exact absurd hc (by rw [hm1]; decide) | with_reducible exact absurd hc (by rw [hm2]; decide) | skip)))
    | (((with_reducible refine gW ?_); (first | refine WP.unroll 3 ?_ | with_reducible refine WP.seq ?_ | refine WP.reg mixed (fun ks => _) (fun ks => rfl) (fun ks => ?_) | ((first | (apply cdD; apply Eq.refl) | (apply WP.condE; apply Eq.refl) | (apply WP.condN; apply Eq.refl) | (apply WP.condA; apply Eq.refl)) <;> (intro hc; first | with_reducible exact ff hc | with_reducible exact ff' hc | exact absurd hc (by decide) | with_reducible exact absurd hc (by rw [hm1]; decide) | with_reducible exact absurd hc (by rw [hm2]; decide) | skip)) | refine WP.ret ?_ | refine WP.skip ?_ | refine WP.exit ?_ | refine WP.goto ?_ | refine WP.label ?_ | refine WP.block ?_)))
    | (with_reducible refine thn_n ?_)
    | (with_reducible refine thn_r ?_)
    | (with_reducible refine thn_e ?_)
    | (with_reducible refine thn_g ?_)
    | (with_reducible refine blk_n ?_)
    | (with_reducible refine blk_r ?_)
    | (with_reducible refine blk_e ?_)
    | (with_reducible refine blk_g ?_)
    | (((with_reducible refine blk_o ?_ ?_); first | exact rfl | skip))
    | (refine Endz.mk' (by first | exact Or.inl rfl | exact Or.inr rfl) (by repeat (first | exact RVs.nil | apply RVs.cons | exact RV1.tmp rfl | exact RV1.row rfl rfl rfl (by repeat (first | exact look_here | apply look_there)) (by exact rfl) | exact RV1.cell rfl rfl rfl (by repeat (first | exact look_here | apply look_there)) (by exact rfl))) (by rfl) (by repeat (first | exact List.nil_sublist _ | exact List.Sublist.refl _ | apply List.Sublist.cons_cons | apply List.Sublist.cons))))
end Go.Proofs.YtlhhcongoplfpaaDoor
namespace Go.Proofs.YtlhhcongoplfpaaDoor
open Go Go.Proofs.YtlhhcongoplfpaaDoorAB
variable {G : Nat}
set_option linter.unusedSimpArgs false
set_option linter.unusedVariables false

/-- A counter ahead of the vote: set to what the volts say, if nothing was known; else stepped. -/
noncomputable def pLo (c : Cfg) (X Y : Nat → Int) (v a1 : Int) (pv f1 kn : Bool) (lo a : Int) (fr : Bool) : Int := if sIs c v pv f1 = true ∧ kn = false then mx (mn (sLo c X Y v a1 pv f1) c.Cap) 0 else qLo c lo a fr
noncomputable def pHi (c : Cfg) (X Y : Nat → Int) (v a1 : Int) (pv f1 kn : Bool) (hi a : Int) (fr : Bool) : Int := if sIs c v pv f1 = true ∧ kn = false then mx (mn (sHi c X Y v a1 pv f1) c.Cap) 0 else qHi c hi a fr
theorem st_t {c : Cfg} {lo hi x y : Int} (h : mIs lo hi x y = true) : stLo c lo hi x y = lo ∧ stHi c lo hi x y = hi := by unfold stLo stHi; rw [if_pos h, if_pos h]; exact ⟨rfl, rfl⟩
theorem st_f {c : Cfg} {lo hi x y : Int} (h : mIs lo hi x y = false) : stLo c lo hi x y = mx (mn (wLo x c.Drift) c.Cap) 0 ∧ stHi c lo hi x y = mx (mn (wHi y c.Drift) c.Cap) 0 := by
  have h' : ¬ mIs lo hi x y = true := by rw [h]; decide
  unfold stLo stHi; rw [if_neg h', if_neg h']; exact ⟨rfl, rfl⟩
theorem bat_Step (c : Cfg) {ob : AObj} {k f : Nat} {X Y : Nat → Int} (tb : Tb ob f c.ocL X Y) (ok : TOk c.ocL X Y) (ha : 0 < c.ocL → c.ocA = some ⟨k, f, none⟩) (b p q : Nat) (kn : Bool) (lo hi lo1 hi1 lo2 hi2 v a1 a2 : Int) (pv f1 f2 : Bool) (hO : c.Ohm = 20) (h1 : -1000000000 ≤ a1) (h2 : a1 ≤ 1000000000) (v1 : -1000000000 ≤ v) (v2 : v ≤ 1000000000) (e1 : 0 ≤ c.SagErr) (e2 : c.SagErr ≤ 1000000000) : Ctr Tryd.prog G 60 [.pointer (some ⟨b, 0, none⟩), .agg #[I64 (v), .bool pv], .agg #[I64 (a1), .bool f1], .agg #[I64 (a2), .bool f2]] [(b, .cells (bat c p q kn (lo) (hi)) 137), (p, .cells (cnt_ c (lo1) (hi1)) 159), (q, .cells (cnt_ c (lo2) (hi2)) 159), (k, ob)] (.agg #[I64 ((vtLo (pLo c X Y v a1 pv f1 kn lo1 a1 f1) (pHi c X Y v a1 pv f1 kn hi1 a1 f1) (pLo c X Y v a1 pv f1 kn lo2 a2 f2) (pHi c X Y v a1 pv f1 kn hi2 a2 f2) (sLo c X Y v a1 pv f1) (sHi c X Y v a1 pv f1) (sIs c v pv f1))), I64 ((vtHi (pLo c X Y v a1 pv f1 kn lo1 a1 f1) (pHi c X Y v a1 pv f1 kn hi1 a1 f1) (pLo c X Y v a1 pv f1 kn lo2 a2 f2) (pHi c X Y v a1 pv f1 kn hi2 a2 f2) (sLo c X Y v a1 pv f1) (sHi c X Y v a1 pv f1) (sIs c v pv f1)))]) [.cells (bat c p q (kn || (sIs c v pv f1)) ((vtLo (pLo c X Y v a1 pv f1 kn lo1 a1 f1) (pHi c X Y v a1 pv f1 kn hi1 a1 f1) (pLo c X Y v a1 pv f1 kn lo2 a2 f2) (pHi c X Y v a1 pv f1 kn hi2 a2 f2) (sLo c X Y v a1 pv f1) (sHi c X Y v a1 pv f1) (sIs c v pv f1))) ((vtHi (pLo c X Y v a1 pv f1 kn lo1 a1 f1) (pHi c X Y v a1 pv f1 kn hi1 a1 f1) (pLo c X Y v a1 pv f1 kn lo2 a2 f2) (pHi c X Y v a1 pv f1 kn hi2 a2 f2) (sLo c X Y v a1 pv f1) (sHi c X Y v a1 pv f1) (sIs c v pv f1)))) 137, .cells (cnt_ c (stLo c (pLo c X Y v a1 pv f1 kn lo1 a1 f1) (pHi c X Y v a1 pv f1 kn hi1 a1 f1) (vtLo (pLo c X Y v a1 pv f1 kn lo1 a1 f1) (pHi c X Y v a1 pv f1 kn hi1 a1 f1) (pLo c X Y v a1 pv f1 kn lo2 a2 f2) (pHi c X Y v a1 pv f1 kn hi2 a2 f2) (sLo c X Y v a1 pv f1) (sHi c X Y v a1 pv f1) (sIs c v pv f1)) (vtHi (pLo c X Y v a1 pv f1 kn lo1 a1 f1) (pHi c X Y v a1 pv f1 kn hi1 a1 f1) (pLo c X Y v a1 pv f1 kn lo2 a2 f2) (pHi c X Y v a1 pv f1 kn hi2 a2 f2) (sLo c X Y v a1 pv f1) (sHi c X Y v a1 pv f1) (sIs c v pv f1))) (stHi c (pLo c X Y v a1 pv f1 kn lo1 a1 f1) (pHi c X Y v a1 pv f1 kn hi1 a1 f1) (vtLo (pLo c X Y v a1 pv f1 kn lo1 a1 f1) (pHi c X Y v a1 pv f1 kn hi1 a1 f1) (pLo c X Y v a1 pv f1 kn lo2 a2 f2) (pHi c X Y v a1 pv f1 kn hi2 a2 f2) (sLo c X Y v a1 pv f1) (sHi c X Y v a1 pv f1) (sIs c v pv f1)) (vtHi (pLo c X Y v a1 pv f1 kn lo1 a1 f1) (pHi c X Y v a1 pv f1 kn hi1 a1 f1) (pLo c X Y v a1 pv f1 kn lo2 a2 f2) (pHi c X Y v a1 pv f1 kn hi2 a2 f2) (sLo c X Y v a1 pv f1) (sHi c X Y v a1 pv f1) (sIs c v pv f1)))) 159, .cells (cnt_ c (stLo c (pLo c X Y v a1 pv f1 kn lo2 a2 f2) (pHi c X Y v a1 pv f1 kn hi2 a2 f2) (vtLo (pLo c X Y v a1 pv f1 kn lo1 a1 f1) (pHi c X Y v a1 pv f1 kn hi1 a1 f1) (pLo c X Y v a1 pv f1 kn lo2 a2 f2) (pHi c X Y v a1 pv f1 kn hi2 a2 f2) (sLo c X Y v a1 pv f1) (sHi c X Y v a1 pv f1) (sIs c v pv f1)) (vtHi (pLo c X Y v a1 pv f1 kn lo1 a1 f1) (pHi c X Y v a1 pv f1 kn hi1 a1 f1) (pLo c X Y v a1 pv f1 kn lo2 a2 f2) (pHi c X Y v a1 pv f1 kn hi2 a2 f2) (sLo c X Y v a1 pv f1) (sHi c X Y v a1 pv f1) (sIs c v pv f1))) (stHi c (pLo c X Y v a1 pv f1 kn lo2 a2 f2) (pHi c X Y v a1 pv f1 kn hi2 a2 f2) (vtLo (pLo c X Y v a1 pv f1 kn lo1 a1 f1) (pHi c X Y v a1 pv f1 kn hi1 a1 f1) (pLo c X Y v a1 pv f1 kn lo2 a2 f2) (pHi c X Y v a1 pv f1 kn hi2 a2 f2) (sLo c X Y v a1 pv f1) (sHi c X Y v a1 pv f1) (sIs c v pv f1)) (vtHi (pLo c X Y v a1 pv f1 kn lo1 a1 f1) (pHi c X Y v a1 pv f1 kn hi1 a1 f1) (pLo c X Y v a1 pv f1 kn lo2 a2 f2) (pHi c X Y v a1 pv f1 kn hi2 a2 f2) (sLo c X Y v a1 pv f1) (sHi c X Y v a1 pv f1) (sIs c v pv f1)))) 159, ob] := by
  cases hs : sIs c v pv f1 with
  | false =>
    have hn : ¬ (sIs c v pv f1 = true ∧ kn = false) := by rw [hs]; simp
    have p0 : ∀ lo a fr, pLo c X Y v a1 pv f1 kn lo a fr = qLo c lo a fr := fun lo a fr => by unfold pLo; rw [if_neg hn]
    have p1 : ∀ lo a fr, pHi c X Y v a1 pv f1 kn lo a fr = qHi c lo a fr := fun lo a fr => by unfold pHi; rw [if_neg hn]
    have z1 : sLo c X Y v a1 pv f1 = 0 := by unfold sLo; rw [if_neg (of_decide_eq_false hs)]
    have z2 : sHi c X Y v a1 pv f1 = 0 := by unfold sHi; rw [if_neg (of_decide_eq_false hs)]
    simp only [p0, p1, z1, z2, Bool.or_false]
    cases hm1 : mIs (qLo c lo1 a1 f1) (qHi c hi1 a1 f1) (vtLo (qLo c lo1 a1 f1) (qHi c hi1 a1 f1) (qLo c lo2 a2 f2) (qHi c hi2 a2 f2) 0 0 false) (vtHi (qLo c lo1 a1 f1) (qHi c hi1 a1 f1) (qLo c lo2 a2 f2) (qHi c hi2 a2 f2) 0 0 false) with
    | true =>
      cases hm2 : mIs (qLo c lo2 a2 f2) (qHi c hi2 a2 f2) (vtLo (qLo c lo1 a1 f1) (qHi c hi1 a1 f1) (qLo c lo2 a2 f2) (qHi c hi2 a2 f2) 0 0 false) (vtHi (qLo c lo1 a1 f1) (qHi c hi1 a1 f1) (qLo c lo2 a2 f2) (qHi c hi2 a2 f2) 0 0 false) with
      | true =>
        rw [(st_t hm1).1, (st_t hm1).2, (st_t hm2).1, (st_t hm2).2]
        exact stepN3 c tb ok ha b p q kn lo hi lo1 hi1 lo2 hi2 v a1 a2 pv f1 f2 hO h1 h2 v1 v2 e1 e2 hs hm1 hm2
      | false =>
        rw [(st_t hm1).1, (st_t hm1).2, (st_f hm2).1, (st_f hm2).2]
        exact stepN1 c tb ok ha b p q kn lo hi lo1 hi1 lo2 hi2 v a1 a2 pv f1 f2 hO h1 h2 v1 v2 e1 e2 hs hm1 hm2
    | false =>
      cases hm2 : mIs (qLo c lo2 a2 f2) (qHi c hi2 a2 f2) (vtLo (qLo c lo1 a1 f1) (qHi c hi1 a1 f1) (qLo c lo2 a2 f2) (qHi c hi2 a2 f2) 0 0 false) (vtHi (qLo c lo1 a1 f1) (qHi c hi1 a1 f1) (qLo c lo2 a2 f2) (qHi c hi2 a2 f2) 0 0 false) with
      | true =>
        rw [(st_f hm1).1, (st_f hm1).2, (st_t hm2).1, (st_t hm2).2]
        exact stepN2 c tb ok ha b p q kn lo hi lo1 hi1 lo2 hi2 v a1 a2 pv f1 f2 hO h1 h2 v1 v2 e1 e2 hs hm1 hm2
      | false =>
        rw [(st_f hm1).1, (st_f hm1).2, (st_f hm2).1, (st_f hm2).2]
        exact stepN0 c tb ok ha b p q kn lo hi lo1 hi1 lo2 hi2 v a1 a2 pv f1 f2 hO h1 h2 v1 v2 e1 e2 hs hm1 hm2
  | true =>
    cases kn with
    | true =>
      have hn : ¬ (sIs c v pv f1 = true ∧ true = false) := by simp
      have p0 : ∀ lo a fr, pLo c X Y v a1 pv f1 true lo a fr = qLo c lo a fr := fun lo a fr => by unfold pLo; rw [if_neg hn]
      have p1 : ∀ lo a fr, pHi c X Y v a1 pv f1 true lo a fr = qHi c lo a fr := fun lo a fr => by unfold pHi; rw [if_neg hn]
      simp only [p0, p1, Bool.or_true]
      cases hm1 : mIs (qLo c lo1 a1 f1) (qHi c hi1 a1 f1) (vtLo (qLo c lo1 a1 f1) (qHi c hi1 a1 f1) (qLo c lo2 a2 f2) (qHi c hi2 a2 f2) (sLo c X Y v a1 pv f1) (sHi c X Y v a1 pv f1) true) (vtHi (qLo c lo1 a1 f1) (qHi c hi1 a1 f1) (qLo c lo2 a2 f2) (qHi c hi2 a2 f2) (sLo c X Y v a1 pv f1) (sHi c X Y v a1 pv f1) true) with
      | true =>
        cases hm2 : mIs (qLo c lo2 a2 f2) (qHi c hi2 a2 f2) (vtLo (qLo c lo1 a1 f1) (qHi c hi1 a1 f1) (qLo c lo2 a2 f2) (qHi c hi2 a2 f2) (sLo c X Y v a1 pv f1) (sHi c X Y v a1 pv f1) true) (vtHi (qLo c lo1 a1 f1) (qHi c hi1 a1 f1) (qLo c lo2 a2 f2) (qHi c hi2 a2 f2) (sLo c X Y v a1 pv f1) (sHi c X Y v a1 pv f1) true) with
        | true =>
          rw [(st_t hm1).1, (st_t hm1).2, (st_t hm2).1, (st_t hm2).2]
          exact stepK3 c tb ok ha b p q lo hi lo1 hi1 lo2 hi2 v a1 a2 pv f1 f2 hO h1 h2 v1 v2 e1 e2 hs hm1 hm2
        | false =>
          rw [(st_t hm1).1, (st_t hm1).2, (st_f hm2).1, (st_f hm2).2]
          exact stepK1 c tb ok ha b p q lo hi lo1 hi1 lo2 hi2 v a1 a2 pv f1 f2 hO h1 h2 v1 v2 e1 e2 hs hm1 hm2
      | false =>
        cases hm2 : mIs (qLo c lo2 a2 f2) (qHi c hi2 a2 f2) (vtLo (qLo c lo1 a1 f1) (qHi c hi1 a1 f1) (qLo c lo2 a2 f2) (qHi c hi2 a2 f2) (sLo c X Y v a1 pv f1) (sHi c X Y v a1 pv f1) true) (vtHi (qLo c lo1 a1 f1) (qHi c hi1 a1 f1) (qLo c lo2 a2 f2) (qHi c hi2 a2 f2) (sLo c X Y v a1 pv f1) (sHi c X Y v a1 pv f1) true) with
        | true =>
          rw [(st_f hm1).1, (st_f hm1).2, (st_t hm2).1, (st_t hm2).2]
          exact stepK2 c tb ok ha b p q lo hi lo1 hi1 lo2 hi2 v a1 a2 pv f1 f2 hO h1 h2 v1 v2 e1 e2 hs hm1 hm2
        | false =>
          rw [(st_f hm1).1, (st_f hm1).2, (st_f hm2).1, (st_f hm2).2]
          exact stepK0 c tb ok ha b p q lo hi lo1 hi1 lo2 hi2 v a1 a2 pv f1 f2 hO h1 h2 v1 v2 e1 e2 hs hm1 hm2
    | false =>
      have hn : sIs c v pv f1 = true ∧ false = false := ⟨hs, rfl⟩
      have p0 : ∀ lo a fr, pLo c X Y v a1 pv f1 false lo a fr = mx (mn (sLo c X Y v a1 pv f1) c.Cap) 0 := fun lo a fr => by unfold pLo; rw [if_pos hn]
      have p1 : ∀ lo a fr, pHi c X Y v a1 pv f1 false lo a fr = mx (mn (sHi c X Y v a1 pv f1) c.Cap) 0 := fun lo a fr => by unfold pHi; rw [if_pos hn]
      simp only [p0, p1, Bool.or_true]
      cases hm1 : mIs (mx (mn (sLo c X Y v a1 pv f1) c.Cap) 0) (mx (mn (sHi c X Y v a1 pv f1) c.Cap) 0) (vtLo (mx (mn (sLo c X Y v a1 pv f1) c.Cap) 0) (mx (mn (sHi c X Y v a1 pv f1) c.Cap) 0) (mx (mn (sLo c X Y v a1 pv f1) c.Cap) 0) (mx (mn (sHi c X Y v a1 pv f1) c.Cap) 0) (sLo c X Y v a1 pv f1) (sHi c X Y v a1 pv f1) true) (vtHi (mx (mn (sLo c X Y v a1 pv f1) c.Cap) 0) (mx (mn (sHi c X Y v a1 pv f1) c.Cap) 0) (mx (mn (sLo c X Y v a1 pv f1) c.Cap) 0) (mx (mn (sHi c X Y v a1 pv f1) c.Cap) 0) (sLo c X Y v a1 pv f1) (sHi c X Y v a1 pv f1) true) with
      | true =>
        cases hm2 : mIs (mx (mn (sLo c X Y v a1 pv f1) c.Cap) 0) (mx (mn (sHi c X Y v a1 pv f1) c.Cap) 0) (vtLo (mx (mn (sLo c X Y v a1 pv f1) c.Cap) 0) (mx (mn (sHi c X Y v a1 pv f1) c.Cap) 0) (mx (mn (sLo c X Y v a1 pv f1) c.Cap) 0) (mx (mn (sHi c X Y v a1 pv f1) c.Cap) 0) (sLo c X Y v a1 pv f1) (sHi c X Y v a1 pv f1) true) (vtHi (mx (mn (sLo c X Y v a1 pv f1) c.Cap) 0) (mx (mn (sHi c X Y v a1 pv f1) c.Cap) 0) (mx (mn (sLo c X Y v a1 pv f1) c.Cap) 0) (mx (mn (sHi c X Y v a1 pv f1) c.Cap) 0) (sLo c X Y v a1 pv f1) (sHi c X Y v a1 pv f1) true) with
        | true =>
          rw [(st_t hm1).1, (st_t hm1).2]
          exact stepU3 c tb ok ha b p q lo hi lo1 hi1 lo2 hi2 v a1 a2 pv f1 f2 hO h1 h2 v1 v2 e1 e2 hs hm1 hm2
        | false =>
          exact absurd (hm1.symm.trans hm2) (by decide)
      | false =>
        cases hm2 : mIs (mx (mn (sLo c X Y v a1 pv f1) c.Cap) 0) (mx (mn (sHi c X Y v a1 pv f1) c.Cap) 0) (vtLo (mx (mn (sLo c X Y v a1 pv f1) c.Cap) 0) (mx (mn (sHi c X Y v a1 pv f1) c.Cap) 0) (mx (mn (sLo c X Y v a1 pv f1) c.Cap) 0) (mx (mn (sHi c X Y v a1 pv f1) c.Cap) 0) (sLo c X Y v a1 pv f1) (sHi c X Y v a1 pv f1) true) (vtHi (mx (mn (sLo c X Y v a1 pv f1) c.Cap) 0) (mx (mn (sHi c X Y v a1 pv f1) c.Cap) 0) (mx (mn (sLo c X Y v a1 pv f1) c.Cap) 0) (mx (mn (sHi c X Y v a1 pv f1) c.Cap) 0) (sLo c X Y v a1 pv f1) (sHi c X Y v a1 pv f1) true) with
        | true =>
          exact absurd (hm1.symm.trans hm2) (by decide)
        | false =>
          rw [(st_f hm1).1, (st_f hm1).2]
          exact stepU0 c tb ok ha b p q lo hi lo1 hi1 lo2 hi2 v a1 a2 pv f1 f2 hO h1 h2 v1 v2 e1 e2 hs hm1 hm2
end Go.Proofs.YtlhhcongoplfpaaDoor
namespace Go.Proofs.YtlhhcongoplfpaaDoor
open Go Go.Proofs.YtlhhcongoplfpaaDoorAB
variable {G : Nat}
set_option linter.unusedSimpArgs false
set_option linter.unusedVariables false

set_option maxHeartbeats 8000000 in
theorem first20 (u : Unit) : Ctr Tryd.prog G 56 [] [] (.bool true) [] := by
  obtain ⟨fa, fl, fc, hmk⟩ := make_ConfigL (G := G) 0 0 0
  refine Ctr.by layOk Tryd.func56 Tryd.ntmps56 rfl rfl rfl rfl rfl ?_
  repeat' (first
    | (((first | (with_reducible refine gQ0 ?_) | ((with_reducible refine gQ1 ?_ ?_); (focus (apply wg (r := true); (iterate 6 apply Eq.refl))))); (first | ((with_reducible apply q_move); apply Eq.refl) | ((with_reducible apply q_assign); apply Eq.refl) | ((with_reducible apply q_int); (iterate 3 apply Eq.refl)) | ((with_reducible apply q_build layOk); (iterate 4 apply Eq.refl)) | ((with_reducible apply q_pick_t); (iterate 2 apply Eq.refl)) | ((with_reducible apply q_pick_f); (iterate 2 apply Eq.refl)) | ((with_reducible apply q_fieldc layOk); apply Eq.refl; exact Tryd.underlying38; (iterate 4 apply Eq.refl)) | ((with_reducible apply q_fieldr layOk); apply Eq.refl; exact Tryd.underlying38; (iterate 4 apply Eq.refl)) | ((with_reducible apply q_nenil); (focus (kernel_rfl)); (iterate 2 apply Eq.refl)) | (refine q_call2 rfl (hmk (ks 0) (ks 1)) (by first | (focus ((repeat (with_reducible (first | apply lh | apply lt))); done)) | (focus (apply lx; (focus (repeat (with_reducible (first | apply lh | apply lt)))); exact rfl))) (by first | (focus ((repeat (with_reducible (first | apply lh | apply lt))); done)) | (focus (apply lx; (focus (repeat (with_reducible (first | apply lh | apply lt)))); exact rfl))) (by decide) (by exact rfl) ?_) | ((with_reducible apply isF (f := 57)); (refine q_callW rfl (Bat_New_true (cfgOf 0 0 0 (some ⟨_, 0, none⟩) (fa _) fl fc) (ks 2) (ks 3) (ks 4) 5 9) (by repeat (first | exact Fd.nil | apply Fd.cons | (focus ((repeat (with_reducible (first | apply lh | apply lt))); done)) | (focus (apply lx; (focus (repeat (with_reducible (first | apply lh | apply lt)))); exact rfl)))) (by decide) rfl (by exact rfl) ?_)) | ((with_reducible apply isF (f := 63)); (refine q_call1r rfl (Bat_Known (cfgOf 0 0 0 (some ⟨_, 0, none⟩) (fa _) fl fc) _ _ _ _ _ _) (by first | (focus ((repeat (with_reducible (first | apply lh | apply lt))); done)) | (focus (apply lx; (focus (repeat (with_reducible (first | apply lh | apply lt)))); exact rfl))) ?_)) | ((with_reducible apply isF (f := 59)); (refine q_call1r rfl (Bat_Q (cfgOf 0 0 0 (some ⟨_, 0, none⟩) (fa _) fl fc) _ _ _ _ _ _) (by first | (focus ((repeat (with_reducible (first | apply lh | apply lt))); done)) | (focus (apply lx; (focus (repeat (with_reducible (first | apply lh | apply lt)))); exact rfl))) ?_)))))
    | (((with_reducible refine gR ?_); (first | refine RK.peelN rfl ?_ | refine RK.donef rfl ⟨_, rfl, ?_⟩ | refine RK.donet rfl (by kernel_rfl) ⟨_, rfl, ?_⟩)))
    | ((first | (with_reducible refine gQv ?_ ?_) | (with_reducible refine gQe ?_ ?_)); (focus (first | (apply wg (r := false); (iterate 6 apply Eq.refl)) | (apply wz; (iterate 4 apply Eq.refl)))))
    | ((with_reducible refine gK ?_); ((first | (apply gsD; (iterate 4 apply Eq.refl)) | (apply RKo.gsplitE; (iterate 4 apply Eq.refl)) | (apply RKo.gsplitN; (iterate 4 apply Eq.refl)) | (apply RKo.gsplit; (iterate 4 apply Eq.refl))) <;> (intro hc; first | with_reducible exact ff hc | with_reducible exact ff' hc | exact absurd hc (by decide) | exact absurd (show mx (mn (9 : Int) 100000) 0 = 9 by decide) hc | skip)))
    | (((with_reducible refine gW ?_); (first | with_reducible refine WP.seq ?_ | refine WP.reg mixed (fun ks => _) (fun ks => rfl) (fun ks => ?_) | ((first | (apply cdD; apply Eq.refl) | (apply WP.condE; apply Eq.refl) | (apply WP.condN; apply Eq.refl) | (apply WP.condA; apply Eq.refl)) <;> (intro hc; first | with_reducible exact ff hc | with_reducible exact ff' hc | exact absurd hc (by decide) | exact absurd (show mx (mn (9 : Int) 100000) 0 = 9 by decide) hc | skip)) | refine WP.ret ?_ | refine WP.skip ?_ | refine WP.exit ?_ | refine WP.goto ?_ | refine WP.label ?_ | refine WP.block ?_)))
    | (with_reducible refine thn_n ?_)
    | (with_reducible refine thn_r ?_)
    | (with_reducible refine thn_e ?_)
    | (with_reducible refine thn_g ?_)
    | (with_reducible refine blk_n ?_)
    | (with_reducible refine blk_r ?_)
    | (with_reducible refine blk_e ?_)
    | (with_reducible refine blk_g ?_)
    | (((with_reducible refine blk_o ?_ ?_); first | exact rfl | skip))
    | (refine Endz.mk' (by first | exact Or.inl rfl | exact Or.inr rfl) (by repeat (first | exact RVs.nil | apply RVs.cons | exact RV1.tmp rfl | exact RV1.row rfl rfl rfl (by repeat (first | exact look_here | apply look_there)) (by exact rfl) | exact RV1.cell rfl rfl rfl (by repeat (first | exact look_here | apply look_there)) (by exact rfl))) (by first | rfl | exact congrArg Value.bool (show decide (mx (mn (9 : Int) 100000) 0 = 9) = true by decide)) (by repeat (first | exact List.nil_sublist _ | exact List.Sublist.refl _ | apply List.Sublist.cons_cons | apply List.Sublist.cons))))
end Go.Proofs.YtlhhcongoplfpaaDoor
namespace Go.Proofs.YtlhhcongoplfpaaDoor
open Go Go.Proofs.YtlhhcongoplfpaaDoorAB
set_option linter.unusedSimpArgs false
set_option linter.unusedVariables false

/-- A span of a battery's charge. -/
def Wd (lo hi : Int) : Prop := 0 ≤ lo ∧ lo ≤ hi ∧ hi ≤ 100000
/-- A number stands in a span. -/
def Hs (lo hi q : Int) : Prop := lo ≤ q ∧ q ≤ hi
theorem mx21 : mx 2 1 = 2 := by decide
section
variable {X Y : Nat → Int} {n : Nat} {s : Bool × Int × Int} {x : Int}
theorem cvStep_f (h : cntN X Y x n < 2) : cvStep X Y n s x = s := by unfold cvStep; rw [mx21, if_pos h]
theorem cvStep_t (h : ¬ cntN X Y x n < 2) : cvStep X Y n s x = (true, mn (if s.1 = true then s.2.1 else mn x x) (mn x x), mx (if s.1 = true then s.2.2 else mx x x) (mx x x)) := by unfold cvStep; rw [mx21, if_neg h]
theorem cvStep_keep (h : s.1 = true) : (cvStep X Y n s x).1 = true ∧ (cvStep X Y n s x).2.1 ≤ s.2.1 ∧ s.2.2 ≤ (cvStep X Y n s x).2.2 := by
  by_cases hc : cntN X Y x n < 2
  · rw [cvStep_f hc]; exact ⟨h, Int.le_refl _, Int.le_refl _⟩
  · rw [cvStep_t hc, h]; simp only [if_true, mn_eq, mx_eq]; exact ⟨trivial, by omega, by omega⟩
theorem cvStep_has (h : ¬ cntN X Y x n < 2) : (cvStep X Y n s x).1 = true ∧ (cvStep X Y n s x).2.1 ≤ x ∧ x ≤ (cvStep X Y n s x).2.2 := by
  rw [cvStep_t h]; simp only [mn_eq, mx_eq]
  generalize (if s.1 = true then s.2.1 else min x x) = a
  generalize (if s.1 = true then s.2.2 else max x x) = b
  exact ⟨trivial, by omega, by omega⟩
theorem cvStep_wd (hx : 0 ≤ x) (hx2 : x ≤ 100000) (hs : s.1 = true → Wd s.2.1 s.2.2) (h : (cvStep X Y n s x).1 = true) : Wd (cvStep X Y n s x).2.1 (cvStep X Y n s x).2.2 := by
  by_cases hc : cntN X Y x n < 2
  · rw [cvStep_f hc] at h ⊢; exact hs h
  · rw [cvStep_t hc]
    by_cases h1 : s.1 = true
    · have := hs h1
      simp only [h1, if_true, mn_eq, mx_eq]; unfold Wd at *; omega
    · show Wd (mn (if s.1 = true then s.2.1 else mn x x) (mn x x)) (mx (if s.1 = true then s.2.2 else mx x x) (mx x x))
      rw [if_neg h1, if_neg h1]; simp only [mn_eq, mx_eq]; unfold Wd; omega
theorem cvIn_keep (m : Nat) : ∀ k : Nat, (cvIn X Y n m).1 = true → (cvIn X Y n (m + k)).1 = true ∧ (cvIn X Y n (m + k)).2.1 ≤ (cvIn X Y n m).2.1 ∧ (cvIn X Y n m).2.2 ≤ (cvIn X Y n (m + k)).2.2
  | 0, h => ⟨h, Int.le_refl _, Int.le_refl _⟩
  | k + 1, h => by
    obtain ⟨a, b, c⟩ := cvIn_keep m k h
    obtain ⟨d, e, f⟩ := cvStep_keep (X := X) (Y := Y) (n := n) (x := X (m + k)) a
    obtain ⟨g, i, j⟩ := cvStep_keep (X := X) (Y := Y) (n := n) (x := Y (m + k)) d
    exact ⟨g, Int.le_trans i (Int.le_trans e b), Int.le_trans c (Int.le_trans f j)⟩
theorem cvIn_X {i m : Nat} (hi : i < m) (h : ¬ cntN X Y (X i) n < 2) : (cvIn X Y n m).1 = true ∧ (cvIn X Y n m).2.1 ≤ X i ∧ X i ≤ (cvIn X Y n m).2.2 := by
  obtain ⟨a, b, c⟩ := cvStep_has (X := X) (Y := Y) (n := n) (s := cvIn X Y n i) h
  obtain ⟨d, e, f⟩ := cvStep_keep (X := X) (Y := Y) (n := n) (x := Y i) a
  obtain ⟨g, k, l⟩ := cvIn_keep (X := X) (Y := Y) (n := n) (i + 1) (m - (i + 1)) d
  rw [show i + 1 + (m - (i + 1)) = m by omega] at g k l
  exact ⟨g, Int.le_trans k (Int.le_trans e b), Int.le_trans c (Int.le_trans f l)⟩
theorem cvIn_Y {i m : Nat} (hi : i < m) (h : ¬ cntN X Y (Y i) n < 2) : (cvIn X Y n m).1 = true ∧ (cvIn X Y n m).2.1 ≤ Y i ∧ Y i ≤ (cvIn X Y n m).2.2 := by
  obtain ⟨d, e, f⟩ := cvStep_has (X := X) (Y := Y) (n := n) (s := cvStep X Y n (cvIn X Y n i) (X i)) h
  obtain ⟨g, k, l⟩ := cvIn_keep (X := X) (Y := Y) (n := n) (i + 1) (m - (i + 1)) d
  rw [show i + 1 + (m - (i + 1)) = m by omega] at g k l
  exact ⟨g, Int.le_trans k e, Int.le_trans f l⟩
theorem cvIn_wd (h : ∀ i, i < n → (0 ≤ X i ∧ X i ≤ 100000) ∧ (0 ≤ Y i ∧ Y i ≤ 100000)) : ∀ m : Nat, m ≤ n → (cvIn X Y n m).1 = true → Wd (cvIn X Y n m).2.1 (cvIn X Y n m).2.2
  | 0, _, hh => by cases hh
  | m + 1, hm, hh => by
    obtain ⟨⟨a, b⟩, c, d⟩ := h m (by omega)
    exact cvStep_wd c d (fun g => cvStep_wd a b (cvIn_wd h m (by omega)) g) hh
end
theorem cnt3 (X Y : Nat → Int) (x : Int) : cntN X Y x 3 = (if X 2 ≤ x ∧ x ≤ Y 2 then 1 else 0) + ((if X 1 ≤ x ∧ x ≤ Y 1 then 1 else 0) + (if X 0 ≤ x ∧ x ≤ Y 0 then 1 else 0)) := by
  simp only [cntN]
  (repeat' split) <;> omega
theorem cnt_two {X Y : Nat → Int} {x : Int} {i j : Nat} (hi : i < 3) (hj : j < 3) (hij : i ≠ j) (h1 : X i ≤ x ∧ x ≤ Y i) (h2 : X j ≤ x ∧ x ≤ Y j) : ¬ cntN X Y x 3 < 2 := by
  rw [cnt3]
  rcases (show i = 0 ∨ i = 1 ∨ i = 2 by omega) with rfl | rfl | rfl <;> rcases (show j = 0 ∨ j = 1 ∨ j = 2 by omega) with rfl | rfl | rfl <;> (repeat' split) <;> first | (exact absurd rfl hij) | omega
theorem pair_has {X Y : Nat → Int} {q : Int} {i j : Nat} (hi : i < 3) (hj : j < 3) (hij : i ≠ j) (h1 : Hs (X i) (Y i) q) (h2 : Hs (X j) (Y j) q) : (cvIn X Y 3 3).1 = true ∧ Hs (cvIn X Y 3 3).2.1 (cvIn X Y 3 3).2.2 q := by
  unfold Hs at *
  have lo : (cvIn X Y 3 3).1 = true ∧ (cvIn X Y 3 3).2.1 ≤ q := by
    rcases ltge (X i) (X j) with h | h
    · have := cvIn_X (X := X) (Y := Y) (n := 3) hj (cnt_two hi hj hij (by omega) (by omega)); exact ⟨this.1, by omega⟩
    · have := cvIn_X (X := X) (Y := Y) (n := 3) hi (cnt_two hi hj hij (by omega) (by omega)); exact ⟨this.1, by omega⟩
  have hi' : q ≤ (cvIn X Y 3 3).2.2 := by
    rcases ltge (Y i) (Y j) with h | h
    · have := cvIn_Y (X := X) (Y := Y) (n := 3) hi (cnt_two hi hj hij (by omega) (by omega)); omega
    · have := cvIn_Y (X := X) (Y := Y) (n := 3) hj (cnt_two hi hj hij (by omega) (by omega)); omega
  exact ⟨lo.1, lo.2, hi'⟩
section
variable {a1 b1 a2 b2 a3 b3 q : Int}
/-- A number that stands in two of three. -/
def Two (a1 b1 a2 b2 a3 b3 q : Int) : Prop := (Hs a1 b1 q ∧ Hs a2 b2 q) ∨ (Hs a1 b1 q ∧ Hs a3 b3 q) ∨ (Hs a2 b2 q ∧ Hs a3 b3 q)
theorem cv3_has (h : Two a1 b1 a2 b2 a3 b3 q) : (cv3 a1 b1 a2 b2 a3 b3).1 = true ∧ Hs (cv3 a1 b1 a2 b2 a3 b3).2.1 (cv3 a1 b1 a2 b2 a3 b3).2.2 q := by
  rcases h with ⟨h1, h2⟩ | ⟨h1, h2⟩ | ⟨h1, h2⟩
  · exact pair_has (X := vX a1 b1 a2 b2 a3 b3) (Y := vY a1 b1 a2 b2 a3 b3) (i := 0) (j := 1) (by decide) (by decide) (by decide) h1 h2
  · exact pair_has (X := vX a1 b1 a2 b2 a3 b3) (Y := vY a1 b1 a2 b2 a3 b3) (i := 0) (j := 2) (by decide) (by decide) (by decide) h1 h2
  · exact pair_has (X := vX a1 b1 a2 b2 a3 b3) (Y := vY a1 b1 a2 b2 a3 b3) (i := 1) (j := 2) (by decide) (by decide) (by decide) h1 h2
theorem cv3_wd (h1 : Wd a1 b1) (h2 : Wd a2 b2) (h3 : Wd a3 b3) (h : (cv3 a1 b1 a2 b2 a3 b3).1 = true) : Wd (cv3 a1 b1 a2 b2 a3 b3).2.1 (cv3 a1 b1 a2 b2 a3 b3).2.2 := by
  refine cvIn_wd (fun i hi => ?_) 3 (Nat.le_refl _) h
  unfold Wd at *
  rcases (show i = 0 ∨ i = 1 ∨ i = 2 by omega) with rfl | rfl | rfl
  · show (0 ≤ a1 ∧ a1 ≤ 100000) ∧ (0 ≤ b1 ∧ b1 ≤ 100000); omega
  · show (0 ≤ a2 ∧ a2 ≤ 100000) ∧ (0 ≤ b2 ∧ b2 ≤ 100000); omega
  · show (0 ≤ a3 ∧ a3 ≤ 100000) ∧ (0 ≤ b3 ∧ b3 ≤ 100000); omega
theorem mIs_iff : mIs a1 b1 a2 b2 = true ↔ max a1 a2 ≤ min b1 b2 := by
  unfold mIs; rw [mx_eq, mn_eq]; simp only [Bool.not_eq_true', decide_eq_false_iff_not, Int.not_lt]; first | done | omega
theorem vt_has3 (h : Two a1 b1 a2 b2 a3 b3 q) : Hs (vtLo a1 b1 a2 b2 a3 b3 true) (vtHi a1 b1 a2 b2 a3 b3 true) q := by
  obtain ⟨c1, c2⟩ := cv3_has h
  unfold vtLo vtHi
  rw [if_pos rfl, if_pos rfl, if_pos c1, if_pos c1]; exact c2
theorem vt_has2 (h1 : Hs a1 b1 q) (h2 : Hs a2 b2 q) : Hs (vtLo a1 b1 a2 b2 a3 b3 false) (vtHi a1 b1 a2 b2 a3 b3 false) q := by
  unfold Hs at *
  have hm : mIs a1 b1 a2 b2 = true := mIs_iff.2 (by omega)
  have hm2 : ¬ mx a1 a2 > mn b1 b2 := by rw [mx_eq, mn_eq]; omega
  unfold vtLo vtHi
  rw [if_neg (show ¬ (false = true) by decide), if_neg (show ¬ (false = true) by decide), if_pos hm, if_pos hm]
  unfold mLo mHi
  rw [if_neg hm2, if_neg hm2, mx_eq, mn_eq]; omega
theorem vt_has {says : Bool} (h1 : Hs a1 b1 q) (h2 : Hs a2 b2 q) : Hs (vtLo a1 b1 a2 b2 a3 b3 says) (vtHi a1 b1 a2 b2 a3 b3 says) q := by
  cases says
  · exact vt_has2 h1 h2
  · exact vt_has3 (.inl ⟨h1, h2⟩)
theorem vt_wd {says : Bool} (h1 : Wd a1 b1) (h2 : Wd a2 b2) (h3 : says = true → Wd a3 b3) : Wd (vtLo a1 b1 a2 b2 a3 b3 says) (vtHi a1 b1 a2 b2 a3 b3 says) := by
  have hull : Wd (mn a1 a2) (mx b1 b2) := by unfold Wd at *; rw [mn_eq, mx_eq]; omega
  unfold vtLo vtHi
  cases says with
  | true =>
    rw [if_pos rfl, if_pos rfl]
    by_cases hc : (cv3 a1 b1 a2 b2 a3 b3).1 = true
    · rw [if_pos hc, if_pos hc]; exact cv3_wd h1 h2 (h3 rfl) hc
    · rw [if_neg hc, if_neg hc]; exact hull
  | false =>
    rw [if_neg (show ¬ (false = true) by decide), if_neg (show ¬ (false = true) by decide)]
    by_cases hc : mIs a1 b1 a2 b2 = true
    · have hm := mIs_iff.1 hc
      rw [if_pos hc, if_pos hc]
      have hm2 : ¬ mx a1 a2 > mn b1 b2 := by rw [mx_eq, mn_eq]; omega
      unfold mLo mHi
      rw [if_neg hm2, if_neg hm2, mx_eq, mn_eq]
      unfold Wd at *; omega
    · rw [if_neg hc, if_neg hc]; exact hull
/-- The same span thrice. -/
theorem cv3_same (h : a1 ≤ b1) : cv3 a1 b1 a1 b1 a1 b1 = (true, a1, b1) := by
  have ca : ¬ cntN (vX a1 b1 a1 b1 a1 b1) (vY a1 b1 a1 b1 a1 b1) a1 3 < 2 := cnt_two (i := 0) (j := 1) (by decide) (by decide) (by decide) ⟨Int.le_refl _, h⟩ ⟨Int.le_refl _, h⟩
  have cb : ¬ cntN (vX a1 b1 a1 b1 a1 b1) (vY a1 b1 a1 b1 a1 b1) b1 3 < 2 := cnt_two (i := 0) (j := 1) (by decide) (by decide) (by decide) ⟨h, Int.le_refl _⟩ ⟨h, Int.le_refl _⟩
  have e : cv3 a1 b1 a1 b1 a1 b1 = cvStep (vX a1 b1 a1 b1 a1 b1) (vY a1 b1 a1 b1 a1 b1) 3 (cvStep (vX a1 b1 a1 b1 a1 b1) (vY a1 b1 a1 b1 a1 b1) 3 (cvStep (vX a1 b1 a1 b1 a1 b1) (vY a1 b1 a1 b1 a1 b1) 3 (cvStep (vX a1 b1 a1 b1 a1 b1) (vY a1 b1 a1 b1 a1 b1) 3 (cvStep (vX a1 b1 a1 b1 a1 b1) (vY a1 b1 a1 b1 a1 b1) 3 (cvStep (vX a1 b1 a1 b1 a1 b1) (vY a1 b1 a1 b1 a1 b1) 3 (false, 0, 0) a1) b1) a1) b1) a1) b1 := rfl
  rw [e]
  simp only [cvStep_t ca, cvStep_t cb, if_true, mn_eq, mx_eq]
  simp only [Bool.false_eq_true, if_false]
  refine congrArg (Prod.mk true) (Prod.ext ?_ ?_)
  · show min _ _ = a1; omega
  · show max _ _ = b1; omega
theorem vt_same (h : a1 ≤ b1) : vtLo a1 b1 a1 b1 a1 b1 true = a1 ∧ vtHi a1 b1 a1 b1 a1 b1 true = b1 := by
  have e := cv3_same h
  unfold vtLo vtHi
  rw [if_pos rfl, if_pos rfl, e]; exact ⟨rfl, rfl⟩
end
section
variable {c : Cfg} {lo hi x y q : Int}
theorem clip_in {x : Int} : 0 ≤ mx (mn x 100000) 0 ∧ mx (mn x 100000) 0 ≤ 100000 := by rw [mx_eq, mn_eq]; omega
theorem clip_mono {x y : Int} (h : x ≤ y) : mx (mn x 100000) 0 ≤ mx (mn y 100000) 0 := by simp only [mx_eq, mn_eq]; omega
theorem clip_id {x : Int} (h : 0 ≤ x) (h2 : x ≤ 100000) : mx (mn x 100000) 0 = x := by simp only [mx_eq, mn_eq]; omega
theorem clip_le {x q : Int} (h : x ≤ q) (h2 : 0 ≤ q) : mx (mn x 100000) 0 ≤ q := by simp only [mx_eq, mn_eq]; omega
theorem clip_ge {x q : Int} (h : q ≤ x) (h2 : q ≤ 100000) : q ≤ mx (mn x 100000) 0 := by simp only [mx_eq, mn_eq]; omega
theorem wide_eq (hD : c.Drift = 50) (h : Wd x y) : wLo x c.Drift = x - 50 ∧ wHi y c.Drift = y + 50 := by
  unfold Wd at h
  unfold wLo wHi
  rw [hD, if_neg (by decide), if_neg (by decide), fSub_in (by omega) (by omega) (by omega) (by omega), fAdd_in (by omega) (by omega) (by omega) (by omega)]
  exact ⟨rfl, rfl⟩
theorem st_wd (hC : c.Cap = 100000) (hD : c.Drift = 50) (h1 : Wd lo hi) (h2 : Wd x y) : Wd (stLo c lo hi x y) (stHi c lo hi x y) := by
  unfold stLo stHi
  by_cases hm : mIs lo hi x y = true
  · rw [if_pos hm, if_pos hm]; exact h1
  · rw [if_neg hm, if_neg hm, (wide_eq hD h2).1, (wide_eq hD h2).2, hC]
    have a := clip_in (x := x - 50); have b := clip_in (x := y + 50)
    have m := clip_mono (x := x - 50) (y := y + 50) (by unfold Wd at h2; omega)
    unfold Wd; omega
theorem st_has (hC : c.Cap = 100000) (hD : c.Drift = 50) (h2 : Wd x y) (h3 : Hs lo hi q) (h4 : Hs x y q) : Hs (stLo c lo hi x y) (stHi c lo hi x y) q := by
  have hm : mIs lo hi x y = true := mIs_iff.2 (by unfold Hs at *; omega)
  unfold stLo stHi
  rw [if_pos hm, if_pos hm]; exact h3
theorem st_meets (hC : c.Cap = 100000) (hD : c.Drift = 50) (h1 : Wd lo hi) (h2 : Wd x y) : mIs (stLo c lo hi x y) (stHi c lo hi x y) x y = true := by
  unfold stLo stHi
  by_cases hm : mIs lo hi x y = true
  · rw [if_pos hm, if_pos hm]; exact hm
  · rw [if_neg hm, if_neg hm, (wide_eq hD h2).1, (wide_eq hD h2).2, hC]
    refine mIs_iff.2 ?_
    have a := clip_le (x := x - 50) (q := x) (by omega) (by unfold Wd at h2; omega)
    have b := clip_ge (x := y + 50) (q := y) (by omega) (by unfold Wd at h2; omega)
    unfold Wd at h2; omega
theorem out_eq (hI : c.Imax = 500) (e0 : 0 ≤ c.AmpErr) (e4 : c.AmpErr ≤ 4) {v : Int} {fr : Bool} (h4 : -1000000 < v) (h5 : v < 1000000) :
    outLo c v fr = (if fr = true then v - c.AmpErr else -500) ∧ outHi c v fr = (if fr = true then v + c.AmpErr else 500) := by
  cases fr
  · refine ⟨?_, ?_⟩
    · show mn (IntKind.i64.wrap (0 - c.Imax)) c.Imax = -500; rw [hI]; decide
    · show mx (IntKind.i64.wrap (0 - c.Imax)) c.Imax = 500; rw [hI]; decide
  · refine ⟨?_, ?_⟩
    · show wLo (mn v v) c.AmpErr = v - c.AmpErr
      have : mn v v = v := by rw [mn_eq]; omega
      unfold wLo; rw [if_neg (by omega), this, fSub_in (by omega) (by omega) (by omega) (by omega)]
    · show wHi (mx v v) c.AmpErr = v + c.AmpErr
      have : mx v v = v := by rw [mx_eq]; omega
      unfold wHi; rw [if_neg (by omega), this, fAdd_in (by omega) (by omega) (by omega) (by omega)]
theorem q_wd (hC : c.Cap = 100000) (hI : c.Imax = 500) (e0 : 0 ≤ c.AmpErr) (e4 : c.AmpErr ≤ 4) (h : Wd lo hi) {v : Int} {fr : Bool} (h4 : -1000000 < v) (h5 : v < 1000000) : Wd (qLo c lo v fr) (qHi c hi v fr) := by
  obtain ⟨ea, eb⟩ := out_eq hI e0 e4 (fr := fr) h4 h5
  unfold Wd at h
  unfold qLo qHi
  have key : outLo c v fr ≤ outHi c v fr ∧ -2000000 < outLo c v fr ∧ outHi c v fr < 2000000 := by rw [ea, eb]; split <;> omega
  rw [hC, fSub_in (by omega) (by omega) (by omega) (by omega), fSub_in (by omega) (by omega) (by omega) (by omega)]
  exact ⟨clip_in.1, clip_mono (by omega), clip_in.2⟩
/-- A counter that has the charge, and is told the amps, has what is left. -/
theorem q_has (hC : c.Cap = 100000) (hI : c.Imax = 500) (e0 : 0 ≤ c.AmpErr) (e4 : c.AmpErr ≤ 4) (h : Wd lo hi) (hq : Hs lo hi q) {v : Int} (h4 : -1000000 < v) (h5 : v < 1000000) (h6 : 0 ≤ q - v) (h7 : q - v ≤ 100000) : Hs (qLo c lo v true) (qHi c hi v true) (q - v) := by
  obtain ⟨ea, eb⟩ := out_eq hI e0 e4 (fr := true) h4 h5
  rw [if_pos rfl] at ea eb
  unfold Wd Hs at *
  unfold qLo qHi
  rw [ea, eb, hC, fSub_in (by omega) (by omega) (by omega) (by omega), fSub_in (by omega) (by omega) (by omega) (by omega)]
  exact ⟨clip_le (by omega) h6, clip_ge (by omega) h7⟩
/-- What true volts say has the charge. -/
theorem sag_hasQ (hL : c.ocL = 4) (hV : c.Vmin = 10000) (hS : c.SagErr = 100) {v a : Int} (h1 : 0 ≤ q) (h2 : q ≤ 100000) (hv : v = tLo 4 oX oY q - dn (a * 20) 1000) (h3 : ¬ v < 10000) : sIs c v true true = true ∧ Hs (sLo c oX oY v a true true) (sHi c oX oY v a true true) q := by
  have hn : ¬ v < c.Vmin := by rw [hV]; exact h3
  have t3 := ocOk.apart q
  have x0 : oX 0 = 0 := rfl
  have x3 : oX (4 - 1) = 100000 := rfl
  have d := (dn_up (a := a * 20) (b := 1000) (by decide)).1
  refine ⟨by unfold sIs; exact decide_eq_true ⟨rfl, rfl, hn⟩, ?_⟩
  unfold sLo sHi
  rw [if_pos ⟨rfl, rfl, hn⟩, if_pos ⟨rfl, rfl, hn⟩, hL, hS]
  exact ocOk.h_has (by omega) (by omega) (by omega) (by omega)
theorem sag_wd (hL : c.ocL = 4) {v a : Int} {p r : Bool} (h : sIs c v p r = true) : Wd (sLo c oX oY v a p r) (sHi c oX oY v a p r) := by
  have hn : p = true ∧ r = true ∧ ¬ v < c.Vmin := by unfold sIs at h; exact of_decide_eq_true h
  have x0 : oX 0 = 0 := rfl
  have x3 : oX (4 - 1) = 100000 := rfl
  have b := ocOk.h_in (v + dn (a * 20) 1000 - c.SagErr) (v + up (a * 20) 1000 + c.SagErr)
  unfold sLo sHi
  rw [if_pos hn, if_pos hn, hL]
  unfold Wd; omega
end
end Go.Proofs.YtlhhcongoplfpaaDoor
namespace Go.Proofs.YtlhhcongoplfpaaDoor
open Go Go.Proofs.YtlhhcongoplfpaaDoorAB
variable {G : Nat}
set_option linter.unusedSimpArgs false
set_option linter.unusedVariables false

theorem err_in (m : Int) : 0 ≤ (n20 m).tmod 5 ∧ (n20 m).tmod 5 ≤ 4 := by
  have h := Int.tmod_lt_of_pos (n20 m) (show (0 : Int) < 5 by decide)
  have h2 := Int.tmod_nonneg 5 (n20_nonneg m)
  omega
/-- What is the same in all configurations. -/
structure Fx (c : Cfg) : Prop where
  hC : c.Cap = 100000
  hI : c.Imax = 500
  hD : c.Drift = 50
  hL : c.ocL = 4
  hV : c.Vmin = 10000
  hS : c.SagErr = 100
  hO : c.Ohm = 20
  e0 : 0 ≤ c.AmpErr
  e4 : c.AmpErr ≤ 4
theorem fx (n m k : Int) (oc fa : Option Addr) (fl fc : Nat) : Fx (cfgOf n m k oc fa fl fc) := ⟨rfl, rfl, rfl, rfl, rfl, rfl, rfl, (err_in m).1, (err_in m).2⟩

/-- A cycle whose volts and first amps are true: Q stands in two of three. -/
theorem hold_a {c : Cfg} (F : Fx c) {k : Nat} (hc : c.ocA = some ⟨k, 0, none⟩) (b p q : Nat) {lo hi lo1 hi1 lo2 hi2 v a1 a2 Q : Int} {f2 : Bool} (w1 : Wd lo1 hi1) (w2 : Wd lo2 hi2) (g1 : Hs lo1 hi1 Q) (A1 : -500000 ≤ a1) (A2 : a1 ≤ 500000) (A3 : -500000 ≤ a2) (A4 : a2 ≤ 500000) (q0 : 0 ≤ Q - a1) (q1 : Q - a1 ≤ 100000) (hv : v = tLo 4 oX oY (Q - a1) - dn (a1 * 20) 1000) (hv2 : ¬ v < 10000) :
    ∃ L H m1 n1 m2 n2, Hs L H (Q - a1) ∧ Wd m1 n1 ∧ Wd m2 n2 ∧ Hs m1 n1 (Q - a1) ∧ mIs m1 n1 L H = true ∧ mIs m2 n2 L H = true ∧ Ctr Tryd.prog G 60 [.pointer (some ⟨b, 0, none⟩), .agg #[I64 (v), .bool true], .agg #[I64 (a1), .bool true], .agg #[I64 (a2), .bool f2]] [(b, .cells (bat c p q true (lo) (hi)) 137), (p, .cells (cnt_ c (lo1) (hi1)) 159), (q, .cells (cnt_ c (lo2) (hi2)) 159), (k, .cells ocv 27)] (.agg #[I64 (L), I64 (H)]) [.cells (bat c p q true (L) (H)) 137, .cells (cnt_ c (m1) (n1)) 159, .cells (cnt_ c (m2) (n2)) 159, .cells ocv 27] := by
  have d1 : -10001 ≤ dn (a1 * 20) 1000 := by unfold dn; omega
  have t2 := ocOk.hi1 (Q - a1)
  have t3 := ocOk.apart (Q - a1)
  have y3 : oY (4 - 1) = 28000 := rfl
  have h := bat_Step (G := G) c (k := k) (f := 0) (X := oX) (Y := oY) (by rw [F.hL]; exact ocTb) (by rw [F.hL]; exact ocOk) (fun _ => hc) b p q true lo hi lo1 hi1 lo2 hi2 v a1 a2 true true f2 F.hO (by omega) (by omega) (by omega) (by omega) (by rw [F.hS]; decide) (by rw [F.hS]; decide)
  obtain ⟨s1, s2⟩ := sag_hasQ F.hL F.hV F.hS q0 q1 hv hv2
  have p0 : ∀ lo a fr, pLo c oX oY v a1 true true true lo a fr = qLo c lo a fr := fun lo a fr => by unfold pLo; rw [if_neg (by simp)]
  have p1 : ∀ lo a fr, pHi c oX oY v a1 true true true lo a fr = qHi c lo a fr := fun lo a fr => by unfold pHi; rw [if_neg (by simp)]
  simp only [p0, p1] at h
  rw [s1] at h
  have r1 := q_wd F.hC F.hI F.e0 F.e4 w1 (v := a1) (fr := true) (by omega) (by omega)
  have r2 := q_wd F.hC F.hI F.e0 F.e4 w2 (v := a2) (fr := f2) (by omega) (by omega)
  have r3 := sag_wd (a := a1) F.hL s1
  have k1 := q_has F.hC F.hI F.e0 F.e4 w1 g1 (v := a1) (by omega) (by omega) q0 q1
  have V := vt_has3 (a2 := qLo c lo2 a2 f2) (b2 := qHi c hi2 a2 f2) (.inr (.inl ⟨k1, s2⟩))
  have VW := vt_wd (says := true) r1 r2 (fun _ => r3)
  exact ⟨_, _, _, _, _, _, V, st_wd F.hC F.hD r1 VW, st_wd F.hC F.hD r2 VW, st_has F.hC F.hD VW k1 V, st_meets F.hC F.hD r1 VW, st_meets F.hC F.hD r2 VW, h⟩

/-- A cycle of which the amps are true, both: Q stands in both counters. -/
theorem hold_b {c : Cfg} (F : Fx c) {k : Nat} (hc : c.ocA = some ⟨k, 0, none⟩) (b p q : Nat) {lo hi lo1 hi1 lo2 hi2 v a1 Q : Int} {pv : Bool} (w1 : Wd lo1 hi1) (w2 : Wd lo2 hi2) (g1 : Hs lo1 hi1 Q) (g2 : Hs lo2 hi2 Q) (A1 : -500000 ≤ a1) (A2 : a1 ≤ 500000) (q0 : 0 ≤ Q - a1) (q1 : Q - a1 ≤ 100000) (v1 : -1000000 ≤ v) (v2 : v ≤ 1000000) :
    ∃ L H m1 n1 m2 n2, Hs L H (Q - a1) ∧ Wd m1 n1 ∧ Wd m2 n2 ∧ Hs m1 n1 (Q - a1) ∧ Hs m2 n2 (Q - a1) ∧ Ctr Tryd.prog G 60 [.pointer (some ⟨b, 0, none⟩), .agg #[I64 (v), .bool pv], .agg #[I64 (a1), .bool true], .agg #[I64 (a1), .bool true]] [(b, .cells (bat c p q true (lo) (hi)) 137), (p, .cells (cnt_ c (lo1) (hi1)) 159), (q, .cells (cnt_ c (lo2) (hi2)) 159), (k, .cells ocv 27)] (.agg #[I64 (L), I64 (H)]) [.cells (bat c p q true (L) (H)) 137, .cells (cnt_ c (m1) (n1)) 159, .cells (cnt_ c (m2) (n2)) 159, .cells ocv 27] := by
  have h := bat_Step (G := G) c (k := k) (f := 0) (X := oX) (Y := oY) (by rw [F.hL]; exact ocTb) (by rw [F.hL]; exact ocOk) (fun _ => hc) b p q true lo hi lo1 hi1 lo2 hi2 v a1 a1 pv true true F.hO (by omega) (by omega) (by omega) (by omega) (by rw [F.hS]; decide) (by rw [F.hS]; decide)
  have p0 : ∀ lo a fr, pLo c oX oY v a1 pv true true lo a fr = qLo c lo a fr := fun lo a fr => by unfold pLo; rw [if_neg (by simp)]
  have p1 : ∀ lo a fr, pHi c oX oY v a1 pv true true lo a fr = qHi c lo a fr := fun lo a fr => by unfold pHi; rw [if_neg (by simp)]
  simp only [p0, p1, Bool.true_or] at h
  have r1 := q_wd F.hC F.hI F.e0 F.e4 w1 (v := a1) (fr := true) (by omega) (by omega)
  have r2 := q_wd F.hC F.hI F.e0 F.e4 w2 (v := a1) (fr := true) (by omega) (by omega)
  have k1 := q_has F.hC F.hI F.e0 F.e4 w1 g1 (v := a1) (by omega) (by omega) q0 q1
  have k2 := q_has F.hC F.hI F.e0 F.e4 w2 g2 (v := a1) (by omega) (by omega) q0 q1
  have V := vt_has (a3 := sLo c oX oY v a1 pv true) (b3 := sHi c oX oY v a1 pv true) (says := sIs c v pv true) k1 k2
  have VW := vt_wd (says := sIs c v pv true) r1 r2 (fun s => sag_wd (a := a1) F.hL s)
  exact ⟨_, _, _, _, _, _, V, st_wd F.hC F.hD r1 VW, st_wd F.hC F.hD r2 VW, st_has F.hC F.hD VW k1 V, st_has F.hC F.hD VW k2 V, h⟩

/-- A cycle whose second counter's amps, and the volts, are true, as the first amps are reckoned away. -/
theorem hold_c {c : Cfg} (F : Fx c) {k : Nat} (hc : c.ocA = some ⟨k, 0, none⟩) (b p q : Nat) {lo hi lo1 hi1 lo2 hi2 v a1 Q : Int} (w1 : Wd lo1 hi1) (w2 : Wd lo2 hi2) (g2 : Hs lo2 hi2 Q) (A1 : -500000 ≤ a1) (A2 : a1 ≤ 500000) (q0 : 0 ≤ Q) (q1 : Q ≤ 100000) (hv : v = tLo 4 oX oY Q - dn (a1 * 20) 1000) (hv2 : ¬ v < 10000) :
    ∃ L H m1 n1 m2 n2, Hs L H Q ∧ Wd m1 n1 ∧ Wd m2 n2 ∧ mIs m1 n1 L H = true ∧ mIs m2 n2 L H = true ∧ Ctr Tryd.prog G 60 [.pointer (some ⟨b, 0, none⟩), .agg #[I64 (v), .bool true], .agg #[I64 (a1), .bool true], .agg #[I64 (0), .bool true]] [(b, .cells (bat c p q true (lo) (hi)) 137), (p, .cells (cnt_ c (lo1) (hi1)) 159), (q, .cells (cnt_ c (lo2) (hi2)) 159), (k, .cells ocv 27)] (.agg #[I64 (L), I64 (H)]) [.cells (bat c p q true (L) (H)) 137, .cells (cnt_ c (m1) (n1)) 159, .cells (cnt_ c (m2) (n2)) 159, .cells ocv 27] := by
  have d1 : -10001 ≤ dn (a1 * 20) 1000 := by unfold dn; omega
  have t2 := ocOk.hi1 Q
  have t3 := ocOk.apart Q
  have y3 : oY (4 - 1) = 28000 := rfl
  have h := bat_Step (G := G) c (k := k) (f := 0) (X := oX) (Y := oY) (by rw [F.hL]; exact ocTb) (by rw [F.hL]; exact ocOk) (fun _ => hc) b p q true lo hi lo1 hi1 lo2 hi2 v a1 0 true true true F.hO (by omega) (by omega) (by omega) (by omega) (by rw [F.hS]; decide) (by rw [F.hS]; decide)
  obtain ⟨s1, s2⟩ := sag_hasQ F.hL F.hV F.hS q0 q1 hv hv2
  have p0 : ∀ lo a fr, pLo c oX oY v a1 true true true lo a fr = qLo c lo a fr := fun lo a fr => by unfold pLo; rw [if_neg (by simp)]
  have p1 : ∀ lo a fr, pHi c oX oY v a1 true true true lo a fr = qHi c lo a fr := fun lo a fr => by unfold pHi; rw [if_neg (by simp)]
  simp only [p0, p1] at h
  rw [s1] at h
  have r1 := q_wd F.hC F.hI F.e0 F.e4 w1 (v := a1) (fr := true) (by omega) (by omega)
  have r2 := q_wd F.hC F.hI F.e0 F.e4 w2 (v := 0) (fr := true) (by omega) (by omega)
  have r3 := sag_wd (a := a1) F.hL s1
  have k2 := q_has F.hC F.hI F.e0 F.e4 w2 g2 (v := 0) (by omega) (by omega) (by omega) (by omega)
  rw [Int.sub_zero] at k2
  have V := vt_has3 (a1 := qLo c lo1 a1 true) (b1 := qHi c hi1 a1 true) (.inr (.inr ⟨k2, s2⟩))
  have VW := vt_wd (says := true) r1 r2 (fun _ => r3)
  exact ⟨_, _, _, _, _, _, V, st_wd F.hC F.hD r1 VW, st_wd F.hC F.hD r2 VW, st_meets F.hC F.hD r1 VW, st_meets F.hC F.hD r2 VW, h⟩

theorem hs00 : Hs 0 100000 0 := by unfold Hs; omega
/-- A cycle without volts, and without a current: nothing is known still. -/
theorem step_blind20 {c : Cfg} (F : Fx c) {k : Nat} (hc : c.ocA = some ⟨k, 0, none⟩) (b p q : Nat) : Ctr Tryd.prog G 60 [.pointer (some ⟨b, 0, none⟩), .agg #[I64 (0), .bool false], .agg #[I64 (0), .bool true], .agg #[I64 (0), .bool true]] [(b, .cells (bat c p q false (0) (100000)) 137), (p, .cells (cnt_ c (0) (100000)) 159), (q, .cells (cnt_ c (0) (100000)) 159), (k, .cells ocv 27)] (.agg #[I64 (0), I64 (100000)]) [.cells (bat c p q false (0) (100000)) 137, .cells (cnt_ c (0) (100000)) 159, .cells (cnt_ c (0) (100000)) 159, .cells ocv 27] := by
  have h := bat_Step (G := G) c (k := k) (f := 0) (X := oX) (Y := oY) (by rw [F.hL]; exact ocTb) (by rw [F.hL]; exact ocOk) (fun _ => hc) b p q false 0 100000 0 100000 0 100000 0 0 0 false true true F.hO (by omega) (by omega) (by omega) (by omega) (by rw [F.hS]; decide) (by rw [F.hS]; decide)
  have s0 : sIs c 0 false true = false := by unfold sIs; exact decide_eq_false (fun h => absurd h.1 (by decide))
  have p0 : ∀ lo a fr, pLo c oX oY 0 0 false true false lo a fr = qLo c lo a fr := fun lo a fr => by unfold pLo; rw [if_neg (by rw [s0]; simp)]
  have p1 : ∀ lo a fr, pHi c oX oY 0 0 false true false lo a fr = qHi c lo a fr := fun lo a fr => by unfold pHi; rw [if_neg (by rw [s0]; simp)]
  simp only [p0, p1] at h
  rw [s0] at h
  have o1 := out_eq F.hI F.e0 F.e4 (v := 0) (fr := true) (by decide) (by decide)
  have q1 : qLo c 0 0 true = 0 := by
    unfold qLo; rw [o1.2, if_pos rfl, F.hC]
    have := F.e0; have := F.e4
    rw [fSub_in (by omega) (by omega) (by omega) (by omega), mx_eq, mn_eq]; omega
  have q2 : qHi c 100000 0 true = 100000 := by
    unfold qHi; rw [o1.1, if_pos rfl, F.hC]
    have := F.e0; have := F.e4
    rw [fSub_in (by omega) (by omega) (by omega) (by omega), mx_eq, mn_eq]; omega
  rw [q1, q2] at h
  have v1 : vtLo 0 100000 0 100000 (sLo c oX oY 0 0 false true) (sHi c oX oY 0 0 false true) false = 0 := by unfold vtLo; rw [if_neg (show ¬ (false = true) by decide), if_pos (show mIs 0 100000 0 100000 = true by decide)]; decide
  have v2 : vtHi 0 100000 0 100000 (sLo c oX oY 0 0 false true) (sHi c oX oY 0 0 false true) false = 100000 := by unfold vtHi; rw [if_neg (show ¬ (false = true) by decide), if_pos (show mIs 0 100000 0 100000 = true by decide)]; decide
  rw [v1, v2] at h
  have t1 : stLo c 0 100000 0 100000 = 0 := by unfold stLo; rw [if_pos (by decide)]
  have t2 : stHi c 0 100000 0 100000 = 100000 := by unfold stHi; rw [if_pos (by decide)]
  rw [t1, t2] at h
  exact h

section
variable {n : Nat} {X Y : Nat → Int}
theorem bA_gt (o : TOk n X Y) {x y : Int} (h : tHi n X Y x < y) (hx : x < X (n - 1)) : x < bA n X Y y := by
  obtain ⟨a, b, c, d⟩ := o.least1 y
  unfold bA
  simp only [mn_eq]
  generalize leastV (YtlhhcongoplfpaaDoorAB.pHi n X Y y) (X 0) (X (n - 1)) = r at *
  rcases ltge x r with h1 | h1
  · omega
  · have := d x h1 (by omega)
    simp only [YtlhhcongoplfpaaDoorAB.pHi, decide_eq_true_eq] at this
    omega
theorem bB_lt (o : TOk n X Y) {x y : Int} (h : y < tLo n X Y x) (hx : X 0 < x) : bB n X Y y < x := by
  obtain ⟨a, b, c, d⟩ := o.least2 y
  unfold bB
  simp only [mx_eq]
  generalize leastV (YtlhhcongoplfpaaDoorAB.pLo n X Y y) (X 0) (X (n - 1)) = r at *
  rcases ltge x r with h1 | h1
  · have := c x (by omega) h1
    simp only [YtlhhcongoplfpaaDoorAB.pLo, decide_eq_false_iff_not] at this
    omega
  · omega
end
theorem oc1 : tHi 4 oX oY 1 = 20001 := by decide
theorem oc2 : tLo 4 oX oY 50000 = 24000 := by decide
theorem oc3 : tHi 4 oX oY 50000 = 24000 := by decide
/-- What the volts say is less than all. -/
theorem narrow {y w : Int} (h : y ≤ w) (h2 : w ≤ y + 200) : hHi 4 oX oY y w - hLo 4 oX oY y w < 100000 := by
  have x0 : oX 0 = 0 := rfl
  have x3 : oX (4 - 1) = 100000 := rfl
  have b1 := ocOk.k_in y
  have b2 := ocOk.k_in w
  have m := ocOk.k_mono h
  have e1 : hLo 4 oX oY y w = kLo 4 oX oY y := by unfold hLo; rw [mn_eq]; omega
  have e2 : hHi 4 oX oY y w = kHi 4 oX oY w := by unfold hHi; rw [mx_eq]; omega
  rw [e1, e2]
  rcases ltge 20001 y with g | g
  · have a1 := bA_gt ocOk (x := 1) (y := y) (by rw [oc1]; exact g) (by rw [x3]; decide)
    have a2 := ocOk.bB_ge (x := 1) (y := y) (by have := (ocOk.apart 1).1; rw [oc1] at this; omega) (by rw [x3]; decide)
    have : 1 ≤ kLo 4 oX oY y := by unfold kLo; rw [mn_eq]; omega
    omega
  · have a1 := bB_lt ocOk (x := 50000) (y := w) (by rw [oc2]; omega) (by rw [x0]; decide)
    have a2 := ocOk.bA_le (x := 50000) (y := w) (by rw [oc3]; omega) (by rw [x0]; decide)
    have : kHi 4 oX oY w ≤ 50000 := by unfold kHi; rw [mx_eq]; omega
    omega

/-- The first cycle that says something: it is known, and is what it says. -/
theorem step_known {c : Cfg} (F : Fx c) {k : Nat} (hc : c.ocA = some ⟨k, 0, none⟩) (b p q : Nat) {Q v : Int} (q0 : 0 ≤ Q) (q1 : Q ≤ 100000) (hv : v = tLo 4 oX oY Q) :
    ∃ L H, Hs L H Q ∧ Wd L H ∧ H - L < 100000 ∧ Ctr Tryd.prog G 60 [.pointer (some ⟨b, 0, none⟩), .agg #[I64 (v), .bool true], .agg #[I64 (0), .bool true], .agg #[I64 (0), .bool true]] [(b, .cells (bat c p q false (0) (100000)) 137), (p, .cells (cnt_ c (0) (100000)) 159), (q, .cells (cnt_ c (0) (100000)) 159), (k, .cells ocv 27)] (.agg #[I64 (L), I64 (H)]) [.cells (bat c p q true (L) (H)) 137, .cells (cnt_ c (L) (H)) 159, .cells (cnt_ c (L) (H)) 159, .cells ocv 27] := by
  have t1 := ocOk.lo0 Q
  have t2 := ocOk.hi1 Q
  have t3 := ocOk.apart Q
  have y0 : oY 0 = 20000 := rfl
  have y3 : oY (4 - 1) = 28000 := rfl
  have dz : dn (0 * 20) 1000 = 0 := by decide
  have uz : up (0 * 20) 1000 = 0 := by decide
  have h := bat_Step (G := G) c (k := k) (f := 0) (X := oX) (Y := oY) (by rw [F.hL]; exact ocTb) (by rw [F.hL]; exact ocOk) (fun _ => hc) b p q false 0 100000 0 100000 0 100000 v 0 0 true true true F.hO (by omega) (by omega) (by omega) (by omega) (by rw [F.hS]; decide) (by rw [F.hS]; decide)
  obtain ⟨s1, s2⟩ := sag_hasQ F.hL F.hV F.hS (v := v) (a := 0) q0 q1 (by rw [dz]; omega) (by omega)
  have r3 := sag_wd (a := 0) F.hL s1
  have nr : sHi c oX oY v 0 true true - sLo c oX oY v 0 true true < 100000 := by
    have hn : true = true ∧ true = true ∧ ¬ v < c.Vmin := ⟨rfl, rfl, by rw [F.hV]; omega⟩
    unfold sHi sLo
    rw [if_pos hn, if_pos hn, F.hL, F.hS, dz, uz]
    exact narrow (by omega) (by omega)
  generalize hS : sLo c oX oY v 0 true true = L at *
  generalize hT : sHi c oX oY v 0 true true = H at *
  have c1 : mx (mn L c.Cap) 0 = L := by rw [F.hC]; unfold Wd at r3; exact clip_id (by omega) (by omega)
  have c2 : mx (mn H c.Cap) 0 = H := by rw [F.hC]; unfold Wd at r3; exact clip_id (by omega) (by omega)
  have p0 : ∀ lo a fr, pLo c oX oY v 0 true true false lo a fr = L := fun lo a fr => by unfold pLo; rw [if_pos ⟨s1, rfl⟩, hS, c1]
  have p1 : ∀ lo a fr, pHi c oX oY v 0 true true false lo a fr = H := fun lo a fr => by unfold pHi; rw [if_pos ⟨s1, rfl⟩, hT, c2]
  simp only [p0, p1] at h
  rw [s1] at h
  obtain ⟨v1, v2⟩ := vt_same (a1 := L) (b1 := H) r3.2.1
  rw [v1, v2] at h
  have m : mIs L H L H = true := mIs_iff.2 (by have := r3.2.1; omega)
  have t1 : stLo c L H L H = L := by unfold stLo; rw [if_pos m]
  have t2 : stHi c L H L H = H := by unfold stHi; rw [if_pos m]
  rw [t1, t2] at h
  exact ⟨L, H, s2, r3, nr, h⟩

theorem bat_at (c : Cfg) (hC : c.Cap = 100000) (kb k1 k2 : Nat) (Q : Int) (h0 : 0 ≤ Q) (h1 : Q ≤ 100000) : Ctr Tryd.prog G 57 [.agg ⟨c.cells⟩, .agg #[I64 (Q), I64 (Q)], .bool true] [(kb, .gone), (k1, .gone), (k2, .gone)] (.pointer (some ⟨kb, 0, none⟩)) [.cells (bat c k1 k2 true (Q) (Q)) 137, .cells (cnt_ c (Q) (Q)) 159, .cells (cnt_ c (Q) (Q)) 159] := by
  have h := Bat_New_true (G := G) c kb k1 k2 Q Q
  rw [hC, clip_id h0 h1] at h
  exact h
theorem bat_none (c : Cfg) (hC : c.Cap = 100000) (kb k1 k2 : Nat) (a b : Int) : Ctr Tryd.prog G 57 [.agg ⟨c.cells⟩, .agg #[I64 (a), I64 (b)], .bool false] [(kb, .gone), (k1, .gone), (k2, .gone)] (.pointer (some ⟨kb, 0, none⟩)) [.cells (bat c k1 k2 false (0) (100000)) 137, .cells (cnt_ c (0) (100000)) 159, .cells (cnt_ c (0) (100000)) 159] := by
  have h := Bat_New_false (G := G) c kb k1 k2 a b
  have e1 : mx (mn (mn 0 c.Cap) c.Cap) 0 = 0 := by rw [hC]; decide
  have e2 : mx (mn (mx 0 c.Cap) c.Cap) 0 = 100000 := by rw [hC]; decide
  rw [e1, e2] at h
  exact h
end Go.Proofs.YtlhhcongoplfpaaDoor
namespace Go.Proofs.YtlhhcongoplfpaaDoor
open Go Go.Proofs.YtlhhcongoplfpaaDoorAB
variable {G : Nat}
set_option linter.unusedSimpArgs false
set_option linter.unusedVariables false

theorem apart_q (a : Int) : 40000 ≤ (IntKind.i64.wrap (40000 + (IntKind.i64.wrap (a.tmod 20001 + 20001)).tmod 20001)) ∧ (IntKind.i64.wrap (40000 + (IntKind.i64.wrap (a.tmod 20001 + 20001)).tmod 20001)) ≤ 60000 := by
  have h := red_in (M := 20001) (by decide) (by decide) a
  rw [wrap_in (x := 40000 + _) (by omega) (by omega)]; omega
theorem apart_j (j : Int) : 20000 ≤ (IntKind.i64.wrap (20000 + (IntKind.i64.wrap (j.tmod 200001 + 200001)).tmod 200001)) ∧ (IntKind.i64.wrap (20000 + (IntKind.i64.wrap (j.tmod 200001 + 200001)).tmod 200001)) ≤ 220000 := by
  have h := red_in (M := 200001) (by decide) (by decide) j
  rw [wrap_in (x := 20000 + _) (by omega) (by omega)]; omega
theorem apart_t {q : Int} (h : 40000 ≤ q) : 23666 ≤ tLo 4 oX oY q := by
  have := (ocOk.mono h).1
  rw [show tLo 4 oX oY 40000 = 23666 by decide] at this
  exact this
theorem dn0 : dn (0 * 20) 1000 = 0 := by decide
theorem ref_MeetT (a b c d : Int) (h : mIs a b c d = true) : Ctr Tryd.prog G 64 [.agg #[I64 (a), I64 (b)], .agg #[I64 (c), I64 (d)]] [] (.tuple #[.agg #[I64 (mLo a b c d), I64 (mHi a b c d)], .bool true]) [] := by
  have g := ref_Meet (G := G) a b c d
  rw [h] at g
  exact g
theorem apart_v {t J : Int} (t1 : 23666 ≤ t) (t2 : t ≤ 28000) (j1 : 20000 ≤ J) (j2 : J ≤ 220000) : (-4611686018427387904 ≤ IntKind.i64.wrap (J * 20) ∧ IntKind.i64.wrap (J * 20) ≤ 4611686018427387904) ∧ IntKind.i64.wrap (t - dn (IntKind.i64.wrap (J * 20)) 1000) = t - dn (J * 20) 1000 ∧ ¬ t - dn (J * 20) 1000 < 10000 := by
  have d : dn (J * 20) 1000 ≤ 4400 ∧ 0 ≤ dn (J * 20) 1000 := by unfold dn; omega
  rw [wrap_in (x := J * 20) (by omega) (by omega), wrap_in (by omega) (by omega)]
  omega
end Go.Proofs.YtlhhcongoplfpaaDoor
