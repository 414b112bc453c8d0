/- What functions of this program do, each as a contract that its callers use.
   By an AI agent. -/
import Derived.Test.YtlhhcongoplfpaaDoorAB
import Derived.Test.YtlhhcongoplfpaaDoorLayD
import Derived.Test.YtlhhcongoplfpaaDoorD1
namespace Go.Proofs.YtlhhcongoplfpaaDoor
open Go Go.Proofs.YtlhhcongoplfpaaDoorAB
variable {G : Nat}
set_option linter.unusedSimpArgs false
set_option linter.unusedVariables false
set_option maxHeartbeats 4000000 in
theorem Counter_Set (p : Nat) (c : Cfg) (lo hi a b : Int) : Ctr Tryd.prog G 108 [.pointer (some ⟨p, 0, none⟩), .agg #[.int .i64 a, .int .i64 b]] [(p, .cells (c.cells ++ [.int .i64 lo, .int .i64 hi]) 159)] (.tuple #[]) [.cells (c.cells ++ [.int .i64 (mx (mn a c.Cap) 0), .int .i64 (mx (mn b c.Cap) 0)]) 159] := by
  refine Ctr.by layOk Tryd.func108 Tryd.ntmps108 rfl rfl rfl rfl rfl ?_
  repeat' (first
    | with_reducible exact ff hc
    | with_reducible exact ff' hc
    | ((with_reducible refine gK ?_); (first | refine RKo.val (o_call0 rfl (wn rfl) rfl (span_Clamp _ _ _ _)) rfl (by exact rfl) ?_ | refine RKo.val (o_move rfl (wn rfl) rfl) rfl (by exact rfl) ?_ | refine RKo.val (o_assign rfl (wn rfl) rfl) rfl (by exact rfl) ?_ | refine RKo.val (o_int rfl (wn rfl) rfl rfl rfl) rfl (by exact rfl) ?_ | refine RKo.val (o_nilCheck rfl (wn rfl) rfl) rfl (by exact rfl) ?_ | refine RKo.val (fa_val layOk rfl (wn rfl) rfl rfl rfl rfl rfl) rfl (by exact rfl) ?_ | refine RKo.val (o_load layOk rfl (wn rfl) rfl rfl rfl (by repeat (first | exact look_here | apply look_there)) (by exact rfl)) rfl (by exact rfl) ?_ | refine RKo.val (o_loadr layOk rfl (wn rfl) rfl rfl rfl (by repeat (first | exact look_here | apply look_there)) (by exact rfl)) rfl (by exact rfl) ?_ | refine RKo.val (o_build layOk rfl (wn rfl) rfl rfl rfl rfl) rfl (by exact rfl) ?_ | refine RKo.val (o_min rfl (wn rfl) rfl) rfl (by exact rfl) ?_ | refine RKo.val (o_max rfl (wn rfl) rfl) rfl (by exact rfl) ?_ | refine RKo.val (o_neg rfl (wn rfl) rfl) rfl (by exact rfl) ?_ | refine RKo.val (o_not rfl (wn rfl) rfl) rfl (by exact rfl) ?_ | refine RKo.val (o_box (k := ks _) rfl (wn rfl) rfl (by repeat (first | exact look_here | apply look_there))) rfl (by exact rfl) ?_ | refine RKo.val (o_alloc (k := ks _) layOk rfl (wn rfl) rfl (by repeat (first | exact look_here | apply look_there))) rfl (by exact rfl) ?_ | refine RKo.val (o_pick_t rfl (wn rfl) rfl rfl) rfl (by exact rfl) ?_ | refine RKo.val (o_pick_f rfl (wn rfl) rfl rfl) rfl (by exact rfl) ?_ | refine RKo.eff (o_store layOk rfl (wn rfl) rfl rfl rfl (by repeat (first | exact look_here | apply look_there)) rfl rfl rfl (by exact rfl)) rfl (by exact rfl) ?_ | refine RKo.eff (o_call0 rfl (wn rfl) rfl (span_Clamp _ _ _ _)) rfl (by exact rfl) ?_))
    | ((with_reducible refine gR ?_); (first | refine RK.peel rfl ?_ | refine RK.donef rfl ⟨_, rfl, ?_⟩ | refine RK.donet rfl (by kernel_rfl) ⟨_, rfl, ?_⟩))
    | ((with_reducible refine gW ?_); (first | refine WP.seq ?_ | refine WP.reg mixed (fun ks => _) (fun ks => rfl) (fun ks => ?_) | refine WP.condD rfl (fun hc => ?_) (fun hc => ?_) | refine WP.condE rfl (fun hc => ?_) (fun hc => ?_) | refine WP.condN rfl (fun hc => ?_) (fun hc => ?_) | refine WP.condA rfl (fun hc => ?_) (fun hc => ?_) | refine WP.ret ?_ | refine WP.skip ?_ | refine WP.exit ?_ | refine WP.goto ?_ | refine WP.label ?_ | refine WP.block ?_))
    | with_reducible refine thn_n ?_
    | with_reducible refine thn_r ?_
    | with_reducible refine thn_e ?_
    | with_reducible refine thn_g ?_
    | with_reducible refine blk_n ?_
    | with_reducible refine blk_r ?_
    | with_reducible refine blk_e ?_
    | with_reducible refine blk_g ?_
    | ((with_reducible refine blk_o ?_ ?_); first | exact rfl | skip)
    | refine Endz.mk' (by first | exact Or.inl rfl | exact Or.inr rfl) (by repeat (first | exact RVs.nil | apply RVs.cons | exact RV1.tmp rfl | exact RV1.row rfl rfl rfl (by repeat (first | exact look_here | apply look_there)) (by exact rfl) | exact RV1.cell rfl rfl rfl (by repeat (first | exact look_here | apply look_there)) (by exact rfl))) (by rfl) (by repeat (first | exact List.nil_sublist _ | exact List.Sublist.refl _ | apply List.Sublist.cons_cons | apply List.Sublist.cons)))
set_option maxHeartbeats 4000000 in
theorem Counter_Q (p : Nat) (c : Cfg) (lo hi : Int) : Ctr Tryd.prog G 105 [.pointer (some ⟨p, 0, none⟩)] [(p, .cells (c.cells ++ [.int .i64 lo, .int .i64 hi]) 159)] (.agg #[.int .i64 lo, .int .i64 hi]) [.cells (c.cells ++ [.int .i64 lo, .int .i64 hi]) 159] := by
  refine Ctr.by layOk Tryd.func105 Tryd.ntmps105 rfl rfl rfl rfl rfl ?_
  repeat' (first
    | with_reducible exact ff hc
    | with_reducible exact ff' hc
    | ((with_reducible refine gK ?_); (first | refine RKo.val (o_move rfl (wn rfl) rfl) rfl (by exact rfl) ?_ | refine RKo.val (o_assign rfl (wn rfl) rfl) rfl (by exact rfl) ?_ | refine RKo.val (o_int rfl (wn rfl) rfl rfl rfl) rfl (by exact rfl) ?_ | refine RKo.val (o_nilCheck rfl (wn rfl) rfl) rfl (by exact rfl) ?_ | refine RKo.val (fa_val layOk rfl (wn rfl) rfl rfl rfl rfl rfl) rfl (by exact rfl) ?_ | refine RKo.val (o_load layOk rfl (wn rfl) rfl rfl rfl (by repeat (first | exact look_here | apply look_there)) (by exact rfl)) rfl (by exact rfl) ?_ | refine RKo.val (o_loadr layOk rfl (wn rfl) rfl rfl rfl (by repeat (first | exact look_here | apply look_there)) (by exact rfl)) rfl (by exact rfl) ?_ | refine RKo.val (o_build layOk rfl (wn rfl) rfl rfl rfl rfl) rfl (by exact rfl) ?_ | refine RKo.val (o_min rfl (wn rfl) rfl) rfl (by exact rfl) ?_ | refine RKo.val (o_max rfl (wn rfl) rfl) rfl (by exact rfl) ?_ | refine RKo.val (o_neg rfl (wn rfl) rfl) rfl (by exact rfl) ?_ | refine RKo.val (o_not rfl (wn rfl) rfl) rfl (by exact rfl) ?_ | refine RKo.val (o_box (k := ks _) rfl (wn rfl) rfl (by repeat (first | exact look_here | apply look_there))) rfl (by exact rfl) ?_ | refine RKo.val (o_alloc (k := ks _) layOk rfl (wn rfl) rfl (by repeat (first | exact look_here | apply look_there))) rfl (by exact rfl) ?_ | refine RKo.val (o_pick_t rfl (wn rfl) rfl rfl) rfl (by exact rfl) ?_ | refine RKo.val (o_pick_f rfl (wn rfl) rfl rfl) rfl (by exact rfl) ?_ | refine RKo.eff (o_store layOk rfl (wn rfl) rfl rfl rfl (by repeat (first | exact look_here | apply look_there)) rfl rfl rfl (by exact rfl)) rfl (by exact rfl) ?_))
    | ((with_reducible refine gR ?_); (first | refine RK.peel rfl ?_ | refine RK.donef rfl ⟨_, rfl, ?_⟩ | refine RK.donet rfl (by kernel_rfl) ⟨_, rfl, ?_⟩))
    | ((with_reducible refine gW ?_); (first | refine WP.seq ?_ | refine WP.reg mixed (fun ks => _) (fun ks => rfl) (fun ks => ?_) | refine WP.condD rfl (fun hc => ?_) (fun hc => ?_) | refine WP.condE rfl (fun hc => ?_) (fun hc => ?_) | refine WP.condN rfl (fun hc => ?_) (fun hc => ?_) | refine WP.condA rfl (fun hc => ?_) (fun hc => ?_) | refine WP.ret ?_ | refine WP.skip ?_ | refine WP.exit ?_ | refine WP.goto ?_ | refine WP.label ?_ | refine WP.block ?_))
    | with_reducible refine thn_n ?_
    | with_reducible refine thn_r ?_
    | with_reducible refine thn_e ?_
    | with_reducible refine thn_g ?_
    | with_reducible refine blk_n ?_
    | with_reducible refine blk_r ?_
    | with_reducible refine blk_e ?_
    | with_reducible refine blk_g ?_
    | ((with_reducible refine blk_o ?_ ?_); first | exact rfl | skip)
    | refine Endz.mk' (by first | exact Or.inl rfl | exact Or.inr rfl) (by repeat (first | exact RVs.nil | apply RVs.cons | exact RV1.tmp rfl | exact RV1.row rfl rfl rfl (by repeat (first | exact look_here | apply look_there)) (by exact rfl) | exact RV1.cell rfl rfl rfl (by repeat (first | exact look_here | apply look_there)) (by exact rfl))) (by rfl) (by repeat (first | exact List.nil_sublist _ | exact List.Sublist.refl _ | apply List.Sublist.cons_cons | apply List.Sublist.cons)))
end Go.Proofs.YtlhhcongoplfpaaDoor
