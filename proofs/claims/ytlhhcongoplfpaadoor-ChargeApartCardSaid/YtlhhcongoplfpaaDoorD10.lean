/- What functions of this program do, each as a contract that its callers use.
   By an AI agent. -/
import Derived.Test.YtlhhcongoplfpaaDoorAB
import Derived.Test.YtlhhcongoplfpaaDoorLayD
import Derived.Test.YtlhhcongoplfpaaDoorD8
namespace Go.Proofs.YtlhhcongoplfpaaDoor
open Go Go.Proofs.YtlhhcongoplfpaaDoorAB
variable {G : Nat}
set_option linter.unusedSimpArgs false
set_option linter.unusedVariables false
def rAdd (a b : Int) : Int := if b > 0 ∧ a > IntKind.i64.wrap (9223372036854775807 - b) then 9223372036854775807 else if b < 0 ∧ a < IntKind.i64.wrap (-9223372036854775808 - b) then -9223372036854775808 else IntKind.i64.wrap (a + b)
def rSub (a b : Int) : Int := if b = -9223372036854775808 then (if a ≥ 0 then 9223372036854775807 else IntKind.i64.wrap (a - b)) else rAdd a (IntKind.i64.wrap (0 - b))
/-- A span that is told, or not. -/
def stepLo (c : Cfg) (v : Int) (fr : Bool) : Int := if fr = true then (if c.AmpErr < 0 then mn v v else fSub (mn v v) c.AmpErr) else mn (IntKind.i64.wrap (0 - c.Imax)) c.Imax
def stepHi (c : Cfg) (v : Int) (fr : Bool) : Int := if fr = true then (if c.AmpErr < 0 then mx v v else fAdd (mx v v) c.AmpErr) else mx (IntKind.i64.wrap (0 - c.Imax)) c.Imax
def wLo (a by_ : Int) : Int := if by_ < 0 then a else fSub a by_
def wHi (b by_ : Int) : Int := if by_ < 0 then b else fAdd b by_
def rwLo (a by_ : Int) : Int := if by_ < 0 then a else rSub a by_
def rwHi (b by_ : Int) : Int := if by_ < 0 then b else rAdd b by_
set_option maxHeartbeats 4000000 in
theorem ref_Add (a b : Int) : Ctr Tryd.prog G 126 [I64 (a), I64 (b)] [] (I64 (rAdd a b)) [] := by
  refine Ctr.by layOk Tryd.func126 Tryd.ntmps126 rfl rfl rfl rfl rfl ?_
  repeat' (first
    | (((first | (with_reducible refine gQ0 ?_) | ((with_reducible refine gQ1 ?_ ?_); (focus (exact wg (r := true) rfl rfl rfl rfl rfl rfl)))); (first | ((with_reducible apply q_move); exact rfl) | ((with_reducible apply q_assign); exact rfl) | ((with_reducible apply q_int); exact rfl; exact rfl; exact rfl) | ((with_reducible apply q_nilCheck); exact rfl) | ((with_reducible apply q_fa layOk); exact rfl; exact rfl; exact rfl; exact rfl; exact rfl) | ((with_reducible apply q_load layOk); exact rfl; exact rfl; exact rfl; (focus (repeat (first | with_reducible apply lh | with_reducible apply lt))); (focus (exact rfl))) | ((with_reducible apply q_loadr layOk); exact rfl; exact rfl; exact rfl; (focus (repeat (first | with_reducible apply lh | with_reducible apply lt))); (focus (exact rfl))) | ((with_reducible apply q_build layOk); exact rfl; exact rfl; exact rfl; exact rfl) | ((with_reducible apply q_min); exact rfl) | ((with_reducible apply q_max); exact rfl) | ((with_reducible apply q_neg); exact rfl) | ((with_reducible apply q_not); exact rfl) | ((with_reducible apply q_box (k := ks _)); exact rfl; (focus (repeat (first | with_reducible apply lh | with_reducible apply lt))); exact rfl) | ((with_reducible apply q_alloc (k := ks _) layOk); exact rfl; (focus (repeat (first | with_reducible apply lh | with_reducible apply lt))); exact rfl) | ((with_reducible apply q_pick_t); exact rfl; exact rfl) | ((with_reducible apply q_pick_f); exact rfl; exact rfl) | ((with_reducible apply e_store layOk); exact rfl; exact rfl; exact rfl; (focus (repeat (first | with_reducible apply lh | with_reducible apply lt))); exact rfl; exact rfl; exact rfl; (focus (exact rfl)); exact rfl))))
    | (((with_reducible refine gR ?_); (first | refine RK.peelN rfl ?_ | refine RK.donef rfl ⟨_, rfl, ?_⟩ | refine RK.donet rfl (by kernel_rfl) ⟨_, rfl, ?_⟩)))
    | ((first | (with_reducible refine gQv ?_ ?_) | (with_reducible refine gQe ?_ ?_)); (focus (first | exact wg (r := false) rfl rfl rfl rfl rfl rfl | exact wz rfl rfl rfl rfl)))
    | ((with_reducible refine gK ?_); ((first | refine RKo.gsplitD rfl rfl rfl rfl (fun hc => ?_) (fun hc => ?_) | refine RKo.gsplitE rfl rfl rfl rfl (fun hc => ?_) (fun hc => ?_) | refine RKo.gsplitN rfl rfl rfl rfl (fun hc => ?_) (fun hc => ?_) | refine RKo.gsplit rfl rfl rfl rfl (fun hc => ?_) (fun hc => ?_)) <;> (first | with_reducible exact ff hc | with_reducible exact ff' hc | skip)))
    | (((with_reducible refine gW ?_); (first | with_reducible refine WP.seq ?_ | refine WP.reg mixed (fun ks => _) (fun ks => rfl) (fun ks => ?_) | ((first | refine WP.condD rfl (fun hc => ?_) (fun hc => ?_) | refine WP.condE rfl (fun hc => ?_) (fun hc => ?_) | refine WP.condN rfl (fun hc => ?_) (fun hc => ?_) | refine WP.condA rfl (fun hc => ?_) (fun hc => ?_)) <;> (first | with_reducible exact ff hc | with_reducible exact ff' hc | skip)) | refine WP.ret ?_ | refine WP.skip ?_ | refine WP.exit ?_ | refine WP.goto ?_ | refine WP.label ?_ | refine WP.block ?_)))
    | (with_reducible refine thn_n ?_)
    | (with_reducible refine thn_r ?_)
    | (with_reducible refine thn_e ?_)
    | (with_reducible refine thn_g ?_)
    | (with_reducible refine blk_n ?_)
    | (with_reducible refine blk_r ?_)
    | (with_reducible refine blk_e ?_)
    | (with_reducible refine blk_g ?_)
    | (((with_reducible refine blk_o ?_ ?_); first | exact rfl | skip))
    | (refine Endz.mk' (by first | exact Or.inl rfl | exact Or.inr rfl) (by repeat (first | exact RVs.nil | apply RVs.cons | exact RV1.tmp rfl | exact RV1.row rfl rfl rfl (by repeat (first | exact look_here | apply look_there)) (by exact rfl) | exact RV1.cell rfl rfl rfl (by repeat (first | exact look_here | apply look_there)) (by exact rfl))) (by first | rfl | (simp [tup, rAdd, *]; done) | (simp_all [tup, rAdd]; done)) (by repeat (first | exact List.nil_sublist _ | exact List.Sublist.refl _ | apply List.Sublist.cons_cons | apply List.Sublist.cons))))
set_option maxHeartbeats 4000000 in
theorem ref_Sub (a b : Int) : Ctr Tryd.prog G 125 [I64 (a), I64 (b)] [] (I64 (rSub a b)) [] := by
  refine Ctr.by layOk Tryd.func125 Tryd.ntmps125 rfl rfl rfl rfl rfl ?_
  repeat' (first
    | (((with_reducible refine gQ0 ?_); (first | ((with_reducible apply q_move); exact rfl) | ((with_reducible apply q_assign); exact rfl) | ((with_reducible apply q_int); exact rfl; exact rfl; exact rfl) | ((with_reducible apply q_nilCheck); exact rfl) | ((with_reducible apply q_fa layOk); exact rfl; exact rfl; exact rfl; exact rfl; exact rfl) | ((with_reducible apply q_load layOk); exact rfl; exact rfl; exact rfl; (focus (repeat (first | with_reducible apply lh | with_reducible apply lt))); (focus (exact rfl))) | ((with_reducible apply q_loadr layOk); exact rfl; exact rfl; exact rfl; (focus (repeat (first | with_reducible apply lh | with_reducible apply lt))); (focus (exact rfl))) | ((with_reducible apply q_build layOk); exact rfl; exact rfl; exact rfl; exact rfl) | ((with_reducible apply q_min); exact rfl) | ((with_reducible apply q_max); exact rfl) | ((with_reducible apply q_neg); exact rfl) | ((with_reducible apply q_not); exact rfl) | ((with_reducible apply q_box (k := ks _)); exact rfl; (focus (repeat (first | with_reducible apply lh | with_reducible apply lt))); exact rfl) | ((with_reducible apply q_alloc (k := ks _) layOk); exact rfl; (focus (repeat (first | with_reducible apply lh | with_reducible apply lt))); exact rfl) | ((with_reducible apply q_pick_t); exact rfl; exact rfl) | ((with_reducible apply q_pick_f); exact rfl; exact rfl) | (refine q_call0 rfl (ref_Add _ _) ?_) | ((with_reducible apply e_store layOk); exact rfl; exact rfl; exact rfl; (focus (repeat (first | with_reducible apply lh | with_reducible apply lt))); exact rfl; exact rfl; exact rfl; (focus (exact rfl)); exact rfl) | (refine e_call0 rfl (ref_Add _ _) ?_))))
    | (((with_reducible refine gR ?_); (first | refine RK.peelN rfl ?_ | refine RK.donef rfl ⟨_, rfl, ?_⟩ | refine RK.donet rfl (by kernel_rfl) ⟨_, rfl, ?_⟩)))
    | (((with_reducible refine gW ?_); (first | with_reducible refine WP.seq ?_ | refine WP.reg mixed (fun ks => _) (fun ks => rfl) (fun ks => ?_) | ((first | refine WP.condD rfl (fun hc => ?_) (fun hc => ?_) | refine WP.condE rfl (fun hc => ?_) (fun hc => ?_) | refine WP.condN rfl (fun hc => ?_) (fun hc => ?_) | refine WP.condA rfl (fun hc => ?_) (fun hc => ?_)) <;> (first | with_reducible exact ff hc | with_reducible exact ff' hc | skip)) | refine WP.ret ?_ | refine WP.skip ?_ | refine WP.exit ?_ | refine WP.goto ?_ | refine WP.label ?_ | refine WP.block ?_)))
    | (with_reducible refine thn_n ?_)
    | (with_reducible refine thn_r ?_)
    | (with_reducible refine thn_e ?_)
    | (with_reducible refine thn_g ?_)
    | (with_reducible refine blk_n ?_)
    | (with_reducible refine blk_r ?_)
    | (with_reducible refine blk_e ?_)
    | (with_reducible refine blk_g ?_)
    | (((with_reducible refine blk_o ?_ ?_); first | exact rfl | skip))
    | (refine Endz.mk' (by first | exact Or.inl rfl | exact Or.inr rfl) (by repeat (first | exact RVs.nil | apply RVs.cons | exact RV1.tmp rfl | exact RV1.row rfl rfl rfl (by repeat (first | exact look_here | apply look_there)) (by exact rfl) | exact RV1.cell rfl rfl rfl (by repeat (first | exact look_here | apply look_there)) (by exact rfl))) (by first | rfl | (simp [tup, rSub, *]; done) | (simp_all [tup, rSub]; done)) (by repeat (first | exact List.nil_sublist _ | exact List.Sublist.refl _ | apply List.Sublist.cons_cons | apply List.Sublist.cons))))
set_option maxHeartbeats 4000000 in
theorem ref_Of (a b : Int) : Ctr Tryd.prog G 87 [I64 (a), I64 (b)] [] (.agg #[I64 (mn a b), I64 (mx a b)]) [] := by
  refine Ctr.by layOk Tryd.func87 Tryd.ntmps87 rfl rfl rfl rfl rfl ?_
  repeat' (first
    | (((with_reducible refine gQ0 ?_); (first | ((with_reducible apply q_move); exact rfl) | ((with_reducible apply q_assign); exact rfl) | ((with_reducible apply q_int); exact rfl; exact rfl; exact rfl) | ((with_reducible apply q_nilCheck); exact rfl) | ((with_reducible apply q_fa layOk); exact rfl; exact rfl; exact rfl; exact rfl; exact rfl) | ((with_reducible apply q_load layOk); exact rfl; exact rfl; exact rfl; (focus (repeat (first | with_reducible apply lh | with_reducible apply lt))); (focus (exact rfl))) | ((with_reducible apply q_loadr layOk); exact rfl; exact rfl; exact rfl; (focus (repeat (first | with_reducible apply lh | with_reducible apply lt))); (focus (exact rfl))) | ((with_reducible apply q_build layOk); exact rfl; exact rfl; exact rfl; exact rfl) | ((with_reducible apply q_min); exact rfl) | ((with_reducible apply q_max); exact rfl) | ((with_reducible apply q_neg); exact rfl) | ((with_reducible apply q_not); exact rfl) | ((with_reducible apply q_box (k := ks _)); exact rfl; (focus (repeat (first | with_reducible apply lh | with_reducible apply lt))); exact rfl) | ((with_reducible apply q_alloc (k := ks _) layOk); exact rfl; (focus (repeat (first | with_reducible apply lh | with_reducible apply lt))); exact rfl) | ((with_reducible apply q_pick_t); exact rfl; exact rfl) | ((with_reducible apply q_pick_f); exact rfl; exact rfl) | ((with_reducible apply e_store layOk); exact rfl; exact rfl; exact rfl; (focus (repeat (first | with_reducible apply lh | with_reducible apply lt))); exact rfl; exact rfl; exact rfl; (focus (exact rfl)); exact rfl))))
    | (((with_reducible refine gR ?_); (first | refine RK.peelN rfl ?_ | refine RK.donef rfl ⟨_, rfl, ?_⟩ | refine RK.donet rfl (by kernel_rfl) ⟨_, rfl, ?_⟩)))
    | (((with_reducible refine gW ?_); (first | with_reducible refine WP.seq ?_ | refine WP.reg mixed (fun ks => _) (fun ks => rfl) (fun ks => ?_) | ((first | refine WP.condD rfl (fun hc => ?_) (fun hc => ?_) | refine WP.condE rfl (fun hc => ?_) (fun hc => ?_) | refine WP.condN rfl (fun hc => ?_) (fun hc => ?_) | refine WP.condA rfl (fun hc => ?_) (fun hc => ?_)) <;> (first | with_reducible exact ff hc | with_reducible exact ff' hc | skip)) | refine WP.ret ?_ | refine WP.skip ?_ | refine WP.exit ?_ | refine WP.goto ?_ | refine WP.label ?_ | refine WP.block ?_)))
    | (with_reducible refine thn_n ?_)
    | (with_reducible refine thn_r ?_)
    | (with_reducible refine thn_e ?_)
    | (with_reducible refine thn_g ?_)
    | (with_reducible refine blk_n ?_)
    | (with_reducible refine blk_r ?_)
    | (with_reducible refine blk_e ?_)
    | (with_reducible refine blk_g ?_)
    | (((with_reducible refine blk_o ?_ ?_); first | exact rfl | skip))
    | (refine Endz.mk' (by first | exact Or.inl rfl | exact Or.inr rfl) (by repeat (first | exact RVs.nil | apply RVs.cons | exact RV1.tmp rfl | exact RV1.row rfl rfl rfl (by repeat (first | exact look_here | apply look_there)) (by exact rfl) | exact RV1.cell rfl rfl rfl (by repeat (first | exact look_here | apply look_there)) (by exact rfl))) (by rfl) (by repeat (first | exact List.nil_sublist _ | exact List.Sublist.refl _ | apply List.Sublist.cons_cons | apply List.Sublist.cons))))
set_option maxHeartbeats 4000000 in
theorem ref_ClampSpan (a b lo hi : Int) : Ctr Tryd.prog G 106 [.agg #[I64 (a), I64 (b)], I64 lo, I64 hi] [] (.agg #[I64 (rClamp a lo hi), I64 (rClamp b lo hi)]) [] := by
  refine Ctr.by layOk Tryd.func106 Tryd.ntmps106 rfl rfl rfl rfl rfl ?_
  repeat' (first
    | (((with_reducible refine gQ0 ?_); (first | ((with_reducible apply q_move); exact rfl) | ((with_reducible apply q_assign); exact rfl) | ((with_reducible apply q_int); exact rfl; exact rfl; exact rfl) | ((with_reducible apply q_nilCheck); exact rfl) | ((with_reducible apply q_fa layOk); exact rfl; exact rfl; exact rfl; exact rfl; exact rfl) | ((with_reducible apply q_load layOk); exact rfl; exact rfl; exact rfl; (focus (repeat (first | with_reducible apply lh | with_reducible apply lt))); (focus (exact rfl))) | ((with_reducible apply q_loadr layOk); exact rfl; exact rfl; exact rfl; (focus (repeat (first | with_reducible apply lh | with_reducible apply lt))); (focus (exact rfl))) | ((with_reducible apply q_build layOk); exact rfl; exact rfl; exact rfl; exact rfl) | ((with_reducible apply q_min); exact rfl) | ((with_reducible apply q_max); exact rfl) | ((with_reducible apply q_neg); exact rfl) | ((with_reducible apply q_not); exact rfl) | ((with_reducible apply q_box (k := ks _)); exact rfl; (focus (repeat (first | with_reducible apply lh | with_reducible apply lt))); exact rfl) | ((with_reducible apply q_alloc (k := ks _) layOk); exact rfl; (focus (repeat (first | with_reducible apply lh | with_reducible apply lt))); exact rfl) | ((with_reducible apply q_pick_t); exact rfl; exact rfl) | ((with_reducible apply q_pick_f); exact rfl; exact rfl) | (refine q_call0 rfl (ref_Clamp _ _ _) ?_) | ((with_reducible apply e_store layOk); exact rfl; exact rfl; exact rfl; (focus (repeat (first | with_reducible apply lh | with_reducible apply lt))); exact rfl; exact rfl; exact rfl; (focus (exact rfl)); exact rfl) | (refine e_call0 rfl (ref_Clamp _ _ _) ?_))))
    | (((with_reducible refine gR ?_); (first | refine RK.peelN rfl ?_ | refine RK.donef rfl ⟨_, rfl, ?_⟩ | refine RK.donet rfl (by kernel_rfl) ⟨_, rfl, ?_⟩)))
    | (((with_reducible refine gW ?_); (first | with_reducible refine WP.seq ?_ | refine WP.reg mixed (fun ks => _) (fun ks => rfl) (fun ks => ?_) | ((first | refine WP.condD rfl (fun hc => ?_) (fun hc => ?_) | refine WP.condE rfl (fun hc => ?_) (fun hc => ?_) | refine WP.condN rfl (fun hc => ?_) (fun hc => ?_) | refine WP.condA rfl (fun hc => ?_) (fun hc => ?_)) <;> (first | with_reducible exact ff hc | with_reducible exact ff' hc | skip)) | refine WP.ret ?_ | refine WP.skip ?_ | refine WP.exit ?_ | refine WP.goto ?_ | refine WP.label ?_ | refine WP.block ?_)))
    | (with_reducible refine thn_n ?_)
    | (with_reducible refine thn_r ?_)
    | (with_reducible refine thn_e ?_)
    | (with_reducible refine thn_g ?_)
    | (with_reducible refine blk_n ?_)
    | (with_reducible refine blk_r ?_)
    | (with_reducible refine blk_e ?_)
    | (with_reducible refine blk_g ?_)
    | (((with_reducible refine blk_o ?_ ?_); first | exact rfl | skip))
    | (refine Endz.mk' (by first | exact Or.inl rfl | exact Or.inr rfl) (by repeat (first | exact RVs.nil | apply RVs.cons | exact RV1.tmp rfl | exact RV1.row rfl rfl rfl (by repeat (first | exact look_here | apply look_there)) (by exact rfl) | exact RV1.cell rfl rfl rfl (by repeat (first | exact look_here | apply look_there)) (by exact rfl))) (by rfl) (by repeat (first | exact List.nil_sublist _ | exact List.Sublist.refl _ | apply List.Sublist.cons_cons | apply List.Sublist.cons))))
set_option maxHeartbeats 4000000 in
theorem ref_SubSpan (a b c d : Int) : Ctr Tryd.prog G 134 [.agg #[I64 (a), I64 (b)], .agg #[I64 (c), I64 (d)]] [] (.agg #[I64 (rSub a d), I64 (rSub b c)]) [] := by
  refine Ctr.by layOk Tryd.func134 Tryd.ntmps134 rfl rfl rfl rfl rfl ?_
  repeat' (first
    | (((with_reducible refine gQ0 ?_); (first | ((with_reducible apply q_move); exact rfl) | ((with_reducible apply q_assign); exact rfl) | ((with_reducible apply q_int); exact rfl; exact rfl; exact rfl) | ((with_reducible apply q_nilCheck); exact rfl) | ((with_reducible apply q_fa layOk); exact rfl; exact rfl; exact rfl; exact rfl; exact rfl) | ((with_reducible apply q_load layOk); exact rfl; exact rfl; exact rfl; (focus (repeat (first | with_reducible apply lh | with_reducible apply lt))); (focus (exact rfl))) | ((with_reducible apply q_loadr layOk); exact rfl; exact rfl; exact rfl; (focus (repeat (first | with_reducible apply lh | with_reducible apply lt))); (focus (exact rfl))) | ((with_reducible apply q_build layOk); exact rfl; exact rfl; exact rfl; exact rfl) | ((with_reducible apply q_min); exact rfl) | ((with_reducible apply q_max); exact rfl) | ((with_reducible apply q_neg); exact rfl) | ((with_reducible apply q_not); exact rfl) | ((with_reducible apply q_box (k := ks _)); exact rfl; (focus (repeat (first | with_reducible apply lh | with_reducible apply lt))); exact rfl) | ((with_reducible apply q_alloc (k := ks _) layOk); exact rfl; (focus (repeat (first | with_reducible apply lh | with_reducible apply lt))); exact rfl) | ((with_reducible apply q_pick_t); exact rfl; exact rfl) | ((with_reducible apply q_pick_f); exact rfl; exact rfl) | (refine q_call0 rfl (ref_Sub _ _) ?_) | ((with_reducible apply e_store layOk); exact rfl; exact rfl; exact rfl; (focus (repeat (first | with_reducible apply lh | with_reducible apply lt))); exact rfl; exact rfl; exact rfl; (focus (exact rfl)); exact rfl) | (refine e_call0 rfl (ref_Sub _ _) ?_))))
    | (((with_reducible refine gR ?_); (first | refine RK.peelN rfl ?_ | refine RK.donef rfl ⟨_, rfl, ?_⟩ | refine RK.donet rfl (by kernel_rfl) ⟨_, rfl, ?_⟩)))
    | (((with_reducible refine gW ?_); (first | with_reducible refine WP.seq ?_ | refine WP.reg mixed (fun ks => _) (fun ks => rfl) (fun ks => ?_) | ((first | refine WP.condD rfl (fun hc => ?_) (fun hc => ?_) | refine WP.condE rfl (fun hc => ?_) (fun hc => ?_) | refine WP.condN rfl (fun hc => ?_) (fun hc => ?_) | refine WP.condA rfl (fun hc => ?_) (fun hc => ?_)) <;> (first | with_reducible exact ff hc | with_reducible exact ff' hc | skip)) | refine WP.ret ?_ | refine WP.skip ?_ | refine WP.exit ?_ | refine WP.goto ?_ | refine WP.label ?_ | refine WP.block ?_)))
    | (with_reducible refine thn_n ?_)
    | (with_reducible refine thn_r ?_)
    | (with_reducible refine thn_e ?_)
    | (with_reducible refine thn_g ?_)
    | (with_reducible refine blk_n ?_)
    | (with_reducible refine blk_r ?_)
    | (with_reducible refine blk_e ?_)
    | (with_reducible refine blk_g ?_)
    | (((with_reducible refine blk_o ?_ ?_); first | exact rfl | skip))
    | (refine Endz.mk' (by first | exact Or.inl rfl | exact Or.inr rfl) (by repeat (first | exact RVs.nil | apply RVs.cons | exact RV1.tmp rfl | exact RV1.row rfl rfl rfl (by repeat (first | exact look_here | apply look_there)) (by exact rfl) | exact RV1.cell rfl rfl rfl (by repeat (first | exact look_here | apply look_there)) (by exact rfl))) (by rfl) (by repeat (first | exact List.nil_sublist _ | exact List.Sublist.refl _ | apply List.Sublist.cons_cons | apply List.Sublist.cons))))
set_option maxHeartbeats 4000000 in
theorem span_Sub (a b c d : Int) : Ctr Tryd.prog G 131 [.agg #[I64 (a), I64 (b)], .agg #[I64 (c), I64 (d)]] [] (.agg #[I64 (fSub a d), I64 (fSub b c)]) [] := by
  refine Ctr.by layOk Tryd.func131 Tryd.ntmps131 rfl rfl rfl rfl rfl ?_
  repeat' (first
    | (((with_reducible refine gQ0 ?_); (first | ((with_reducible apply q_move); exact rfl) | ((with_reducible apply q_assign); exact rfl) | ((with_reducible apply q_int); exact rfl; exact rfl; exact rfl) | ((with_reducible apply q_nilCheck); exact rfl) | ((with_reducible apply q_fa layOk); exact rfl; exact rfl; exact rfl; exact rfl; exact rfl) | ((with_reducible apply q_load layOk); exact rfl; exact rfl; exact rfl; (focus (repeat (first | with_reducible apply lh | with_reducible apply lt))); (focus (exact rfl))) | ((with_reducible apply q_loadr layOk); exact rfl; exact rfl; exact rfl; (focus (repeat (first | with_reducible apply lh | with_reducible apply lt))); (focus (exact rfl))) | ((with_reducible apply q_build layOk); exact rfl; exact rfl; exact rfl; exact rfl) | ((with_reducible apply q_min); exact rfl) | ((with_reducible apply q_max); exact rfl) | ((with_reducible apply q_neg); exact rfl) | ((with_reducible apply q_not); exact rfl) | ((with_reducible apply q_box (k := ks _)); exact rfl; (focus (repeat (first | with_reducible apply lh | with_reducible apply lt))); exact rfl) | ((with_reducible apply q_alloc (k := ks _) layOk); exact rfl; (focus (repeat (first | with_reducible apply lh | with_reducible apply lt))); exact rfl) | ((with_reducible apply q_pick_t); exact rfl; exact rfl) | ((with_reducible apply q_pick_f); exact rfl; exact rfl) | (refine q_call0 rfl (fixed_Sub _ _) ?_) | ((with_reducible apply e_store layOk); exact rfl; exact rfl; exact rfl; (focus (repeat (first | with_reducible apply lh | with_reducible apply lt))); exact rfl; exact rfl; exact rfl; (focus (exact rfl)); exact rfl) | (refine e_call0 rfl (fixed_Sub _ _) ?_))))
    | (((with_reducible refine gR ?_); (first | refine RK.peelN rfl ?_ | refine RK.donef rfl ⟨_, rfl, ?_⟩ | refine RK.donet rfl (by kernel_rfl) ⟨_, rfl, ?_⟩)))
    | (((with_reducible refine gW ?_); (first | with_reducible refine WP.seq ?_ | refine WP.reg mixed (fun ks => _) (fun ks => rfl) (fun ks => ?_) | ((first | refine WP.condD rfl (fun hc => ?_) (fun hc => ?_) | refine WP.condE rfl (fun hc => ?_) (fun hc => ?_) | refine WP.condN rfl (fun hc => ?_) (fun hc => ?_) | refine WP.condA rfl (fun hc => ?_) (fun hc => ?_)) <;> (first | with_reducible exact ff hc | with_reducible exact ff' hc | skip)) | refine WP.ret ?_ | refine WP.skip ?_ | refine WP.exit ?_ | refine WP.goto ?_ | refine WP.label ?_ | refine WP.block ?_)))
    | (with_reducible refine thn_n ?_)
    | (with_reducible refine thn_r ?_)
    | (with_reducible refine thn_e ?_)
    | (with_reducible refine thn_g ?_)
    | (with_reducible refine blk_n ?_)
    | (with_reducible refine blk_r ?_)
    | (with_reducible refine blk_e ?_)
    | (with_reducible refine blk_g ?_)
    | (((with_reducible refine blk_o ?_ ?_); first | exact rfl | skip))
    | (refine Endz.mk' (by first | exact Or.inl rfl | exact Or.inr rfl) (by repeat (first | exact RVs.nil | apply RVs.cons | exact RV1.tmp rfl | exact RV1.row rfl rfl rfl (by repeat (first | exact look_here | apply look_there)) (by exact rfl) | exact RV1.cell rfl rfl rfl (by repeat (first | exact look_here | apply look_there)) (by exact rfl))) (by rfl) (by repeat (first | exact List.nil_sublist _ | exact List.Sublist.refl _ | apply List.Sublist.cons_cons | apply List.Sublist.cons))))
set_option maxHeartbeats 4000000 in
theorem span_Widen (a b e : Int) : Ctr Tryd.prog G 92 [.agg #[I64 (a), I64 (b)], I64 e] [] (.agg #[I64 (wLo a e), I64 (wHi b e)]) [] := by
  refine Ctr.by layOk Tryd.func92 Tryd.ntmps92 rfl rfl rfl rfl rfl ?_
  repeat' (first
    | (((with_reducible refine gQ0 ?_); (first | ((with_reducible apply q_move); exact rfl) | ((with_reducible apply q_assign); exact rfl) | ((with_reducible apply q_int); exact rfl; exact rfl; exact rfl) | ((with_reducible apply q_nilCheck); exact rfl) | ((with_reducible apply q_fa layOk); exact rfl; exact rfl; exact rfl; exact rfl; exact rfl) | ((with_reducible apply q_load layOk); exact rfl; exact rfl; exact rfl; (focus (repeat (first | with_reducible apply lh | with_reducible apply lt))); (focus (exact rfl))) | ((with_reducible apply q_loadr layOk); exact rfl; exact rfl; exact rfl; (focus (repeat (first | with_reducible apply lh | with_reducible apply lt))); (focus (exact rfl))) | ((with_reducible apply q_build layOk); exact rfl; exact rfl; exact rfl; exact rfl) | ((with_reducible apply q_min); exact rfl) | ((with_reducible apply q_max); exact rfl) | ((with_reducible apply q_neg); exact rfl) | ((with_reducible apply q_not); exact rfl) | ((with_reducible apply q_box (k := ks _)); exact rfl; (focus (repeat (first | with_reducible apply lh | with_reducible apply lt))); exact rfl) | ((with_reducible apply q_alloc (k := ks _) layOk); exact rfl; (focus (repeat (first | with_reducible apply lh | with_reducible apply lt))); exact rfl) | ((with_reducible apply q_pick_t); exact rfl; exact rfl) | ((with_reducible apply q_pick_f); exact rfl; exact rfl) | (refine q_call0 rfl (fixed_Sub _ _) ?_) | (refine q_call0 rfl (fixed_Add _ _) ?_) | ((with_reducible apply e_store layOk); exact rfl; exact rfl; exact rfl; (focus (repeat (first | with_reducible apply lh | with_reducible apply lt))); exact rfl; exact rfl; exact rfl; (focus (exact rfl)); exact rfl) | (refine e_call0 rfl (fixed_Sub _ _) ?_) | (refine e_call0 rfl (fixed_Add _ _) ?_))))
    | (((with_reducible refine gR ?_); (first | refine RK.peelN rfl ?_ | refine RK.donef rfl ⟨_, rfl, ?_⟩ | refine RK.donet rfl (by kernel_rfl) ⟨_, rfl, ?_⟩)))
    | (((with_reducible refine gW ?_); (first | with_reducible refine WP.seq ?_ | refine WP.reg mixed (fun ks => _) (fun ks => rfl) (fun ks => ?_) | ((first | refine WP.condD rfl (fun hc => ?_) (fun hc => ?_) | refine WP.condE rfl (fun hc => ?_) (fun hc => ?_) | refine WP.condN rfl (fun hc => ?_) (fun hc => ?_) | refine WP.condA rfl (fun hc => ?_) (fun hc => ?_)) <;> (first | with_reducible exact ff hc | with_reducible exact ff' hc | skip)) | refine WP.ret ?_ | refine WP.skip ?_ | refine WP.exit ?_ | refine WP.goto ?_ | refine WP.label ?_ | refine WP.block ?_)))
    | (with_reducible refine thn_n ?_)
    | (with_reducible refine thn_r ?_)
    | (with_reducible refine thn_e ?_)
    | (with_reducible refine thn_g ?_)
    | (with_reducible refine blk_n ?_)
    | (with_reducible refine blk_r ?_)
    | (with_reducible refine blk_e ?_)
    | (with_reducible refine blk_g ?_)
    | (((with_reducible refine blk_o ?_ ?_); first | exact rfl | skip))
    | (refine Endz.mk' (by first | exact Or.inl rfl | exact Or.inr rfl) (by repeat (first | exact RVs.nil | apply RVs.cons | exact RV1.tmp rfl | exact RV1.row rfl rfl rfl (by repeat (first | exact look_here | apply look_there)) (by exact rfl) | exact RV1.cell rfl rfl rfl (by repeat (first | exact look_here | apply look_there)) (by exact rfl))) (by first | rfl | (simp [tup, wLo, wHi, *]; done) | (simp_all [tup, wLo, wHi]; done)) (by repeat (first | exact List.nil_sublist _ | exact List.Sublist.refl _ | apply List.Sublist.cons_cons | apply List.Sublist.cons))))
set_option maxHeartbeats 4000000 in
theorem ref_Widen (a b e : Int) : Ctr Tryd.prog G 95 [.agg #[I64 (a), I64 (b)], I64 e] [] (.agg #[I64 (rwLo a e), I64 (rwHi b e)]) [] := by
  refine Ctr.by layOk Tryd.func95 Tryd.ntmps95 rfl rfl rfl rfl rfl ?_
  repeat' (first
    | (((with_reducible refine gQ0 ?_); (first | ((with_reducible apply q_move); exact rfl) | ((with_reducible apply q_assign); exact rfl) | ((with_reducible apply q_int); exact rfl; exact rfl; exact rfl) | ((with_reducible apply q_nilCheck); exact rfl) | ((with_reducible apply q_fa layOk); exact rfl; exact rfl; exact rfl; exact rfl; exact rfl) | ((with_reducible apply q_load layOk); exact rfl; exact rfl; exact rfl; (focus (repeat (first | with_reducible apply lh | with_reducible apply lt))); (focus (exact rfl))) | ((with_reducible apply q_loadr layOk); exact rfl; exact rfl; exact rfl; (focus (repeat (first | with_reducible apply lh | with_reducible apply lt))); (focus (exact rfl))) | ((with_reducible apply q_build layOk); exact rfl; exact rfl; exact rfl; exact rfl) | ((with_reducible apply q_min); exact rfl) | ((with_reducible apply q_max); exact rfl) | ((with_reducible apply q_neg); exact rfl) | ((with_reducible apply q_not); exact rfl) | ((with_reducible apply q_box (k := ks _)); exact rfl; (focus (repeat (first | with_reducible apply lh | with_reducible apply lt))); exact rfl) | ((with_reducible apply q_alloc (k := ks _) layOk); exact rfl; (focus (repeat (first | with_reducible apply lh | with_reducible apply lt))); exact rfl) | ((with_reducible apply q_pick_t); exact rfl; exact rfl) | ((with_reducible apply q_pick_f); exact rfl; exact rfl) | (refine q_call0 rfl (ref_Sub _ _) ?_) | (refine q_call0 rfl (ref_Add _ _) ?_) | ((with_reducible apply e_store layOk); exact rfl; exact rfl; exact rfl; (focus (repeat (first | with_reducible apply lh | with_reducible apply lt))); exact rfl; exact rfl; exact rfl; (focus (exact rfl)); exact rfl) | (refine e_call0 rfl (ref_Sub _ _) ?_) | (refine e_call0 rfl (ref_Add _ _) ?_))))
    | (((with_reducible refine gR ?_); (first | refine RK.peelN rfl ?_ | refine RK.donef rfl ⟨_, rfl, ?_⟩ | refine RK.donet rfl (by kernel_rfl) ⟨_, rfl, ?_⟩)))
    | (((with_reducible refine gW ?_); (first | with_reducible refine WP.seq ?_ | refine WP.reg mixed (fun ks => _) (fun ks => rfl) (fun ks => ?_) | ((first | refine WP.condD rfl (fun hc => ?_) (fun hc => ?_) | refine WP.condE rfl (fun hc => ?_) (fun hc => ?_) | refine WP.condN rfl (fun hc => ?_) (fun hc => ?_) | refine WP.condA rfl (fun hc => ?_) (fun hc => ?_)) <;> (first | with_reducible exact ff hc | with_reducible exact ff' hc | skip)) | refine WP.ret ?_ | refine WP.skip ?_ | refine WP.exit ?_ | refine WP.goto ?_ | refine WP.label ?_ | refine WP.block ?_)))
    | (with_reducible refine thn_n ?_)
    | (with_reducible refine thn_r ?_)
    | (with_reducible refine thn_e ?_)
    | (with_reducible refine thn_g ?_)
    | (with_reducible refine blk_n ?_)
    | (with_reducible refine blk_r ?_)
    | (with_reducible refine blk_e ?_)
    | (with_reducible refine blk_g ?_)
    | (((with_reducible refine blk_o ?_ ?_); first | exact rfl | skip))
    | (refine Endz.mk' (by first | exact Or.inl rfl | exact Or.inr rfl) (by repeat (first | exact RVs.nil | apply RVs.cons | exact RV1.tmp rfl | exact RV1.row rfl rfl rfl (by repeat (first | exact look_here | apply look_there)) (by exact rfl) | exact RV1.cell rfl rfl rfl (by repeat (first | exact look_here | apply look_there)) (by exact rfl))) (by first | rfl | (simp [tup, rwLo, rwHi, *]; done) | (simp_all [tup, rwLo, rwHi]; done)) (by repeat (first | exact List.nil_sublist _ | exact List.Sublist.refl _ | apply List.Sublist.cons_cons | apply List.Sublist.cons))))
set_option maxHeartbeats 4000000 in
theorem ref_SameSpan (a b c d : Int) : Ctr Tryd.prog G 36 [.agg #[I64 (a), I64 (b)], .agg #[I64 (c), I64 (d)]] [] (.bool (decide (a = c ∧ b = d))) [] := by
  refine Ctr.by layOk Tryd.func36 Tryd.ntmps36 rfl rfl rfl rfl rfl ?_
  repeat' (first
    | (((first | (with_reducible refine gQ0 ?_) | ((with_reducible refine gQ1 ?_ ?_); (focus (exact wg (r := true) rfl rfl rfl rfl rfl rfl)))); (first | ((with_reducible apply q_move); exact rfl) | ((with_reducible apply q_assign); exact rfl) | ((with_reducible apply q_int); exact rfl; exact rfl; exact rfl) | ((with_reducible apply q_nilCheck); exact rfl) | ((with_reducible apply q_fa layOk); exact rfl; exact rfl; exact rfl; exact rfl; exact rfl) | ((with_reducible apply q_load layOk); exact rfl; exact rfl; exact rfl; (focus (repeat (first | with_reducible apply lh | with_reducible apply lt))); (focus (exact rfl))) | ((with_reducible apply q_loadr layOk); exact rfl; exact rfl; exact rfl; (focus (repeat (first | with_reducible apply lh | with_reducible apply lt))); (focus (exact rfl))) | ((with_reducible apply q_build layOk); exact rfl; exact rfl; exact rfl; exact rfl) | ((with_reducible apply q_min); exact rfl) | ((with_reducible apply q_max); exact rfl) | ((with_reducible apply q_neg); exact rfl) | ((with_reducible apply q_not); exact rfl) | ((with_reducible apply q_box (k := ks _)); exact rfl; (focus (repeat (first | with_reducible apply lh | with_reducible apply lt))); exact rfl) | ((with_reducible apply q_alloc (k := ks _) layOk); exact rfl; (focus (repeat (first | with_reducible apply lh | with_reducible apply lt))); exact rfl) | ((with_reducible apply q_pick_t); exact rfl; exact rfl) | ((with_reducible apply q_pick_f); exact rfl; exact rfl) | ((with_reducible apply e_store layOk); exact rfl; exact rfl; exact rfl; (focus (repeat (first | with_reducible apply lh | with_reducible apply lt))); exact rfl; exact rfl; exact rfl; (focus (exact rfl)); exact rfl))))
    | (((with_reducible refine gR ?_); (first | refine RK.peelN rfl ?_ | refine RK.donef rfl ⟨_, rfl, ?_⟩ | refine RK.donet rfl (by kernel_rfl) ⟨_, rfl, ?_⟩)))
    | ((first | (with_reducible refine gQv ?_ ?_) | (with_reducible refine gQe ?_ ?_)); (focus (first | exact wg (r := false) rfl rfl rfl rfl rfl rfl | exact wz rfl rfl rfl rfl)))
    | ((with_reducible refine gK ?_); ((first | refine RKo.gsplitD rfl rfl rfl rfl (fun hc => ?_) (fun hc => ?_) | refine RKo.gsplitE rfl rfl rfl rfl (fun hc => ?_) (fun hc => ?_) | refine RKo.gsplitN rfl rfl rfl rfl (fun hc => ?_) (fun hc => ?_) | refine RKo.gsplit rfl rfl rfl rfl (fun hc => ?_) (fun hc => ?_)) <;> (first | with_reducible exact ff hc | with_reducible exact ff' hc | skip)))
    | (((with_reducible refine gW ?_); (first | with_reducible refine WP.seq ?_ | refine WP.reg mixed (fun ks => _) (fun ks => rfl) (fun ks => ?_) | ((first | refine WP.condD rfl (fun hc => ?_) (fun hc => ?_) | refine WP.condE rfl (fun hc => ?_) (fun hc => ?_) | refine WP.condN rfl (fun hc => ?_) (fun hc => ?_) | refine WP.condA rfl (fun hc => ?_) (fun hc => ?_)) <;> (first | with_reducible exact ff hc | with_reducible exact ff' hc | skip)) | refine WP.ret ?_ | refine WP.skip ?_ | refine WP.exit ?_ | refine WP.goto ?_ | refine WP.label ?_ | refine WP.block ?_)))
    | (with_reducible refine thn_n ?_)
    | (with_reducible refine thn_r ?_)
    | (with_reducible refine thn_e ?_)
    | (with_reducible refine thn_g ?_)
    | (with_reducible refine blk_n ?_)
    | (with_reducible refine blk_r ?_)
    | (with_reducible refine blk_e ?_)
    | (with_reducible refine blk_g ?_)
    | (((with_reducible refine blk_o ?_ ?_); first | exact rfl | skip))
    | (refine Endz.mk' (by first | exact Or.inl rfl | exact Or.inr rfl) (by repeat (first | exact RVs.nil | apply RVs.cons | exact RV1.tmp rfl | exact RV1.row rfl rfl rfl (by repeat (first | exact look_here | apply look_there)) (by exact rfl) | exact RV1.cell rfl rfl rfl (by repeat (first | exact look_here | apply look_there)) (by exact rfl))) (by first | rfl | (simp [tup, *]; done) | (simp [tup, *]; rfl) | (simp_all [tup]; done)) (by repeat (first | exact List.nil_sublist _ | exact List.Sublist.refl _ | apply List.Sublist.cons_cons | apply List.Sublist.cons))))
end Go.Proofs.YtlhhcongoplfpaaDoor
