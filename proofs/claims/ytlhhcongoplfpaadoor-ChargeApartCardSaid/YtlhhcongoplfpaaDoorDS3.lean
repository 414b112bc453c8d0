/- What functions of this program do, each as a contract that its callers use.
   By an AI agent. -/
import Derived.Test.YtlhhcongoplfpaaDoorAB
import Derived.Test.YtlhhcongoplfpaaDoorLayD
import Derived.Test.YtlhhcongoplfpaaDoorDS2
import Derived.Test.YtlhhcongoplfpaaDoorABT
namespace Go.Proofs.YtlhhcongoplfpaaDoor
open Go Go.Proofs.YtlhhcongoplfpaaDoorAB
variable {G : Nat}
set_option linter.unusedSimpArgs false
set_option linter.unusedVariables false

theorem km1 {x : Nat} (h : 0 < x) (h2 : x ≤ 64) : IntKind.i64.wrap ((x : Int) - 1) = ((x - 1 : Nat) : Int) := by
  rw [wrap_in (by omega) (by omega)]; omega
theorem kp1 {x : Nat} (h2 : x ≤ 64) : IntKind.i64.wrap ((x : Int) + 1) = ((x + 1 : Nat) : Int) := by
  rw [wrap_in (by omega) (by omega)]; omega
theorem tok_lo {n : Nat} {X Y : Nat → Int} (o : TOk n X Y) {x : Nat} (h : x < n) : (¬ X x < -1073741824 ∧ ¬ X x > 1073741824) ∧ (¬ Y x < -1073741824 ∧ ¬ Y x > 1073741824) :=
  ⟨⟨by have := o.x1 x h; omega, by have := o.x2 x h; omega⟩, by have := o.y1 x h; omega, by have := o.y2 x h; omega⟩
theorem tok_up {n : Nat} {X Y : Nat → Int} (o : TOk n X Y) {x : Nat} (h : x < n) (h0 : (x : Int) > 0) : ¬ X x ≤ X (x - 1) ∧ ¬ Y x < Y (x - 1) := by
  have h1 := o.xs (x - 1) (by omega)
  have h2 := o.ys (x - 1) (by omega)
  rw [show x - 1 + 1 = x by omega] at h1 h2
  omega
set_option maxHeartbeats 4000000 in
theorem outside_in (x : Int) (h : ¬ x < -1073741824 ∧ ¬ x > 1073741824) : Ctr Tryd.prog G 78 [I64 (x)] [] (.bool false) [] := by
  refine Ctr.by layOk Tryd.func78 Tryd.ntmps78 rfl rfl rfl rfl rfl ?_
  repeat' (first
    | (((first | (with_reducible refine gQ0 ?_) | ((with_reducible refine gQ1 ?_ ?_); (focus (exact wg (r := true) rfl rfl rfl rfl rfl rfl)))); (first | ((with_reducible apply q_move); exact rfl) | ((with_reducible apply q_assign); exact rfl) | ((with_reducible apply q_int); exact rfl; exact rfl; exact rfl) | ((with_reducible apply q_nilCheck); exact rfl) | ((with_reducible apply q_fa layOk); exact rfl; exact rfl; exact rfl; exact rfl; exact rfl) | ((with_reducible apply q_load layOk); exact rfl; exact rfl; exact rfl; (focus (repeat (first | with_reducible apply lh | with_reducible apply lt))); (focus (exact rfl))) | ((with_reducible apply q_loadr layOk); exact rfl; exact rfl; exact rfl; (focus (repeat (first | with_reducible apply lh | with_reducible apply lt))); (focus (exact rfl))) | ((with_reducible apply q_build layOk); exact rfl; exact rfl; exact rfl; exact rfl) | ((with_reducible apply q_min); exact rfl) | ((with_reducible apply q_max); exact rfl) | ((with_reducible apply q_neg); exact rfl) | ((with_reducible apply q_not); exact rfl) | ((with_reducible apply q_box (k := ks _)); exact rfl; (focus (repeat (first | with_reducible apply lh | with_reducible apply lt))); exact rfl) | ((with_reducible apply q_alloc (k := ks _) layOk); exact rfl; (focus (repeat (first | with_reducible apply lh | with_reducible apply lt))); exact rfl) | ((with_reducible apply q_pick_t); exact rfl; exact rfl) | ((with_reducible apply q_pick_f); exact rfl; exact rfl) | ((with_reducible apply e_store layOk); exact rfl; exact rfl; exact rfl; (focus (repeat (first | with_reducible apply lh | with_reducible apply lt))); exact rfl; exact rfl; exact rfl; (focus (exact rfl)); exact rfl))))
    | (((with_reducible refine gR ?_); (first | refine RK.peelN rfl ?_ | refine RK.donef rfl ⟨_, rfl, ?_⟩ | refine RK.donet rfl (by kernel_rfl) ⟨_, rfl, ?_⟩)))
    | ((first | (with_reducible refine gQv ?_ ?_) | (with_reducible refine gQe ?_ ?_)); (focus (first | exact wg (r := false) rfl rfl rfl rfl rfl rfl | exact wz rfl rfl rfl rfl)))
    | ((with_reducible refine gK ?_); ((first | refine RKo.gsplitD rfl rfl rfl rfl (fun hc => ?_) (fun hc => ?_) | refine RKo.gsplitE rfl rfl rfl rfl (fun hc => ?_) (fun hc => ?_) | refine RKo.gsplitN rfl rfl rfl rfl (fun hc => ?_) (fun hc => ?_) | refine RKo.gsplit rfl rfl rfl rfl (fun hc => ?_) (fun hc => ?_)) <;> (first | with_reducible exact ff hc | with_reducible exact ff' hc | with_reducible exact absurd hc h.1 | with_reducible exact absurd hc h.2 | skip)))
    | (((with_reducible refine gW ?_); (first | with_reducible refine WP.seq ?_ | refine WP.reg mixed (fun ks => _) (fun ks => rfl) (fun ks => ?_) | ((first | refine WP.condD rfl (fun hc => ?_) (fun hc => ?_) | refine WP.condE rfl (fun hc => ?_) (fun hc => ?_) | refine WP.condN rfl (fun hc => ?_) (fun hc => ?_) | refine WP.condA rfl (fun hc => ?_) (fun hc => ?_)) <;> (first | with_reducible exact ff hc | with_reducible exact ff' hc | with_reducible exact absurd hc h.1 | with_reducible exact absurd hc h.2 | skip)) | refine WP.ret ?_ | refine WP.skip ?_ | refine WP.exit ?_ | refine WP.goto ?_ | refine WP.label ?_ | refine WP.block ?_)))
    | (with_reducible refine thn_n ?_)
    | (with_reducible refine thn_r ?_)
    | (with_reducible refine thn_e ?_)
    | (with_reducible refine thn_g ?_)
    | (with_reducible refine blk_n ?_)
    | (with_reducible refine blk_r ?_)
    | (with_reducible refine blk_e ?_)
    | (with_reducible refine blk_g ?_)
    | (((with_reducible refine blk_o ?_ ?_); first | exact rfl | skip))
    | (refine Endz.mk' (by first | exact Or.inl rfl | exact Or.inr rfl) (by repeat (first | exact RVs.nil | apply RVs.cons | exact RV1.tmp rfl | exact RV1.row rfl rfl rfl (by repeat (first | exact look_here | apply look_there)) (by exact rfl) | exact RV1.cell rfl rfl rfl (by repeat (first | exact look_here | apply look_there)) (by exact rfl))) (by first | rfl | (simp [tup, h.1, h.2]; done)) (by repeat (first | exact List.nil_sublist _ | exact List.Sublist.refl _ | apply List.Sublist.cons_cons | apply List.Sublist.cons))))

set_option maxHeartbeats 8000000 in
theorem table_Check {ob : AObj} {k f n cap : Nat} {X Y : Nat → Int} {a : Option Addr} (tb : Tb ob f n X Y) (ok : TOk n X Y) (ha : 0 < n → a = some ⟨k, f, none⟩) : Ctr Tryd.prog G 30 [.slice a n cap] [(k, ob)] .nilIface [ob] := by
  have hn2' := ok.n2
  have hn64' := ok.n64
  have hn1 : ¬ (n : Int) < 2 := by omega
  have hn2 : ¬ (n : Int) > 64 := by omega
  refine Ctr.by layOk Tryd.func30 Tryd.ntmps30 rfl rfl rfl rfl rfl ?_
  repeat' (first
    | (((first | (with_reducible refine gQ0 ?_) | ((with_reducible refine gQ1 ?_ ?_); (focus (exact wg (r := true) rfl rfl rfl rfl rfl rfl)))); (first | ((with_reducible apply q_move); exact rfl) | ((with_reducible apply q_assign); exact rfl) | ((with_reducible apply q_int); exact rfl; exact rfl; exact rfl) | ((with_reducible apply q_nilCheck); exact rfl) | ((with_reducible apply q_fa layOk); exact rfl; exact rfl; exact rfl; exact rfl; exact rfl) | ((with_reducible apply q_load layOk); exact rfl; exact rfl; exact rfl; (focus (repeat (first | with_reducible apply lh | with_reducible apply lt))); (focus (exact rfl))) | ((with_reducible apply q_loadr layOk); exact rfl; exact rfl; exact rfl; (focus (repeat (first | with_reducible apply lh | with_reducible apply lt))); (focus (exact rfl))) | ((with_reducible apply q_build layOk); exact rfl; exact rfl; exact rfl; exact rfl) | ((with_reducible apply q_min); exact rfl) | ((with_reducible apply q_max); exact rfl) | ((with_reducible apply q_neg); exact rfl) | ((with_reducible apply q_not); exact rfl) | ((with_reducible apply q_box (k := ks _)); exact rfl; (focus (repeat (first | with_reducible apply lh | with_reducible apply lt))); exact rfl) | ((with_reducible apply q_alloc (k := ks _) layOk); exact rfl; (focus (repeat (first | with_reducible apply lh | with_reducible apply lt))); exact rfl) | ((with_reducible apply q_pick_t); exact rfl; exact rfl) | ((with_reducible apply q_pick_f); exact rfl; exact rfl) | ((with_reducible apply q_len layOk); exact rfl; exact rfl; exact rfl; exact rfl) | ((with_reducible apply e_store layOk); exact rfl; exact rfl; exact rfl; (focus (repeat (first | with_reducible apply lh | with_reducible apply lt))); exact rfl; exact rfl; exact rfl; (focus (exact rfl)); exact rfl))))
    | (((with_reducible refine gR ?_); (first | refine RK.peelN rfl ?_ | refine RK.donef rfl ⟨_, rfl, ?_⟩ | refine RK.donet rfl (by kernel_rfl) ⟨_, rfl, ?_⟩)))
    | ((first | (with_reducible refine gQv ?_ ?_) | (with_reducible refine gQe ?_ ?_)); (focus (first | exact wg (r := false) rfl rfl rfl rfl rfl rfl | exact wz rfl rfl rfl rfl)))
    | ((with_reducible refine gK ?_); ((first | refine RKo.gsplitD rfl rfl rfl rfl (fun hc => ?_) (fun hc => ?_) | refine RKo.gsplitE rfl rfl rfl rfl (fun hc => ?_) (fun hc => ?_) | refine RKo.gsplitN rfl rfl rfl rfl (fun hc => ?_) (fun hc => ?_) | refine RKo.gsplit rfl rfl rfl rfl (fun hc => ?_) (fun hc => ?_)) <;> (first | with_reducible exact ff hc | with_reducible exact ff' hc | with_reducible exact absurd hc hn1 | with_reducible exact absurd hc hn2 | skip)))
    | (((with_reducible refine gW ?_); (first | with_reducible refine WP.seq ?_ | refine WP.reg mixed (fun ks => _) (fun ks => rfl) (fun ks => ?_) | ((first | refine WP.condD rfl (fun hc => ?_) (fun hc => ?_) | refine WP.condE rfl (fun hc => ?_) (fun hc => ?_) | refine WP.condN rfl (fun hc => ?_) (fun hc => ?_) | refine WP.condA rfl (fun hc => ?_) (fun hc => ?_)) <;> (first | with_reducible exact ff hc | with_reducible exact ff' hc | with_reducible exact absurd hc hn1 | with_reducible exact absurd hc hn2 | skip)) | refine WP.ret ?_ | refine WP.skip ?_ | refine WP.exit ?_ | refine WP.goto ?_ | refine WP.label ?_ | refine WP.block ?_)))
    | (with_reducible refine thn_n ?_)
    | (with_reducible refine thn_r ?_)
    | (with_reducible refine thn_e ?_)
    | (with_reducible refine thn_g ?_)
    | (with_reducible refine blk_n ?_)
    | (with_reducible refine blk_r ?_)
    | (with_reducible refine blk_e ?_)
    | (with_reducible refine blk_g ?_)
    | (((with_reducible refine blk_o ?_ ?_); first | exact rfl | skip))
    | (refine Endz.mk' (by first | exact Or.inl rfl | exact Or.inr rfl) (by repeat (first | exact RVs.nil | apply RVs.cons | exact RV1.tmp rfl | exact RV1.row rfl rfl rfl (by repeat (first | exact look_here | apply look_there)) (by exact rfl) | exact RV1.cell rfl rfl rfl (by repeat (first | exact look_here | apply look_there)) (by exact rfl))) (by rfl) (by repeat (first | exact List.nil_sublist _ | exact List.Sublist.refl _ | apply List.Sublist.cons_cons | apply List.Sublist.cons))))
  refine WP.loopI (n := 65) (α := Nat) (fun x => [(0, some (.slice a n cap)), (15, some (.slice a n cap)), (16, some (I64 (n : Int))), (17, some (I64 (x : Int)))])
    (fun x => [(k, ob)]) (fun x => x ≤ n) (fun x => n - x) 0 (Wk.of ⟨rfl, rfl, rfl, rfl, trivial⟩ (by repeat (first | exact List.nil_sublist _ | exact List.Sublist.refl _ | apply List.Sublist.cons_cons | apply List.Sublist.cons))) (Nat.zero_le _) (fun x ix => ?_)
  by_cases hlt : x < n
  · have hlt' : (x : Int) < (n : Int) := by omega
    have hb := tok_lo ok hlt
    repeat' (first
      | (((first | (with_reducible refine gQ0 ?_) | ((with_reducible refine gQ1 ?_ ?_); (focus (exact wg (r := true) rfl rfl rfl rfl rfl rfl)))); (first | ((with_reducible apply q_loadr layOk); exact rfl; exact rfl; exact rfl; (focus (repeat (first | with_reducible apply lh | with_reducible apply lt))); exact (tb.seg _ hlt)) | ((with_reducible apply q_load layOk); exact rfl; exact rfl; exact rfl; (focus (repeat (first | with_reducible apply lh | with_reducible apply lt))); exact (tb.ax _ hlt)) | ((with_reducible apply q_load layOk); exact rfl; exact rfl; exact rfl; (focus (repeat (first | with_reducible apply lh | with_reducible apply lt))); exact (tb.ay _ hlt)) | ((with_reducible apply q_loadr layOk); exact rfl; exact rfl; exact rfl; (focus (repeat (first | with_reducible apply lh | with_reducible apply lt))); exact (tb.seg _ (by omega))) | ((with_reducible apply q_load layOk); exact rfl; exact rfl; exact rfl; (focus (repeat (first | with_reducible apply lh | with_reducible apply lt))); exact (tb.ax _ (by omega))) | ((with_reducible apply q_load layOk); exact rfl; exact rfl; exact rfl; (focus (repeat (first | with_reducible apply lh | with_reducible apply lt))); exact (tb.ay _ (by omega))) | ((with_reducible apply q_idxN layOk); exact rfl; exact rfl; exact rfl; exact rfl; exact ha; exact rfl; exact hlt) | ((with_reducible apply q_idxN layOk); exact rfl; exact rfl; exact rfl; exact rfl; exact ha; exact (km1 (by have h0 : (x : Int) > 0 := (by assumption); omega) (by omega)); (focus (omega))) | ((with_reducible apply q_move); exact rfl) | ((with_reducible apply q_assign); exact rfl) | ((with_reducible apply q_int); exact rfl; exact rfl; exact rfl) | ((with_reducible apply q_nilCheck); exact rfl) | ((with_reducible apply q_fa layOk); exact rfl; exact rfl; exact rfl; exact rfl; exact rfl) | ((with_reducible apply q_load layOk); exact rfl; exact rfl; exact rfl; (focus (repeat (first | with_reducible apply lh | with_reducible apply lt))); (focus (exact rfl))) | ((with_reducible apply q_loadr layOk); exact rfl; exact rfl; exact rfl; (focus (repeat (first | with_reducible apply lh | with_reducible apply lt))); (focus (exact rfl))) | ((with_reducible apply q_build layOk); exact rfl; exact rfl; exact rfl; exact rfl) | ((with_reducible apply q_min); exact rfl) | ((with_reducible apply q_max); exact rfl) | ((with_reducible apply q_neg); exact rfl) | ((with_reducible apply q_not); exact rfl) | ((with_reducible apply q_box (k := ks _)); exact rfl; (focus (repeat (first | with_reducible apply lh | with_reducible apply lt))); exact rfl) | ((with_reducible apply q_alloc (k := ks _) layOk); exact rfl; (focus (repeat (first | with_reducible apply lh | with_reducible apply lt))); exact rfl) | ((with_reducible apply q_pick_t); exact rfl; exact rfl) | ((with_reducible apply q_pick_f); exact rfl; exact rfl) | ((with_reducible apply q_len layOk); exact rfl; exact rfl; exact rfl; exact rfl) | (refine q_call0 rfl (outside_in _ hb.1) ?_) | (refine q_call0 rfl (outside_in _ hb.2) ?_) | ((with_reducible apply e_store layOk); exact rfl; exact rfl; exact rfl; (focus (repeat (first | with_reducible apply lh | with_reducible apply lt))); exact rfl; exact rfl; exact rfl; (focus (exact rfl)); exact rfl) | (refine e_call0 rfl (outside_in _ hb.1) ?_) | (refine e_call0 rfl (outside_in _ hb.2) ?_))))
      | (((with_reducible refine gR ?_); (first | refine RK.peelN rfl ?_ | refine RK.donef rfl ⟨_, rfl, ?_⟩ | refine RK.donet rfl (by kernel_rfl) ⟨_, rfl, ?_⟩)))
      | ((first | (with_reducible refine gQv ?_ ?_) | (with_reducible refine gQe ?_ ?_)); (focus (first | exact wg (r := false) rfl rfl rfl rfl rfl rfl | exact wz rfl rfl rfl rfl)))
      | ((with_reducible refine gK ?_); ((first | refine RKo.gsplitD rfl rfl rfl rfl (fun hc => ?_) (fun hc => ?_) | refine RKo.gsplitE rfl rfl rfl rfl (fun hc => ?_) (fun hc => ?_) | refine RKo.gsplitN rfl rfl rfl rfl (fun hc => ?_) (fun hc => ?_) | refine RKo.gsplit rfl rfl rfl rfl (fun hc => ?_) (fun hc => ?_)) <;> (first | with_reducible exact ff hc | with_reducible exact ff' hc | with_reducible exact absurd hlt' hc | with_reducible exact absurd hc hn1 | with_reducible exact absurd hc hn2 | with_reducible exact absurd hc hb.1.1 | with_reducible exact absurd hc hb.1.2 | with_reducible exact absurd hc hb.2.1 | with_reducible exact absurd hc hb.2.2 | with_reducible exact absurd hc (tok_up ok hlt (by assumption)).1 | with_reducible exact absurd hc (tok_up ok hlt (by assumption)).2 | skip)))
      | (((with_reducible refine gW ?_); (first | with_reducible refine WP.seq ?_ | refine WP.reg mixed (fun ks => _) (fun ks => rfl) (fun ks => ?_) | ((first | refine WP.condD rfl (fun hc => ?_) (fun hc => ?_) | refine WP.condE rfl (fun hc => ?_) (fun hc => ?_) | refine WP.condN rfl (fun hc => ?_) (fun hc => ?_) | refine WP.condA rfl (fun hc => ?_) (fun hc => ?_)) <;> (first | with_reducible exact ff hc | with_reducible exact ff' hc | with_reducible exact absurd hlt' hc | with_reducible exact absurd hc hn1 | with_reducible exact absurd hc hn2 | with_reducible exact absurd hc hb.1.1 | with_reducible exact absurd hc hb.1.2 | with_reducible exact absurd hc hb.2.1 | with_reducible exact absurd hc hb.2.2 | with_reducible exact absurd hc (tok_up ok hlt (by assumption)).1 | with_reducible exact absurd hc (tok_up ok hlt (by assumption)).2 | skip)) | refine WP.ret ?_ | refine WP.skip ?_ | refine WP.exit ?_ | refine WP.goto ?_ | refine WP.label ?_ | refine WP.block ?_)))
      | (with_reducible refine thn_n ?_)
      | (with_reducible refine thn_r ?_)
      | (with_reducible refine thn_e ?_)
      | (with_reducible refine thn_g ?_)
      | (with_reducible refine blk_n ?_)
      | (with_reducible refine blk_r ?_)
      | (with_reducible refine blk_e ?_)
      | (with_reducible refine blk_g ?_)
      | (((with_reducible refine blk_o ?_ ?_); first | exact rfl | skip))
      | (refine Endz.mk' (by first | exact Or.inl rfl | exact Or.inr rfl) (by repeat (first | exact RVs.nil | apply RVs.cons | exact RV1.tmp rfl | exact RV1.row rfl rfl rfl (by repeat (first | exact look_here | apply look_there)) (by exact rfl) | exact RV1.cell rfl rfl rfl (by repeat (first | exact look_here | apply look_there)) (by exact rfl))) (by rfl) (by repeat (first | exact List.nil_sublist _ | exact List.Sublist.refl _ | apply List.Sublist.cons_cons | apply List.Sublist.cons))))
    all_goals
      refine ⟨x + 1, hlt, by show n - (x + 1) < n - x; omega, Wk.of ⟨rfl, rfl, rfl, ?_, trivial⟩ (by repeat (first | exact List.nil_sublist _ | exact List.Sublist.refl _ | apply List.Sublist.cons_cons | apply List.Sublist.cons))⟩
      exact congrArg (fun x => some (I64 x)) (kp1 (by omega))
  · have hge : ¬ (x : Int) < (n : Int) := by omega
    repeat' (first
      | (((first | (with_reducible refine gQ0 ?_) | ((with_reducible refine gQ1 ?_ ?_); (focus (exact wg (r := true) rfl rfl rfl rfl rfl rfl)))); (first | ((with_reducible apply q_move); exact rfl) | ((with_reducible apply q_assign); exact rfl) | ((with_reducible apply q_int); exact rfl; exact rfl; exact rfl) | ((with_reducible apply q_nilCheck); exact rfl) | ((with_reducible apply q_fa layOk); exact rfl; exact rfl; exact rfl; exact rfl; exact rfl) | ((with_reducible apply q_load layOk); exact rfl; exact rfl; exact rfl; (focus (repeat (first | with_reducible apply lh | with_reducible apply lt))); (focus (exact rfl))) | ((with_reducible apply q_loadr layOk); exact rfl; exact rfl; exact rfl; (focus (repeat (first | with_reducible apply lh | with_reducible apply lt))); (focus (exact rfl))) | ((with_reducible apply q_build layOk); exact rfl; exact rfl; exact rfl; exact rfl) | ((with_reducible apply q_min); exact rfl) | ((with_reducible apply q_max); exact rfl) | ((with_reducible apply q_neg); exact rfl) | ((with_reducible apply q_not); exact rfl) | ((with_reducible apply q_box (k := ks _)); exact rfl; (focus (repeat (first | with_reducible apply lh | with_reducible apply lt))); exact rfl) | ((with_reducible apply q_alloc (k := ks _) layOk); exact rfl; (focus (repeat (first | with_reducible apply lh | with_reducible apply lt))); exact rfl) | ((with_reducible apply q_pick_t); exact rfl; exact rfl) | ((with_reducible apply q_pick_f); exact rfl; exact rfl) | ((with_reducible apply q_len layOk); exact rfl; exact rfl; exact rfl; exact rfl) | ((with_reducible apply e_store layOk); exact rfl; exact rfl; exact rfl; (focus (repeat (first | with_reducible apply lh | with_reducible apply lt))); exact rfl; exact rfl; exact rfl; (focus (exact rfl)); exact rfl))))
      | (((with_reducible refine gR ?_); (first | refine RK.peelN rfl ?_ | refine RK.donef rfl ⟨_, rfl, ?_⟩ | refine RK.donet rfl (by kernel_rfl) ⟨_, rfl, ?_⟩)))
      | ((first | (with_reducible refine gQv ?_ ?_) | (with_reducible refine gQe ?_ ?_)); (focus (first | exact wg (r := false) rfl rfl rfl rfl rfl rfl | exact wz rfl rfl rfl rfl)))
      | ((with_reducible refine gK ?_); ((first | refine RKo.gsplitD rfl rfl rfl rfl (fun hc => ?_) (fun hc => ?_) | refine RKo.gsplitE rfl rfl rfl rfl (fun hc => ?_) (fun hc => ?_) | refine RKo.gsplitN rfl rfl rfl rfl (fun hc => ?_) (fun hc => ?_) | refine RKo.gsplit rfl rfl rfl rfl (fun hc => ?_) (fun hc => ?_)) <;> (first | with_reducible exact ff hc | with_reducible exact ff' hc | with_reducible exact absurd hc hge | skip)))
      | (((with_reducible refine gW ?_); (first | with_reducible refine WP.seq ?_ | refine WP.reg mixed (fun ks => _) (fun ks => rfl) (fun ks => ?_) | ((first | refine WP.condD rfl (fun hc => ?_) (fun hc => ?_) | refine WP.condE rfl (fun hc => ?_) (fun hc => ?_) | refine WP.condN rfl (fun hc => ?_) (fun hc => ?_) | refine WP.condA rfl (fun hc => ?_) (fun hc => ?_)) <;> (first | with_reducible exact ff hc | with_reducible exact ff' hc | with_reducible exact absurd hc hge | skip)) | refine WP.ret ?_ | refine WP.skip ?_ | refine WP.exit ?_ | refine WP.goto ?_ | refine WP.label ?_ | refine WP.block ?_)))
      | (with_reducible refine thn_n ?_)
      | (with_reducible refine thn_r ?_)
      | (with_reducible refine thn_e ?_)
      | (with_reducible refine thn_g ?_)
      | (with_reducible refine blk_n ?_)
      | (with_reducible refine blk_r ?_)
      | (with_reducible refine blk_e ?_)
      | (with_reducible refine blk_g ?_)
      | (((with_reducible refine blk_o ?_ ?_); first | exact rfl | skip))
      | (refine Endz.mk' (by first | exact Or.inl rfl | exact Or.inr rfl) (by repeat (first | exact RVs.nil | apply RVs.cons | exact RV1.tmp rfl | exact RV1.row rfl rfl rfl (by repeat (first | exact look_here | apply look_there)) (by exact rfl) | exact RV1.cell rfl rfl rfl (by repeat (first | exact look_here | apply look_there)) (by exact rfl))) (by rfl) (by repeat (first | exact List.nil_sublist _ | exact List.Sublist.refl _ | apply List.Sublist.cons_cons | apply List.Sublist.cons))))
end Go.Proofs.YtlhhcongoplfpaaDoor
