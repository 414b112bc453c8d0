/- What functions of this program do, each as a contract that its callers use.
   By an AI agent. -/
import Derived.Test.YtlhhcongoplfpaaDoorAB
import Derived.Test.YtlhhcongoplfpaaDoorLayD
import Derived.Test.YtlhhcongoplfpaaDoorDS7
import Derived.Test.YtlhhcongoplfpaaDoorDS9
import Derived.Test.YtlhhcongoplfpaaDoorABW
namespace Go.Proofs.YtlhhcongoplfpaaDoor
open Go Go.Proofs.YtlhhcongoplfpaaDoorAB
variable {G : Nat}
set_option linter.unusedSimpArgs false
set_option linter.unusedVariables false

/-- Config, with its feeders forgotten. -/
theorem make_ConfigL (n m k : Int) : ∃ (fa : Nat → Option Addr) (fl fc : Nat), ∀ k1 k2 : Nat, Ctr Tryd.prog G 41 [I64 n, I64 m, I64 k] [(k1, .gone), (k2, .gone)] (.agg ⟨(cfgOf n m k (some ⟨k1, 0, none⟩) (fa k2) fl fc).cells⟩) [.cells ocv 27, .lost] := by
  obtain ⟨fa, fl, fc, ob, h⟩ := make_Config (G := G) n m k
  exact ⟨fa, fl, fc, fun k1 k2 => (h k1 k2).lose rfl fun i o ho => by
    match i, ho with
    | 0, ho => exact .inr ho
    | 1, ho => cases ho; exact .inl rfl⟩
theorem num_nonneg (n b : Int) (hb : 0 < b) (hb2 : b < 1000000000) : 0 ≤ num n b ∧ num n b < b := by
  unfold num
  have h1 : n.tmod b < b := Int.tmod_lt_of_pos n hb
  have h2 : -b < n.tmod b := Int.lt_tmod_of_pos n hb
  split
  · rw [wrap_in (by omega) (by omega)]; omega
  · omega
theorem n20_nonneg (n : Int) : 0 ≤ n20 n := (num_nonneg n 1048576 (by decide) (by decide)).1
def oczv : List (Int × Int) := [(0, 20000), (20000, 23000), (80000, 25000), (100000, 28000)]
abbrev oX : Nat → Int := PX oczv
abbrev oY : Nat → Int := PY oczv
theorem ocTb : Tb (.cells ocv 27) 0 4 oX oY := by
  refine ⟨fun i h => ?_, fun i h => ?_, fun i h => ?_⟩ <;> (match i, h with
    | 0, _ => rfl
    | 1, _ => rfl
    | 2, _ => rfl
    | 3, _ => rfl)
theorem ocOk : TOk 4 oX oY := by
  refine ⟨by decide, by decide, fun i h => ?_, fun i h => ?_, fun i h => ?_, fun i h => ?_, fun i h => ?_, fun i h => ?_⟩
  · match i, h with
    | 0, _ => decide
    | 1, _ => decide
    | 2, _ => decide
    | 3, _ => decide
  · match i, h with
    | 0, _ => decide
    | 1, _ => decide
    | 2, _ => decide
    | 3, _ => decide
  · match i, h with
    | 0, _ => decide
    | 1, _ => decide
    | 2, _ => decide
    | 3, _ => decide
  · match i, h with
    | 0, _ => decide
    | 1, _ => decide
    | 2, _ => decide
    | 3, _ => decide
  · match i, h with
    | 0, _ => decide
    | 1, _ => decide
    | 2, _ => decide
    | 3, h => omega
  · match i, h with
    | 0, _ => decide
    | 1, _ => decide
    | 2, _ => decide
    | 3, h => omega
/-- What the volts say: both ends; whether they say anything. -/
noncomputable def sLo (c : Cfg) (X Y : Nat → Int) (v a : Int) (p q : Bool) : Int := if p = true ∧ q = true ∧ ¬ v < c.Vmin then hLo c.ocL X Y (v + dn (a * 20) 1000 - c.SagErr) (v + up (a * 20) 1000 + c.SagErr) else 0
noncomputable def sHi (c : Cfg) (X Y : Nat → Int) (v a : Int) (p q : Bool) : Int := if p = true ∧ q = true ∧ ¬ v < c.Vmin then hHi c.ocL X Y (v + dn (a * 20) 1000 - c.SagErr) (v + up (a * 20) 1000 + c.SagErr) else 0
def sIs (c : Cfg) (v : Int) (p q : Bool) : Bool := decide (p = true ∧ q = true ∧ ¬ v < c.Vmin)

set_option maxHeartbeats 8000000 in
theorem sag_Charge (c : Cfg) {ob : AObj} {k f : Nat} {X Y : Nat → Int} (tb : Tb ob f c.ocL X Y) (ok : TOk c.ocL X Y) (ha : 0 < c.ocL → c.ocA = some ⟨k, f, none⟩) (v a : Int) (p q : Bool) (hO : c.Ohm = 20) (h1 : -1000000000 ≤ a) (h2 : a ≤ 1000000000) (v1 : -1000000000 ≤ v) (v2 : v ≤ 1000000000) (e1 : 0 ≤ c.SagErr) (e2 : c.SagErr ≤ 1000000000) : Ctr Tryd.prog G 42 [.agg ⟨c.cells⟩, .agg #[I64 (v), .bool p], .agg #[I64 (a), .bool q]] [(k, ob)] (.tuple #[.agg #[I64 (sLo c X Y v a p q), I64 (sHi c X Y v a p q)], .bool (sIs c v p q)]) [ob] := by
  by_cases hv : v < c.Vmin
  all_goals cases p
  all_goals cases q
  all_goals
    refine Ctr.by layOk Tryd.func42 Tryd.ntmps42 rfl rfl rfl rfl rfl ?_
    repeat' (first
      | (((first | (with_reducible refine gQ0 ?_) | ((with_reducible refine gQ1 ?_ ?_); (focus (exact wg (r := true) rfl rfl rfl rfl rfl rfl)))); (first | ((with_reducible apply q_box (k := ks _)); exact rfl; (focus (repeat (first | with_reducible apply lh | with_reducible apply lt))); exact rfl) | ((with_reducible apply q_alloc (k := ks _) layOk); exact rfl; (focus (repeat (first | with_reducible apply lh | with_reducible apply lt))); exact rfl) | ((with_reducible apply q_move); exact rfl) | ((with_reducible apply q_assign); exact rfl) | ((with_reducible apply q_int); exact rfl; exact rfl; exact rfl) | ((with_reducible apply q_nilCheck); exact rfl) | ((with_reducible apply q_fa layOk); exact rfl; exact rfl; exact rfl; exact rfl; exact rfl) | ((with_reducible apply q_load layOk); exact rfl; exact rfl; exact rfl; (focus (repeat (first | with_reducible apply lh | with_reducible apply lt))); (focus (exact rfl))) | ((with_reducible apply q_loadr layOk); exact rfl; exact rfl; exact rfl; (focus (repeat (first | with_reducible apply lh | with_reducible apply lt))); (focus (exact rfl))) | ((with_reducible apply q_build layOk); exact rfl; exact rfl; exact rfl; exact rfl) | ((with_reducible apply q_min); exact rfl) | ((with_reducible apply q_max); exact rfl) | ((with_reducible apply q_neg); exact rfl) | ((with_reducible apply q_not); exact rfl) | ((with_reducible apply q_box (k := ks _)); exact rfl; (focus (repeat (first | with_reducible apply lh | with_reducible apply lt))); exact rfl) | ((with_reducible apply q_alloc (k := ks _) layOk); exact rfl; (focus (repeat (first | with_reducible apply lh | with_reducible apply lt))); exact rfl) | ((with_reducible apply q_pick_t); exact rfl; exact rfl) | ((with_reducible apply q_pick_f); exact rfl; exact rfl) | (refine q_call0 rfl (sag_Rest c _ _ hO h1 h2 v1 v2 e1 e2) ?_) | (refine q_call1r rfl (table_Back (cap := c.ocC) tb ok ha _) (by first | (focus ((repeat (first | with_reducible apply lh | with_reducible apply lt)); done)) | (focus (apply lx; (focus (repeat (first | with_reducible apply lh | with_reducible apply lt))); exact rfl))) ?_) | (refine q_call0 rfl (span_Hull _ _ _ _) ?_) | ((with_reducible apply e_store layOk); exact rfl; exact rfl; exact rfl; (focus (repeat (first | with_reducible apply lh | with_reducible apply lt))); exact rfl; exact rfl; exact rfl; (focus (exact rfl)); exact rfl) | (refine e_call0 rfl (sag_Rest c _ _ hO h1 h2 v1 v2 e1 e2) ?_) | (refine e_call1r rfl (table_Back (cap := c.ocC) tb ok ha _) (by first | (focus ((repeat (first | with_reducible apply lh | with_reducible apply lt)); done)) | (focus (apply lx; (focus (repeat (first | with_reducible apply lh | with_reducible apply lt))); exact rfl))) ?_) | (refine e_call0 rfl (span_Hull _ _ _ _) ?_))))
      | (((with_reducible refine gR ?_); (first | refine RK.peelN rfl ?_ | refine RK.donef rfl ⟨_, rfl, ?_⟩ | refine RK.donet rfl (by kernel_rfl) ⟨_, rfl, ?_⟩)))
      | ((first | (with_reducible refine gQv ?_ ?_) | (with_reducible refine gQe ?_ ?_)); (focus (first | exact wg (r := false) rfl rfl rfl rfl rfl rfl | exact wz rfl rfl rfl rfl)))
      | ((with_reducible refine gK ?_); ((first | refine RKo.gsplitD rfl rfl rfl rfl (fun hc => ?_) (fun hc => ?_) | refine RKo.gsplitE rfl rfl rfl rfl (fun hc => ?_) (fun hc => ?_) | refine RKo.gsplitN rfl rfl rfl rfl (fun hc => ?_) (fun hc => ?_) | refine RKo.gsplit rfl rfl rfl rfl (fun hc => ?_) (fun hc => ?_)) <;> (first | with_reducible exact ff hc | with_reducible exact ff' hc | exact absurd hc (by decide) | with_reducible exact absurd hc hv | with_reducible exact absurd hv hc | skip)))
      | (((with_reducible refine gW ?_); (first | with_reducible refine WP.seq ?_ | refine WP.reg mixed (fun ks => _) (fun ks => rfl) (fun ks => ?_) | ((first | refine WP.condD rfl (fun hc => ?_) (fun hc => ?_) | refine WP.condE rfl (fun hc => ?_) (fun hc => ?_) | refine WP.condN rfl (fun hc => ?_) (fun hc => ?_) | refine WP.condA rfl (fun hc => ?_) (fun hc => ?_)) <;> (first | with_reducible exact ff hc | with_reducible exact ff' hc | exact absurd hc (by decide) | with_reducible exact absurd hc hv | with_reducible exact absurd hv hc | skip)) | refine WP.ret ?_ | refine WP.skip ?_ | refine WP.exit ?_ | refine WP.goto ?_ | refine WP.label ?_ | refine WP.block ?_)))
      | (with_reducible refine thn_n ?_)
      | (with_reducible refine thn_r ?_)
      | (with_reducible refine thn_e ?_)
      | (with_reducible refine thn_g ?_)
      | (with_reducible refine blk_n ?_)
      | (with_reducible refine blk_r ?_)
      | (with_reducible refine blk_e ?_)
      | (with_reducible refine blk_g ?_)
      | (((with_reducible refine blk_o ?_ ?_); first | exact rfl | skip))
      | (refine Endz.mk' (by first | exact Or.inl rfl | exact Or.inr rfl) (by repeat (first | exact RVs.nil | apply RVs.cons | exact RV1.tmp rfl | exact RV1.row rfl rfl rfl (by repeat (first | exact look_here | apply look_there)) (by exact rfl) | exact RV1.cell rfl rfl rfl (by repeat (first | exact look_here | apply look_there)) (by exact rfl))) (by first | rfl | (simp [tup, sLo, sHi, sIs, hv, hLo, hHi]; done)) (by repeat (first | exact List.nil_sublist _ | exact List.Sublist.refl _ | apply List.Sublist.cons_cons | apply List.Sublist.cons))))

set_option maxHeartbeats 8000000 in
theorem ref_Sagged (c : Cfg) {ob : AObj} {k f : Nat} {X Y : Nat → Int} (tb : Tb ob f c.ocL X Y) (ok : TOk c.ocL X Y) (ha : 0 < c.ocL → c.ocA = some ⟨k, f, none⟩) (v a : Int) (p q : Bool) (hO : c.Ohm = 20) (h1 : -1000000000 ≤ a) (h2 : a ≤ 1000000000) (v1 : -1000000000 ≤ v) (v2 : v ≤ 1000000000) (e1 : 0 ≤ c.SagErr) (e2 : c.SagErr ≤ 1000000000) : Ctr Tryd.prog G 43 [.agg ⟨c.cells⟩, .agg #[I64 (v), .bool p], .agg #[I64 (a), .bool q]] [(k, ob)] (.tuple #[.agg #[I64 (sLo c X Y v a p q), I64 (sHi c X Y v a p q)], .bool (sIs c v p q)]) [ob] := by
  by_cases hv : v < c.Vmin
  all_goals cases p
  all_goals cases q
  all_goals
    refine Ctr.by layOk Tryd.func43 Tryd.ntmps43 rfl rfl rfl rfl rfl ?_
    repeat' (first
      | (((first | (with_reducible refine gQ0 ?_) | ((with_reducible refine gQ1 ?_ ?_); (focus (exact wg (r := true) rfl rfl rfl rfl rfl rfl)))); (first | ((with_reducible apply q_box (k := ks _)); exact rfl; (focus (repeat (first | with_reducible apply lh | with_reducible apply lt))); exact rfl) | ((with_reducible apply q_alloc (k := ks _) layOk); exact rfl; (focus (repeat (first | with_reducible apply lh | with_reducible apply lt))); exact rfl) | ((with_reducible apply q_move); exact rfl) | ((with_reducible apply q_assign); exact rfl) | ((with_reducible apply q_int); exact rfl; exact rfl; exact rfl) | ((with_reducible apply q_nilCheck); exact rfl) | ((with_reducible apply q_fa layOk); exact rfl; exact rfl; exact rfl; exact rfl; exact rfl) | ((with_reducible apply q_load layOk); exact rfl; exact rfl; exact rfl; (focus (repeat (first | with_reducible apply lh | with_reducible apply lt))); (focus (exact rfl))) | ((with_reducible apply q_loadr layOk); exact rfl; exact rfl; exact rfl; (focus (repeat (first | with_reducible apply lh | with_reducible apply lt))); (focus (exact rfl))) | ((with_reducible apply q_build layOk); exact rfl; exact rfl; exact rfl; exact rfl) | ((with_reducible apply q_min); exact rfl) | ((with_reducible apply q_max); exact rfl) | ((with_reducible apply q_neg); exact rfl) | ((with_reducible apply q_not); exact rfl) | ((with_reducible apply q_box (k := ks _)); exact rfl; (focus (repeat (first | with_reducible apply lh | with_reducible apply lt))); exact rfl) | ((with_reducible apply q_alloc (k := ks _) layOk); exact rfl; (focus (repeat (first | with_reducible apply lh | with_reducible apply lt))); exact rfl) | ((with_reducible apply q_pick_t); exact rfl; exact rfl) | ((with_reducible apply q_pick_f); exact rfl; exact rfl) | (refine q_call0 rfl (ref_Rest c _ _ hO h1 h2 v1 v2 e1 e2) ?_) | (refine q_call1r rfl (ref_Back (cap := c.ocC) tb ok ha _) (by first | (focus ((repeat (first | with_reducible apply lh | with_reducible apply lt)); done)) | (focus (apply lx; (focus (repeat (first | with_reducible apply lh | with_reducible apply lt))); exact rfl))) ?_) | (refine q_call0 rfl (ref_Hull _ _ _ _) ?_) | ((with_reducible apply e_store layOk); exact rfl; exact rfl; exact rfl; (focus (repeat (first | with_reducible apply lh | with_reducible apply lt))); exact rfl; exact rfl; exact rfl; (focus (exact rfl)); exact rfl) | (refine e_call0 rfl (ref_Rest c _ _ hO h1 h2 v1 v2 e1 e2) ?_) | (refine e_call1r rfl (ref_Back (cap := c.ocC) tb ok ha _) (by first | (focus ((repeat (first | with_reducible apply lh | with_reducible apply lt)); done)) | (focus (apply lx; (focus (repeat (first | with_reducible apply lh | with_reducible apply lt))); exact rfl))) ?_) | (refine e_call0 rfl (ref_Hull _ _ _ _) ?_))))
      | (((with_reducible refine gR ?_); (first | refine RK.peelN rfl ?_ | refine RK.donef rfl ⟨_, rfl, ?_⟩ | refine RK.donet rfl (by kernel_rfl) ⟨_, rfl, ?_⟩)))
      | ((first | (with_reducible refine gQv ?_ ?_) | (with_reducible refine gQe ?_ ?_)); (focus (first | exact wg (r := false) rfl rfl rfl rfl rfl rfl | exact wz rfl rfl rfl rfl)))
      | ((with_reducible refine gK ?_); ((first | refine RKo.gsplitD rfl rfl rfl rfl (fun hc => ?_) (fun hc => ?_) | refine RKo.gsplitE rfl rfl rfl rfl (fun hc => ?_) (fun hc => ?_) | refine RKo.gsplitN rfl rfl rfl rfl (fun hc => ?_) (fun hc => ?_) | refine RKo.gsplit rfl rfl rfl rfl (fun hc => ?_) (fun hc => ?_)) <;> (first | with_reducible exact ff hc | with_reducible exact ff' hc | exact absurd hc (by decide) | with_reducible exact absurd hc hv | with_reducible exact absurd hv hc | skip)))
      | (((with_reducible refine gW ?_); (first | with_reducible refine WP.seq ?_ | refine WP.reg mixed (fun ks => _) (fun ks => rfl) (fun ks => ?_) | ((first | refine WP.condD rfl (fun hc => ?_) (fun hc => ?_) | refine WP.condE rfl (fun hc => ?_) (fun hc => ?_) | refine WP.condN rfl (fun hc => ?_) (fun hc => ?_) | refine WP.condA rfl (fun hc => ?_) (fun hc => ?_)) <;> (first | with_reducible exact ff hc | with_reducible exact ff' hc | exact absurd hc (by decide) | with_reducible exact absurd hc hv | with_reducible exact absurd hv hc | skip)) | refine WP.ret ?_ | refine WP.skip ?_ | refine WP.exit ?_ | refine WP.goto ?_ | refine WP.label ?_ | refine WP.block ?_)))
      | (with_reducible refine thn_n ?_)
      | (with_reducible refine thn_r ?_)
      | (with_reducible refine thn_e ?_)
      | (with_reducible refine thn_g ?_)
      | (with_reducible refine blk_n ?_)
      | (with_reducible refine blk_r ?_)
      | (with_reducible refine blk_e ?_)
      | (with_reducible refine blk_g ?_)
      | (((with_reducible refine blk_o ?_ ?_); first | exact rfl | skip))
      | (refine Endz.mk' (by first | exact Or.inl rfl | exact Or.inr rfl) (by repeat (first | exact RVs.nil | apply RVs.cons | exact RV1.tmp rfl | exact RV1.row rfl rfl rfl (by repeat (first | exact look_here | apply look_there)) (by exact rfl) | exact RV1.cell rfl rfl rfl (by repeat (first | exact look_here | apply look_there)) (by exact rfl))) (by first | rfl | (simp [tup, sLo, sHi, sIs, hv, hLo, hHi]; done)) (by repeat (first | exact List.nil_sublist _ | exact List.Sublist.refl _ | apply List.Sublist.cons_cons | apply List.Sublist.cons))))
end Go.Proofs.YtlhhcongoplfpaaDoor
