/- What functions of this program do, each as a contract that its callers use.
   By an AI agent. -/
import Derived.Test.YtlhhcongoplfpaaDoorAB
import Derived.Test.YtlhhcongoplfpaaDoorLayD
import Derived.Test.YtlhhcongoplfpaaDoorDS10
import Derived.Test.YtlhhcongoplfpaaDoorABW
namespace Go.Proofs.YtlhhcongoplfpaaDoor
open Go Go.Proofs.YtlhhcongoplfpaaDoorAB
variable {G : Nat}
set_option linter.unusedSimpArgs false
set_option linter.unusedVariables false

theorem beq_selfF (b : Bool) : ¬ ((b == b) = false) := by cases b <;> decide
theorem same_of {a b c d : Int} (h1 : a = c) (h2 : b = d) : ¬ (!decide (a = c ∧ b = d)) = true := by simp [h1, h2]
theorem sag_says (c : Cfg) {k1 : Nat} (e : Int) (hc : c.ocA = some ⟨k1, 0, none⟩) (hl : c.ocL = 4) (hV : c.Vmin = 10000) (hO : c.Ohm = 20) (hS : c.SagErr = e) (e1 : 0 ≤ e) (e2 : e ≤ 1000000000) (v a : Int) (h1 : -1000000000 ≤ a) (h2 : a ≤ 1000000000) (v1 : ¬ v < 10000) (v2 : v ≤ 1000000000) :
    Ctr Tryd.prog G 42 [.agg ⟨c.cells⟩, .agg #[I64 (v), .bool true], .agg #[I64 (a), .bool true]] [(k1, .cells ocv 27)] (.tuple #[.agg #[I64 (hLo 4 oX oY (v + dn (a * 20) 1000 - e) (v + up (a * 20) 1000 + e)), I64 (hHi 4 oX oY (v + dn (a * 20) 1000 - e) (v + up (a * 20) 1000 + e))], .bool true]) [.cells ocv 27] := by
  have h := sag_Charge (G := G) c (k := k1) (by rw [hl]; exact ocTb) (by rw [hl]; exact ocOk) (fun _ => hc) v a true true hO h1 h2 (by omega) v2 (by omega) (by omega)
  have hn : ¬ v < c.Vmin := by rw [hV]; exact v1
  have x1 : sLo c oX oY v a true true = hLo 4 oX oY (v + dn (a * 20) 1000 - e) (v + up (a * 20) 1000 + e) := by
    unfold sLo; rw [if_pos ⟨rfl, rfl, hn⟩, hl, hS]
  have x2 : sHi c oX oY v a true true = hHi 4 oX oY (v + dn (a * 20) 1000 - e) (v + up (a * 20) 1000 + e) := by
    unfold sHi; rw [if_pos ⟨rfl, rfl, hn⟩, hl, hS]
  have x3 : sIs c v true true = true := by unfold sIs; exact decide_eq_true ⟨rfl, rfl, hn⟩
  rw [x1, x2, x3] at h
  exact h
theorem sag_none (c : Cfg) {k1 : Nat} (hc : c.ocA = some ⟨k1, 0, none⟩) (hl : c.ocL = 4) (hV : c.Vmin = 10000) (hO : c.Ohm = 20) (e1 : 0 ≤ c.SagErr) (e2 : c.SagErr ≤ 1000000000) (v a : Int) (p q : Bool) (h1 : -1000000000 ≤ a) (h2 : a ≤ 1000000000) (v1 : -1000000000 ≤ v) (v2 : v ≤ 1000000000) (hn : ¬ (p = true ∧ q = true ∧ ¬ v < 10000)) :
    Ctr Tryd.prog G 42 [.agg ⟨c.cells⟩, .agg #[I64 (v), .bool p], .agg #[I64 (a), .bool q]] [(k1, .cells ocv 27)] (.tuple #[.agg #[I64 (0), I64 (0)], .bool false]) [.cells ocv 27] := by
  have h := sag_Charge (G := G) c (k := k1) (by rw [hl]; exact ocTb) (by rw [hl]; exact ocOk) (fun _ => hc) v a p q hO h1 h2 v1 v2 e1 e2
  rw [← hV] at hn
  have x1 : sLo c oX oY v a p q = 0 := by unfold sLo; rw [if_neg hn]
  have x2 : sHi c oX oY v a p q = 0 := by unfold sHi; rw [if_neg hn]
  have x3 : sIs c v p q = false := by unfold sIs; exact decide_eq_false hn
  rw [x1, x2, x3] at h
  exact h

set_option maxHeartbeats 8000000 in
theorem first19 (u : Unit) : Ctr Tryd.prog G 40 [] [] (.bool true) [] := by
  obtain ⟨fa, fl, fc, hmk⟩ := make_ConfigL (G := G) 0 0 0
  refine Ctr.by layOk Tryd.func40 Tryd.ntmps40 rfl rfl rfl rfl rfl ?_
  repeat' (first
    | (((first | (with_reducible refine gQ0 ?_) | ((with_reducible refine gQ1 ?_ ?_); (focus (exact wg (r := true) rfl rfl rfl rfl rfl rfl)))); (first | ((with_reducible apply q_box (k := ks _)); exact rfl; (focus (repeat (first | with_reducible apply lh | with_reducible apply lt))); exact rfl) | ((with_reducible apply q_alloc (k := ks _) layOk); exact rfl; (focus (repeat (first | with_reducible apply lh | with_reducible apply lt))); exact rfl) | ((with_reducible apply q_move); exact rfl) | ((with_reducible apply q_assign); exact rfl) | ((with_reducible apply q_int); exact rfl; exact rfl; exact rfl) | ((with_reducible apply q_nilCheck); exact rfl) | ((with_reducible apply q_fa layOk); exact rfl; exact rfl; exact rfl; exact rfl; exact rfl) | ((with_reducible apply q_load layOk); exact rfl; exact rfl; exact rfl; (focus (repeat (first | with_reducible apply lh | with_reducible apply lt))); (focus (exact rfl))) | ((with_reducible apply q_loadr layOk); exact rfl; exact rfl; exact rfl; (focus (repeat (first | with_reducible apply lh | with_reducible apply lt))); (focus (exact rfl))) | ((with_reducible apply q_build layOk); exact rfl; exact rfl; exact rfl; exact rfl) | ((with_reducible apply q_min); exact rfl) | ((with_reducible apply q_max); exact rfl) | ((with_reducible apply q_neg); exact rfl) | ((with_reducible apply q_not); exact rfl) | ((with_reducible apply q_box (k := ks _)); exact rfl; (focus (repeat (first | with_reducible apply lh | with_reducible apply lt))); exact rfl) | ((with_reducible apply q_alloc (k := ks _) layOk); exact rfl; (focus (repeat (first | with_reducible apply lh | with_reducible apply lt))); exact rfl) | ((with_reducible apply q_pick_t); exact rfl; exact rfl) | ((with_reducible apply q_pick_f); exact rfl; exact rfl) | ((with_reducible apply q_extract); exact rfl; exact rfl) | ((with_reducible apply q_beq); (focus (with_reducible exact Tryd.underlying4)); exact rfl; exact rfl) | (refine q_call2 rfl (hmk (ks 0) (ks 1)) (by first | (focus ((repeat (first | with_reducible apply lh | with_reducible apply lt)); done)) | (focus (apply lx; (focus (repeat (first | with_reducible apply lh | with_reducible apply lt))); exact rfl))) (by first | (focus ((repeat (first | with_reducible apply lh | with_reducible apply lt)); done)) | (focus (apply lx; (focus (repeat (first | with_reducible apply lh | with_reducible apply lt))); exact rfl))) (by decide) (by exact rfl) ?_) | (refine q_call1r rfl (sag_none (cfgOf 0 0 0 (some ⟨_, 0, none⟩) (fa _) fl fc) rfl rfl rfl rfl (by show (0 : Int) ≤ 100; decide) (by show (100 : Int) ≤ 1000000000; decide) 0 0 false false (by decide) (by decide) (by decide) (by decide) (by decide)) (by first | (focus ((repeat (first | with_reducible apply lh | with_reducible apply lt)); done)) | (focus (apply lx; (focus (repeat (first | with_reducible apply lh | with_reducible apply lt))); exact rfl))) ?_) | (refine q_call0 rfl (sag_Rest (cfgOf 0 0 0 (some ⟨_, 0, none⟩) (fa _) fl fc) 100 0 rfl (by decide) (by decide) (by decide) (by decide) (by show (0 : Int) ≤ 100; decide) (by show (100 : Int) ≤ 1000000000; decide)) ?_) | ((with_reducible apply e_store layOk); exact rfl; exact rfl; exact rfl; (focus (repeat (first | with_reducible apply lh | with_reducible apply lt))); exact rfl; exact rfl; exact rfl; (focus (exact rfl)); exact rfl) | (refine e_call2 rfl (hmk (ks 0) (ks 1)) (by first | (focus ((repeat (first | with_reducible apply lh | with_reducible apply lt)); done)) | (focus (apply lx; (focus (repeat (first | with_reducible apply lh | with_reducible apply lt))); exact rfl))) (by first | (focus ((repeat (first | with_reducible apply lh | with_reducible apply lt)); done)) | (focus (apply lx; (focus (repeat (first | with_reducible apply lh | with_reducible apply lt))); exact rfl))) (by decide) (by exact rfl) ?_) | (refine e_call1r rfl (sag_none (cfgOf 0 0 0 (some ⟨_, 0, none⟩) (fa _) fl fc) rfl rfl rfl rfl (by show (0 : Int) ≤ 100; decide) (by show (100 : Int) ≤ 1000000000; decide) 0 0 false false (by decide) (by decide) (by decide) (by decide) (by decide)) (by first | (focus ((repeat (first | with_reducible apply lh | with_reducible apply lt)); done)) | (focus (apply lx; (focus (repeat (first | with_reducible apply lh | with_reducible apply lt))); exact rfl))) ?_) | (refine e_call0 rfl (sag_Rest (cfgOf 0 0 0 (some ⟨_, 0, none⟩) (fa _) fl fc) 100 0 rfl (by decide) (by decide) (by decide) (by decide) (by show (0 : Int) ≤ 100; decide) (by show (100 : Int) ≤ 1000000000; decide)) ?_))))
    | (((with_reducible refine gR ?_); (first | refine RK.peelN rfl ?_ | refine RK.donef rfl ⟨_, rfl, ?_⟩ | refine RK.donet rfl (by kernel_rfl) ⟨_, rfl, ?_⟩)))
    | ((first | (with_reducible refine gQv ?_ ?_) | (with_reducible refine gQe ?_ ?_)); (focus (first | exact wg (r := false) rfl rfl rfl rfl rfl rfl | exact wz rfl rfl rfl rfl)))
    | ((with_reducible refine gK ?_); ((first | refine RKo.gsplitD rfl rfl rfl rfl (fun hc => ?_) (fun hc => ?_) | refine RKo.gsplitE rfl rfl rfl rfl (fun hc => ?_) (fun hc => ?_) | refine RKo.gsplitN rfl rfl rfl rfl (fun hc => ?_) (fun hc => ?_) | refine RKo.gsplit rfl rfl rfl rfl (fun hc => ?_) (fun hc => ?_)) <;> (first | with_reducible exact ff hc | with_reducible exact ff' hc | exact absurd hc (by decide) | exact absurd (show (100 : Int) + dn (0 * 20) 1000 - 100 = 0 by decide) hc | exact absurd (show (100 : Int) + up (0 * 20) 1000 + 100 = 200 by decide) hc | skip)))
    | (((with_reducible refine gW ?_); (first | with_reducible refine WP.seq ?_ | refine WP.reg mixed (fun ks => _) (fun ks => rfl) (fun ks => ?_) | ((first | refine WP.condD rfl (fun hc => ?_) (fun hc => ?_) | refine WP.condE rfl (fun hc => ?_) (fun hc => ?_) | refine WP.condN rfl (fun hc => ?_) (fun hc => ?_) | refine WP.condA rfl (fun hc => ?_) (fun hc => ?_)) <;> (first | with_reducible exact ff hc | with_reducible exact ff' hc | exact absurd hc (by decide) | exact absurd (show (100 : Int) + dn (0 * 20) 1000 - 100 = 0 by decide) hc | exact absurd (show (100 : Int) + up (0 * 20) 1000 + 100 = 200 by decide) hc | skip)) | refine WP.ret ?_ | refine WP.skip ?_ | refine WP.exit ?_ | refine WP.goto ?_ | refine WP.label ?_ | refine WP.block ?_)))
    | (with_reducible refine thn_n ?_)
    | (with_reducible refine thn_r ?_)
    | (with_reducible refine thn_e ?_)
    | (with_reducible refine thn_g ?_)
    | (with_reducible refine blk_n ?_)
    | (with_reducible refine blk_r ?_)
    | (with_reducible refine blk_e ?_)
    | (with_reducible refine blk_g ?_)
    | (((with_reducible refine blk_o ?_ ?_); first | exact rfl | skip))
    | (refine Endz.mk' (by first | exact Or.inl rfl | exact Or.inr rfl) (by repeat (first | exact RVs.nil | apply RVs.cons | exact RV1.tmp rfl | exact RV1.row rfl rfl rfl (by repeat (first | exact look_here | apply look_there)) (by exact rfl) | exact RV1.cell rfl rfl rfl (by repeat (first | exact look_here | apply look_there)) (by exact rfl))) (by first | rfl | exact congrArg Value.bool (show decide ((100 : Int) + up (0 * 20) 1000 + 100 = 200) = true by decide)) (by repeat (first | exact List.nil_sublist _ | exact List.Sublist.refl _ | apply List.Sublist.cons_cons | apply List.Sublist.cons))))
end Go.Proofs.YtlhhcongoplfpaaDoor
