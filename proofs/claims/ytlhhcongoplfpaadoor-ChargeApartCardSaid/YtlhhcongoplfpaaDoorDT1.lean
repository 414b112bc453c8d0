/- What functions of this program do, each as a contract that its callers use.
   By an AI agent. -/
import Derived.Test.YtlhhcongoplfpaaDoorAB
import Derived.Test.YtlhhcongoplfpaaDoorLayD
import Derived.Test.YtlhhcongoplfpaaDoorDS7
import Derived.Test.YtlhhcongoplfpaaDoorDS12
import Derived.Test.YtlhhcongoplfpaaDoorABW
namespace Go.Proofs.YtlhhcongoplfpaaDoor
open Go Go.Proofs.YtlhhcongoplfpaaDoorAB
variable {G : Nat}
set_option linter.unusedSimpArgs false
set_option linter.unusedVariables false

theorem tb2 (a b c d : Int) (ty : TypeId) : Tb (.cells [I64 a, I64 b, I64 c, I64 d] ty) 0 2 (PX [(a, b), (c, d)]) (PY [(a, b), (c, d)]) := by
  refine ⟨fun i h => ?_, fun i h => ?_, fun i h => ?_⟩ <;> (match i, h with
    | 0, _ => rfl
    | 1, _ => rfl)
theorem tb3 (a b c d e f : Int) (ty : TypeId) : Tb (.cells [I64 a, I64 b, I64 c, I64 d, I64 e, I64 f] ty) 0 3 (PX [(a, b), (c, d), (e, f)]) (PY [(a, b), (c, d), (e, f)]) := by
  refine ⟨fun i h => ?_, fun i h => ?_, fun i h => ?_⟩ <;> (match i, h with
    | 0, _ => rfl
    | 1, _ => rfl
    | 2, _ => rfl)
theorem ok2 {a b c d : Int} (h1 : -10000000 ≤ a) (h2 : a < c) (h3 : c ≤ 10000000) (h4 : -10000000 ≤ b) (h5 : b ≤ d) (h6 : d ≤ 10000000) : TOk 2 (PX [(a, b), (c, d)]) (PY [(a, b), (c, d)]) := by
  refine ⟨by decide, by decide, fun i h => ?_, fun i h => ?_, fun i h => ?_, fun i h => ?_, fun i h => ?_, fun i h => ?_⟩
  · match i, h with
    | 0, _ => show -1073741824 ≤ a; omega
    | 1, _ => show -1073741824 ≤ c; omega
  · match i, h with
    | 0, _ => show a ≤ 1073741824; omega
    | 1, _ => show c ≤ 1073741824; omega
  · match i, h with
    | 0, _ => show -1073741824 ≤ b; omega
    | 1, _ => show -1073741824 ≤ d; omega
  · match i, h with
    | 0, _ => show b ≤ 1073741824; omega
    | 1, _ => show d ≤ 1073741824; omega
  · match i, h with
    | 0, _ => exact h2
    | 1, h => omega
  · match i, h with
    | 0, _ => exact h5
    | 1, h => omega
theorem ok3 {a b c d e f : Int} (h1 : -10000000 ≤ a) (h2 : a < c) (h2' : c < e) (h3 : e ≤ 10000000) (h4 : -10000000 ≤ b) (h5 : b ≤ d) (h5' : d ≤ f) (h6 : f ≤ 10000000) : TOk 3 (PX [(a, b), (c, d), (e, f)]) (PY [(a, b), (c, d), (e, f)]) := by
  refine ⟨by decide, by decide, fun i h => ?_, fun i h => ?_, fun i h => ?_, fun i h => ?_, fun i h => ?_, fun i h => ?_⟩
  · match i, h with
    | 0, _ => show -1073741824 ≤ a; omega
    | 1, _ => show -1073741824 ≤ c; omega
    | 2, _ => show -1073741824 ≤ e; omega
  · match i, h with
    | 0, _ => show a ≤ 1073741824; omega
    | 1, _ => show c ≤ 1073741824; omega
    | 2, _ => show e ≤ 1073741824; omega
  · match i, h with
    | 0, _ => show -1073741824 ≤ b; omega
    | 1, _ => show -1073741824 ≤ d; omega
    | 2, _ => show -1073741824 ≤ f; omega
  · match i, h with
    | 0, _ => show b ≤ 1073741824; omega
    | 1, _ => show d ≤ 1073741824; omega
    | 2, _ => show f ≤ 1073741824; omega
  · match i, h with
    | 0, _ => exact h2
    | 1, _ => exact h2'
    | 2, h => omega
  · match i, h with
    | 0, _ => exact h5
    | 1, _ => exact h5'
    | 2, h => omega
theorem first3_law : tLo 2 (PX [(0, 0), (2, 1)]) (PY [(0, 0), (2, 1)]) 1 = 0 ∧ tHi 2 (PX [(0, 0), (2, 1)]) (PY [(0, 0), (2, 1)]) 1 = 1 := by
  have h := (ok2 (a := 0) (b := 0) (c := 2) (d := 1) (by decide) (by decide) (by decide) (by decide) (by decide) (by decide)).seg (i := 0) (x := 1) (by decide) (by decide) (by decide)
  rw [h.1, h.2]; decide
/-- A stair of three points. -/
theorem steps_clean {A W Y U : Int} (a1 : -100000 < A) (a2 : A < 100000) (w1 : 1 ≤ W) (w2 : W ≤ 1000) (y1 : -100000 < Y) (y2 : Y < 100000) (u1 : 1 ≤ U) (p1 : 1 ≤ U * W) (p2 : U * W ≤ 1000000) :
    TOk 3 (PX [(A, Y), (A + W, Y), (A + 2 * W, Y + U * W)]) (PY [(A, Y), (A + W, Y), (A + 2 * W, Y + U * W)]) ∧
    (kLo 3 (PX [(A, Y), (A + W, Y), (A + 2 * W, Y + U * W)]) (PY [(A, Y), (A + W, Y), (A + 2 * W, Y + U * W)]) Y = A ∧ kHi 3 (PX [(A, Y), (A + W, Y), (A + 2 * W, Y + U * W)]) (PY [(A, Y), (A + W, Y), (A + 2 * W, Y + U * W)]) Y = A + W) ∧
    (kLo 3 (PX [(A, Y), (A + W, Y), (A + 2 * W, Y + U * W)]) (PY [(A, Y), (A + W, Y), (A + 2 * W, Y + U * W)]) (Y - 1) = A ∧ kHi 3 (PX [(A, Y), (A + W, Y), (A + 2 * W, Y + U * W)]) (PY [(A, Y), (A + W, Y), (A + 2 * W, Y + U * W)]) (Y - 1) = A) ∧
    (kLo 3 (PX [(A, Y), (A + W, Y), (A + 2 * W, Y + U * W)]) (PY [(A, Y), (A + W, Y), (A + 2 * W, Y + U * W)]) (Y + U * W + 1) = A + 2 * W ∧ kHi 3 (PX [(A, Y), (A + W, Y), (A + 2 * W, Y + U * W)]) (PY [(A, Y), (A + W, Y), (A + 2 * W, Y + U * W)]) (Y + U * W + 1) = A + 2 * W) := by
  have ok := ok3 (a := A) (b := Y) (c := A + W) (d := Y) (e := A + 2 * W) (f := Y + U * W) (by omega) (by omega) (by omega) (by omega) (by omega) (by omega) (by omega) (by omega)
  generalize hX : PX [(A, Y), (A + W, Y), (A + 2 * W, Y + U * W)] = X at ok ⊢
  generalize hY : PY [(A, Y), (A + W, Y), (A + 2 * W, Y + U * W)] = Z at ok ⊢
  have x0 : X 0 = A := by rw [← hX]; rfl
  have x1 : X 1 = A + W := by rw [← hX]; rfl
  have x2 : X (3 - 1) = A + 2 * W := by rw [← hX]; rfl
  have x2' : X (1 + 1) = A + 2 * W := x2
  have z0 : Z 0 = Y := by rw [← hY]; rfl
  have z1 : Z 1 = Y := by rw [← hY]; rfl
  have z2 : Z (3 - 1) = Y + U * W := by rw [← hY]; rfl
  have z2' : Z (1 + 1) = Y + U * W := z2
  have l0 := ok.left (x := A) (by omega)
  have s1 := ok.seg (i := 0) (x := A + W) (by decide) (by omega) (by show A + W ≤ X 1; omega)
  have r2 := ok.right (x := A + 2 * W) (by omega)
  have s1' : tLo 3 X Z (A + W) = Y := by
    rw [s1.1]; show Z 0 + dn ((Z 1 - Z 0) * (A + W - X 0)) (X 1 - X 0) = Y
    rw [z0, z1, Int.sub_self, Int.zero_mul, dn_zero]; omega
  have up_ : ∀ x, A + W < x → Y < tLo 3 X Z x := by
    intro x hx
    rcases ltge (A + 2 * W) x with h | h
    · rw [(ok.right (x := x) (by omega)).1, z2]; omega
    · have s := (ok.seg (i := 1) (x := x) (by decide) (by omega) (by omega)).1
      rw [s, z1, z2', x1, x2']
      have e : (Y + U * W - Y) * (x - (A + W)) = (U * (x - (A + W))) * (A + 2 * W - (A + W)) := by
        rw [show Y + U * W - Y = U * W by omega, show A + 2 * W - (A + W) = W by omega, Int.mul_assoc, Int.mul_comm W, ← Int.mul_assoc]
      rw [e, dn_mul (by omega)]
      have : 1 * 1 ≤ U * (x - (A + W)) := Int.mul_le_mul u1 (by omega) (by decide) (by omega)
      omega
  have hB : ∀ {y r s : Int}, bA 3 X Z y = r → bB 3 X Z y = s → r ≤ s → kLo 3 X Z y = r ∧ kHi 3 X Z y = s := by
    intro y r s h1 h2 h3
    unfold kLo kHi; rw [h1, h2, mn_eq, mx_eq]; omega
  refine ⟨ok, hB (ok.bA_of (by omega) (by omega) (fun x h1 h2 => by omega) (fun _ => by rw [l0.2, z0]; exact Int.le_refl _)) (ok.bB_of (by omega) (by omega) (fun x h1 _ => up_ x h1) (fun _ => by rw [s1']; exact Int.le_refl _)) (by omega),
    hB (ok.bA_of (by omega) (by omega) (fun x h1 h2 => by omega) (fun _ => by rw [l0.2, z0]; omega)) (ok.bB_of (by omega) (by omega) (fun x h1 _ => by have := ok.lo0 x; omega) (fun h => by omega)) (by omega),
    hB (ok.bA_of (by omega) (by omega) (fun x h1 h2 => by have := ok.hi1 x; omega) (fun h => by omega)) (ok.bB_of (by omega) (by omega) (fun x h1 h2 => by omega) (fun _ => by rw [r2.1, z2]; omega)) (by omega)⟩
set_option maxHeartbeats 4000000 in
theorem first3 (u : Unit) : Ctr Tryd.prog G 27 [] [] (.bool true) [] := by
  refine Ctr.by layOk Tryd.func27 Tryd.ntmps27 rfl rfl rfl rfl rfl ?_
  repeat' (first
    | (((first | (with_reducible refine gQ0 ?_) | ((with_reducible refine gQ1 ?_ ?_); (focus (exact wg (r := true) rfl rfl rfl rfl rfl rfl)))); (first | ((with_reducible apply q_box (k := ks _)); exact rfl; (focus (repeat (first | with_reducible apply lh | with_reducible apply lt))); exact rfl) | ((with_reducible apply q_alloc (k := ks _) layOk); exact rfl; (focus (repeat (first | with_reducible apply lh | with_reducible apply lt))); exact rfl) | ((with_reducible apply q_buildS (k := ks _) layOk); exact rfl; exact rfl; exact rfl; exact rfl; exact rfl; exact rfl; exact rfl; exact rfl; (focus (repeat (first | with_reducible apply lh | with_reducible apply lt))); exact rfl) | ((with_reducible apply q_move); exact rfl) | ((with_reducible apply q_assign); exact rfl) | ((with_reducible apply q_int); exact rfl; exact rfl; exact rfl) | ((with_reducible apply q_nilCheck); exact rfl) | ((with_reducible apply q_fa layOk); exact rfl; exact rfl; exact rfl; exact rfl; exact rfl) | ((with_reducible apply q_load layOk); exact rfl; exact rfl; exact rfl; (focus (repeat (first | with_reducible apply lh | with_reducible apply lt))); (focus (exact rfl))) | ((with_reducible apply q_loadr layOk); exact rfl; exact rfl; exact rfl; (focus (repeat (first | with_reducible apply lh | with_reducible apply lt))); (focus (exact rfl))) | ((with_reducible apply q_build layOk); exact rfl; exact rfl; exact rfl; exact rfl) | ((with_reducible apply q_min); exact rfl) | ((with_reducible apply q_max); exact rfl) | ((with_reducible apply q_neg); exact rfl) | ((with_reducible apply q_not); exact rfl) | ((with_reducible apply q_box (k := ks _)); exact rfl; (focus (repeat (first | with_reducible apply lh | with_reducible apply lt))); exact rfl) | ((with_reducible apply q_alloc (k := ks _) layOk); exact rfl; (focus (repeat (first | with_reducible apply lh | with_reducible apply lt))); exact rfl) | ((with_reducible apply q_pick_t); exact rfl; exact rfl) | ((with_reducible apply q_pick_f); exact rfl; exact rfl) | (refine q_call1r rfl (table_At (cap := 2) (tb2 0 0 2 1 27) (ok2 (by decide) (by decide) (by decide) (by decide) (by decide) (by decide)) (fun _ => rfl) 1) (by first | (focus ((repeat (first | with_reducible apply lh | with_reducible apply lt)); done)) | (focus (apply lx; (focus (repeat (first | with_reducible apply lh | with_reducible apply lt))); exact rfl))) ?_) | ((with_reducible apply e_store layOk); exact rfl; exact rfl; exact rfl; (focus (repeat (first | with_reducible apply lh | with_reducible apply lt))); exact rfl; exact rfl; exact rfl; (focus (exact rfl)); exact rfl) | (refine e_call1r rfl (table_At (cap := 2) (tb2 0 0 2 1 27) (ok2 (by decide) (by decide) (by decide) (by decide) (by decide) (by decide)) (fun _ => rfl) 1) (by first | (focus ((repeat (first | with_reducible apply lh | with_reducible apply lt)); done)) | (focus (apply lx; (focus (repeat (first | with_reducible apply lh | with_reducible apply lt))); exact rfl))) ?_))))
    | (((with_reducible refine gR ?_); (first | refine RK.peelN rfl ?_ | refine RK.donef rfl ⟨_, rfl, ?_⟩ | refine RK.donet rfl (by kernel_rfl) ⟨_, rfl, ?_⟩)))
    | ((first | (with_reducible refine gQv ?_ ?_) | (with_reducible refine gQe ?_ ?_)); (focus (first | exact wg (r := false) rfl rfl rfl rfl rfl rfl | exact wz rfl rfl rfl rfl)))
    | ((with_reducible refine gK ?_); ((first | refine RKo.gsplitD rfl rfl rfl rfl (fun hc => ?_) (fun hc => ?_) | refine RKo.gsplitE rfl rfl rfl rfl (fun hc => ?_) (fun hc => ?_) | refine RKo.gsplitN rfl rfl rfl rfl (fun hc => ?_) (fun hc => ?_) | refine RKo.gsplit rfl rfl rfl rfl (fun hc => ?_) (fun hc => ?_)) <;> (first | with_reducible exact ff hc | with_reducible exact ff' hc | with_reducible exact absurd first3_law.1 hc | with_reducible exact absurd first3_law.2 hc | skip)))
    | (((with_reducible refine gW ?_); (first | with_reducible refine WP.seq ?_ | refine WP.reg mixed (fun ks => _) (fun ks => rfl) (fun ks => ?_) | ((first | refine WP.condD rfl (fun hc => ?_) (fun hc => ?_) | refine WP.condE rfl (fun hc => ?_) (fun hc => ?_) | refine WP.condN rfl (fun hc => ?_) (fun hc => ?_) | refine WP.condA rfl (fun hc => ?_) (fun hc => ?_)) <;> (first | with_reducible exact ff hc | with_reducible exact ff' hc | with_reducible exact absurd first3_law.1 hc | with_reducible exact absurd first3_law.2 hc | skip)) | refine WP.ret ?_ | refine WP.skip ?_ | refine WP.exit ?_ | refine WP.goto ?_ | refine WP.label ?_ | refine WP.block ?_)))
    | (with_reducible refine thn_n ?_)
    | (with_reducible refine thn_r ?_)
    | (with_reducible refine thn_e ?_)
    | (with_reducible refine thn_g ?_)
    | (with_reducible refine blk_n ?_)
    | (with_reducible refine blk_r ?_)
    | (with_reducible refine blk_e ?_)
    | (with_reducible refine blk_g ?_)
    | (((with_reducible refine blk_o ?_ ?_); first | exact rfl | skip))
    | (refine Endz.mk' (by first | exact Or.inl rfl | exact Or.inr rfl) (by repeat (first | exact RVs.nil | apply RVs.cons | exact RV1.tmp rfl | exact RV1.row rfl rfl rfl (by repeat (first | exact look_here | apply look_there)) (by exact rfl) | exact RV1.cell rfl rfl rfl (by repeat (first | exact look_here | apply look_there)) (by exact rfl))) (by first | rfl | exact congrArg Value.bool (by rw [first3_law.2]; rfl) | exact congrArg Value.bool (decide_eq_true first3_law.2)) (by repeat (first | exact List.nil_sublist _ | exact List.Sublist.refl _ | apply List.Sublist.cons_cons | apply List.Sublist.cons))))
end Go.Proofs.YtlhhcongoplfpaaDoor
