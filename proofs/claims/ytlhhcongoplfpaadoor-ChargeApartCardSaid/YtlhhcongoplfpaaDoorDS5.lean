/- What functions of this program do, each as a contract that its callers use.
   By an AI agent. -/
import Derived.Test.YtlhhcongoplfpaaDoorAB
import Derived.Test.YtlhhcongoplfpaaDoorLayD
import Derived.Test.YtlhhcongoplfpaaDoorDS3
import Derived.Test.YtlhhcongoplfpaaDoorABT
namespace Go.Proofs.YtlhhcongoplfpaaDoor
open Go Go.Proofs.YtlhhcongoplfpaaDoorAB
variable {G : Nat}
set_option linter.unusedSimpArgs false
set_option linter.unusedVariables false

theorem mn_self (v : Int) : mn v v = v := by unfold mn; simp
theorem mx_self (v : Int) : mx v v = v := by unfold mx; simp
section
variable {n k : Nat} {X Y : Nat → Int} {x : Int}
theorem at1 (inv : fkA X x (n - k) k = fkA X x n 0) (h : k = n) : Value.agg #[.int .i64 (mn (Y (k - 1)) (Y (k - 1))), .int .i64 (mx (Y (k - 1)) (Y (k - 1)))] = .agg #[.int .i64 (tLo n X Y x), .int .i64 (tHi n X Y x)] := by
  subst h
  have e : fkA X x k 0 = k := by rw [← inv, Nat.sub_self]; rfl
  rw [mn_self, mx_self]
  refine agg2_eq ?_ ?_
  · unfold tLo; rw [e]; dsimp only; rw [if_pos rfl]
  · unfold tHi; rw [e]; dsimp only; rw [if_pos rfl]
theorem at_k (inv : fkA X x (n - k) k = fkA X x n 0) (h : k < n) (h2 : ¬ X k < x) : fkA X x n 0 = k := by
  rw [← inv]
  obtain ⟨m, hm⟩ : ∃ m, n - k = m + 1 := ⟨n - k - 1, by omega⟩
  rw [hm]; unfold fkA; rw [if_neg h2]
theorem at2 (inv : fkA X x (n - k) k = fkA X x n 0) (h : k < n) (h2 : ¬ X k < x) (h3 : k = 0 ∨ X k = x) : Value.agg #[.int .i64 (mn (Y k) (Y k)), .int .i64 (mx (Y k) (Y k))] = .agg #[.int .i64 (tLo n X Y x), .int .i64 (tHi n X Y x)] := by
  have e := at_k inv h h2
  rw [mn_self, mx_self]
  refine agg2_eq ?_ ?_
  · unfold tLo; rw [e]; dsimp only; rw [if_neg (show ¬ k = n by omega), if_pos h3]
  · unfold tHi; rw [e]; dsimp only; rw [if_neg (show ¬ k = n by omega), if_pos h3]
theorem at_next (inv : fkA X x (n - k) k = fkA X x n 0) (h : k < n) (h2 : X k < x) : fkA X x (n - (k + 1)) (k + 1) = fkA X x n 0 := by
  rw [← inv]
  obtain ⟨m, hm⟩ : ∃ m, n - k = m + 1 := ⟨n - k - 1, by omega⟩
  rw [hm, show n - (k + 1) = m by omega]
  conv => rhs; unfold fkA
  rw [if_pos h2]
theorem at_in (ok : TOk n X Y) (inv : fkA X x (n - k) k = fkA X x n 0) (h : k < n) (h2 : ¬ X k < x) (h3 : ¬ (k = 0 ∨ X k = x)) :
    IntKind.i64.wrap (IntKind.i64.wrap (Y k - Y (k - 1)) * IntKind.i64.wrap (x - X (k - 1))) = (Y k - Y (k - 1)) * (x - X (k - 1)) ∧ IntKind.i64.wrap (X k - X (k - 1)) = X k - X (k - 1) ∧
    1 ≤ X k - X (k - 1) ∧ 0 ≤ (Y k - Y (k - 1)) * (x - X (k - 1)) ∧ (Y k - Y (k - 1)) * (x - X (k - 1)) ≤ 4611686018427387904 ∧ (Y k - Y (k - 1)) * (x - X (k - 1)) ≤ (Y k - Y (k - 1)) * (X k - X (k - 1)) ∧ X (k - 1) < x := by
  have e := at_k inv h h2
  obtain ⟨a, b, c, d⟩ := fkA_spec (X := X) (x := x) (m := n) (k := 0)
  rw [e] at a b c d
  have hx := c (k - 1) (by omega) (by omega)
  have y0 := ok.ys (k - 1) (by omega)
  have x0 := ok.xs (k - 1) (by omega)
  rw [show k - 1 + 1 = k by omega] at y0 x0
  have b1 := ok.y1 (k - 1) (by omega); have b2 := ok.y2 k h
  have b3 := ok.x1 (k - 1) (by omega); have b4 := ok.x2 k h
  have w1 : IntKind.i64.wrap (Y k - Y (k - 1)) = Y k - Y (k - 1) := wrap_in (by omega) (by omega)
  have w2 : IntKind.i64.wrap (x - X (k - 1)) = x - X (k - 1) := wrap_in (by omega) (by omega)
  have w3 : IntKind.i64.wrap (X k - X (k - 1)) = X k - X (k - 1) := wrap_in (by omega) (by omega)
  have p0 : 0 ≤ (Y k - Y (k - 1)) * (x - X (k - 1)) := Int.mul_nonneg (by omega) (by omega)
  have p1 : (Y k - Y (k - 1)) * (x - X (k - 1)) ≤ 2147483648 * 2147483648 := Int.mul_le_mul (by omega) (by omega) (by omega) (by omega)
  have p2 : (Y k - Y (k - 1)) * (x - X (k - 1)) ≤ (Y k - Y (k - 1)) * (X k - X (k - 1)) := Int.mul_le_mul_of_nonneg_left (by omega) (by omega)
  rw [w1, w2, w3]
  exact ⟨wrap_in (by omega) (by omega), rfl, by omega, p0, by omega, p2, hx⟩
theorem at3 (ok : TOk n X Y) (inv : fkA X x (n - k) k = fkA X x n 0) (h : k < n) (h2 : ¬ X k < x) (h3 : ¬ (k = 0 ∨ X k = x)) :
    Value.agg #[.int .i64 (IntKind.i64.wrap (Y (k - 1) + dn (IntKind.i64.wrap (IntKind.i64.wrap (Y k - Y (k - 1)) * IntKind.i64.wrap (x - X (k - 1)))) (IntKind.i64.wrap (X k - X (k - 1))))), .int .i64 (IntKind.i64.wrap (Y (k - 1) + up (IntKind.i64.wrap (IntKind.i64.wrap (Y k - Y (k - 1)) * IntKind.i64.wrap (x - X (k - 1)))) (IntKind.i64.wrap (X k - X (k - 1)))))] = .agg #[.int .i64 (tLo n X Y x), .int .i64 (tHi n X Y x)] := by
  obtain ⟨w1, w2, w3, p0, p1, p2, p3⟩ := at_in ok inv h h2 h3
  have e := at_k inv h h2
  rw [w1, w2]
  have y0 := ok.ys (k - 1) (by omega)
  rw [show k - 1 + 1 = k by omega] at y0
  have b1 := ok.y1 (k - 1) (by omega); have b2 := ok.y2 k h
  have d0 := dn_mono (b := X k - X (k - 1)) (by omega) p0
  have d1 := dn_mono (b := X k - X (k - 1)) (by omega) p2
  have u0 := up_mono (b := X k - X (k - 1)) (by omega) p0
  have u1 := up_mono (b := X k - X (k - 1)) (by omega) p2
  rw [dn_zero] at d0
  rw [up_zero] at u0
  rw [dn_mul (by omega)] at d1
  rw [up_mul (by omega)] at u1
  refine agg2_eq ?_ ?_
  · rw [wrap_in (by omega) (by omega)]
    unfold tLo; rw [e]; dsimp only; rw [if_neg (show ¬ k = n by omega), if_neg h3]
  · rw [wrap_in (by omega) (by omega)]
    unfold tHi; rw [e]; dsimp only; rw [if_neg (show ¬ k = n by omega), if_neg h3]
end

set_option maxHeartbeats 8000000 in
theorem table_at {ob : AObj} {k f n cap : Nat} {X Y : Nat → Int} {a : Option Addr} (tb : Tb ob f n X Y) (ok : TOk n X Y) (ha : 0 < n → a = some ⟨k, f, none⟩) (x : Int) : Ctr Tryd.prog G 82 [.slice a n cap, I64 x] [(k, ob)] (.agg #[I64 (tLo n X Y x), I64 (tHi n X Y x)]) [ob] := by
  have hn2' := ok.n2
  have hn64' := ok.n64
  refine Ctr.by layOk Tryd.func82 Tryd.ntmps82 rfl rfl rfl rfl rfl ?_
  repeat' (first
    | (((with_reducible refine gQ0 ?_); (first | ((with_reducible apply q_move); exact rfl) | ((with_reducible apply q_assign); exact rfl) | ((with_reducible apply q_int); exact rfl; exact rfl; exact rfl) | ((with_reducible apply q_nilCheck); exact rfl) | ((with_reducible apply q_fa layOk); exact rfl; exact rfl; exact rfl; exact rfl; exact rfl) | ((with_reducible apply q_load layOk); exact rfl; exact rfl; exact rfl; (focus (repeat (first | with_reducible apply lh | with_reducible apply lt))); (focus (exact rfl))) | ((with_reducible apply q_loadr layOk); exact rfl; exact rfl; exact rfl; (focus (repeat (first | with_reducible apply lh | with_reducible apply lt))); (focus (exact rfl))) | ((with_reducible apply q_build layOk); exact rfl; exact rfl; exact rfl; exact rfl) | ((with_reducible apply q_min); exact rfl) | ((with_reducible apply q_max); exact rfl) | ((with_reducible apply q_neg); exact rfl) | ((with_reducible apply q_not); exact rfl) | ((with_reducible apply q_box (k := ks _)); exact rfl; (focus (repeat (first | with_reducible apply lh | with_reducible apply lt))); exact rfl) | ((with_reducible apply q_alloc (k := ks _) layOk); exact rfl; (focus (repeat (first | with_reducible apply lh | with_reducible apply lt))); exact rfl) | ((with_reducible apply q_pick_t); exact rfl; exact rfl) | ((with_reducible apply q_pick_f); exact rfl; exact rfl) | ((with_reducible apply q_len layOk); exact rfl; exact rfl; exact rfl; exact rfl) | ((with_reducible apply e_store layOk); exact rfl; exact rfl; exact rfl; (focus (repeat (first | with_reducible apply lh | with_reducible apply lt))); exact rfl; exact rfl; exact rfl; (focus (exact rfl)); exact rfl))))
    | (((with_reducible refine gR ?_); (first | refine RK.peelN rfl ?_ | refine RK.donef rfl ⟨_, rfl, ?_⟩ | refine RK.donet rfl (by kernel_rfl) ⟨_, rfl, ?_⟩)))
    | (((with_reducible refine gW ?_); (first | with_reducible refine WP.seq ?_ | refine WP.reg mixed (fun ks => _) (fun ks => rfl) (fun ks => ?_) | ((first | refine WP.condD rfl (fun hc => ?_) (fun hc => ?_) | refine WP.condE rfl (fun hc => ?_) (fun hc => ?_) | refine WP.condN rfl (fun hc => ?_) (fun hc => ?_) | refine WP.condA rfl (fun hc => ?_) (fun hc => ?_)) <;> (first | with_reducible exact ff hc | with_reducible exact ff' hc | skip)) | refine WP.ret ?_ | refine WP.skip ?_ | refine WP.exit ?_ | refine WP.goto ?_ | refine WP.label ?_ | refine WP.block ?_)))
    | (with_reducible refine thn_n ?_)
    | (with_reducible refine thn_r ?_)
    | (with_reducible refine thn_e ?_)
    | (with_reducible refine thn_g ?_)
    | (with_reducible refine blk_n ?_)
    | (with_reducible refine blk_r ?_)
    | (with_reducible refine blk_e ?_)
    | (with_reducible refine blk_g ?_)
    | (((with_reducible refine blk_o ?_ ?_); first | exact rfl | skip))
    | (refine Endz.mk' (by first | exact Or.inl rfl | exact Or.inr rfl) (by repeat (first | exact RVs.nil | apply RVs.cons | exact RV1.tmp rfl | exact RV1.row rfl rfl rfl (by repeat (first | exact look_here | apply look_there)) (by exact rfl) | exact RV1.cell rfl rfl rfl (by repeat (first | exact look_here | apply look_there)) (by exact rfl))) (by rfl) (by repeat (first | exact List.nil_sublist _ | exact List.Sublist.refl _ | apply List.Sublist.cons_cons | apply List.Sublist.cons))))
  revert ks
  intro r
  refine WP.scopeJ (n := 103) (l0 := 0) (α := Nat) (fun y => [(0, some (.slice a n cap)), (1, some (I64 x)), (4, some (.pointer (some ⟨r 0, 0, none⟩))), (5, some (I64 (y : Int)))])
    (fun y => [(k, ob), (r 0, .cells [I64 0, I64 0] 38)]) (fun y => y ≤ n ∧ fkA X x (n - y) y = fkA X x n 0) (fun y => n - y) (by exact rfl) (fun enter => ?_) (fun i iy => ?_)
  · refine WP.seq ?_
    repeat' (first
      | (((with_reducible refine gQ0 ?_); (first | ((with_reducible apply q_move); exact rfl) | ((with_reducible apply q_assign); exact rfl) | ((with_reducible apply q_int); exact rfl; exact rfl; exact rfl) | ((with_reducible apply q_nilCheck); exact rfl) | ((with_reducible apply q_fa layOk); exact rfl; exact rfl; exact rfl; exact rfl; exact rfl) | ((with_reducible apply q_load layOk); exact rfl; exact rfl; exact rfl; (focus (repeat (first | with_reducible apply lh | with_reducible apply lt))); (focus (exact rfl))) | ((with_reducible apply q_loadr layOk); exact rfl; exact rfl; exact rfl; (focus (repeat (first | with_reducible apply lh | with_reducible apply lt))); (focus (exact rfl))) | ((with_reducible apply q_build layOk); exact rfl; exact rfl; exact rfl; exact rfl) | ((with_reducible apply q_min); exact rfl) | ((with_reducible apply q_max); exact rfl) | ((with_reducible apply q_neg); exact rfl) | ((with_reducible apply q_not); exact rfl) | ((with_reducible apply q_box (k := ks _)); exact rfl; (focus (repeat (first | with_reducible apply lh | with_reducible apply lt))); exact rfl) | ((with_reducible apply q_alloc (k := ks _) layOk); exact rfl; (focus (repeat (first | with_reducible apply lh | with_reducible apply lt))); exact rfl) | ((with_reducible apply q_pick_t); exact rfl; exact rfl) | ((with_reducible apply q_pick_f); exact rfl; exact rfl) | ((with_reducible apply q_len layOk); exact rfl; exact rfl; exact rfl; exact rfl) | ((with_reducible apply e_store layOk); exact rfl; exact rfl; exact rfl; (focus (repeat (first | with_reducible apply lh | with_reducible apply lt))); exact rfl; exact rfl; exact rfl; (focus (exact rfl)); exact rfl))))
      | (((with_reducible refine gR ?_); (first | refine RK.peelN rfl ?_ | refine RK.donef rfl ⟨_, rfl, ?_⟩ | refine RK.donet rfl (by kernel_rfl) ⟨_, rfl, ?_⟩)))
      | (((with_reducible refine gW ?_); (first | refine WP.reg mixed (fun ks => _) (fun ks => rfl) (fun ks => ?_))))
      | (with_reducible refine thn_n ?_)
      | (with_reducible refine thn_r ?_)
      | (with_reducible refine thn_e ?_)
      | (with_reducible refine thn_g ?_)
      | (with_reducible refine blk_n ?_)
      | (with_reducible refine blk_r ?_)
      | (with_reducible refine blk_e ?_)
      | (with_reducible refine blk_g ?_)
      | (((with_reducible refine blk_o ?_ ?_); first | exact rfl | skip))
      | (refine Endz.mk' (by first | exact Or.inl rfl | exact Or.inr rfl) (by repeat (first | exact RVs.nil | apply RVs.cons | exact RV1.tmp rfl | exact RV1.row rfl rfl rfl (by repeat (first | exact look_here | apply look_there)) (by exact rfl) | exact RV1.cell rfl rfl rfl (by repeat (first | exact look_here | apply look_there)) (by exact rfl))) (by rfl) (by repeat (first | exact List.nil_sublist _ | exact List.Sublist.refl _ | apply List.Sublist.cons_cons | apply List.Sublist.cons))))
    exact WP.seq (WP.label (thn_n (enter _ _ 0 ⟨Nat.zero_le _, rfl⟩ (Wk.of ⟨rfl, rfl, rfl, rfl, trivial⟩ (by repeat (first | exact List.nil_sublist _ | exact List.Sublist.refl _ | apply List.Sublist.cons_cons | apply List.Sublist.cons))))))
  obtain ⟨hi, inv⟩ := iy
  by_cases hlt : i < n
  · have hlt' : (i : Int) < (n : Int) := by omega
    have hne : ¬ (i : Int) = (n : Int) := by omega
    by_cases hx : X i < x
    · 
      repeat' (first
        | (with_reducible refine jmp_n ?_)
        | (with_reducible refine jmp_r ?_)
        | (with_reducible refine jmp_e ?_)
        | (((first | (with_reducible refine gQ0 ?_) | ((with_reducible refine gQ1 ?_ ?_); (focus (exact wg (r := true) rfl rfl rfl rfl rfl rfl)))); (first | ((with_reducible apply q_loadr layOk); exact rfl; exact rfl; exact rfl; (focus (repeat (first | with_reducible apply lh | with_reducible apply lt))); exact (tb.seg _ hlt)) | ((with_reducible apply q_load layOk); exact rfl; exact rfl; exact rfl; (focus (repeat (first | with_reducible apply lh | with_reducible apply lt))); exact (tb.ax _ hlt)) | ((with_reducible apply q_load layOk); exact rfl; exact rfl; exact rfl; (focus (repeat (first | with_reducible apply lh | with_reducible apply lt))); exact (tb.ay _ hlt)) | ((with_reducible apply q_loadr layOk); exact rfl; exact rfl; exact rfl; (focus (repeat (first | with_reducible apply lh | with_reducible apply lt))); exact (tb.seg _ hl1)) | ((with_reducible apply q_load layOk); exact rfl; exact rfl; exact rfl; (focus (repeat (first | with_reducible apply lh | with_reducible apply lt))); exact (tb.ax _ hl1)) | ((with_reducible apply q_load layOk); exact rfl; exact rfl; exact rfl; (focus (repeat (first | with_reducible apply lh | with_reducible apply lt))); exact (tb.ay _ hl1)) | ((with_reducible apply q_idxN layOk); exact rfl; exact rfl; exact rfl; exact rfl; exact ha; exact rfl; exact hlt) | ((with_reducible apply q_idxN layOk); exact rfl; exact rfl; exact rfl; exact rfl; exact ha; exact hk1; exact hl1) | ((with_reducible apply q_move); exact rfl) | ((with_reducible apply q_assign); exact rfl) | ((with_reducible apply q_int); exact rfl; exact rfl; exact rfl) | ((with_reducible apply q_nilCheck); exact rfl) | ((with_reducible apply q_fa layOk); exact rfl; exact rfl; exact rfl; exact rfl; exact rfl) | ((with_reducible apply q_load layOk); exact rfl; exact rfl; exact rfl; (focus (repeat (first | with_reducible apply lh | with_reducible apply lt))); (focus (exact rfl))) | ((with_reducible apply q_loadr layOk); exact rfl; exact rfl; exact rfl; (focus (repeat (first | with_reducible apply lh | with_reducible apply lt))); (focus (exact rfl))) | ((with_reducible apply q_build layOk); exact rfl; exact rfl; exact rfl; exact rfl) | ((with_reducible apply q_min); exact rfl) | ((with_reducible apply q_max); exact rfl) | ((with_reducible apply q_neg); exact rfl) | ((with_reducible apply q_not); exact rfl) | ((with_reducible apply q_box (k := ks _)); exact rfl; (focus (repeat (first | with_reducible apply lh | with_reducible apply lt))); exact rfl) | ((with_reducible apply q_alloc (k := ks _) layOk); exact rfl; (focus (repeat (first | with_reducible apply lh | with_reducible apply lt))); exact rfl) | ((with_reducible apply q_pick_t); exact rfl; exact rfl) | ((with_reducible apply q_pick_f); exact rfl; exact rfl) | ((with_reducible apply q_len layOk); exact rfl; exact rfl; exact rfl; exact rfl) | ((with_reducible apply e_store layOk); exact rfl; exact rfl; exact rfl; (focus (repeat (first | with_reducible apply lh | with_reducible apply lt))); exact rfl; exact rfl; exact rfl; (focus (exact rfl)); exact rfl))))
        | (((with_reducible refine gR ?_); (first | refine RK.peelN rfl ?_ | refine RK.donef rfl ⟨_, rfl, ?_⟩ | refine RK.donet rfl (by kernel_rfl) ⟨_, rfl, ?_⟩)))
        | ((first | (with_reducible refine gQv ?_ ?_) | (with_reducible refine gQe ?_ ?_)); (focus (first | exact wg (r := false) rfl rfl rfl rfl rfl rfl | exact wz rfl rfl rfl rfl)))
        | ((with_reducible refine gK ?_); ((first | refine RKo.gsplitD rfl rfl rfl rfl (fun hc => ?_) (fun hc => ?_) | refine RKo.gsplitE rfl rfl rfl rfl (fun hc => ?_) (fun hc => ?_) | refine RKo.gsplitN rfl rfl rfl rfl (fun hc => ?_) (fun hc => ?_) | refine RKo.gsplit rfl rfl rfl rfl (fun hc => ?_) (fun hc => ?_)) <;> (first | with_reducible exact ff hc | with_reducible exact ff' hc | with_reducible exact absurd hc hlt' | with_reducible exact absurd hc hx | with_reducible exact absurd hlt' hc | with_reducible exact absurd hx hc | skip)))
        | (((with_reducible refine gW ?_); (first | with_reducible refine WP.seq ?_ | refine WP.reg mixed (fun ks => _) (fun ks => rfl) (fun ks => ?_) | ((first | refine WP.condD rfl (fun hc => ?_) (fun hc => ?_) | refine WP.condE rfl (fun hc => ?_) (fun hc => ?_) | refine WP.condN rfl (fun hc => ?_) (fun hc => ?_) | refine WP.condA rfl (fun hc => ?_) (fun hc => ?_)) <;> (first | with_reducible exact ff hc | with_reducible exact ff' hc | with_reducible exact absurd hc hlt' | with_reducible exact absurd hc hx | with_reducible exact absurd hlt' hc | with_reducible exact absurd hx hc | skip)) | refine WP.ret ?_ | refine WP.skip ?_ | refine WP.exit ?_ | refine WP.goto ?_ | refine WP.label ?_ | refine WP.block ?_)))
        | (with_reducible refine thn_n ?_)
        | (with_reducible refine thn_r ?_)
        | (with_reducible refine thn_e ?_)
        | (with_reducible refine thn_g ?_)
        | (with_reducible refine blk_n ?_)
        | (with_reducible refine blk_r ?_)
        | (with_reducible refine blk_e ?_)
        | (with_reducible refine blk_g ?_)
        | (((with_reducible refine blk_o ?_ ?_); first | exact rfl | skip))
        | (refine Endz.mk' (by first | exact Or.inl rfl | exact Or.inr rfl) (by repeat (first | exact RVs.nil | apply RVs.cons | exact RV1.tmp rfl | exact RV1.row rfl rfl rfl (by repeat (first | exact look_here | apply look_there)) (by exact rfl) | exact RV1.cell rfl rfl rfl (by repeat (first | exact look_here | apply look_there)) (by exact rfl))) (by rfl) (by repeat (first | exact List.nil_sublist _ | exact List.Sublist.refl _ | apply List.Sublist.cons_cons | apply List.Sublist.cons))))
      refine jmp_g ⟨rfl, i + 1, ⟨hlt, at_next inv hlt hx⟩, by show n - (i + 1) < n - i; omega, Wk.of ⟨rfl, rfl, rfl, ?_, trivial⟩ (by repeat (first | exact List.nil_sublist _ | exact List.Sublist.refl _ | apply List.Sublist.cons_cons | apply List.Sublist.cons))⟩
      exact congrArg (fun x => some (I64 x)) (kp1 (by omega))
    · by_cases h0 : i = 0
      · have h0' : (i : Int) = 0 := by omega
        repeat' (first
          | (with_reducible refine jmp_n ?_)
          | (with_reducible refine jmp_r ?_)
          | (with_reducible refine jmp_e ?_)
          | (((first | (with_reducible refine gQ0 ?_) | ((with_reducible refine gQ1 ?_ ?_); (focus (exact wg (r := true) rfl rfl rfl rfl rfl rfl)))); (first | ((with_reducible apply q_loadr layOk); exact rfl; exact rfl; exact rfl; (focus (repeat (first | with_reducible apply lh | with_reducible apply lt))); exact (tb.seg _ hlt)) | ((with_reducible apply q_load layOk); exact rfl; exact rfl; exact rfl; (focus (repeat (first | with_reducible apply lh | with_reducible apply lt))); exact (tb.ax _ hlt)) | ((with_reducible apply q_load layOk); exact rfl; exact rfl; exact rfl; (focus (repeat (first | with_reducible apply lh | with_reducible apply lt))); exact (tb.ay _ hlt)) | ((with_reducible apply q_loadr layOk); exact rfl; exact rfl; exact rfl; (focus (repeat (first | with_reducible apply lh | with_reducible apply lt))); exact (tb.seg _ hl1)) | ((with_reducible apply q_load layOk); exact rfl; exact rfl; exact rfl; (focus (repeat (first | with_reducible apply lh | with_reducible apply lt))); exact (tb.ax _ hl1)) | ((with_reducible apply q_load layOk); exact rfl; exact rfl; exact rfl; (focus (repeat (first | with_reducible apply lh | with_reducible apply lt))); exact (tb.ay _ hl1)) | ((with_reducible apply q_idxN layOk); exact rfl; exact rfl; exact rfl; exact rfl; exact ha; exact rfl; exact hlt) | ((with_reducible apply q_idxN layOk); exact rfl; exact rfl; exact rfl; exact rfl; exact ha; exact hk1; exact hl1) | ((with_reducible apply q_move); exact rfl) | ((with_reducible apply q_assign); exact rfl) | ((with_reducible apply q_int); exact rfl; exact rfl; exact rfl) | ((with_reducible apply q_nilCheck); exact rfl) | ((with_reducible apply q_fa layOk); exact rfl; exact rfl; exact rfl; exact rfl; exact rfl) | ((with_reducible apply q_load layOk); exact rfl; exact rfl; exact rfl; (focus (repeat (first | with_reducible apply lh | with_reducible apply lt))); (focus (exact rfl))) | ((with_reducible apply q_loadr layOk); exact rfl; exact rfl; exact rfl; (focus (repeat (first | with_reducible apply lh | with_reducible apply lt))); (focus (exact rfl))) | ((with_reducible apply q_build layOk); exact rfl; exact rfl; exact rfl; exact rfl) | ((with_reducible apply q_min); exact rfl) | ((with_reducible apply q_max); exact rfl) | ((with_reducible apply q_neg); exact rfl) | ((with_reducible apply q_not); exact rfl) | ((with_reducible apply q_box (k := ks _)); exact rfl; (focus (repeat (first | with_reducible apply lh | with_reducible apply lt))); exact rfl) | ((with_reducible apply q_alloc (k := ks _) layOk); exact rfl; (focus (repeat (first | with_reducible apply lh | with_reducible apply lt))); exact rfl) | ((with_reducible apply q_pick_t); exact rfl; exact rfl) | ((with_reducible apply q_pick_f); exact rfl; exact rfl) | ((with_reducible apply q_len layOk); exact rfl; exact rfl; exact rfl; exact rfl) | (refine q_call0 rfl (span_Of _ _) ?_) | ((with_reducible apply e_store layOk); exact rfl; exact rfl; exact rfl; (focus (repeat (first | with_reducible apply lh | with_reducible apply lt))); exact rfl; exact rfl; exact rfl; (focus (exact rfl)); exact rfl) | (refine e_call0 rfl (span_Of _ _) ?_))))
          | (((with_reducible refine gR ?_); (first | refine RK.peelN rfl ?_ | refine RK.donef rfl ⟨_, rfl, ?_⟩ | refine RK.donet rfl (by kernel_rfl) ⟨_, rfl, ?_⟩)))
          | ((first | (with_reducible refine gQv ?_ ?_) | (with_reducible refine gQe ?_ ?_)); (focus (first | exact wg (r := false) rfl rfl rfl rfl rfl rfl | exact wz rfl rfl rfl rfl)))
          | ((with_reducible refine gK ?_); ((first | refine RKo.gsplitD rfl rfl rfl rfl (fun hc => ?_) (fun hc => ?_) | refine RKo.gsplitE rfl rfl rfl rfl (fun hc => ?_) (fun hc => ?_) | refine RKo.gsplitN rfl rfl rfl rfl (fun hc => ?_) (fun hc => ?_) | refine RKo.gsplit rfl rfl rfl rfl (fun hc => ?_) (fun hc => ?_)) <;> (first | with_reducible exact ff hc | with_reducible exact ff' hc | with_reducible exact absurd hc hlt' | with_reducible exact absurd hc hx | with_reducible exact absurd hc hne | with_reducible exact absurd hc h0' | with_reducible exact absurd hlt' hc | with_reducible exact absurd hx hc | with_reducible exact absurd hne hc | with_reducible exact absurd h0' hc | skip)))
          | (((with_reducible refine gW ?_); (first | with_reducible refine WP.seq ?_ | refine WP.reg mixed (fun ks => _) (fun ks => rfl) (fun ks => ?_) | ((first | refine WP.condD rfl (fun hc => ?_) (fun hc => ?_) | refine WP.condE rfl (fun hc => ?_) (fun hc => ?_) | refine WP.condN rfl (fun hc => ?_) (fun hc => ?_) | refine WP.condA rfl (fun hc => ?_) (fun hc => ?_)) <;> (first | with_reducible exact ff hc | with_reducible exact ff' hc | with_reducible exact absurd hc hlt' | with_reducible exact absurd hc hx | with_reducible exact absurd hc hne | with_reducible exact absurd hc h0' | with_reducible exact absurd hlt' hc | with_reducible exact absurd hx hc | with_reducible exact absurd hne hc | with_reducible exact absurd h0' hc | skip)) | refine WP.ret ?_ | refine WP.skip ?_ | refine WP.exit ?_ | refine WP.goto ?_ | refine WP.label ?_ | refine WP.block ?_)))
          | (with_reducible refine thn_n ?_)
          | (with_reducible refine thn_r ?_)
          | (with_reducible refine thn_e ?_)
          | (with_reducible refine thn_g ?_)
          | (with_reducible refine blk_n ?_)
          | (with_reducible refine blk_r ?_)
          | (with_reducible refine blk_e ?_)
          | (with_reducible refine blk_g ?_)
          | (((with_reducible refine blk_o ?_ ?_); first | exact rfl | skip))
          | (refine Endz.mk' (by first | exact Or.inl rfl | exact Or.inr rfl) (by repeat (first | exact RVs.nil | apply RVs.cons | exact RV1.tmp rfl | exact RV1.row rfl rfl rfl (by repeat (first | exact look_here | apply look_there)) (by exact rfl) | exact RV1.cell rfl rfl rfl (by repeat (first | exact look_here | apply look_there)) (by exact rfl))) (by exact at2 inv hlt hx (.inl h0)) (by repeat (first | exact List.nil_sublist _ | exact List.Sublist.refl _ | apply List.Sublist.cons_cons | apply List.Sublist.cons))))
      · have h0' : ¬ (i : Int) = 0 := by omega
        have hl1 : i - 1 < n := by omega
        have hk1 : IntKind.i64.wrap ((i : Int) - 1) = ((i - 1 : Nat) : Int) := km1 (by omega) (by omega)
        by_cases he : X i = x
        · 
          repeat' (first
            | (with_reducible refine jmp_n ?_)
            | (with_reducible refine jmp_r ?_)
            | (with_reducible refine jmp_e ?_)
            | (((first | (with_reducible refine gQ0 ?_) | ((with_reducible refine gQ1 ?_ ?_); (focus (exact wg (r := true) rfl rfl rfl rfl rfl rfl)))); (first | ((with_reducible apply q_loadr layOk); exact rfl; exact rfl; exact rfl; (focus (repeat (first | with_reducible apply lh | with_reducible apply lt))); exact (tb.seg _ hlt)) | ((with_reducible apply q_load layOk); exact rfl; exact rfl; exact rfl; (focus (repeat (first | with_reducible apply lh | with_reducible apply lt))); exact (tb.ax _ hlt)) | ((with_reducible apply q_load layOk); exact rfl; exact rfl; exact rfl; (focus (repeat (first | with_reducible apply lh | with_reducible apply lt))); exact (tb.ay _ hlt)) | ((with_reducible apply q_loadr layOk); exact rfl; exact rfl; exact rfl; (focus (repeat (first | with_reducible apply lh | with_reducible apply lt))); exact (tb.seg _ hl1)) | ((with_reducible apply q_load layOk); exact rfl; exact rfl; exact rfl; (focus (repeat (first | with_reducible apply lh | with_reducible apply lt))); exact (tb.ax _ hl1)) | ((with_reducible apply q_load layOk); exact rfl; exact rfl; exact rfl; (focus (repeat (first | with_reducible apply lh | with_reducible apply lt))); exact (tb.ay _ hl1)) | ((with_reducible apply q_idxN layOk); exact rfl; exact rfl; exact rfl; exact rfl; exact ha; exact rfl; exact hlt) | ((with_reducible apply q_idxN layOk); exact rfl; exact rfl; exact rfl; exact rfl; exact ha; exact hk1; exact hl1) | ((with_reducible apply q_move); exact rfl) | ((with_reducible apply q_assign); exact rfl) | ((with_reducible apply q_int); exact rfl; exact rfl; exact rfl) | ((with_reducible apply q_nilCheck); exact rfl) | ((with_reducible apply q_fa layOk); exact rfl; exact rfl; exact rfl; exact rfl; exact rfl) | ((with_reducible apply q_load layOk); exact rfl; exact rfl; exact rfl; (focus (repeat (first | with_reducible apply lh | with_reducible apply lt))); (focus (exact rfl))) | ((with_reducible apply q_loadr layOk); exact rfl; exact rfl; exact rfl; (focus (repeat (first | with_reducible apply lh | with_reducible apply lt))); (focus (exact rfl))) | ((with_reducible apply q_build layOk); exact rfl; exact rfl; exact rfl; exact rfl) | ((with_reducible apply q_min); exact rfl) | ((with_reducible apply q_max); exact rfl) | ((with_reducible apply q_neg); exact rfl) | ((with_reducible apply q_not); exact rfl) | ((with_reducible apply q_box (k := ks _)); exact rfl; (focus (repeat (first | with_reducible apply lh | with_reducible apply lt))); exact rfl) | ((with_reducible apply q_alloc (k := ks _) layOk); exact rfl; (focus (repeat (first | with_reducible apply lh | with_reducible apply lt))); exact rfl) | ((with_reducible apply q_pick_t); exact rfl; exact rfl) | ((with_reducible apply q_pick_f); exact rfl; exact rfl) | ((with_reducible apply q_len layOk); exact rfl; exact rfl; exact rfl; exact rfl) | (refine q_call0 rfl (span_Of _ _) ?_) | ((with_reducible apply e_store layOk); exact rfl; exact rfl; exact rfl; (focus (repeat (first | with_reducible apply lh | with_reducible apply lt))); exact rfl; exact rfl; exact rfl; (focus (exact rfl)); exact rfl) | (refine e_call0 rfl (span_Of _ _) ?_))))
            | (((with_reducible refine gR ?_); (first | refine RK.peelN rfl ?_ | refine RK.donef rfl ⟨_, rfl, ?_⟩ | refine RK.donet rfl (by kernel_rfl) ⟨_, rfl, ?_⟩)))
            | ((first | (with_reducible refine gQv ?_ ?_) | (with_reducible refine gQe ?_ ?_)); (focus (first | exact wg (r := false) rfl rfl rfl rfl rfl rfl | exact wz rfl rfl rfl rfl)))
            | ((with_reducible refine gK ?_); ((first | refine RKo.gsplitD rfl rfl rfl rfl (fun hc => ?_) (fun hc => ?_) | refine RKo.gsplitE rfl rfl rfl rfl (fun hc => ?_) (fun hc => ?_) | refine RKo.gsplitN rfl rfl rfl rfl (fun hc => ?_) (fun hc => ?_) | refine RKo.gsplit rfl rfl rfl rfl (fun hc => ?_) (fun hc => ?_)) <;> (first | with_reducible exact ff hc | with_reducible exact ff' hc | with_reducible exact absurd hc hlt' | with_reducible exact absurd hc hx | with_reducible exact absurd hc hne | with_reducible exact absurd hc h0' | with_reducible exact absurd hc he | with_reducible exact absurd hlt' hc | with_reducible exact absurd hx hc | with_reducible exact absurd hne hc | with_reducible exact absurd h0' hc | with_reducible exact absurd he hc | skip)))
            | (((with_reducible refine gW ?_); (first | with_reducible refine WP.seq ?_ | refine WP.reg mixed (fun ks => _) (fun ks => rfl) (fun ks => ?_) | ((first | refine WP.condD rfl (fun hc => ?_) (fun hc => ?_) | refine WP.condE rfl (fun hc => ?_) (fun hc => ?_) | refine WP.condN rfl (fun hc => ?_) (fun hc => ?_) | refine WP.condA rfl (fun hc => ?_) (fun hc => ?_)) <;> (first | with_reducible exact ff hc | with_reducible exact ff' hc | with_reducible exact absurd hc hlt' | with_reducible exact absurd hc hx | with_reducible exact absurd hc hne | with_reducible exact absurd hc h0' | with_reducible exact absurd hc he | with_reducible exact absurd hlt' hc | with_reducible exact absurd hx hc | with_reducible exact absurd hne hc | with_reducible exact absurd h0' hc | with_reducible exact absurd he hc | skip)) | refine WP.ret ?_ | refine WP.skip ?_ | refine WP.exit ?_ | refine WP.goto ?_ | refine WP.label ?_ | refine WP.block ?_)))
            | (with_reducible refine thn_n ?_)
            | (with_reducible refine thn_r ?_)
            | (with_reducible refine thn_e ?_)
            | (with_reducible refine thn_g ?_)
            | (with_reducible refine blk_n ?_)
            | (with_reducible refine blk_r ?_)
            | (with_reducible refine blk_e ?_)
            | (with_reducible refine blk_g ?_)
            | (((with_reducible refine blk_o ?_ ?_); first | exact rfl | skip))
            | (refine Endz.mk' (by first | exact Or.inl rfl | exact Or.inr rfl) (by repeat (first | exact RVs.nil | apply RVs.cons | exact RV1.tmp rfl | exact RV1.row rfl rfl rfl (by repeat (first | exact look_here | apply look_there)) (by exact rfl) | exact RV1.cell rfl rfl rfl (by repeat (first | exact look_here | apply look_there)) (by exact rfl))) (by exact at2 inv hlt hx (.inr he)) (by repeat (first | exact List.nil_sublist _ | exact List.Sublist.refl _ | apply List.Sublist.cons_cons | apply List.Sublist.cons))))
        · have hA := at_in ok inv hlt hx (by omega)
          have hw1 : 1 ≤ IntKind.i64.wrap (X i - X (i - 1)) := by rw [hA.2.1]; exact hA.2.2.1
          have hw2 : -4611686018427387904 ≤ IntKind.i64.wrap (IntKind.i64.wrap (Y i - Y (i - 1)) * IntKind.i64.wrap (x - X (i - 1))) := by rw [hA.1]; have := hA.2.2.2.1; omega
          have hw3 : IntKind.i64.wrap (IntKind.i64.wrap (Y i - Y (i - 1)) * IntKind.i64.wrap (x - X (i - 1))) ≤ 4611686018427387904 := by rw [hA.1]; exact hA.2.2.2.2.1
          repeat' (first
            | (with_reducible refine jmp_n ?_)
            | (with_reducible refine jmp_r ?_)
            | (with_reducible refine jmp_e ?_)
            | (((first | (with_reducible refine gQ0 ?_) | ((with_reducible refine gQ1 ?_ ?_); (focus (exact wg (r := true) rfl rfl rfl rfl rfl rfl)))); (first | ((with_reducible apply q_loadr layOk); exact rfl; exact rfl; exact rfl; (focus (repeat (first | with_reducible apply lh | with_reducible apply lt))); exact (tb.seg _ hlt)) | ((with_reducible apply q_load layOk); exact rfl; exact rfl; exact rfl; (focus (repeat (first | with_reducible apply lh | with_reducible apply lt))); exact (tb.ax _ hlt)) | ((with_reducible apply q_load layOk); exact rfl; exact rfl; exact rfl; (focus (repeat (first | with_reducible apply lh | with_reducible apply lt))); exact (tb.ay _ hlt)) | ((with_reducible apply q_loadr layOk); exact rfl; exact rfl; exact rfl; (focus (repeat (first | with_reducible apply lh | with_reducible apply lt))); exact (tb.seg _ hl1)) | ((with_reducible apply q_load layOk); exact rfl; exact rfl; exact rfl; (focus (repeat (first | with_reducible apply lh | with_reducible apply lt))); exact (tb.ax _ hl1)) | ((with_reducible apply q_load layOk); exact rfl; exact rfl; exact rfl; (focus (repeat (first | with_reducible apply lh | with_reducible apply lt))); exact (tb.ay _ hl1)) | ((with_reducible apply q_idxN layOk); exact rfl; exact rfl; exact rfl; exact rfl; exact ha; exact rfl; exact hlt) | ((with_reducible apply q_idxN layOk); exact rfl; exact rfl; exact rfl; exact rfl; exact ha; exact hk1; exact hl1) | ((with_reducible apply q_move); exact rfl) | ((with_reducible apply q_assign); exact rfl) | ((with_reducible apply q_int); exact rfl; exact rfl; exact rfl) | ((with_reducible apply q_nilCheck); exact rfl) | ((with_reducible apply q_fa layOk); exact rfl; exact rfl; exact rfl; exact rfl; exact rfl) | ((with_reducible apply q_load layOk); exact rfl; exact rfl; exact rfl; (focus (repeat (first | with_reducible apply lh | with_reducible apply lt))); (focus (exact rfl))) | ((with_reducible apply q_loadr layOk); exact rfl; exact rfl; exact rfl; (focus (repeat (first | with_reducible apply lh | with_reducible apply lt))); (focus (exact rfl))) | ((with_reducible apply q_build layOk); exact rfl; exact rfl; exact rfl; exact rfl) | ((with_reducible apply q_min); exact rfl) | ((with_reducible apply q_max); exact rfl) | ((with_reducible apply q_neg); exact rfl) | ((with_reducible apply q_not); exact rfl) | ((with_reducible apply q_box (k := ks _)); exact rfl; (focus (repeat (first | with_reducible apply lh | with_reducible apply lt))); exact rfl) | ((with_reducible apply q_alloc (k := ks _) layOk); exact rfl; (focus (repeat (first | with_reducible apply lh | with_reducible apply lt))); exact rfl) | ((with_reducible apply q_pick_t); exact rfl; exact rfl) | ((with_reducible apply q_pick_f); exact rfl; exact rfl) | ((with_reducible apply q_len layOk); exact rfl; exact rfl; exact rfl; exact rfl) | (refine q_call0 rfl (fixed_Down _ _ hw1 hw2 hw3) ?_) | (refine q_call0 rfl (fixed_Up _ _ hw1 hw2 hw3) ?_) | ((with_reducible apply e_store layOk); exact rfl; exact rfl; exact rfl; (focus (repeat (first | with_reducible apply lh | with_reducible apply lt))); exact rfl; exact rfl; exact rfl; (focus (exact rfl)); exact rfl) | (refine e_call0 rfl (fixed_Down _ _ hw1 hw2 hw3) ?_) | (refine e_call0 rfl (fixed_Up _ _ hw1 hw2 hw3) ?_))))
            | (((with_reducible refine gR ?_); (first | refine RK.peelN rfl ?_ | refine RK.donef rfl ⟨_, rfl, ?_⟩ | refine RK.donet rfl (by kernel_rfl) ⟨_, rfl, ?_⟩)))
            | ((first | (with_reducible refine gQv ?_ ?_) | (with_reducible refine gQe ?_ ?_)); (focus (first | exact wg (r := false) rfl rfl rfl rfl rfl rfl | exact wz rfl rfl rfl rfl)))
            | ((with_reducible refine gK ?_); ((first | refine RKo.gsplitD rfl rfl rfl rfl (fun hc => ?_) (fun hc => ?_) | refine RKo.gsplitE rfl rfl rfl rfl (fun hc => ?_) (fun hc => ?_) | refine RKo.gsplitN rfl rfl rfl rfl (fun hc => ?_) (fun hc => ?_) | refine RKo.gsplit rfl rfl rfl rfl (fun hc => ?_) (fun hc => ?_)) <;> (first | with_reducible exact ff hc | with_reducible exact ff' hc | with_reducible exact absurd hc hlt' | with_reducible exact absurd hc hx | with_reducible exact absurd hc hne | with_reducible exact absurd hc h0' | with_reducible exact absurd hc he | with_reducible exact absurd hlt' hc | with_reducible exact absurd hx hc | with_reducible exact absurd hne hc | with_reducible exact absurd h0' hc | with_reducible exact absurd he hc | skip)))
            | (((with_reducible refine gW ?_); (first | with_reducible refine WP.seq ?_ | refine WP.reg mixed (fun ks => _) (fun ks => rfl) (fun ks => ?_) | ((first | refine WP.condD rfl (fun hc => ?_) (fun hc => ?_) | refine WP.condE rfl (fun hc => ?_) (fun hc => ?_) | refine WP.condN rfl (fun hc => ?_) (fun hc => ?_) | refine WP.condA rfl (fun hc => ?_) (fun hc => ?_)) <;> (first | with_reducible exact ff hc | with_reducible exact ff' hc | with_reducible exact absurd hc hlt' | with_reducible exact absurd hc hx | with_reducible exact absurd hc hne | with_reducible exact absurd hc h0' | with_reducible exact absurd hc he | with_reducible exact absurd hlt' hc | with_reducible exact absurd hx hc | with_reducible exact absurd hne hc | with_reducible exact absurd h0' hc | with_reducible exact absurd he hc | skip)) | refine WP.ret ?_ | refine WP.skip ?_ | refine WP.exit ?_ | refine WP.goto ?_ | refine WP.label ?_ | refine WP.block ?_)))
            | (with_reducible refine thn_n ?_)
            | (with_reducible refine thn_r ?_)
            | (with_reducible refine thn_e ?_)
            | (with_reducible refine thn_g ?_)
            | (with_reducible refine blk_n ?_)
            | (with_reducible refine blk_r ?_)
            | (with_reducible refine blk_e ?_)
            | (with_reducible refine blk_g ?_)
            | (((with_reducible refine blk_o ?_ ?_); first | exact rfl | skip))
            | (refine Endz.mk' (by first | exact Or.inl rfl | exact Or.inr rfl) (by repeat (first | exact RVs.nil | apply RVs.cons | exact RV1.tmp rfl | exact RV1.row rfl rfl rfl (by repeat (first | exact look_here | apply look_there)) (by exact rfl) | exact RV1.cell rfl rfl rfl (by repeat (first | exact look_here | apply look_there)) (by exact rfl))) (by exact at3 ok inv hlt hx (by omega)) (by repeat (first | exact List.nil_sublist _ | exact List.Sublist.refl _ | apply List.Sublist.cons_cons | apply List.Sublist.cons))))
  · have hge : ¬ (i : Int) < (n : Int) := by omega
    have hie : i = n := by omega
    have hne : (i : Int) = (n : Int) := by omega
    have hl1 : i - 1 < n := by omega
    have hk1 : IntKind.i64.wrap ((i : Int) - 1) = ((i - 1 : Nat) : Int) := km1 (by omega) (by omega)
    repeat' (first
      | (with_reducible refine jmp_n ?_)
      | (with_reducible refine jmp_r ?_)
      | (with_reducible refine jmp_e ?_)
      | (((first | (with_reducible refine gQ0 ?_) | ((with_reducible refine gQ1 ?_ ?_); (focus (exact wg (r := true) rfl rfl rfl rfl rfl rfl)))); (first | ((with_reducible apply q_loadr layOk); exact rfl; exact rfl; exact rfl; (focus (repeat (first | with_reducible apply lh | with_reducible apply lt))); exact (tb.seg _ hlt)) | ((with_reducible apply q_load layOk); exact rfl; exact rfl; exact rfl; (focus (repeat (first | with_reducible apply lh | with_reducible apply lt))); exact (tb.ax _ hlt)) | ((with_reducible apply q_load layOk); exact rfl; exact rfl; exact rfl; (focus (repeat (first | with_reducible apply lh | with_reducible apply lt))); exact (tb.ay _ hlt)) | ((with_reducible apply q_loadr layOk); exact rfl; exact rfl; exact rfl; (focus (repeat (first | with_reducible apply lh | with_reducible apply lt))); exact (tb.seg _ hl1)) | ((with_reducible apply q_load layOk); exact rfl; exact rfl; exact rfl; (focus (repeat (first | with_reducible apply lh | with_reducible apply lt))); exact (tb.ax _ hl1)) | ((with_reducible apply q_load layOk); exact rfl; exact rfl; exact rfl; (focus (repeat (first | with_reducible apply lh | with_reducible apply lt))); exact (tb.ay _ hl1)) | ((with_reducible apply q_idxN layOk); exact rfl; exact rfl; exact rfl; exact rfl; exact ha; exact rfl; exact hlt) | ((with_reducible apply q_idxN layOk); exact rfl; exact rfl; exact rfl; exact rfl; exact ha; exact hk1; exact hl1) | ((with_reducible apply q_move); exact rfl) | ((with_reducible apply q_assign); exact rfl) | ((with_reducible apply q_int); exact rfl; exact rfl; exact rfl) | ((with_reducible apply q_nilCheck); exact rfl) | ((with_reducible apply q_fa layOk); exact rfl; exact rfl; exact rfl; exact rfl; exact rfl) | ((with_reducible apply q_load layOk); exact rfl; exact rfl; exact rfl; (focus (repeat (first | with_reducible apply lh | with_reducible apply lt))); (focus (exact rfl))) | ((with_reducible apply q_loadr layOk); exact rfl; exact rfl; exact rfl; (focus (repeat (first | with_reducible apply lh | with_reducible apply lt))); (focus (exact rfl))) | ((with_reducible apply q_build layOk); exact rfl; exact rfl; exact rfl; exact rfl) | ((with_reducible apply q_min); exact rfl) | ((with_reducible apply q_max); exact rfl) | ((with_reducible apply q_neg); exact rfl) | ((with_reducible apply q_not); exact rfl) | ((with_reducible apply q_box (k := ks _)); exact rfl; (focus (repeat (first | with_reducible apply lh | with_reducible apply lt))); exact rfl) | ((with_reducible apply q_alloc (k := ks _) layOk); exact rfl; (focus (repeat (first | with_reducible apply lh | with_reducible apply lt))); exact rfl) | ((with_reducible apply q_pick_t); exact rfl; exact rfl) | ((with_reducible apply q_pick_f); exact rfl; exact rfl) | ((with_reducible apply q_len layOk); exact rfl; exact rfl; exact rfl; exact rfl) | (refine q_call0 rfl (span_Of _ _) ?_) | ((with_reducible apply e_store layOk); exact rfl; exact rfl; exact rfl; (focus (repeat (first | with_reducible apply lh | with_reducible apply lt))); exact rfl; exact rfl; exact rfl; (focus (exact rfl)); exact rfl) | (refine e_call0 rfl (span_Of _ _) ?_))))
      | (((with_reducible refine gR ?_); (first | refine RK.peelN rfl ?_ | refine RK.donef rfl ⟨_, rfl, ?_⟩ | refine RK.donet rfl (by kernel_rfl) ⟨_, rfl, ?_⟩)))
      | ((first | (with_reducible refine gQv ?_ ?_) | (with_reducible refine gQe ?_ ?_)); (focus (first | exact wg (r := false) rfl rfl rfl rfl rfl rfl | exact wz rfl rfl rfl rfl)))
      | ((with_reducible refine gK ?_); ((first | refine RKo.gsplitD rfl rfl rfl rfl (fun hc => ?_) (fun hc => ?_) | refine RKo.gsplitE rfl rfl rfl rfl (fun hc => ?_) (fun hc => ?_) | refine RKo.gsplitN rfl rfl rfl rfl (fun hc => ?_) (fun hc => ?_) | refine RKo.gsplit rfl rfl rfl rfl (fun hc => ?_) (fun hc => ?_)) <;> (first | with_reducible exact ff hc | with_reducible exact ff' hc | with_reducible exact absurd hc hge | with_reducible exact absurd hc hne | with_reducible exact absurd hge hc | with_reducible exact absurd hne hc | skip)))
      | (((with_reducible refine gW ?_); (first | with_reducible refine WP.seq ?_ | refine WP.reg mixed (fun ks => _) (fun ks => rfl) (fun ks => ?_) | ((first | refine WP.condD rfl (fun hc => ?_) (fun hc => ?_) | refine WP.condE rfl (fun hc => ?_) (fun hc => ?_) | refine WP.condN rfl (fun hc => ?_) (fun hc => ?_) | refine WP.condA rfl (fun hc => ?_) (fun hc => ?_)) <;> (first | with_reducible exact ff hc | with_reducible exact ff' hc | with_reducible exact absurd hc hge | with_reducible exact absurd hc hne | with_reducible exact absurd hge hc | with_reducible exact absurd hne hc | skip)) | refine WP.ret ?_ | refine WP.skip ?_ | refine WP.exit ?_ | refine WP.goto ?_ | refine WP.label ?_ | refine WP.block ?_)))
      | (with_reducible refine thn_n ?_)
      | (with_reducible refine thn_r ?_)
      | (with_reducible refine thn_e ?_)
      | (with_reducible refine thn_g ?_)
      | (with_reducible refine blk_n ?_)
      | (with_reducible refine blk_r ?_)
      | (with_reducible refine blk_e ?_)
      | (with_reducible refine blk_g ?_)
      | (((with_reducible refine blk_o ?_ ?_); first | exact rfl | skip))
      | (refine Endz.mk' (by first | exact Or.inl rfl | exact Or.inr rfl) (by repeat (first | exact RVs.nil | apply RVs.cons | exact RV1.tmp rfl | exact RV1.row rfl rfl rfl (by repeat (first | exact look_here | apply look_there)) (by exact rfl) | exact RV1.cell rfl rfl rfl (by repeat (first | exact look_here | apply look_there)) (by exact rfl))) (by exact at1 inv hie) (by repeat (first | exact List.nil_sublist _ | exact List.Sublist.refl _ | apply List.Sublist.cons_cons | apply List.Sublist.cons))))
end Go.Proofs.YtlhhcongoplfpaaDoor
