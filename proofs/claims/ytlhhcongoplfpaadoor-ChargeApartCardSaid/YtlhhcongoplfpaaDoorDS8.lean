/- What functions of this program do, each as a contract that its callers use.
   By an AI agent. -/
import Derived.Test.YtlhhcongoplfpaaDoorAB
import Derived.Test.YtlhhcongoplfpaaDoorLayD
import Derived.Test.YtlhhcongoplfpaaDoorDS4
import Derived.Test.YtlhhcongoplfpaaDoorDS2
import Derived.Test.YtlhhcongoplfpaaDoorABW
namespace Go.Proofs.YtlhhcongoplfpaaDoor
open Go Go.Proofs.YtlhhcongoplfpaaDoorAB
variable {G : Nat}
set_option linter.unusedSimpArgs false
set_option linter.unusedVariables false

theorem at_clamp {n : Nat} {X Y : Nat → Int} (ok : TOk n X Y) (x : Int) : X 0 ≤ rClamp x (X 0) (X (n - 1)) ∧ rClamp x (X 0) (X (n - 1)) ≤ X (n - 1) ∧ tLo n X Y (rClamp x (X 0) (X (n - 1))) = tLo n X Y x ∧ tHi n X Y (rClamp x (X 0) (X (n - 1))) = tHi n X Y x := by
  have hE := ok.ends
  rcases ltge x (X 0) with h | h
  · have e : rClamp x (X 0) (X (n - 1)) = X 0 := by unfold rClamp; (repeat' split) <;> omega
    have a := ok.left (x := x) (by omega)
    have b := ok.left (x := X 0) (by omega)
    rw [e, a.1, a.2, b.1, b.2]
    exact ⟨Int.le_refl _, by omega, rfl, rfl⟩
  · rcases ltge (X (n - 1)) x with h2 | h2
    · have e : rClamp x (X 0) (X (n - 1)) = X (n - 1) := by unfold rClamp; (repeat' split) <;> omega
      have a := ok.right (x := x) (by omega)
      have b := ok.right (x := X (n - 1)) (by omega)
      rw [e, a.1, a.2, b.1, b.2]
      exact ⟨by omega, by omega, rfl, rfl⟩
    · have e : rClamp x (X 0) (X (n - 1)) = x := by unfold rClamp; (repeat' split) <;> omega
      rw [e]
      exact ⟨h, h2, rfl, rfl⟩
section
variable {n i : Nat} {X Y : Nat → Int} {x : Int}
theorem rat_in (ok : TOk n X Y) (h : i + 1 < n) (h1 : X i ≤ x) (h2 : x ≤ X (i + 1)) :
    IntKind.i64.wrap (IntKind.i64.wrap (Y (i + 1) - Y i) * IntKind.i64.wrap (x - X i)) = (Y (i + 1) - Y i) * (x - X i) ∧ IntKind.i64.wrap (X (i + 1) - X i) = X (i + 1) - X i ∧
    1 ≤ X (i + 1) - X i ∧ 0 ≤ (Y (i + 1) - Y i) * (x - X i) ∧ (Y (i + 1) - Y i) * (x - X i) ≤ 4611686018427387904 ∧ (Y (i + 1) - Y i) * (x - X i) ≤ (Y (i + 1) - Y i) * (X (i + 1) - X i) := by
  have y0 := ok.ys i h
  have x0 := ok.xs i h
  have b1 := ok.y1 i (by omega); have b2 := ok.y2 (i + 1) h
  have b3 := ok.x1 i (by omega); have b4 := ok.x2 (i + 1) h
  have w1 : IntKind.i64.wrap (Y (i + 1) - Y i) = Y (i + 1) - Y i := wrap_in (by omega) (by omega)
  have w2 : IntKind.i64.wrap (x - X i) = x - X i := wrap_in (by omega) (by omega)
  have w3 : IntKind.i64.wrap (X (i + 1) - X i) = X (i + 1) - X i := wrap_in (by omega) (by omega)
  have p0 : 0 ≤ (Y (i + 1) - Y i) * (x - X i) := Int.mul_nonneg (by omega) (by omega)
  have p1 : (Y (i + 1) - Y i) * (x - X i) ≤ 2147483648 * 2147483648 := Int.mul_le_mul (by omega) (by omega) (by omega) (by omega)
  have p2 : (Y (i + 1) - Y i) * (x - X i) ≤ (Y (i + 1) - Y i) * (X (i + 1) - X i) := Int.mul_le_mul_of_nonneg_left (by omega) (by omega)
  rw [w1, w2, w3]
  exact ⟨wrap_in (by omega) (by omega), rfl, by omega, p0, by omega, p2⟩
theorem rat_eq (ok : TOk n X Y) (h : i + 1 < n) (h1 : X i ≤ x) (h2 : x ≤ X (i + 1)) :
    IntKind.i64.wrap (Y i + dn (IntKind.i64.wrap (IntKind.i64.wrap (Y (i + 1) - Y i) * IntKind.i64.wrap (x - X i))) (IntKind.i64.wrap (X (i + 1) - X i))) = tLo n X Y x ∧ IntKind.i64.wrap (Y i + up (IntKind.i64.wrap (IntKind.i64.wrap (Y (i + 1) - Y i) * IntKind.i64.wrap (x - X i))) (IntKind.i64.wrap (X (i + 1) - X i))) = tHi n X Y x := by
  obtain ⟨w1, w2, w3, p0, p1, p2⟩ := rat_in ok h h1 h2
  obtain ⟨e1, e2⟩ := ok.seg h h1 h2
  rw [w1, w2, e1, e2]
  have y0 := ok.ys i h
  have b1 := ok.y1 i (by omega); have b2 := ok.y2 (i + 1) h
  have d0 := dn_mono (b := X (i + 1) - X i) (by omega) p0
  have d1 := dn_mono (b := X (i + 1) - X i) (by omega) p2
  have u0 := up_mono (b := X (i + 1) - X i) (by omega) p0
  have u1 := up_mono (b := X (i + 1) - X i) (by omega) p2
  rw [dn_zero] at d0
  rw [up_zero] at u0
  rw [dn_mul (by omega)] at d1
  rw [up_mul (by omega)] at u1
  exact ⟨wrap_in (by omega) (by omega), wrap_in (by omega) (by omega)⟩
end

set_option maxHeartbeats 8000000 in
theorem ref_At {ob : AObj} {k f n cap : Nat} {X Y : Nat → Int} {a : Option Addr} (tb : Tb ob f n X Y) (ok : TOk n X Y) (ha : 0 < n → a = some ⟨k, f, none⟩) (x : Int) : Ctr Tryd.prog G 38 [.slice a n cap, I64 x] [(k, ob)] (.agg #[I64 (tLo n X Y x), I64 (tHi n X Y x)]) [ob] := by
  have hn2' := ok.n2
  have hn64' := ok.n64
  have hk1 : IntKind.i64.wrap ((n : Int) - 1) = ((n - 1 : Nat) : Int) := km1 (by omega) (by omega)
  have hE := ok.ends
  have hb1 := ok.x1 0 (by omega)
  have hb2 := ok.x2 (n - 1) (by omega)
  have hC := at_clamp ok x
  refine Ctr.by layOk Tryd.func38 Tryd.ntmps38 rfl rfl rfl rfl rfl ?_
  repeat' (first
    | (((first | (with_reducible refine gQ0 ?_) | ((with_reducible refine gQ1 ?_ ?_); (focus (exact wg (r := true) rfl rfl rfl rfl rfl rfl)))); (first | ((with_reducible apply q_loadr layOk); exact rfl; exact rfl; exact rfl; (focus (repeat (first | with_reducible apply lh | with_reducible apply lt))); exact (tb.seg _ (by omega))) | ((with_reducible apply q_load layOk); exact rfl; exact rfl; exact rfl; (focus (repeat (first | with_reducible apply lh | with_reducible apply lt))); exact (tb.ax _ (by omega))) | ((with_reducible apply q_load layOk); exact rfl; exact rfl; exact rfl; (focus (repeat (first | with_reducible apply lh | with_reducible apply lt))); exact (tb.ay _ (by omega))) | ((with_reducible apply q_idxN (m := 0) layOk); exact rfl; exact rfl; exact rfl; exact rfl; exact ha; exact rfl; (focus (omega))) | ((with_reducible apply q_idxN (m := n - 1) layOk); exact rfl; exact rfl; exact rfl; exact rfl; exact ha; exact hk1; (focus (omega))) | ((with_reducible apply q_move); exact rfl) | ((with_reducible apply q_assign); exact rfl) | ((with_reducible apply q_int); exact rfl; exact rfl; exact rfl) | ((with_reducible apply q_nilCheck); exact rfl) | ((with_reducible apply q_fa layOk); exact rfl; exact rfl; exact rfl; exact rfl; exact rfl) | ((with_reducible apply q_load layOk); exact rfl; exact rfl; exact rfl; (focus (repeat (first | with_reducible apply lh | with_reducible apply lt))); (focus (exact rfl))) | ((with_reducible apply q_loadr layOk); exact rfl; exact rfl; exact rfl; (focus (repeat (first | with_reducible apply lh | with_reducible apply lt))); (focus (exact rfl))) | ((with_reducible apply q_build layOk); exact rfl; exact rfl; exact rfl; exact rfl) | ((with_reducible apply q_min); exact rfl) | ((with_reducible apply q_max); exact rfl) | ((with_reducible apply q_neg); exact rfl) | ((with_reducible apply q_not); exact rfl) | ((with_reducible apply q_box (k := ks _)); exact rfl; (focus (repeat (first | with_reducible apply lh | with_reducible apply lt))); exact rfl) | ((with_reducible apply q_alloc (k := ks _) layOk); exact rfl; (focus (repeat (first | with_reducible apply lh | with_reducible apply lt))); exact rfl) | ((with_reducible apply q_pick_t); exact rfl; exact rfl) | ((with_reducible apply q_pick_f); exact rfl; exact rfl) | ((with_reducible apply q_len layOk); exact rfl; exact rfl; exact rfl; exact rfl) | ((with_reducible apply q_fieldc layOk); exact rfl; exact Tryd.underlying33; exact rfl; exact rfl; exact rfl; exact rfl) | ((with_reducible apply q_fieldr layOk); exact rfl; exact Tryd.underlying33; exact rfl; exact rfl; exact rfl; exact rfl) | (refine q_call1r rfl (ref_CheckTable tb ok ha) (by first | (focus ((repeat (first | with_reducible apply lh | with_reducible apply lt)); done)) | (focus (apply lx; (focus (repeat (first | with_reducible apply lh | with_reducible apply lt))); exact rfl))) ?_) | (refine q_call0 rfl (ref_Clamp _ _ _) ?_) | ((with_reducible apply e_store layOk); exact rfl; exact rfl; exact rfl; (focus (repeat (first | with_reducible apply lh | with_reducible apply lt))); exact rfl; exact rfl; exact rfl; (focus (exact rfl)); exact rfl) | (refine e_call1r rfl (ref_CheckTable tb ok ha) (by first | (focus ((repeat (first | with_reducible apply lh | with_reducible apply lt)); done)) | (focus (apply lx; (focus (repeat (first | with_reducible apply lh | with_reducible apply lt))); exact rfl))) ?_) | (refine e_call0 rfl (ref_Clamp _ _ _) ?_))))
    | (((with_reducible refine gR ?_); (first | refine RK.peelN rfl ?_ | refine RK.donef rfl ⟨_, rfl, ?_⟩ | refine RK.donet rfl (by kernel_rfl) ⟨_, rfl, ?_⟩)))
    | ((first | (with_reducible refine gQv ?_ ?_) | (with_reducible refine gQe ?_ ?_)); (focus (first | exact wg (r := false) rfl rfl rfl rfl rfl rfl | exact wz rfl rfl rfl rfl)))
    | ((with_reducible refine gK ?_); ((first | refine RKo.gsplitD rfl rfl rfl rfl (fun hc => ?_) (fun hc => ?_) | refine RKo.gsplitE rfl rfl rfl rfl (fun hc => ?_) (fun hc => ?_) | refine RKo.gsplitN rfl rfl rfl rfl (fun hc => ?_) (fun hc => ?_) | refine RKo.gsplit rfl rfl rfl rfl (fun hc => ?_) (fun hc => ?_)) <;> (first | with_reducible exact ff hc | with_reducible exact ff' hc | exact absurd rfl hc | skip)))
    | (((with_reducible refine gW ?_); (first | with_reducible refine WP.seq ?_ | refine WP.reg mixed (fun ks => _) (fun ks => rfl) (fun ks => ?_) | ((first | refine WP.condD rfl (fun hc => ?_) (fun hc => ?_) | refine WP.condE rfl (fun hc => ?_) (fun hc => ?_) | refine WP.condN rfl (fun hc => ?_) (fun hc => ?_) | refine WP.condA rfl (fun hc => ?_) (fun hc => ?_)) <;> (first | with_reducible exact ff hc | with_reducible exact ff' hc | exact absurd rfl hc | skip)) | refine WP.ret ?_ | refine WP.skip ?_ | refine WP.exit ?_ | refine WP.goto ?_ | refine WP.label ?_ | refine WP.block ?_)))
    | (with_reducible refine thn_n ?_)
    | (with_reducible refine thn_r ?_)
    | (with_reducible refine thn_e ?_)
    | (with_reducible refine thn_g ?_)
    | (with_reducible refine blk_n ?_)
    | (with_reducible refine blk_r ?_)
    | (with_reducible refine blk_e ?_)
    | (with_reducible refine blk_g ?_)
    | (((with_reducible refine blk_o ?_ ?_); first | exact rfl | skip))
    | (refine Endz.mk' (by first | exact Or.inl rfl | exact Or.inr rfl) (by repeat (first | exact RVs.nil | apply RVs.cons | exact RV1.tmp rfl | exact RV1.row rfl rfl rfl (by repeat (first | exact look_here | apply look_there)) (by exact rfl) | exact RV1.cell rfl rfl rfl (by repeat (first | exact look_here | apply look_there)) (by exact rfl))) (by rfl) (by repeat (first | exact List.nil_sublist _ | exact List.Sublist.refl _ | apply List.Sublist.cons_cons | apply List.Sublist.cons))))
  rename_i r0 r1 r3
  obtain ⟨xc, hxc⟩ : ∃ xc, rClamp x (X 0) (X (n - 1)) = xc := ⟨_, rfl⟩
  rw [hxc] at hC
  refine WP.loopI (n := 94) (α := Nat) (fun i => [(0, some (.slice a n cap)), (1, some (I64 xc)), (4, some (.pointer (some ⟨r0 0, 0, none⟩))), (5, some (I64 (i : Int)))])
    (fun i => [(k, ob), (r0 0, .cells [I64 0, I64 0] 38)]) (fun i => i + 2 ≤ n ∧ X i ≤ xc) (fun i => n - i) 0 (Wk.of ⟨rfl, congrArg (fun x => some (I64 x)) hxc, rfl, rfl, trivial⟩ (by repeat (first | exact List.nil_sublist _ | exact List.Sublist.refl _ | apply List.Sublist.cons_cons | apply List.Sublist.cons))) ⟨ok.n2, hC.1⟩ (fun i iy => ?_)
  obtain ⟨hi, inv⟩ := iy
  have hl0 : i < n := by omega
  have hl1 : i + 1 < n := by omega
  have hk2 : IntKind.i64.wrap ((i : Int) + 1) = ((i + 1 : Nat) : Int) := kp1 (by omega)
  have hk3 : IntKind.i64.wrap ((i : Int) + 2) = ((i + 2 : Nat) : Int) := by rw [wrap_in (by omega) (by omega)]; omega
  have fin : xc ≤ X (i + 1) → 1 ≤ IntKind.i64.wrap (X (i + 1) - X i) ∧ -4611686018427387904 ≤ IntKind.i64.wrap (IntKind.i64.wrap (Y (i + 1) - Y i) * IntKind.i64.wrap (xc - X i)) ∧ IntKind.i64.wrap (IntKind.i64.wrap (Y (i + 1) - Y i) * IntKind.i64.wrap (xc - X i)) ≤ 4611686018427387904 := fun h => by
    obtain ⟨w1, w2, w3, p0, p1, _⟩ := rat_in ok hl1 inv h
    rw [w1, w2]; omega
  have fin2 : xc ≤ X (i + 1) → _ := fun h => rat_eq ok hl1 inv h
  by_cases hlt : i + 2 < n
  · have hlt' : IntKind.i64.wrap ((i : Int) + 2) < (n : Int) := by rw [hk3]; omega
    by_cases hx : xc > X (i + 1)
    · 
      repeat' (first
        | (((first | (with_reducible refine gQ0 ?_) | ((with_reducible refine gQ1 ?_ ?_); (focus (exact wg (r := true) rfl rfl rfl rfl rfl rfl)))); (first | ((with_reducible apply q_loadr layOk); exact rfl; exact rfl; exact rfl; (focus (repeat (first | with_reducible apply lh | with_reducible apply lt))); exact (tb.seg _ hl0)) | ((with_reducible apply q_load layOk); exact rfl; exact rfl; exact rfl; (focus (repeat (first | with_reducible apply lh | with_reducible apply lt))); exact (tb.ax _ hl0)) | ((with_reducible apply q_load layOk); exact rfl; exact rfl; exact rfl; (focus (repeat (first | with_reducible apply lh | with_reducible apply lt))); exact (tb.ay _ hl0)) | ((with_reducible apply q_loadr layOk); exact rfl; exact rfl; exact rfl; (focus (repeat (first | with_reducible apply lh | with_reducible apply lt))); exact (tb.seg _ hl1)) | ((with_reducible apply q_load layOk); exact rfl; exact rfl; exact rfl; (focus (repeat (first | with_reducible apply lh | with_reducible apply lt))); exact (tb.ax _ hl1)) | ((with_reducible apply q_load layOk); exact rfl; exact rfl; exact rfl; (focus (repeat (first | with_reducible apply lh | with_reducible apply lt))); exact (tb.ay _ hl1)) | ((with_reducible apply q_idxN (m := i) layOk); exact rfl; exact rfl; exact rfl; exact rfl; exact ha; exact rfl; exact hl0) | ((with_reducible apply q_idxN (m := i + 1) layOk); exact rfl; exact rfl; exact rfl; exact rfl; exact ha; exact hk2; exact hl1) | ((with_reducible apply q_move); exact rfl) | ((with_reducible apply q_assign); exact rfl) | ((with_reducible apply q_int); exact rfl; exact rfl; exact rfl) | ((with_reducible apply q_nilCheck); exact rfl) | ((with_reducible apply q_fa layOk); exact rfl; exact rfl; exact rfl; exact rfl; exact rfl) | ((with_reducible apply q_load layOk); exact rfl; exact rfl; exact rfl; (focus (repeat (first | with_reducible apply lh | with_reducible apply lt))); (focus (exact rfl))) | ((with_reducible apply q_loadr layOk); exact rfl; exact rfl; exact rfl; (focus (repeat (first | with_reducible apply lh | with_reducible apply lt))); (focus (exact rfl))) | ((with_reducible apply q_build layOk); exact rfl; exact rfl; exact rfl; exact rfl) | ((with_reducible apply q_min); exact rfl) | ((with_reducible apply q_max); exact rfl) | ((with_reducible apply q_neg); exact rfl) | ((with_reducible apply q_not); exact rfl) | ((with_reducible apply q_box (k := ks _)); exact rfl; (focus (repeat (first | with_reducible apply lh | with_reducible apply lt))); exact rfl) | ((with_reducible apply q_alloc (k := ks _) layOk); exact rfl; (focus (repeat (first | with_reducible apply lh | with_reducible apply lt))); exact rfl) | ((with_reducible apply q_pick_t); exact rfl; exact rfl) | ((with_reducible apply q_pick_f); exact rfl; exact rfl) | ((with_reducible apply q_len layOk); exact rfl; exact rfl; exact rfl; exact rfl) | ((with_reducible apply e_store layOk); exact rfl; exact rfl; exact rfl; (focus (repeat (first | with_reducible apply lh | with_reducible apply lt))); exact rfl; exact rfl; exact rfl; (focus (exact rfl)); exact rfl))))
        | (((with_reducible refine gR ?_); (first | refine RK.peelN rfl ?_ | refine RK.donef rfl ⟨_, rfl, ?_⟩ | refine RK.donet rfl (by kernel_rfl) ⟨_, rfl, ?_⟩)))
        | ((first | (with_reducible refine gQv ?_ ?_) | (with_reducible refine gQe ?_ ?_)); (focus (first | exact wg (r := false) rfl rfl rfl rfl rfl rfl | exact wz rfl rfl rfl rfl)))
        | ((with_reducible refine gK ?_); ((first | refine RKo.gsplitD rfl rfl rfl rfl (fun hc => ?_) (fun hc => ?_) | refine RKo.gsplitE rfl rfl rfl rfl (fun hc => ?_) (fun hc => ?_) | refine RKo.gsplitN rfl rfl rfl rfl (fun hc => ?_) (fun hc => ?_) | refine RKo.gsplit rfl rfl rfl rfl (fun hc => ?_) (fun hc => ?_)) <;> (first | with_reducible exact ff hc | with_reducible exact ff' hc | with_reducible exact absurd hc hlt' | with_reducible exact absurd hc hx | with_reducible exact absurd hlt' hc | with_reducible exact absurd hx hc | skip)))
        | (((with_reducible refine gW ?_); (first | with_reducible refine WP.seq ?_ | refine WP.reg mixed (fun ks => _) (fun ks => rfl) (fun ks => ?_) | ((first | refine WP.condD rfl (fun hc => ?_) (fun hc => ?_) | refine WP.condE rfl (fun hc => ?_) (fun hc => ?_) | refine WP.condN rfl (fun hc => ?_) (fun hc => ?_) | refine WP.condA rfl (fun hc => ?_) (fun hc => ?_)) <;> (first | with_reducible exact ff hc | with_reducible exact ff' hc | with_reducible exact absurd hc hlt' | with_reducible exact absurd hc hx | with_reducible exact absurd hlt' hc | with_reducible exact absurd hx hc | skip)) | refine WP.ret ?_ | refine WP.skip ?_ | refine WP.exit ?_ | refine WP.goto ?_ | refine WP.label ?_ | refine WP.block ?_)))
        | (with_reducible refine thn_n ?_)
        | (with_reducible refine thn_r ?_)
        | (with_reducible refine thn_e ?_)
        | (with_reducible refine thn_g ?_)
        | (with_reducible refine blk_n ?_)
        | (with_reducible refine blk_r ?_)
        | (with_reducible refine blk_e ?_)
        | (with_reducible refine blk_g ?_)
        | (((with_reducible refine blk_o ?_ ?_); first | exact rfl | skip))
        | (refine Endz.mk' (by first | exact Or.inl rfl | exact Or.inr rfl) (by repeat (first | exact RVs.nil | apply RVs.cons | exact RV1.tmp rfl | exact RV1.row rfl rfl rfl (by repeat (first | exact look_here | apply look_there)) (by exact rfl) | exact RV1.cell rfl rfl rfl (by repeat (first | exact look_here | apply look_there)) (by exact rfl))) (by rfl) (by repeat (first | exact List.nil_sublist _ | exact List.Sublist.refl _ | apply List.Sublist.cons_cons | apply List.Sublist.cons))))
      exact ⟨i + 1, ⟨hlt, by show X (i + 1) ≤ xc; omega⟩, by show n - (i + 1) < n - i; omega, Wk.of ⟨rfl, rfl, rfl, congrArg (fun x => some (I64 x)) hk2, trivial⟩ (by repeat (first | exact List.nil_sublist _ | exact List.Sublist.refl _ | apply List.Sublist.cons_cons | apply List.Sublist.cons))⟩
    · have hx2 : xc ≤ X (i + 1) := by omega
      obtain ⟨hw1, hw2, hw3⟩ := fin hx2
      repeat' (first
        | (((first | (with_reducible refine gQ0 ?_) | ((with_reducible refine gQ1 ?_ ?_); (focus (exact wg (r := true) rfl rfl rfl rfl rfl rfl)))); (first | ((with_reducible apply q_loadr layOk); exact rfl; exact rfl; exact rfl; (focus (repeat (first | with_reducible apply lh | with_reducible apply lt))); exact (tb.seg _ hl0)) | ((with_reducible apply q_load layOk); exact rfl; exact rfl; exact rfl; (focus (repeat (first | with_reducible apply lh | with_reducible apply lt))); exact (tb.ax _ hl0)) | ((with_reducible apply q_load layOk); exact rfl; exact rfl; exact rfl; (focus (repeat (first | with_reducible apply lh | with_reducible apply lt))); exact (tb.ay _ hl0)) | ((with_reducible apply q_loadr layOk); exact rfl; exact rfl; exact rfl; (focus (repeat (first | with_reducible apply lh | with_reducible apply lt))); exact (tb.seg _ hl1)) | ((with_reducible apply q_load layOk); exact rfl; exact rfl; exact rfl; (focus (repeat (first | with_reducible apply lh | with_reducible apply lt))); exact (tb.ax _ hl1)) | ((with_reducible apply q_load layOk); exact rfl; exact rfl; exact rfl; (focus (repeat (first | with_reducible apply lh | with_reducible apply lt))); exact (tb.ay _ hl1)) | ((with_reducible apply q_idxN (m := i) layOk); exact rfl; exact rfl; exact rfl; exact rfl; exact ha; exact rfl; exact hl0) | ((with_reducible apply q_idxN (m := i + 1) layOk); exact rfl; exact rfl; exact rfl; exact rfl; exact ha; exact hk2; exact hl1) | ((with_reducible apply q_move); exact rfl) | ((with_reducible apply q_assign); exact rfl) | ((with_reducible apply q_int); exact rfl; exact rfl; exact rfl) | ((with_reducible apply q_nilCheck); exact rfl) | ((with_reducible apply q_fa layOk); exact rfl; exact rfl; exact rfl; exact rfl; exact rfl) | ((with_reducible apply q_load layOk); exact rfl; exact rfl; exact rfl; (focus (repeat (first | with_reducible apply lh | with_reducible apply lt))); (focus (exact rfl))) | ((with_reducible apply q_loadr layOk); exact rfl; exact rfl; exact rfl; (focus (repeat (first | with_reducible apply lh | with_reducible apply lt))); (focus (exact rfl))) | ((with_reducible apply q_build layOk); exact rfl; exact rfl; exact rfl; exact rfl) | ((with_reducible apply q_min); exact rfl) | ((with_reducible apply q_max); exact rfl) | ((with_reducible apply q_neg); exact rfl) | ((with_reducible apply q_not); exact rfl) | ((with_reducible apply q_box (k := ks _)); exact rfl; (focus (repeat (first | with_reducible apply lh | with_reducible apply lt))); exact rfl) | ((with_reducible apply q_alloc (k := ks _) layOk); exact rfl; (focus (repeat (first | with_reducible apply lh | with_reducible apply lt))); exact rfl) | ((with_reducible apply q_pick_t); exact rfl; exact rfl) | ((with_reducible apply q_pick_f); exact rfl; exact rfl) | ((with_reducible apply q_len layOk); exact rfl; exact rfl; exact rfl; exact rfl) | (refine q_call0 rfl (ref_Down _ _ hw1 hw2 hw3) ?_) | (refine q_call0 rfl (ref_Up _ _ hw1 hw2 hw3) ?_) | ((with_reducible apply e_store layOk); exact rfl; exact rfl; exact rfl; (focus (repeat (first | with_reducible apply lh | with_reducible apply lt))); exact rfl; exact rfl; exact rfl; (focus (exact rfl)); exact rfl) | (refine e_call0 rfl (ref_Down _ _ hw1 hw2 hw3) ?_) | (refine e_call0 rfl (ref_Up _ _ hw1 hw2 hw3) ?_))))
        | (((with_reducible refine gR ?_); (first | refine RK.peelN rfl ?_ | refine RK.donef rfl ⟨_, rfl, ?_⟩ | refine RK.donet rfl (by kernel_rfl) ⟨_, rfl, ?_⟩)))
        | ((first | (with_reducible refine gQv ?_ ?_) | (with_reducible refine gQe ?_ ?_)); (focus (first | exact wg (r := false) rfl rfl rfl rfl rfl rfl | exact wz rfl rfl rfl rfl)))
        | ((with_reducible refine gK ?_); ((first | refine RKo.gsplitD rfl rfl rfl rfl (fun hc => ?_) (fun hc => ?_) | refine RKo.gsplitE rfl rfl rfl rfl (fun hc => ?_) (fun hc => ?_) | refine RKo.gsplitN rfl rfl rfl rfl (fun hc => ?_) (fun hc => ?_) | refine RKo.gsplit rfl rfl rfl rfl (fun hc => ?_) (fun hc => ?_)) <;> (first | with_reducible exact ff hc | with_reducible exact ff' hc | with_reducible exact absurd hc hlt' | with_reducible exact absurd hc hx | with_reducible exact absurd hlt' hc | with_reducible exact absurd hx hc | skip)))
        | (((with_reducible refine gW ?_); (first | with_reducible refine WP.seq ?_ | refine WP.reg mixed (fun ks => _) (fun ks => rfl) (fun ks => ?_) | ((first | refine WP.condD rfl (fun hc => ?_) (fun hc => ?_) | refine WP.condE rfl (fun hc => ?_) (fun hc => ?_) | refine WP.condN rfl (fun hc => ?_) (fun hc => ?_) | refine WP.condA rfl (fun hc => ?_) (fun hc => ?_)) <;> (first | with_reducible exact ff hc | with_reducible exact ff' hc | with_reducible exact absurd hc hlt' | with_reducible exact absurd hc hx | with_reducible exact absurd hlt' hc | with_reducible exact absurd hx hc | skip)) | refine WP.ret ?_ | refine WP.skip ?_ | refine WP.exit ?_ | refine WP.goto ?_ | refine WP.label ?_ | refine WP.block ?_)))
        | (with_reducible refine thn_n ?_)
        | (with_reducible refine thn_r ?_)
        | (with_reducible refine thn_e ?_)
        | (with_reducible refine thn_g ?_)
        | (with_reducible refine blk_n ?_)
        | (with_reducible refine blk_r ?_)
        | (with_reducible refine blk_e ?_)
        | (with_reducible refine blk_g ?_)
        | (((with_reducible refine blk_o ?_ ?_); first | exact rfl | skip))
        | (refine Endz.mk' (by first | exact Or.inl rfl | exact Or.inr rfl) (by repeat (first | exact RVs.nil | apply RVs.cons | exact RV1.tmp rfl | exact RV1.row rfl rfl rfl (by repeat (first | exact look_here | apply look_there)) (by exact rfl) | exact RV1.cell rfl rfl rfl (by repeat (first | exact look_here | apply look_there)) (by exact rfl))) (by exact agg2_eq ((fin2 hx2).1.trans hC.2.2.1) ((fin2 hx2).2.trans hC.2.2.2)) (by repeat (first | exact List.nil_sublist _ | exact List.Sublist.refl _ | apply List.Sublist.cons_cons | apply List.Sublist.cons))))
  · have hlt' : ¬ IntKind.i64.wrap ((i : Int) + 2) < (n : Int) := by rw [hk3]; omega
    have hx2 : xc ≤ X (i + 1) := by have := hC.2.1; rw [show n - 1 = i + 1 by omega] at this; exact this
    obtain ⟨hw1, hw2, hw3⟩ := fin hx2
    repeat' (first
      | (((first | (with_reducible refine gQ0 ?_) | ((with_reducible refine gQ1 ?_ ?_); (focus (exact wg (r := true) rfl rfl rfl rfl rfl rfl)))); (first | ((with_reducible apply q_loadr layOk); exact rfl; exact rfl; exact rfl; (focus (repeat (first | with_reducible apply lh | with_reducible apply lt))); exact (tb.seg _ hl0)) | ((with_reducible apply q_load layOk); exact rfl; exact rfl; exact rfl; (focus (repeat (first | with_reducible apply lh | with_reducible apply lt))); exact (tb.ax _ hl0)) | ((with_reducible apply q_load layOk); exact rfl; exact rfl; exact rfl; (focus (repeat (first | with_reducible apply lh | with_reducible apply lt))); exact (tb.ay _ hl0)) | ((with_reducible apply q_loadr layOk); exact rfl; exact rfl; exact rfl; (focus (repeat (first | with_reducible apply lh | with_reducible apply lt))); exact (tb.seg _ hl1)) | ((with_reducible apply q_load layOk); exact rfl; exact rfl; exact rfl; (focus (repeat (first | with_reducible apply lh | with_reducible apply lt))); exact (tb.ax _ hl1)) | ((with_reducible apply q_load layOk); exact rfl; exact rfl; exact rfl; (focus (repeat (first | with_reducible apply lh | with_reducible apply lt))); exact (tb.ay _ hl1)) | ((with_reducible apply q_idxN (m := i) layOk); exact rfl; exact rfl; exact rfl; exact rfl; exact ha; exact rfl; exact hl0) | ((with_reducible apply q_idxN (m := i + 1) layOk); exact rfl; exact rfl; exact rfl; exact rfl; exact ha; exact hk2; exact hl1) | ((with_reducible apply q_move); exact rfl) | ((with_reducible apply q_assign); exact rfl) | ((with_reducible apply q_int); exact rfl; exact rfl; exact rfl) | ((with_reducible apply q_nilCheck); exact rfl) | ((with_reducible apply q_fa layOk); exact rfl; exact rfl; exact rfl; exact rfl; exact rfl) | ((with_reducible apply q_load layOk); exact rfl; exact rfl; exact rfl; (focus (repeat (first | with_reducible apply lh | with_reducible apply lt))); (focus (exact rfl))) | ((with_reducible apply q_loadr layOk); exact rfl; exact rfl; exact rfl; (focus (repeat (first | with_reducible apply lh | with_reducible apply lt))); (focus (exact rfl))) | ((with_reducible apply q_build layOk); exact rfl; exact rfl; exact rfl; exact rfl) | ((with_reducible apply q_min); exact rfl) | ((with_reducible apply q_max); exact rfl) | ((with_reducible apply q_neg); exact rfl) | ((with_reducible apply q_not); exact rfl) | ((with_reducible apply q_box (k := ks _)); exact rfl; (focus (repeat (first | with_reducible apply lh | with_reducible apply lt))); exact rfl) | ((with_reducible apply q_alloc (k := ks _) layOk); exact rfl; (focus (repeat (first | with_reducible apply lh | with_reducible apply lt))); exact rfl) | ((with_reducible apply q_pick_t); exact rfl; exact rfl) | ((with_reducible apply q_pick_f); exact rfl; exact rfl) | ((with_reducible apply q_len layOk); exact rfl; exact rfl; exact rfl; exact rfl) | (refine q_call0 rfl (ref_Down _ _ hw1 hw2 hw3) ?_) | (refine q_call0 rfl (ref_Up _ _ hw1 hw2 hw3) ?_) | ((with_reducible apply e_store layOk); exact rfl; exact rfl; exact rfl; (focus (repeat (first | with_reducible apply lh | with_reducible apply lt))); exact rfl; exact rfl; exact rfl; (focus (exact rfl)); exact rfl) | (refine e_call0 rfl (ref_Down _ _ hw1 hw2 hw3) ?_) | (refine e_call0 rfl (ref_Up _ _ hw1 hw2 hw3) ?_))))
      | (((with_reducible refine gR ?_); (first | refine RK.peelN rfl ?_ | refine RK.donef rfl ⟨_, rfl, ?_⟩ | refine RK.donet rfl (by kernel_rfl) ⟨_, rfl, ?_⟩)))
      | ((first | (with_reducible refine gQv ?_ ?_) | (with_reducible refine gQe ?_ ?_)); (focus (first | exact wg (r := false) rfl rfl rfl rfl rfl rfl | exact wz rfl rfl rfl rfl)))
      | ((with_reducible refine gK ?_); ((first | refine RKo.gsplitD rfl rfl rfl rfl (fun hc => ?_) (fun hc => ?_) | refine RKo.gsplitE rfl rfl rfl rfl (fun hc => ?_) (fun hc => ?_) | refine RKo.gsplitN rfl rfl rfl rfl (fun hc => ?_) (fun hc => ?_) | refine RKo.gsplit rfl rfl rfl rfl (fun hc => ?_) (fun hc => ?_)) <;> (first | with_reducible exact ff hc | with_reducible exact ff' hc | with_reducible exact absurd hc hlt' | with_reducible exact absurd hlt' hc | skip)))
      | (((with_reducible refine gW ?_); (first | with_reducible refine WP.seq ?_ | refine WP.reg mixed (fun ks => _) (fun ks => rfl) (fun ks => ?_) | ((first | refine WP.condD rfl (fun hc => ?_) (fun hc => ?_) | refine WP.condE rfl (fun hc => ?_) (fun hc => ?_) | refine WP.condN rfl (fun hc => ?_) (fun hc => ?_) | refine WP.condA rfl (fun hc => ?_) (fun hc => ?_)) <;> (first | with_reducible exact ff hc | with_reducible exact ff' hc | with_reducible exact absurd hc hlt' | with_reducible exact absurd hlt' hc | skip)) | refine WP.ret ?_ | refine WP.skip ?_ | refine WP.exit ?_ | refine WP.goto ?_ | refine WP.label ?_ | refine WP.block ?_)))
      | (with_reducible refine thn_n ?_)
      | (with_reducible refine thn_r ?_)
      | (with_reducible refine thn_e ?_)
      | (with_reducible refine thn_g ?_)
      | (with_reducible refine blk_n ?_)
      | (with_reducible refine blk_r ?_)
      | (with_reducible refine blk_e ?_)
      | (with_reducible refine blk_g ?_)
      | (((with_reducible refine blk_o ?_ ?_); first | exact rfl | skip))
      | (refine Endz.mk' (by first | exact Or.inl rfl | exact Or.inr rfl) (by repeat (first | exact RVs.nil | apply RVs.cons | exact RV1.tmp rfl | exact RV1.row rfl rfl rfl (by repeat (first | exact look_here | apply look_there)) (by exact rfl) | exact RV1.cell rfl rfl rfl (by repeat (first | exact look_here | apply look_there)) (by exact rfl))) (by exact agg2_eq ((fin2 hx2).1.trans hC.2.2.1) ((fin2 hx2).2.trans hC.2.2.2)) (by repeat (first | exact List.nil_sublist _ | exact List.Sublist.refl _ | apply List.Sublist.cons_cons | apply List.Sublist.cons))))
end Go.Proofs.YtlhhcongoplfpaaDoor
