/- What functions of this program do, each as a contract that its callers use, and what follows of it in plain numbers.
   By an AI agent. -/
import Derived.Test.YtlhhcongoplfpaaDoorAB
import Derived.Test.YtlhhcongoplfpaaDoorDLO
import Derived.Test.YtlhhcongoplfpaaDoorDSA
import Derived.Test.YtlhhcongoplfpaaDoorABM
namespace Go.Proofs.YtlhhcongoplfpaaDoor
open Go Go.Proofs.YtlhhcongoplfpaaDoorAB
variable {G : Nat}
set_option linter.unusedSimpArgs false
set_option linter.unusedVariables false

theorem at_clamp {n : Nat} {X Y : Nat → Int} (ok : TOk n X Y) (x : Int) : X 0 ≤ rClamp x (X 0) (X (n - 1)) ∧ rClamp x (X 0) (X (n - 1)) ≤ X (n - 1) ∧ tLo n X Y (rClamp x (X 0) (X (n - 1))) = tLo n X Y x ∧ tHi n X Y (rClamp x (X 0) (X (n - 1))) = tHi n X Y x := by
  have hE := ok.ends
  rcases ltge x (X 0) with h | h
  · have e : rClamp x (X 0) (X (n - 1)) = X 0 := by unfold rClamp; (repeat' split) <;> omega
    have a := ok.left (x := x) (by omega)
    have b := ok.left (x := X 0) (by omega)
    rw [e, a.1, a.2, b.1, b.2]
    exact ⟨Int.le_refl _, by omega, rfl, rfl⟩
  · rcases ltge (X (n - 1)) x with h2 | h2
    · have e : rClamp x (X 0) (X (n - 1)) = X (n - 1) := by unfold rClamp; (repeat' split) <;> omega
      have a := ok.right (x := x) (by omega)
      have b := ok.right (x := X (n - 1)) (by omega)
      rw [e, a.1, a.2, b.1, b.2]
      exact ⟨by omega, by omega, rfl, rfl⟩
    · have e : rClamp x (X 0) (X (n - 1)) = x := by unfold rClamp; (repeat' split) <;> omega
      rw [e]
      exact ⟨h, h2, rfl, rfl⟩
section
variable {n i : Nat} {X Y : Nat → Int} {x : Int}
theorem rat_in (ok : TOk n X Y) (h : i + 1 < n) (h1 : X i ≤ x) (h2 : x ≤ X (i + 1)) :
    IntKind.i64.wrap (IntKind.i64.wrap (Y (i + 1) - Y i) * IntKind.i64.wrap (x - X i)) = (Y (i + 1) - Y i) * (x - X i) ∧ IntKind.i64.wrap (X (i + 1) - X i) = X (i + 1) - X i ∧
    1 ≤ X (i + 1) - X i ∧ 0 ≤ (Y (i + 1) - Y i) * (x - X i) ∧ (Y (i + 1) - Y i) * (x - X i) ≤ 4611686018427387904 ∧ (Y (i + 1) - Y i) * (x - X i) ≤ (Y (i + 1) - Y i) * (X (i + 1) - X i) := by
  have y0 := ok.ys i h
  have x0 := ok.xs i h
  have b1 := ok.y1 i (by omega); have b2 := ok.y2 (i + 1) h
  have b3 := ok.x1 i (by omega); have b4 := ok.x2 (i + 1) h
  have w1 : IntKind.i64.wrap (Y (i + 1) - Y i) = Y (i + 1) - Y i := wrap_in (by omega) (by omega)
  have w2 : IntKind.i64.wrap (x - X i) = x - X i := wrap_in (by omega) (by omega)
  have w3 : IntKind.i64.wrap (X (i + 1) - X i) = X (i + 1) - X i := wrap_in (by omega) (by omega)
  have p0 : 0 ≤ (Y (i + 1) - Y i) * (x - X i) := Int.mul_nonneg (by omega) (by omega)
  have p1 : (Y (i + 1) - Y i) * (x - X i) ≤ 2147483648 * 2147483648 := Int.mul_le_mul (by omega) (by omega) (by omega) (by omega)
  have p2 : (Y (i + 1) - Y i) * (x - X i) ≤ (Y (i + 1) - Y i) * (X (i + 1) - X i) := Int.mul_le_mul_of_nonneg_left (by omega) (by omega)
  rw [w1, w2, w3]
  exact ⟨wrap_in (by omega) (by omega), rfl, by omega, p0, by omega, p2⟩
theorem rat_eq (ok : TOk n X Y) (h : i + 1 < n) (h1 : X i ≤ x) (h2 : x ≤ X (i + 1)) :
    IntKind.i64.wrap (Y i + dn (IntKind.i64.wrap (IntKind.i64.wrap (Y (i + 1) - Y i) * IntKind.i64.wrap (x - X i))) (IntKind.i64.wrap (X (i + 1) - X i))) = tLo n X Y x ∧ IntKind.i64.wrap (Y i + up (IntKind.i64.wrap (IntKind.i64.wrap (Y (i + 1) - Y i) * IntKind.i64.wrap (x - X i))) (IntKind.i64.wrap (X (i + 1) - X i))) = tHi n X Y x := by
  obtain ⟨w1, w2, w3, p0, p1, p2⟩ := rat_in ok h h1 h2
  obtain ⟨e1, e2⟩ := ok.seg h h1 h2
  rw [w1, w2, e1, e2]
  have y0 := ok.ys i h
  have b1 := ok.y1 i (by omega); have b2 := ok.y2 (i + 1) h
  have d0 := dn_mono (b := X (i + 1) - X i) (by omega) p0
  have d1 := dn_mono (b := X (i + 1) - X i) (by omega) p2
  have u0 := up_mono (b := X (i + 1) - X i) (by omega) p0
  have u1 := up_mono (b := X (i + 1) - X i) (by omega) p2
  rw [dn_zero] at d0
  rw [up_zero] at u0
  rw [dn_mul (by omega)] at d1
  rw [up_mul (by omega)] at u1
  exact ⟨wrap_in (by omega) (by omega), wrap_in (by omega) (by omega)⟩
end

set_option maxHeartbeats 8000000 in
theorem ref_At {ob : AObj} {k f n cap : Nat} {X Y : Nat → Int} {a : Option Addr} (tb : Tb ob f n X Y) (ok : TOk n X Y) (ha : 0 < n → a = some ⟨k, f, none⟩) (x : Int) : Ctr Tryd.prog G 38 [.slice a n cap, I64 x] [(k, ob)] (.agg #[I64 (tLo n X Y x), I64 (tHi n X Y x)]) [ob] := by
  have hn2' := ok.n2
  have hn64' := ok.n64
  have hk1 : IntKind.i64.wrap ((n : Int) - 1) = ((n - 1 : Nat) : Int) := km1 (by omega) (by omega)
  have hE := ok.ends
  have hb1 := ok.x1 0 (by omega)
  have hb2 := ok.x2 (n - 1) (by omega)
  have hC := at_clamp ok x
  refine Ctr.by layOk Tryd.func38 Tryd.ntmps38 rfl rfl rfl rfl rfl ?_
  repeat' (first
    | (((first | (with_reducible refine gQ0 ?_) | ((with_reducible refine gQ1 ?_ ?_); (focus (apply wg (r := true); (iterate 6 apply Eq.refl))))); (first | ((with_reducible apply q_loadr layOk); (iterate 3 apply Eq.refl); (focus (repeat (with_reducible (first | apply lh | apply lt)))); exact (tb.seg _ (by omega))) | ((with_reducible apply q_load layOk); (iterate 3 apply Eq.refl); (focus (repeat (with_reducible (first | apply lh | apply lt)))); exact (tb.ax _ (by omega))) | ((with_reducible apply q_load layOk); (iterate 3 apply Eq.refl); (focus (repeat (with_reducible (first | apply lh | apply lt)))); exact (tb.ay _ (by omega))) | ((with_reducible apply q_idxN (m := 0) layOk); (iterate 4 apply Eq.refl); exact ha; apply Eq.refl; (focus (omega))) | ((with_reducible apply q_idxN (m := n - 1) layOk); (iterate 4 apply Eq.refl); exact ha; exact hk1; (focus (omega))) | ((with_reducible apply q_move); apply Eq.refl) | ((with_reducible apply q_assign); apply Eq.refl) | ((with_reducible apply q_int); (iterate 3 apply Eq.refl)) | ((with_reducible apply q_fa layOk); (iterate 5 apply Eq.refl)) | ((with_reducible apply q_load layOk); (iterate 3 apply Eq.refl); (focus (repeat (with_reducible (first | apply lh | apply lt)))); apply Eq.refl) | ((with_reducible apply q_loadr layOk); (iterate 3 apply Eq.refl); (focus (repeat (with_reducible (first | apply lh | apply lt)))); apply Eq.refl) | ((with_reducible apply q_build layOk); (iterate 4 apply Eq.refl)) | ((with_reducible apply q_alloc (k := ks _) layOk); apply Eq.refl; (focus (repeat (with_reducible (first | apply lh | apply lt)))); apply Eq.refl) | ((with_reducible apply q_pick_t); (iterate 2 apply Eq.refl)) | ((with_reducible apply q_pick_f); (iterate 2 apply Eq.refl)) | ((with_reducible apply q_len layOk); (iterate 4 apply Eq.refl)) | ((with_reducible apply q_fieldc layOk); apply Eq.refl; exact Tryd.underlying33; (iterate 4 apply Eq.refl)) | ((with_reducible apply q_fieldr layOk); apply Eq.refl; exact Tryd.underlying33; (iterate 4 apply Eq.refl)) | ((with_reducible apply isF (f := 35)); (refine q_call1r rfl (ref_CheckTable tb ok ha) (by first | (focus ((repeat (with_reducible (first | apply lh | apply lt))); done)) | (focus (apply lx; (focus (repeat (with_reducible (first | apply lh | apply lt)))); exact rfl))) ?_)) | ((with_reducible apply isF (f := 85)); (refine q_call0 rfl (ref_Clamp _ _ _) ?_)) | ((with_reducible apply e_store layOk); (iterate 3 apply Eq.refl); (focus (repeat (with_reducible (first | apply lh | apply lt)))); (iterate 5 apply Eq.refl)))))
    | (((with_reducible refine gR ?_); (first | refine RK.peelN rfl ?_ | refine RK.donef rfl ⟨_, rfl, ?_⟩ | refine RK.donet rfl (by kernel_rfl) ⟨_, rfl, ?_⟩)))
    | ((first | (with_reducible refine gQv ?_ ?_) | (with_reducible refine gQe ?_ ?_)); (focus (first | (apply wg (r := false); (iterate 6 apply Eq.refl)) | (apply wz; (iterate 4 apply Eq.refl)))))
    | ((with_reducible refine gK ?_); ((first | (apply gsD; (iterate 4 apply Eq.refl)) | (apply RKo.gsplitE; (iterate 4 apply Eq.refl)) | (apply RKo.gsplitN; (iterate 4 apply Eq.refl)) | (apply RKo.gsplit; (iterate 4 apply Eq.refl))) <;> (intro hc; first | with_reducible exact ff hc | with_reducible exact ff' hc | exact absurd rfl hc | skip)))
    | (((with_reducible refine gW ?_); (first | with_reducible refine WP.seq ?_ | refine WP.reg mixed (fun ks => _) (fun ks => rfl) (fun ks => ?_) | ((first | (apply cdD; apply Eq.refl) | (apply WP.condE; apply Eq.refl) | (apply WP.condN; apply Eq.refl) | (apply WP.condA; apply Eq.refl)) <;> (intro hc; first | with_reducible exact ff hc | with_reducible exact ff' hc | exact absurd rfl hc | skip)) | refine WP.ret ?_ | refine WP.skip ?_ | refine WP.exit ?_ | refine WP.goto ?_ | refine WP.label ?_ | refine WP.block ?_)))
    | (with_reducible refine thn_n ?_)
    | (with_reducible refine thn_r ?_)
    | (with_reducible refine thn_e ?_)
    | (with_reducible refine thn_g ?_)
    | (with_reducible refine blk_n ?_)
    | (with_reducible refine blk_r ?_)
    | (with_reducible refine blk_e ?_)
    | (with_reducible refine blk_g ?_)
    | (((with_reducible refine blk_o ?_ ?_); first | exact rfl | skip))
    | (refine Endz.mk' (by first | exact Or.inl rfl | exact Or.inr rfl) (by repeat (first | exact RVs.nil | apply RVs.cons | exact RV1.tmp rfl | exact RV1.row rfl rfl rfl (by repeat (first | exact look_here | apply look_there)) (by exact rfl) | exact RV1.cell rfl rfl rfl (by repeat (first | exact look_here | apply look_there)) (by exact rfl))) (by rfl) (by repeat (first | exact List.nil_sublist _ | exact List.Sublist.refl _ | apply List.Sublist.cons_cons | apply List.Sublist.cons))))
  rename_i r0 r1 r3
  obtain ⟨xc, hxc⟩ : ∃ xc, rClamp x (X 0) (X (n - 1)) = xc := ⟨_, rfl⟩
  rw [hxc] at hC
  refine WP.loopI (n := 94) (α := Nat) (fun i => [(0, some (.slice a n cap)), (1, some (I64 xc)), (4, some (.pointer (some ⟨r0 0, 0, none⟩))), (5, some (I64 (i : Int)))])
    (fun i => [(k, ob), (r0 0, .cells [I64 0, I64 0] 38)]) (fun i => i + 2 ≤ n ∧ X i ≤ xc) (fun i => n - i) 0 (Wk.of ⟨rfl, congrArg (fun x => some (I64 x)) hxc, rfl, rfl, trivial⟩ (by repeat (first | exact List.nil_sublist _ | exact List.Sublist.refl _ | apply List.Sublist.cons_cons | apply List.Sublist.cons))) ⟨ok.n2, hC.1⟩ (fun i iy => ?_)
  obtain ⟨hi, inv⟩ := iy
  have hl0 : i < n := by omega
  have hl1 : i + 1 < n := by omega
  have hk2 : IntKind.i64.wrap ((i : Int) + 1) = ((i + 1 : Nat) : Int) := kp1 (by omega)
  have hk3 : IntKind.i64.wrap ((i : Int) + 2) = ((i + 2 : Nat) : Int) := by rw [wrap_in (by omega) (by omega)]; omega
  have fin : xc ≤ X (i + 1) → 1 ≤ IntKind.i64.wrap (X (i + 1) - X i) ∧ -4611686018427387904 ≤ IntKind.i64.wrap (IntKind.i64.wrap (Y (i + 1) - Y i) * IntKind.i64.wrap (xc - X i)) ∧ IntKind.i64.wrap (IntKind.i64.wrap (Y (i + 1) - Y i) * IntKind.i64.wrap (xc - X i)) ≤ 4611686018427387904 := fun h => by
    obtain ⟨w1, w2, w3, p0, p1, _⟩ := rat_in ok hl1 inv h
    rw [w1, w2]; omega
  have fin2 : xc ≤ X (i + 1) → _ := fun h => rat_eq ok hl1 inv h
  by_cases hlt : i + 2 < n
  · have hlt' : IntKind.i64.wrap ((i : Int) + 2) < (n : Int) := by rw [hk3]; omega
    by_cases hx : xc > X (i + 1)
    · 
      repeat' (first
        | (((first | (with_reducible refine gQ0 ?_) | ((with_reducible refine gQ1 ?_ ?_); (focus (apply wg (r := true); (iterate 6 apply Eq.refl))))); (first | ((with_reducible apply q_loadr layOk); (iterate 3 apply Eq.refl); (focus (repeat (with_reducible (first | apply lh | apply lt)))); exact (tb.seg _ hl0)) | ((with_reducible apply q_load layOk); (iterate 3 apply Eq.refl); (focus (repeat (with_reducible (first | apply lh | apply lt)))); exact (tb.ax _ hl0)) | ((with_reducible apply q_load layOk); (iterate 3 apply Eq.refl); (focus (repeat (with_reducible (first | apply lh | apply lt)))); exact (tb.ay _ hl0)) | ((with_reducible apply q_loadr layOk); (iterate 3 apply Eq.refl); (focus (repeat (with_reducible (first | apply lh | apply lt)))); exact (tb.seg _ hl1)) | ((with_reducible apply q_load layOk); (iterate 3 apply Eq.refl); (focus (repeat (with_reducible (first | apply lh | apply lt)))); exact (tb.ax _ hl1)) | ((with_reducible apply q_load layOk); (iterate 3 apply Eq.refl); (focus (repeat (with_reducible (first | apply lh | apply lt)))); exact (tb.ay _ hl1)) | ((with_reducible apply q_idxN (m := i) layOk); (iterate 4 apply Eq.refl); exact ha; apply Eq.refl; exact hl0) | ((with_reducible apply q_idxN (m := i + 1) layOk); (iterate 4 apply Eq.refl); exact ha; exact hk2; exact hl1) | ((with_reducible apply q_move); apply Eq.refl) | ((with_reducible apply q_assign); apply Eq.refl) | ((with_reducible apply q_int); (iterate 3 apply Eq.refl)) | ((with_reducible apply q_fa layOk); (iterate 5 apply Eq.refl)) | ((with_reducible apply q_load layOk); (iterate 3 apply Eq.refl); (focus (repeat (with_reducible (first | apply lh | apply lt)))); apply Eq.refl) | ((with_reducible apply q_loadr layOk); (iterate 3 apply Eq.refl); (focus (repeat (with_reducible (first | apply lh | apply lt)))); apply Eq.refl) | ((with_reducible apply q_build layOk); (iterate 4 apply Eq.refl)) | ((with_reducible apply q_alloc (k := ks _) layOk); apply Eq.refl; (focus (repeat (with_reducible (first | apply lh | apply lt)))); apply Eq.refl) | ((with_reducible apply q_pick_t); (iterate 2 apply Eq.refl)) | ((with_reducible apply q_pick_f); (iterate 2 apply Eq.refl)) | ((with_reducible apply q_len layOk); (iterate 4 apply Eq.refl)) | ((with_reducible apply e_store layOk); (iterate 3 apply Eq.refl); (focus (repeat (with_reducible (first | apply lh | apply lt)))); (iterate 5 apply Eq.refl)))))
        | (((with_reducible refine gR ?_); (first | refine RK.peelN rfl ?_ | refine RK.donef rfl ⟨_, rfl, ?_⟩ | refine RK.donet rfl (by kernel_rfl) ⟨_, rfl, ?_⟩)))
        | ((first | (with_reducible refine gQv ?_ ?_) | (with_reducible refine gQe ?_ ?_)); (focus (first | (apply wg (r := false); (iterate 6 apply Eq.refl)) | (apply wz; (iterate 4 apply Eq.refl)))))
        | ((with_reducible refine gK ?_); ((first | (apply gsD; (iterate 4 apply Eq.refl)) | (apply RKo.gsplitE; (iterate 4 apply Eq.refl)) | (apply RKo.gsplitN; (iterate 4 apply Eq.refl)) | (apply RKo.gsplit; (iterate 4 apply Eq.refl))) <;> (intro hc; first | with_reducible exact ff hc | with_reducible exact ff' hc | with_reducible exact absurd hc hlt' | with_reducible exact absurd hc hx | with_reducible exact absurd hlt' hc | with_reducible exact absurd hx hc | skip)))
        | (((with_reducible refine gW ?_); (first | with_reducible refine WP.seq ?_ | refine WP.reg mixed (fun ks => _) (fun ks => rfl) (fun ks => ?_) | ((first | (apply cdD; apply Eq.refl) | (apply WP.condE; apply Eq.refl) | (apply WP.condN; apply Eq.refl) | (apply WP.condA; apply Eq.refl)) <;> (intro hc; first | with_reducible exact ff hc | with_reducible exact ff' hc | with_reducible exact absurd hc hlt' | with_reducible exact absurd hc hx | with_reducible exact absurd hlt' hc | with_reducible exact absurd hx hc | skip)) | refine WP.ret ?_ | refine WP.skip ?_ | refine WP.exit ?_ | refine WP.goto ?_ | refine WP.label ?_ | refine WP.block ?_)))
        | (with_reducible refine thn_n ?_)
        | (with_reducible refine thn_r ?_)
        | (with_reducible refine thn_e ?_)
        | (with_reducible refine thn_g ?_)
        | (with_reducible refine blk_n ?_)
        | (with_reducible refine blk_r ?_)
        | (with_reducible refine blk_e ?_)
        | (with_reducible refine blk_g ?_)
        | (((with_reducible refine blk_o ?_ ?_); first | exact rfl | skip))
        | (refine Endz.mk' (by first | exact Or.inl rfl | exact Or.inr rfl) (by repeat (first | exact RVs.nil | apply RVs.cons | exact RV1.tmp rfl | exact RV1.row rfl rfl rfl (by repeat (first | exact look_here | apply look_there)) (by exact rfl) | exact RV1.cell rfl rfl rfl (by repeat (first | exact look_here | apply look_there)) (by exact rfl))) (by rfl) (by repeat (first | exact List.nil_sublist _ | exact List.Sublist.refl _ | apply List.Sublist.cons_cons | apply List.Sublist.cons))))
      exact ⟨i + 1, ⟨hlt, by show X (i + 1) ≤ xc; omega⟩, by show n - (i + 1) < n - i; omega, Wk.of ⟨rfl, rfl, rfl, congrArg (fun x => some (I64 x)) hk2, trivial⟩ (by repeat (first | exact List.nil_sublist _ | exact List.Sublist.refl _ | apply List.Sublist.cons_cons | apply List.Sublist.cons))⟩
    · have hx2 : xc ≤ X (i + 1) := by omega
      obtain ⟨hw1, hw2, hw3⟩ := fin hx2
      repeat' (first
        | (((first | (with_reducible refine gQ0 ?_) | ((with_reducible refine gQ1 ?_ ?_); (focus (apply wg (r := true); (iterate 6 apply Eq.refl))))); (first | ((with_reducible apply q_loadr layOk); (iterate 3 apply Eq.refl); (focus (repeat (with_reducible (first | apply lh | apply lt)))); exact (tb.seg _ hl0)) | ((with_reducible apply q_load layOk); (iterate 3 apply Eq.refl); (focus (repeat (with_reducible (first | apply lh | apply lt)))); exact (tb.ax _ hl0)) | ((with_reducible apply q_load layOk); (iterate 3 apply Eq.refl); (focus (repeat (with_reducible (first | apply lh | apply lt)))); exact (tb.ay _ hl0)) | ((with_reducible apply q_loadr layOk); (iterate 3 apply Eq.refl); (focus (repeat (with_reducible (first | apply lh | apply lt)))); exact (tb.seg _ hl1)) | ((with_reducible apply q_load layOk); (iterate 3 apply Eq.refl); (focus (repeat (with_reducible (first | apply lh | apply lt)))); exact (tb.ax _ hl1)) | ((with_reducible apply q_load layOk); (iterate 3 apply Eq.refl); (focus (repeat (with_reducible (first | apply lh | apply lt)))); exact (tb.ay _ hl1)) | ((with_reducible apply q_idxN (m := i) layOk); (iterate 4 apply Eq.refl); exact ha; apply Eq.refl; exact hl0) | ((with_reducible apply q_idxN (m := i + 1) layOk); (iterate 4 apply Eq.refl); exact ha; exact hk2; exact hl1) | ((with_reducible apply q_move); apply Eq.refl) | ((with_reducible apply q_assign); apply Eq.refl) | ((with_reducible apply q_int); (iterate 3 apply Eq.refl)) | ((with_reducible apply q_fa layOk); (iterate 5 apply Eq.refl)) | ((with_reducible apply q_load layOk); (iterate 3 apply Eq.refl); (focus (repeat (with_reducible (first | apply lh | apply lt)))); apply Eq.refl) | ((with_reducible apply q_loadr layOk); (iterate 3 apply Eq.refl); (focus (repeat (with_reducible (first | apply lh | apply lt)))); apply Eq.refl) | ((with_reducible apply q_build layOk); (iterate 4 apply Eq.refl)) | ((with_reducible apply q_alloc (k := ks _) layOk); apply Eq.refl; (focus (repeat (with_reducible (first | apply lh | apply lt)))); apply Eq.refl) | ((with_reducible apply q_pick_t); (iterate 2 apply Eq.refl)) | ((with_reducible apply q_pick_f); (iterate 2 apply Eq.refl)) | ((with_reducible apply q_len layOk); (iterate 4 apply Eq.refl)) | ((with_reducible apply isF (f := 46)); (refine q_call0 rfl (ref_Down _ _ hw1 hw2 hw3) ?_)) | ((with_reducible apply isF (f := 86)); (refine q_call0 rfl (ref_Up _ _ hw1 hw2 hw3) ?_)) | ((with_reducible apply e_store layOk); (iterate 3 apply Eq.refl); (focus (repeat (with_reducible (first | apply lh | apply lt)))); (iterate 5 apply Eq.refl)))))
        | (((with_reducible refine gR ?_); (first | refine RK.peelN rfl ?_ | refine RK.donef rfl ⟨_, rfl, ?_⟩ | refine RK.donet rfl (by kernel_rfl) ⟨_, rfl, ?_⟩)))
        | ((first | (with_reducible refine gQv ?_ ?_) | (with_reducible refine gQe ?_ ?_)); (focus (first | (apply wg (r := false); (iterate 6 apply Eq.refl)) | (apply wz; (iterate 4 apply Eq.refl)))))
        | ((with_reducible refine gK ?_); ((first | (apply gsD; (iterate 4 apply Eq.refl)) | (apply RKo.gsplitE; (iterate 4 apply Eq.refl)) | (apply RKo.gsplitN; (iterate 4 apply Eq.refl)) | (apply RKo.gsplit; (iterate 4 apply Eq.refl))) <;> (intro hc; first | with_reducible exact ff hc | with_reducible exact ff' hc | with_reducible exact absurd hc hlt' | with_reducible exact absurd hc hx | with_reducible exact absurd hlt' hc | with_reducible exact absurd hx hc | skip)))
        | (((with_reducible refine gW ?_); (first | with_reducible refine WP.seq ?_ | refine WP.reg mixed (fun ks => _) (fun ks => rfl) (fun ks => ?_) | ((first | (apply cdD; apply Eq.refl) | (apply WP.condE; apply Eq.refl) | (apply WP.condN; apply Eq.refl) | (apply WP.condA; apply Eq.refl)) <;> (intro hc; first | with_reducible exact ff hc | with_reducible exact ff' hc | with_reducible exact absurd hc hlt' | with_reducible exact absurd hc hx | with_reducible exact absurd hlt' hc | with_reducible exact absurd hx hc | skip)) | refine WP.ret ?_ | refine WP.skip ?_ | refine WP.exit ?_ | refine WP.goto ?_ | refine WP.label ?_ | refine WP.block ?_)))
        | (with_reducible refine thn_n ?_)
        | (with_reducible refine thn_r ?_)
        | (with_reducible refine thn_e ?_)
        | (with_reducible refine thn_g ?_)
        | (with_reducible refine blk_n ?_)
        | (with_reducible refine blk_r ?_)
        | (with_reducible refine blk_e ?_)
        | (with_reducible refine blk_g ?_)
        | (((with_reducible refine blk_o ?_ ?_); first | exact rfl | skip))
        | (refine Endz.mk' (by first | exact Or.inl rfl | exact Or.inr rfl) (by repeat (first | exact RVs.nil | apply RVs.cons | exact RV1.tmp rfl | exact RV1.row rfl rfl rfl (by repeat (first | exact look_here | apply look_there)) (by exact rfl) | exact RV1.cell rfl rfl rfl (by repeat (first | exact look_here | apply look_there)) (by exact rfl))) (by exact agg2_eq ((fin2 hx2).1.trans hC.2.2.1) ((fin2 hx2).2.trans hC.2.2.2)) (by repeat (first | exact List.nil_sublist _ | exact List.Sublist.refl _ | apply List.Sublist.cons_cons | apply List.Sublist.cons))))
  · have hlt' : ¬ IntKind.i64.wrap ((i : Int) + 2) < (n : Int) := by rw [hk3]; omega
    have hx2 : xc ≤ X (i + 1) := by have := hC.2.1; rw [show n - 1 = i + 1 by omega] at this; exact this
    obtain ⟨hw1, hw2, hw3⟩ := fin hx2
    repeat' (first
      | (((first | (with_reducible refine gQ0 ?_) | ((with_reducible refine gQ1 ?_ ?_); (focus (apply wg (r := true); (iterate 6 apply Eq.refl))))); (first | ((with_reducible apply q_loadr layOk); (iterate 3 apply Eq.refl); (focus (repeat (with_reducible (first | apply lh | apply lt)))); exact (tb.seg _ hl0)) | ((with_reducible apply q_load layOk); (iterate 3 apply Eq.refl); (focus (repeat (with_reducible (first | apply lh | apply lt)))); exact (tb.ax _ hl0)) | ((with_reducible apply q_load layOk); (iterate 3 apply Eq.refl); (focus (repeat (with_reducible (first | apply lh | apply lt)))); exact (tb.ay _ hl0)) | ((with_reducible apply q_loadr layOk); (iterate 3 apply Eq.refl); (focus (repeat (with_reducible (first | apply lh | apply lt)))); exact (tb.seg _ hl1)) | ((with_reducible apply q_load layOk); (iterate 3 apply Eq.refl); (focus (repeat (with_reducible (first | apply lh | apply lt)))); exact (tb.ax _ hl1)) | ((with_reducible apply q_load layOk); (iterate 3 apply Eq.refl); (focus (repeat (with_reducible (first | apply lh | apply lt)))); exact (tb.ay _ hl1)) | ((with_reducible apply q_idxN (m := i) layOk); (iterate 4 apply Eq.refl); exact ha; apply Eq.refl; exact hl0) | ((with_reducible apply q_idxN (m := i + 1) layOk); (iterate 4 apply Eq.refl); exact ha; exact hk2; exact hl1) | ((with_reducible apply q_move); apply Eq.refl) | ((with_reducible apply q_assign); apply Eq.refl) | ((with_reducible apply q_int); (iterate 3 apply Eq.refl)) | ((with_reducible apply q_fa layOk); (iterate 5 apply Eq.refl)) | ((with_reducible apply q_load layOk); (iterate 3 apply Eq.refl); (focus (repeat (with_reducible (first | apply lh | apply lt)))); apply Eq.refl) | ((with_reducible apply q_loadr layOk); (iterate 3 apply Eq.refl); (focus (repeat (with_reducible (first | apply lh | apply lt)))); apply Eq.refl) | ((with_reducible apply q_build layOk); (iterate 4 apply Eq.refl)) | ((with_reducible apply q_alloc (k := ks _) layOk); apply Eq.refl; (focus (repeat (with_reducible (first | apply lh | apply lt)))); apply Eq.refl) | ((with_reducible apply q_pick_t); (iterate 2 apply Eq.refl)) | ((with_reducible apply q_pick_f); (iterate 2 apply Eq.refl)) | ((with_reducible apply q_len layOk); (iterate 4 apply Eq.refl)) | ((with_reducible apply isF (f := 46)); (refine q_call0 rfl (ref_Down _ _ hw1 hw2 hw3) ?_)) | ((with_reducible apply isF (f := 86)); (refine q_call0 rfl (ref_Up _ _ hw1 hw2 hw3) ?_)) | ((with_reducible apply e_store layOk); (iterate 3 apply Eq.refl); (focus (repeat (with_reducible (first | apply lh | apply lt)))); (iterate 5 apply Eq.refl)))))
      | (((with_reducible refine gR ?_); (first | refine RK.peelN rfl ?_ | refine RK.donef rfl ⟨_, rfl, ?_⟩ | refine RK.donet rfl (by kernel_rfl) ⟨_, rfl, ?_⟩)))
      | ((first | (with_reducible refine gQv ?_ ?_) | (with_reducible refine gQe ?_ ?_)); (focus (first | (apply wg (r := false); (iterate 6 apply Eq.refl)) | (apply wz; (iterate 4 apply Eq.refl)))))
      | ((with_reducible refine gK ?_); ((first | (apply gsD; (iterate 4 apply Eq.refl)) | (apply RKo.gsplitE; (iterate 4 apply Eq.refl)) | (apply RKo.gsplitN; (iterate 4 apply Eq.refl)) | (apply RKo.gsplit; (iterate 4 apply Eq.refl))) <;> (intro hc; first | with_reducible exact ff hc | with_reducible exact ff' hc | with_reducible exact absurd hc hlt' | with_reducible exact absurd hlt' hc | skip)))
      | (((with_reducible refine gW ?_); (first | with_reducible refine WP.seq ?_ | refine WP.reg mixed (fun ks => _) (fun ks => rfl) (fun ks => ?_) | ((first | (apply cdD; apply Eq.refl) | (apply WP.condE; apply Eq.refl) | (apply WP.condN; apply Eq.refl) | (apply WP.condA; apply Eq.refl)) <;> (intro hc; first | with_reducible exact ff hc | with_reducible exact ff' hc | with_reducible exact absurd hc hlt' | with_reducible exact absurd hlt' hc | skip)) | refine WP.ret ?_ | refine WP.skip ?_ | refine WP.exit ?_ | refine WP.goto ?_ | refine WP.label ?_ | refine WP.block ?_)))
      | (with_reducible refine thn_n ?_)
      | (with_reducible refine thn_r ?_)
      | (with_reducible refine thn_e ?_)
      | (with_reducible refine thn_g ?_)
      | (with_reducible refine blk_n ?_)
      | (with_reducible refine blk_r ?_)
      | (with_reducible refine blk_e ?_)
      | (with_reducible refine blk_g ?_)
      | (((with_reducible refine blk_o ?_ ?_); first | exact rfl | skip))
      | (refine Endz.mk' (by first | exact Or.inl rfl | exact Or.inr rfl) (by repeat (first | exact RVs.nil | apply RVs.cons | exact RV1.tmp rfl | exact RV1.row rfl rfl rfl (by repeat (first | exact look_here | apply look_there)) (by exact rfl) | exact RV1.cell rfl rfl rfl (by repeat (first | exact look_here | apply look_there)) (by exact rfl))) (by exact agg2_eq ((fin2 hx2).1.trans hC.2.2.1) ((fin2 hx2).2.trans hC.2.2.2)) (by repeat (first | exact List.nil_sublist _ | exact List.Sublist.refl _ | apply List.Sublist.cons_cons | apply List.Sublist.cons))))
end Go.Proofs.YtlhhcongoplfpaaDoor
namespace Go.Proofs.YtlhhcongoplfpaaDoor
open Go Go.Proofs.YtlhhcongoplfpaaDoorAB
variable {G : Nat}
set_option linter.unusedSimpArgs false
set_option linter.unusedVariables false

theorem halfU {a b : Int} (h : a < b) (h1 : -2147483648 ≤ a) (h2 : b ≤ 2147483648) : ∃ m, IntKind.i64.wrap (b - IntKind.i64.wrap ((IntKind.i64.wrap (b - a)).tdiv 2)) = m ∧ a < m ∧ m ≤ b ∧ IntKind.i64.wrap (m - 1) = m - 1 := by
  refine ⟨_, rfl, ?_⟩
  rw [wrap_in (x := b - a) (by omega) (by omega), Int.tdiv_eq_ediv_of_nonneg (by omega), wrap_in (x := (b - a) / 2) (by omega) (by omega), wrap_in (x := b - (b - a) / 2) (by omega) (by omega), wrap_in (by omega) (by omega)]
  omega

set_option maxHeartbeats 16000000 in
theorem ref_Back {ob : AObj} {k f n cap : Nat} {X Y : Nat → Int} {a : Option Addr} (tb : Tb ob f n X Y) (ok : TOk n X Y) (ha : 0 < n → a = some ⟨k, f, none⟩) (y : Int) : Ctr Tryd.prog G 39 [.slice a n cap, I64 y] [(k, ob)] (.agg #[I64 (kLo n X Y y), I64 (kHi n X Y y)]) [ob] := by
  have hn2' := ok.n2
  have hn64' := ok.n64
  have hk1 : IntKind.i64.wrap ((n : Int) - 1) = ((n - 1 : Nat) : Int) := km1 (by omega) (by omega)
  have hE := ok.ends
  have hb1 := ok.x1 0 (by omega)
  have hb2 := ok.x2 (n - 1) (by omega)
  refine Ctr.by layOk Tryd.func39 Tryd.ntmps39 rfl rfl rfl rfl rfl ?_
  repeat' (first
    | (((first | (with_reducible refine gQ0 ?_) | ((with_reducible refine gQ1 ?_ ?_); (focus (apply wg (r := true); (iterate 6 apply Eq.refl))))); (first | ((with_reducible apply q_loadr layOk); (iterate 3 apply Eq.refl); (focus (repeat (with_reducible (first | apply lh | apply lt)))); exact (tb.seg _ (by omega))) | ((with_reducible apply q_load layOk); (iterate 3 apply Eq.refl); (focus (repeat (with_reducible (first | apply lh | apply lt)))); exact (tb.ax _ (by omega))) | ((with_reducible apply q_load layOk); (iterate 3 apply Eq.refl); (focus (repeat (with_reducible (first | apply lh | apply lt)))); exact (tb.ay _ (by omega))) | ((with_reducible apply q_idxN (m := 0) layOk); (iterate 4 apply Eq.refl); exact ha; apply Eq.refl; (focus (omega))) | ((with_reducible apply q_idxN (m := n - 1) layOk); (iterate 4 apply Eq.refl); exact ha; exact hk1; (focus (omega))) | ((with_reducible apply q_move); apply Eq.refl) | ((with_reducible apply q_assign); apply Eq.refl) | ((with_reducible apply q_int); (iterate 3 apply Eq.refl)) | ((with_reducible apply q_fa layOk); (iterate 5 apply Eq.refl)) | ((with_reducible apply q_load layOk); (iterate 3 apply Eq.refl); (focus (repeat (with_reducible (first | apply lh | apply lt)))); apply Eq.refl) | ((with_reducible apply q_loadr layOk); (iterate 3 apply Eq.refl); (focus (repeat (with_reducible (first | apply lh | apply lt)))); apply Eq.refl) | ((with_reducible apply q_build layOk); (iterate 4 apply Eq.refl)) | ((with_reducible apply q_alloc (k := ks _) layOk); apply Eq.refl; (focus (repeat (with_reducible (first | apply lh | apply lt)))); apply Eq.refl) | ((with_reducible apply q_len layOk); (iterate 4 apply Eq.refl)) | ((with_reducible apply q_fieldc layOk); apply Eq.refl; exact Tryd.underlying33; (iterate 4 apply Eq.refl)) | ((with_reducible apply q_fieldr layOk); apply Eq.refl; exact Tryd.underlying33; (iterate 4 apply Eq.refl)) | ((with_reducible apply isF (f := 35)); (refine q_call1r rfl (ref_CheckTable tb ok ha) (by first | (focus ((repeat (with_reducible (first | apply lh | apply lt))); done)) | (focus (apply lx; (focus (repeat (with_reducible (first | apply lh | apply lt)))); exact rfl))) ?_)) | ((with_reducible apply e_store layOk); (iterate 3 apply Eq.refl); (focus (repeat (with_reducible (first | apply lh | apply lt)))); (iterate 5 apply Eq.refl)))))
    | (((with_reducible refine gR ?_); (first | refine RK.peelN rfl ?_ | refine RK.donef rfl ⟨_, rfl, ?_⟩ | refine RK.donet rfl (by kernel_rfl) ⟨_, rfl, ?_⟩)))
    | ((first | (with_reducible refine gQv ?_ ?_) | (with_reducible refine gQe ?_ ?_)); (focus (first | (apply wg (r := false); (iterate 6 apply Eq.refl)) | (apply wz; (iterate 4 apply Eq.refl)))))
    | ((with_reducible refine gK ?_); ((first | (apply gsD; (iterate 4 apply Eq.refl)) | (apply RKo.gsplitE; (iterate 4 apply Eq.refl)) | (apply RKo.gsplitN; (iterate 4 apply Eq.refl)) | (apply RKo.gsplit; (iterate 4 apply Eq.refl))) <;> (intro hc; first | with_reducible exact ff hc | with_reducible exact ff' hc | exact absurd rfl hc | skip)))
    | (((with_reducible refine gW ?_); (first | with_reducible refine WP.seq ?_ | refine WP.reg mixed (fun ks => _) (fun ks => rfl) (fun ks => ?_) | ((first | (apply cdD; apply Eq.refl) | (apply WP.condE; apply Eq.refl) | (apply WP.condN; apply Eq.refl) | (apply WP.condA; apply Eq.refl)) <;> (intro hc; first | with_reducible exact ff hc | with_reducible exact ff' hc | exact absurd rfl hc | skip)) | refine WP.ret ?_ | refine WP.skip ?_ | refine WP.exit ?_ | refine WP.goto ?_ | refine WP.label ?_ | refine WP.block ?_)))
    | (with_reducible refine thn_n ?_)
    | (with_reducible refine thn_r ?_)
    | (with_reducible refine thn_e ?_)
    | (with_reducible refine thn_g ?_)
    | (with_reducible refine blk_n ?_)
    | (with_reducible refine blk_r ?_)
    | (with_reducible refine blk_e ?_)
    | (with_reducible refine blk_g ?_)
    | (((with_reducible refine blk_o ?_ ?_); first | exact rfl | skip))
    | (refine Endz.mk' (by first | exact Or.inl rfl | exact Or.inr rfl) (by repeat (first | exact RVs.nil | apply RVs.cons | exact RV1.tmp rfl | exact RV1.row rfl rfl rfl (by repeat (first | exact look_here | apply look_there)) (by exact rfl) | exact RV1.cell rfl rfl rfl (by repeat (first | exact look_here | apply look_there)) (by exact rfl))) (by rfl) (by repeat (first | exact List.nil_sublist _ | exact List.Sublist.refl _ | apply List.Sublist.cons_cons | apply List.Sublist.cons))))
  rename_i r0 r1 r3 r4 r5
  refine WP.loopI (n := 72) (α := Int × Int) (fun z => [(0, some (.slice a n cap)), (1, some (I64 y)), (4, some (.pointer (some ⟨r0 0, 0, none⟩))), (5, some (I64 (X 0))), (6, some (I64 (X (n - 1)))), (7, some (I64 z.1)), (8, some (I64 z.2))])
    (fun z => [(k, ob), (r0 0, .cells [I64 0, I64 0] 38)]) (fun z => X 0 ≤ z.1 ∧ z.1 ≤ z.2 ∧ z.2 ≤ X (n - 1) ∧ (∀ x, X 0 ≤ x → x < z.1 → tHi n X Y x < y) ∧ (z.2 < X (n - 1) → y ≤ tHi n X Y z.2)) (fun z => (z.2 - z.1).toNat) (X 0, X (n - 1)) (Wk.of ⟨rfl, rfl, rfl, rfl, rfl, rfl, rfl, trivial⟩ (by repeat (first | exact List.nil_sublist _ | exact List.Sublist.refl _ | apply List.Sublist.cons_cons | apply List.Sublist.cons)))
    ⟨Int.le_refl _, by show X 0 ≤ X (n - 1); omega, Int.le_refl _, fun x h1 h2 => absurd h2 (by show ¬ x < X 0; omega), fun h => absurd h (Int.lt_irrefl _)⟩ (fun z iz => ?_)
  obtain ⟨a0, b0⟩ := z
  obtain ⟨i1, i2, i3, i4, i5⟩ := iz
  dsimp only at i1 i2 i3 i4 i5 ⊢
  by_cases hlt : a0 < b0
  · obtain ⟨m, hm, m1, m2, m3⟩ := half hlt (by omega) (by omega)
    by_cases hp : y ≤ tHi n X Y m
    · have hq : y ≤ tHi n X Y (IntKind.i64.wrap (a0 + IntKind.i64.wrap ((IntKind.i64.wrap (b0 - a0)).tdiv 2))) := by rw [hm]; exact hp
      repeat' (first
        | (((first | (with_reducible refine gQ0 ?_) | ((with_reducible refine gQ1 ?_ ?_); (focus (apply wg (r := true); (iterate 6 apply Eq.refl))))); (first | ((with_reducible apply q_quo); (iterate 2 apply Eq.refl); (focus (decide))) | ((with_reducible apply q_move); apply Eq.refl) | ((with_reducible apply q_assign); apply Eq.refl) | ((with_reducible apply q_int); (iterate 3 apply Eq.refl)) | ((with_reducible apply q_fa layOk); (iterate 5 apply Eq.refl)) | ((with_reducible apply q_load layOk); (iterate 3 apply Eq.refl); (focus (repeat (with_reducible (first | apply lh | apply lt)))); apply Eq.refl) | ((with_reducible apply q_loadr layOk); (iterate 3 apply Eq.refl); (focus (repeat (with_reducible (first | apply lh | apply lt)))); apply Eq.refl) | ((with_reducible apply q_build layOk); (iterate 4 apply Eq.refl)) | ((with_reducible apply q_alloc (k := ks _) layOk); apply Eq.refl; (focus (repeat (with_reducible (first | apply lh | apply lt)))); apply Eq.refl) | ((with_reducible apply q_len layOk); (iterate 4 apply Eq.refl)) | ((with_reducible apply q_fieldc layOk); apply Eq.refl; exact Tryd.underlying38; (iterate 4 apply Eq.refl)) | ((with_reducible apply q_fieldr layOk); apply Eq.refl; exact Tryd.underlying38; (iterate 4 apply Eq.refl)) | ((with_reducible apply isF (f := 38)); (refine q_call1r rfl (ref_At tb ok ha _) (by first | (focus ((repeat (with_reducible (first | apply lh | apply lt))); done)) | (focus (apply lx; (focus (repeat (with_reducible (first | apply lh | apply lt)))); exact rfl))) ?_)) | ((with_reducible apply isF (f := 87)); (refine q_call0 rfl (ref_Of _ _) ?_)) | ((with_reducible apply e_store layOk); (iterate 3 apply Eq.refl); (focus (repeat (with_reducible (first | apply lh | apply lt)))); (iterate 5 apply Eq.refl)))))
        | (((with_reducible refine gR ?_); (first | refine RK.peelN rfl ?_ | refine RK.donef rfl ⟨_, rfl, ?_⟩ | refine RK.donet rfl (by kernel_rfl) ⟨_, rfl, ?_⟩)))
        | ((first | (with_reducible refine gQv ?_ ?_) | (with_reducible refine gQe ?_ ?_)); (focus (first | (apply wg (r := false); (iterate 6 apply Eq.refl)) | (apply wz; (iterate 4 apply Eq.refl)))))
        | ((with_reducible refine gK ?_); ((first | (apply gsD; (iterate 4 apply Eq.refl)) | (apply RKo.gsplitE; (iterate 4 apply Eq.refl)) | (apply RKo.gsplitN; (iterate 4 apply Eq.refl)) | (apply RKo.gsplit; (iterate 4 apply Eq.refl))) <;> (intro hc; first | with_reducible exact ff hc | with_reducible exact ff' hc | with_reducible exact absurd hc hlt | with_reducible exact absurd hc hq | with_reducible exact absurd hlt hc | with_reducible exact absurd hq hc | skip)))
        | (((with_reducible refine gW ?_); (first | with_reducible refine WP.seq ?_ | refine WP.reg mixed (fun ks => _) (fun ks => rfl) (fun ks => ?_) | ((first | (apply cdD; apply Eq.refl) | (apply WP.condE; apply Eq.refl) | (apply WP.condN; apply Eq.refl) | (apply WP.condA; apply Eq.refl)) <;> (intro hc; first | with_reducible exact ff hc | with_reducible exact ff' hc | with_reducible exact absurd hc hlt | with_reducible exact absurd hc hq | with_reducible exact absurd hlt hc | with_reducible exact absurd hq hc | skip)) | refine WP.ret ?_ | refine WP.skip ?_ | refine WP.exit ?_ | refine WP.goto ?_ | refine WP.label ?_ | refine WP.block ?_)))
        | (with_reducible refine thn_n ?_)
        | (with_reducible refine thn_r ?_)
        | (with_reducible refine thn_e ?_)
        | (with_reducible refine thn_g ?_)
        | (with_reducible refine blk_n ?_)
        | (with_reducible refine blk_r ?_)
        | (with_reducible refine blk_e ?_)
        | (with_reducible refine blk_g ?_)
        | (((with_reducible refine blk_o ?_ ?_); first | exact rfl | skip))
        | (refine Endz.mk' (by first | exact Or.inl rfl | exact Or.inr rfl) (by repeat (first | exact RVs.nil | apply RVs.cons | exact RV1.tmp rfl | exact RV1.row rfl rfl rfl (by repeat (first | exact look_here | apply look_there)) (by exact rfl) | exact RV1.cell rfl rfl rfl (by repeat (first | exact look_here | apply look_there)) (by exact rfl))) (by rfl) (by repeat (first | exact List.nil_sublist _ | exact List.Sublist.refl _ | apply List.Sublist.cons_cons | apply List.Sublist.cons))))
      exact ⟨(a0, m), ⟨i1, m1, by show m ≤ X (n - 1); omega, i4, fun _ => hp⟩, by show (m - a0).toNat < (b0 - a0).toNat; omega, Wk.of ⟨rfl, rfl, rfl, rfl, rfl, rfl, congrArg (fun x => some (I64 x)) hm, trivial⟩ (by repeat (first | exact List.nil_sublist _ | exact List.Sublist.refl _ | apply List.Sublist.cons_cons | apply List.Sublist.cons))⟩
    · have hq : ¬ y ≤ tHi n X Y (IntKind.i64.wrap (a0 + IntKind.i64.wrap ((IntKind.i64.wrap (b0 - a0)).tdiv 2))) := by rw [hm]; exact hp
      repeat' (first
        | (((first | (with_reducible refine gQ0 ?_) | ((with_reducible refine gQ1 ?_ ?_); (focus (apply wg (r := true); (iterate 6 apply Eq.refl))))); (first | ((with_reducible apply q_quo); (iterate 2 apply Eq.refl); (focus (decide))) | ((with_reducible apply q_move); apply Eq.refl) | ((with_reducible apply q_assign); apply Eq.refl) | ((with_reducible apply q_int); (iterate 3 apply Eq.refl)) | ((with_reducible apply q_fa layOk); (iterate 5 apply Eq.refl)) | ((with_reducible apply q_load layOk); (iterate 3 apply Eq.refl); (focus (repeat (with_reducible (first | apply lh | apply lt)))); apply Eq.refl) | ((with_reducible apply q_loadr layOk); (iterate 3 apply Eq.refl); (focus (repeat (with_reducible (first | apply lh | apply lt)))); apply Eq.refl) | ((with_reducible apply q_build layOk); (iterate 4 apply Eq.refl)) | ((with_reducible apply q_alloc (k := ks _) layOk); apply Eq.refl; (focus (repeat (with_reducible (first | apply lh | apply lt)))); apply Eq.refl) | ((with_reducible apply q_len layOk); (iterate 4 apply Eq.refl)) | ((with_reducible apply q_fieldc layOk); apply Eq.refl; exact Tryd.underlying38; (iterate 4 apply Eq.refl)) | ((with_reducible apply q_fieldr layOk); apply Eq.refl; exact Tryd.underlying38; (iterate 4 apply Eq.refl)) | ((with_reducible apply isF (f := 38)); (refine q_call1r rfl (ref_At tb ok ha _) (by first | (focus ((repeat (with_reducible (first | apply lh | apply lt))); done)) | (focus (apply lx; (focus (repeat (with_reducible (first | apply lh | apply lt)))); exact rfl))) ?_)) | ((with_reducible apply isF (f := 87)); (refine q_call0 rfl (ref_Of _ _) ?_)) | ((with_reducible apply e_store layOk); (iterate 3 apply Eq.refl); (focus (repeat (with_reducible (first | apply lh | apply lt)))); (iterate 5 apply Eq.refl)))))
        | (((with_reducible refine gR ?_); (first | refine RK.peelN rfl ?_ | refine RK.donef rfl ⟨_, rfl, ?_⟩ | refine RK.donet rfl (by kernel_rfl) ⟨_, rfl, ?_⟩)))
        | ((first | (with_reducible refine gQv ?_ ?_) | (with_reducible refine gQe ?_ ?_)); (focus (first | (apply wg (r := false); (iterate 6 apply Eq.refl)) | (apply wz; (iterate 4 apply Eq.refl)))))
        | ((with_reducible refine gK ?_); ((first | (apply gsD; (iterate 4 apply Eq.refl)) | (apply RKo.gsplitE; (iterate 4 apply Eq.refl)) | (apply RKo.gsplitN; (iterate 4 apply Eq.refl)) | (apply RKo.gsplit; (iterate 4 apply Eq.refl))) <;> (intro hc; first | with_reducible exact ff hc | with_reducible exact ff' hc | with_reducible exact absurd hc hlt | with_reducible exact absurd hc hq | with_reducible exact absurd hlt hc | with_reducible exact absurd hq hc | skip)))
        | (((with_reducible refine gW ?_); (first | with_reducible refine WP.seq ?_ | refine WP.reg mixed (fun ks => _) (fun ks => rfl) (fun ks => ?_) | ((first | (apply cdD; apply Eq.refl) | (apply WP.condE; apply Eq.refl) | (apply WP.condN; apply Eq.refl) | (apply WP.condA; apply Eq.refl)) <;> (intro hc; first | with_reducible exact ff hc | with_reducible exact ff' hc | with_reducible exact absurd hc hlt | with_reducible exact absurd hc hq | with_reducible exact absurd hlt hc | with_reducible exact absurd hq hc | skip)) | refine WP.ret ?_ | refine WP.skip ?_ | refine WP.exit ?_ | refine WP.goto ?_ | refine WP.label ?_ | refine WP.block ?_)))
        | (with_reducible refine thn_n ?_)
        | (with_reducible refine thn_r ?_)
        | (with_reducible refine thn_e ?_)
        | (with_reducible refine thn_g ?_)
        | (with_reducible refine blk_n ?_)
        | (with_reducible refine blk_r ?_)
        | (with_reducible refine blk_e ?_)
        | (with_reducible refine blk_g ?_)
        | (((with_reducible refine blk_o ?_ ?_); first | exact rfl | skip))
        | (refine Endz.mk' (by first | exact Or.inl rfl | exact Or.inr rfl) (by repeat (first | exact RVs.nil | apply RVs.cons | exact RV1.tmp rfl | exact RV1.row rfl rfl rfl (by repeat (first | exact look_here | apply look_there)) (by exact rfl) | exact RV1.cell rfl rfl rfl (by repeat (first | exact look_here | apply look_there)) (by exact rfl))) (by rfl) (by repeat (first | exact List.nil_sublist _ | exact List.Sublist.refl _ | apply List.Sublist.cons_cons | apply List.Sublist.cons))))
      refine ⟨(m + 1, b0), ⟨by show X 0 ≤ m + 1; omega, by show m + 1 ≤ b0; omega, i3, fun x h1 h2 => ?_, i5⟩, by show (b0 - (m + 1)).toNat < (b0 - a0).toNat; omega, Wk.of ⟨rfl, rfl, rfl, rfl, rfl, ?_, rfl, trivial⟩ (by repeat (first | exact List.nil_sublist _ | exact List.Sublist.refl _ | apply List.Sublist.cons_cons | apply List.Sublist.cons))⟩
      · have h2 : x < m + 1 := h2
        have := (ok.mono (x := x) (y := m) (by omega)).2
        omega
      · exact congrArg (fun x => some (I64 x)) (by rw [hm]; exact m3)
  · obtain rfl : a0 = b0 := by omega
    have hA : bA n X Y y = a0 := ok.bA_of i1 i3 i4 i5
    repeat' (first
      | (((first | (with_reducible refine gQ0 ?_) | ((with_reducible refine gQ1 ?_ ?_); (focus (apply wg (r := true); (iterate 6 apply Eq.refl))))); (first | ((with_reducible apply q_quo); (iterate 2 apply Eq.refl); (focus (decide))) | ((with_reducible apply q_move); apply Eq.refl) | ((with_reducible apply q_assign); apply Eq.refl) | ((with_reducible apply q_int); (iterate 3 apply Eq.refl)) | ((with_reducible apply q_fa layOk); (iterate 5 apply Eq.refl)) | ((with_reducible apply q_load layOk); (iterate 3 apply Eq.refl); (focus (repeat (with_reducible (first | apply lh | apply lt)))); apply Eq.refl) | ((with_reducible apply q_loadr layOk); (iterate 3 apply Eq.refl); (focus (repeat (with_reducible (first | apply lh | apply lt)))); apply Eq.refl) | ((with_reducible apply q_build layOk); (iterate 4 apply Eq.refl)) | ((with_reducible apply q_alloc (k := ks _) layOk); apply Eq.refl; (focus (repeat (with_reducible (first | apply lh | apply lt)))); apply Eq.refl) | ((with_reducible apply q_len layOk); (iterate 4 apply Eq.refl)) | ((with_reducible apply q_fieldc layOk); apply Eq.refl; exact Tryd.underlying38; (iterate 4 apply Eq.refl)) | ((with_reducible apply q_fieldr layOk); apply Eq.refl; exact Tryd.underlying38; (iterate 4 apply Eq.refl)) | ((with_reducible apply isF (f := 38)); (refine q_call1r rfl (ref_At tb ok ha _) (by first | (focus ((repeat (with_reducible (first | apply lh | apply lt))); done)) | (focus (apply lx; (focus (repeat (with_reducible (first | apply lh | apply lt)))); exact rfl))) ?_)) | ((with_reducible apply isF (f := 87)); (refine q_call0 rfl (ref_Of _ _) ?_)) | ((with_reducible apply e_store layOk); (iterate 3 apply Eq.refl); (focus (repeat (with_reducible (first | apply lh | apply lt)))); (iterate 5 apply Eq.refl)))))
      | (((with_reducible refine gR ?_); (first | refine RK.peelN rfl ?_ | refine RK.donef rfl ⟨_, rfl, ?_⟩ | refine RK.donet rfl (by kernel_rfl) ⟨_, rfl, ?_⟩)))
      | ((first | (with_reducible refine gQv ?_ ?_) | (with_reducible refine gQe ?_ ?_)); (focus (first | (apply wg (r := false); (iterate 6 apply Eq.refl)) | (apply wz; (iterate 4 apply Eq.refl)))))
      | ((with_reducible refine gK ?_); ((first | (apply gsD; (iterate 4 apply Eq.refl)) | (apply RKo.gsplitE; (iterate 4 apply Eq.refl)) | (apply RKo.gsplitN; (iterate 4 apply Eq.refl)) | (apply RKo.gsplit; (iterate 4 apply Eq.refl))) <;> (intro hc; first | with_reducible exact ff hc | with_reducible exact ff' hc | with_reducible exact absurd hc hlt | with_reducible exact absurd hlt hc | skip)))
      | (((with_reducible refine gW ?_); (first | with_reducible refine WP.seq ?_ | refine WP.reg mixed (fun ks => _) (fun ks => rfl) (fun ks => ?_) | ((first | (apply cdD; apply Eq.refl) | (apply WP.condE; apply Eq.refl) | (apply WP.condN; apply Eq.refl) | (apply WP.condA; apply Eq.refl)) <;> (intro hc; first | with_reducible exact ff hc | with_reducible exact ff' hc | with_reducible exact absurd hc hlt | with_reducible exact absurd hlt hc | skip)) | refine WP.ret ?_ | refine WP.skip ?_ | refine WP.exit ?_ | refine WP.goto ?_ | refine WP.label ?_ | refine WP.block ?_)))
      | (with_reducible refine thn_n ?_)
      | (with_reducible refine thn_r ?_)
      | (with_reducible refine thn_e ?_)
      | (with_reducible refine thn_g ?_)
      | (with_reducible refine blk_n ?_)
      | (with_reducible refine blk_r ?_)
      | (with_reducible refine blk_e ?_)
      | (with_reducible refine blk_g ?_)
      | (((with_reducible refine blk_o ?_ ?_); first | exact rfl | skip))
      | (refine Endz.mk' (by first | exact Or.inl rfl | exact Or.inr rfl) (by repeat (first | exact RVs.nil | apply RVs.cons | exact RV1.tmp rfl | exact RV1.row rfl rfl rfl (by repeat (first | exact look_here | apply look_there)) (by exact rfl) | exact RV1.cell rfl rfl rfl (by repeat (first | exact look_here | apply look_there)) (by exact rfl))) (by rfl) (by repeat (first | exact List.nil_sublist _ | exact List.Sublist.refl _ | apply List.Sublist.cons_cons | apply List.Sublist.cons))))
    refine WP.loopI (n := 72) (α := Int × Int) (fun z => [(0, some (.slice a n cap)), (1, some (I64 y)), (4, some (.pointer (some ⟨r0 0, 0, none⟩))), (5, some (I64 (X 0))), (6, some (I64 (X (n - 1)))), (10, some (I64 a0)), (7, some (I64 z.1)), (8, some (I64 z.2))])
      (fun z => [(k, ob), (r0 0, .cells [I64 0, I64 0] 38)]) (fun z => X 0 ≤ z.1 ∧ z.1 ≤ z.2 ∧ z.2 ≤ X (n - 1) ∧ (∀ x, z.2 < x → x ≤ X (n - 1) → y < tLo n X Y x) ∧ (X 0 < z.1 → tLo n X Y z.1 ≤ y)) (fun z => (z.2 - z.1).toNat) (X 0, X (n - 1)) (Wk.of ⟨rfl, rfl, rfl, rfl, rfl, rfl, rfl, rfl, trivial⟩ (by repeat (first | exact List.nil_sublist _ | exact List.Sublist.refl _ | apply List.Sublist.cons_cons | apply List.Sublist.cons)))
      ⟨Int.le_refl _, by show X 0 ≤ X (n - 1); omega, Int.le_refl _, fun x h1 h2 => absurd h1 (by show ¬ X (n - 1) < x; omega), fun h => absurd h (Int.lt_irrefl _)⟩ (fun z iz => ?_)
    clear i1 i2 i3 i4 i5 hlt
    rename_i c0
    clear c0
    obtain ⟨a1, b0⟩ := z
    obtain ⟨i1, i2, i3, i4, i5⟩ := iz
    dsimp only at i1 i2 i3 i4 i5 ⊢
    by_cases hlt : a1 < b0
    · obtain ⟨m, hm, m1, m2, m3⟩ := halfU hlt (by omega) (by omega)
      by_cases hp : tLo n X Y m ≤ y
      · have hq : tLo n X Y (IntKind.i64.wrap (b0 - IntKind.i64.wrap ((IntKind.i64.wrap (b0 - a1)).tdiv 2))) ≤ y := by rw [hm]; exact hp
        repeat' (first
          | (((first | (with_reducible refine gQ0 ?_) | ((with_reducible refine gQ1 ?_ ?_); (focus (apply wg (r := true); (iterate 6 apply Eq.refl))))); (first | ((with_reducible apply q_quo); (iterate 2 apply Eq.refl); (focus (decide))) | ((with_reducible apply q_move); apply Eq.refl) | ((with_reducible apply q_assign); apply Eq.refl) | ((with_reducible apply q_int); (iterate 3 apply Eq.refl)) | ((with_reducible apply q_fa layOk); (iterate 5 apply Eq.refl)) | ((with_reducible apply q_load layOk); (iterate 3 apply Eq.refl); (focus (repeat (with_reducible (first | apply lh | apply lt)))); apply Eq.refl) | ((with_reducible apply q_loadr layOk); (iterate 3 apply Eq.refl); (focus (repeat (with_reducible (first | apply lh | apply lt)))); apply Eq.refl) | ((with_reducible apply q_build layOk); (iterate 4 apply Eq.refl)) | ((with_reducible apply q_alloc (k := ks _) layOk); apply Eq.refl; (focus (repeat (with_reducible (first | apply lh | apply lt)))); apply Eq.refl) | ((with_reducible apply q_len layOk); (iterate 4 apply Eq.refl)) | ((with_reducible apply q_fieldc layOk); apply Eq.refl; exact Tryd.underlying38; (iterate 4 apply Eq.refl)) | ((with_reducible apply q_fieldr layOk); apply Eq.refl; exact Tryd.underlying38; (iterate 4 apply Eq.refl)) | ((with_reducible apply isF (f := 38)); (refine q_call1r rfl (ref_At tb ok ha _) (by first | (focus ((repeat (with_reducible (first | apply lh | apply lt))); done)) | (focus (apply lx; (focus (repeat (with_reducible (first | apply lh | apply lt)))); exact rfl))) ?_)) | ((with_reducible apply isF (f := 87)); (refine q_call0 rfl (ref_Of _ _) ?_)) | ((with_reducible apply e_store layOk); (iterate 3 apply Eq.refl); (focus (repeat (with_reducible (first | apply lh | apply lt)))); (iterate 5 apply Eq.refl)))))
          | (((with_reducible refine gR ?_); (first | refine RK.peelN rfl ?_ | refine RK.donef rfl ⟨_, rfl, ?_⟩ | refine RK.donet rfl (by kernel_rfl) ⟨_, rfl, ?_⟩)))
          | ((first | (with_reducible refine gQv ?_ ?_) | (with_reducible refine gQe ?_ ?_)); (focus (first | (apply wg (r := false); (iterate 6 apply Eq.refl)) | (apply wz; (iterate 4 apply Eq.refl)))))
          | ((with_reducible refine gK ?_); ((first | (apply gsD; (iterate 4 apply Eq.refl)) | (apply RKo.gsplitE; (iterate 4 apply Eq.refl)) | (apply RKo.gsplitN; (iterate 4 apply Eq.refl)) | (apply RKo.gsplit; (iterate 4 apply Eq.refl))) <;> (intro hc; first | with_reducible exact ff hc | with_reducible exact ff' hc | with_reducible exact absurd hc hlt | with_reducible exact absurd hc hq | with_reducible exact absurd hlt hc | with_reducible exact absurd hq hc | skip)))
          | (((with_reducible refine gW ?_); (first | with_reducible refine WP.seq ?_ | refine WP.reg mixed (fun ks => _) (fun ks => rfl) (fun ks => ?_) | ((first | (apply cdD; apply Eq.refl) | (apply WP.condE; apply Eq.refl) | (apply WP.condN; apply Eq.refl) | (apply WP.condA; apply Eq.refl)) <;> (intro hc; first | with_reducible exact ff hc | with_reducible exact ff' hc | with_reducible exact absurd hc hlt | with_reducible exact absurd hc hq | with_reducible exact absurd hlt hc | with_reducible exact absurd hq hc | skip)) | refine WP.ret ?_ | refine WP.skip ?_ | refine WP.exit ?_ | refine WP.goto ?_ | refine WP.label ?_ | refine WP.block ?_)))
          | (with_reducible refine thn_n ?_)
          | (with_reducible refine thn_r ?_)
          | (with_reducible refine thn_e ?_)
          | (with_reducible refine thn_g ?_)
          | (with_reducible refine blk_n ?_)
          | (with_reducible refine blk_r ?_)
          | (with_reducible refine blk_e ?_)
          | (with_reducible refine blk_g ?_)
          | (((with_reducible refine blk_o ?_ ?_); first | exact rfl | skip))
          | (refine Endz.mk' (by first | exact Or.inl rfl | exact Or.inr rfl) (by repeat (first | exact RVs.nil | apply RVs.cons | exact RV1.tmp rfl | exact RV1.row rfl rfl rfl (by repeat (first | exact look_here | apply look_there)) (by exact rfl) | exact RV1.cell rfl rfl rfl (by repeat (first | exact look_here | apply look_there)) (by exact rfl))) (by rfl) (by repeat (first | exact List.nil_sublist _ | exact List.Sublist.refl _ | apply List.Sublist.cons_cons | apply List.Sublist.cons))))
        exact ⟨(m, b0), ⟨by show X 0 ≤ m; omega, m2, i3, i4, fun _ => hp⟩, by show (b0 - m).toNat < (b0 - a1).toNat; omega, Wk.of ⟨rfl, rfl, rfl, rfl, rfl, rfl, congrArg (fun x => some (I64 x)) hm, rfl, trivial⟩ (by repeat (first | exact List.nil_sublist _ | exact List.Sublist.refl _ | apply List.Sublist.cons_cons | apply List.Sublist.cons))⟩
      · have hq : ¬ tLo n X Y (IntKind.i64.wrap (b0 - IntKind.i64.wrap ((IntKind.i64.wrap (b0 - a1)).tdiv 2))) ≤ y := by rw [hm]; exact hp
        repeat' (first
          | (((first | (with_reducible refine gQ0 ?_) | ((with_reducible refine gQ1 ?_ ?_); (focus (apply wg (r := true); (iterate 6 apply Eq.refl))))); (first | ((with_reducible apply q_quo); (iterate 2 apply Eq.refl); (focus (decide))) | ((with_reducible apply q_move); apply Eq.refl) | ((with_reducible apply q_assign); apply Eq.refl) | ((with_reducible apply q_int); (iterate 3 apply Eq.refl)) | ((with_reducible apply q_fa layOk); (iterate 5 apply Eq.refl)) | ((with_reducible apply q_load layOk); (iterate 3 apply Eq.refl); (focus (repeat (with_reducible (first | apply lh | apply lt)))); apply Eq.refl) | ((with_reducible apply q_loadr layOk); (iterate 3 apply Eq.refl); (focus (repeat (with_reducible (first | apply lh | apply lt)))); apply Eq.refl) | ((with_reducible apply q_build layOk); (iterate 4 apply Eq.refl)) | ((with_reducible apply q_alloc (k := ks _) layOk); apply Eq.refl; (focus (repeat (with_reducible (first | apply lh | apply lt)))); apply Eq.refl) | ((with_reducible apply q_len layOk); (iterate 4 apply Eq.refl)) | ((with_reducible apply q_fieldc layOk); apply Eq.refl; exact Tryd.underlying38; (iterate 4 apply Eq.refl)) | ((with_reducible apply q_fieldr layOk); apply Eq.refl; exact Tryd.underlying38; (iterate 4 apply Eq.refl)) | ((with_reducible apply isF (f := 38)); (refine q_call1r rfl (ref_At tb ok ha _) (by first | (focus ((repeat (with_reducible (first | apply lh | apply lt))); done)) | (focus (apply lx; (focus (repeat (with_reducible (first | apply lh | apply lt)))); exact rfl))) ?_)) | ((with_reducible apply isF (f := 87)); (refine q_call0 rfl (ref_Of _ _) ?_)) | ((with_reducible apply e_store layOk); (iterate 3 apply Eq.refl); (focus (repeat (with_reducible (first | apply lh | apply lt)))); (iterate 5 apply Eq.refl)))))
          | (((with_reducible refine gR ?_); (first | refine RK.peelN rfl ?_ | refine RK.donef rfl ⟨_, rfl, ?_⟩ | refine RK.donet rfl (by kernel_rfl) ⟨_, rfl, ?_⟩)))
          | ((first | (with_reducible refine gQv ?_ ?_) | (with_reducible refine gQe ?_ ?_)); (focus (first | (apply wg (r := false); (iterate 6 apply Eq.refl)) | (apply wz; (iterate 4 apply Eq.refl)))))
          | ((with_reducible refine gK ?_); ((first | (apply gsD; (iterate 4 apply Eq.refl)) | (apply RKo.gsplitE; (iterate 4 apply Eq.refl)) | (apply RKo.gsplitN; (iterate 4 apply Eq.refl)) | (apply RKo.gsplit; (iterate 4 apply Eq.refl))) <;> (intro hc; first | with_reducible exact ff hc | with_reducible exact ff' hc | with_reducible exact absurd hc hlt | with_reducible exact absurd hc hq | with_reducible exact absurd hlt hc | with_reducible exact absurd hq hc | skip)))
          | (((with_reducible refine gW ?_); (first | with_reducible refine WP.seq ?_ | refine WP.reg mixed (fun ks => _) (fun ks => rfl) (fun ks => ?_) | ((first | (apply cdD; apply Eq.refl) | (apply WP.condE; apply Eq.refl) | (apply WP.condN; apply Eq.refl) | (apply WP.condA; apply Eq.refl)) <;> (intro hc; first | with_reducible exact ff hc | with_reducible exact ff' hc | with_reducible exact absurd hc hlt | with_reducible exact absurd hc hq | with_reducible exact absurd hlt hc | with_reducible exact absurd hq hc | skip)) | refine WP.ret ?_ | refine WP.skip ?_ | refine WP.exit ?_ | refine WP.goto ?_ | refine WP.label ?_ | refine WP.block ?_)))
          | (with_reducible refine thn_n ?_)
          | (with_reducible refine thn_r ?_)
          | (with_reducible refine thn_e ?_)
          | (with_reducible refine thn_g ?_)
          | (with_reducible refine blk_n ?_)
          | (with_reducible refine blk_r ?_)
          | (with_reducible refine blk_e ?_)
          | (with_reducible refine blk_g ?_)
          | (((with_reducible refine blk_o ?_ ?_); first | exact rfl | skip))
          | (refine Endz.mk' (by first | exact Or.inl rfl | exact Or.inr rfl) (by repeat (first | exact RVs.nil | apply RVs.cons | exact RV1.tmp rfl | exact RV1.row rfl rfl rfl (by repeat (first | exact look_here | apply look_there)) (by exact rfl) | exact RV1.cell rfl rfl rfl (by repeat (first | exact look_here | apply look_there)) (by exact rfl))) (by rfl) (by repeat (first | exact List.nil_sublist _ | exact List.Sublist.refl _ | apply List.Sublist.cons_cons | apply List.Sublist.cons))))
        refine ⟨(a1, m - 1), ⟨i1, by show a1 ≤ m - 1; omega, by show m - 1 ≤ X (n - 1); omega, fun x h1 h2 => ?_, i5⟩, by show ((m - 1) - a1).toNat < (b0 - a1).toNat; omega, Wk.of ⟨rfl, rfl, rfl, rfl, rfl, rfl, rfl, ?_, trivial⟩ (by repeat (first | exact List.nil_sublist _ | exact List.Sublist.refl _ | apply List.Sublist.cons_cons | apply List.Sublist.cons))⟩
        · have h1 : m - 1 < x := h1
          have := (ok.mono (x := m) (y := x) (by omega)).1
          omega
        · exact congrArg (fun x => some (I64 x)) (by rw [hm]; exact m3)
    · obtain rfl : a1 = b0 := by omega
      have hB : bB n X Y y = a1 := ok.bB_of i1 i3 i4 i5
      repeat' (first
        | (((first | (with_reducible refine gQ0 ?_) | ((with_reducible refine gQ1 ?_ ?_); (focus (apply wg (r := true); (iterate 6 apply Eq.refl))))); (first | ((with_reducible apply q_quo); (iterate 2 apply Eq.refl); (focus (decide))) | ((with_reducible apply q_move); apply Eq.refl) | ((with_reducible apply q_assign); apply Eq.refl) | ((with_reducible apply q_int); (iterate 3 apply Eq.refl)) | ((with_reducible apply q_fa layOk); (iterate 5 apply Eq.refl)) | ((with_reducible apply q_load layOk); (iterate 3 apply Eq.refl); (focus (repeat (with_reducible (first | apply lh | apply lt)))); apply Eq.refl) | ((with_reducible apply q_loadr layOk); (iterate 3 apply Eq.refl); (focus (repeat (with_reducible (first | apply lh | apply lt)))); apply Eq.refl) | ((with_reducible apply q_build layOk); (iterate 4 apply Eq.refl)) | ((with_reducible apply q_alloc (k := ks _) layOk); apply Eq.refl; (focus (repeat (with_reducible (first | apply lh | apply lt)))); apply Eq.refl) | ((with_reducible apply q_len layOk); (iterate 4 apply Eq.refl)) | ((with_reducible apply q_fieldc layOk); apply Eq.refl; exact Tryd.underlying38; (iterate 4 apply Eq.refl)) | ((with_reducible apply q_fieldr layOk); apply Eq.refl; exact Tryd.underlying38; (iterate 4 apply Eq.refl)) | ((with_reducible apply isF (f := 38)); (refine q_call1r rfl (ref_At tb ok ha _) (by first | (focus ((repeat (with_reducible (first | apply lh | apply lt))); done)) | (focus (apply lx; (focus (repeat (with_reducible (first | apply lh | apply lt)))); exact rfl))) ?_)) | ((with_reducible apply isF (f := 87)); (refine q_call0 rfl (ref_Of _ _) ?_)) | ((with_reducible apply e_store layOk); (iterate 3 apply Eq.refl); (focus (repeat (with_reducible (first | apply lh | apply lt)))); (iterate 5 apply Eq.refl)))))
        | (((with_reducible refine gR ?_); (first | refine RK.peelN rfl ?_ | refine RK.donef rfl ⟨_, rfl, ?_⟩ | refine RK.donet rfl (by kernel_rfl) ⟨_, rfl, ?_⟩)))
        | ((first | (with_reducible refine gQv ?_ ?_) | (with_reducible refine gQe ?_ ?_)); (focus (first | (apply wg (r := false); (iterate 6 apply Eq.refl)) | (apply wz; (iterate 4 apply Eq.refl)))))
        | ((with_reducible refine gK ?_); ((first | (apply gsD; (iterate 4 apply Eq.refl)) | (apply RKo.gsplitE; (iterate 4 apply Eq.refl)) | (apply RKo.gsplitN; (iterate 4 apply Eq.refl)) | (apply RKo.gsplit; (iterate 4 apply Eq.refl))) <;> (intro hc; first | with_reducible exact ff hc | with_reducible exact ff' hc | with_reducible exact absurd hc hlt | with_reducible exact absurd hlt hc | skip)))
        | (((with_reducible refine gW ?_); (first | with_reducible refine WP.seq ?_ | refine WP.reg mixed (fun ks => _) (fun ks => rfl) (fun ks => ?_) | ((first | (apply cdD; apply Eq.refl) | (apply WP.condE; apply Eq.refl) | (apply WP.condN; apply Eq.refl) | (apply WP.condA; apply Eq.refl)) <;> (intro hc; first | with_reducible exact ff hc | with_reducible exact ff' hc | with_reducible exact absurd hc hlt | with_reducible exact absurd hlt hc | skip)) | refine WP.ret ?_ | refine WP.skip ?_ | refine WP.exit ?_ | refine WP.goto ?_ | refine WP.label ?_ | refine WP.block ?_)))
        | (with_reducible refine thn_n ?_)
        | (with_reducible refine thn_r ?_)
        | (with_reducible refine thn_e ?_)
        | (with_reducible refine thn_g ?_)
        | (with_reducible refine blk_n ?_)
        | (with_reducible refine blk_r ?_)
        | (with_reducible refine blk_e ?_)
        | (with_reducible refine blk_g ?_)
        | (((with_reducible refine blk_o ?_ ?_); first | exact rfl | skip))
        | (refine Endz.mk' (by first | exact Or.inl rfl | exact Or.inr rfl) (by repeat (first | exact RVs.nil | apply RVs.cons | exact RV1.tmp rfl | exact RV1.row rfl rfl rfl (by repeat (first | exact look_here | apply look_there)) (by exact rfl) | exact RV1.cell rfl rfl rfl (by repeat (first | exact look_here | apply look_there)) (by exact rfl))) (by exact agg2_eq (by rw [← hA, ← hB]; rfl) (by rw [← hA, ← hB]; rfl)) (by repeat (first | exact List.nil_sublist _ | exact List.Sublist.refl _ | apply List.Sublist.cons_cons | apply List.Sublist.cons))))
end Go.Proofs.YtlhhcongoplfpaaDoor
namespace Go.Proofs.YtlhhcongoplfpaaDoor
open Go Go.Proofs.YtlhhcongoplfpaaDoorAB
variable {G : Nat}
set_option linter.unusedSimpArgs false
set_option linter.unusedVariables false

/-- Config, with its feeders forgotten. -/
theorem make_ConfigL (n m k : Int) : ∃ (fa : Nat → Option Addr) (fl fc : Nat), ∀ k1 k2 : Nat, Ctr Tryd.prog G 41 [I64 n, I64 m, I64 k] [(k1, .gone), (k2, .gone)] (.agg ⟨(cfgOf n m k (some ⟨k1, 0, none⟩) (fa k2) fl fc).cells⟩) [.cells ocv 27, .lost] := by
  obtain ⟨fa, fl, fc, ob, h⟩ := make_Config (G := G) n m k
  exact ⟨fa, fl, fc, fun k1 k2 => (h k1 k2).lose rfl fun i o ho => by
    match i, ho with
    | 0, ho => exact .inr ho
    | 1, ho => cases ho; exact .inl rfl⟩
theorem num_nonneg (n b : Int) (hb : 0 < b) (hb2 : b < 1000000000) : 0 ≤ num n b ∧ num n b < b := by
  unfold num
  have h1 : n.tmod b < b := Int.tmod_lt_of_pos n hb
  have h2 : -b < n.tmod b := Int.lt_tmod_of_pos n hb
  split
  · rw [wrap_in (by omega) (by omega)]; omega
  · omega
theorem n20_nonneg (n : Int) : 0 ≤ n20 n := (num_nonneg n 1048576 (by decide) (by decide)).1
def oczv : List (Int × Int) := [(0, 20000), (20000, 23000), (80000, 25000), (100000, 28000)]
abbrev oX : Nat → Int := PX oczv
abbrev oY : Nat → Int := PY oczv
theorem ocTb : Tb (.cells ocv 27) 0 4 oX oY := by
  refine ⟨fun i h => ?_, fun i h => ?_, fun i h => ?_⟩ <;> (match i, h with
    | 0, _ => rfl
    | 1, _ => rfl
    | 2, _ => rfl
    | 3, _ => rfl)
theorem ocOk : TOk 4 oX oY := by
  refine ⟨by decide, by decide, fun i h => ?_, fun i h => ?_, fun i h => ?_, fun i h => ?_, fun i h => ?_, fun i h => ?_⟩
  · match i, h with
    | 0, _ => decide
    | 1, _ => decide
    | 2, _ => decide
    | 3, _ => decide
  · match i, h with
    | 0, _ => decide
    | 1, _ => decide
    | 2, _ => decide
    | 3, _ => decide
  · match i, h with
    | 0, _ => decide
    | 1, _ => decide
    | 2, _ => decide
    | 3, _ => decide
  · match i, h with
    | 0, _ => decide
    | 1, _ => decide
    | 2, _ => decide
    | 3, _ => decide
  · match i, h with
    | 0, _ => decide
    | 1, _ => decide
    | 2, _ => decide
    | 3, h => omega
  · match i, h with
    | 0, _ => decide
    | 1, _ => decide
    | 2, _ => decide
    | 3, h => omega
/-- What the volts say: both ends; whether they say anything. -/
noncomputable def sLo (c : Cfg) (X Y : Nat → Int) (v a : Int) (p q : Bool) : Int := if p = true ∧ q = true ∧ ¬ v < c.Vmin then hLo c.ocL X Y (v + dn (a * 20) 1000 - c.SagErr) (v + up (a * 20) 1000 + c.SagErr) else 0
noncomputable def sHi (c : Cfg) (X Y : Nat → Int) (v a : Int) (p q : Bool) : Int := if p = true ∧ q = true ∧ ¬ v < c.Vmin then hHi c.ocL X Y (v + dn (a * 20) 1000 - c.SagErr) (v + up (a * 20) 1000 + c.SagErr) else 0
def sIs (c : Cfg) (v : Int) (p q : Bool) : Bool := decide (p = true ∧ q = true ∧ ¬ v < c.Vmin)

set_option maxHeartbeats 8000000 in
theorem sag_Charge (c : Cfg) {ob : AObj} {k f : Nat} {X Y : Nat → Int} (tb : Tb ob f c.ocL X Y) (ok : TOk c.ocL X Y) (ha : 0 < c.ocL → c.ocA = some ⟨k, f, none⟩) (v a : Int) (p q : Bool) (hO : c.Ohm = 20) (h1 : -1000000000 ≤ a) (h2 : a ≤ 1000000000) (v1 : -1000000000 ≤ v) (v2 : v ≤ 1000000000) (e1 : 0 ≤ c.SagErr) (e2 : c.SagErr ≤ 1000000000) : Ctr Tryd.prog G 42 [.agg ⟨c.cells⟩, .agg #[I64 (v), .bool p], .agg #[I64 (a), .bool q]] [(k, ob)] (.tuple #[.agg #[I64 (sLo c X Y v a p q), I64 (sHi c X Y v a p q)], .bool (sIs c v p q)]) [ob] := by
  by_cases hv : v < c.Vmin
  all_goals cases p
  all_goals cases q
  all_goals
    refine Ctr.by layOk Tryd.func42 Tryd.ntmps42 rfl rfl rfl rfl rfl ?_
    repeat' (first
      | (((first | (with_reducible refine gQ0 ?_) | ((with_reducible refine gQ1 ?_ ?_); (focus (apply wg (r := true); (iterate 6 apply Eq.refl))))); (first | ((with_reducible apply q_box (k := ks _)); apply Eq.refl; (focus (repeat (with_reducible (first | apply lh | apply lt)))); apply Eq.refl) | ((with_reducible apply q_alloc (k := ks _) layOk); apply Eq.refl; (focus (repeat (with_reducible (first | apply lh | apply lt)))); apply Eq.refl) | ((with_reducible apply q_move); apply Eq.refl) | ((with_reducible apply q_assign); apply Eq.refl) | ((with_reducible apply q_int); (iterate 3 apply Eq.refl)) | ((with_reducible apply q_fa layOk); (iterate 5 apply Eq.refl)) | ((with_reducible apply q_load layOk); (iterate 3 apply Eq.refl); (focus (repeat (with_reducible (first | apply lh | apply lt)))); apply Eq.refl) | ((with_reducible apply q_loadr layOk); (iterate 3 apply Eq.refl); (focus (repeat (with_reducible (first | apply lh | apply lt)))); apply Eq.refl) | ((with_reducible apply q_build layOk); (iterate 4 apply Eq.refl)) | ((with_reducible apply q_not); apply Eq.refl) | ((with_reducible apply q_box (k := ks _)); apply Eq.refl; (focus (repeat (with_reducible (first | apply lh | apply lt)))); apply Eq.refl) | ((with_reducible apply q_alloc (k := ks _) layOk); apply Eq.refl; (focus (repeat (with_reducible (first | apply lh | apply lt)))); apply Eq.refl) | ((with_reducible apply q_pick_t); (iterate 2 apply Eq.refl)) | ((with_reducible apply q_pick_f); (iterate 2 apply Eq.refl)) | ((with_reducible apply isF (f := 44)); (refine q_call0 rfl (sag_Rest c _ _ hO h1 h2 v1 v2 e1 e2) ?_)) | ((with_reducible apply isF (f := 33)); (refine q_call1r rfl (table_Back (cap := c.ocC) tb ok ha _) (by first | (focus ((repeat (with_reducible (first | apply lh | apply lt))); done)) | (focus (apply lx; (focus (repeat (with_reducible (first | apply lh | apply lt)))); exact rfl))) ?_)) | ((with_reducible apply isF (f := 88)); (refine q_call0 rfl (span_Hull _ _ _ _) ?_)) | ((with_reducible apply e_store layOk); (iterate 3 apply Eq.refl); (focus (repeat (with_reducible (first | apply lh | apply lt)))); (iterate 5 apply Eq.refl)))))
      | (((with_reducible refine gR ?_); (first | refine RK.peelN rfl ?_ | refine RK.donef rfl ⟨_, rfl, ?_⟩ | refine RK.donet rfl (by kernel_rfl) ⟨_, rfl, ?_⟩)))
      | ((first | (with_reducible refine gQv ?_ ?_) | (with_reducible refine gQe ?_ ?_)); (focus (first | (apply wg (r := false); (iterate 6 apply Eq.refl)) | (apply wz; (iterate 4 apply Eq.refl)))))
      | ((with_reducible refine gK ?_); ((first | (apply gsD; (iterate 4 apply Eq.refl)) | (apply RKo.gsplitE; (iterate 4 apply Eq.refl)) | (apply RKo.gsplitN; (iterate 4 apply Eq.refl)) | (apply RKo.gsplit; (iterate 4 apply Eq.refl))) <;> (intro hc; first | with_reducible exact ff hc | with_reducible exact ff' hc | exact absurd hc (by decide) | with_reducible exact absurd hc hv | with_reducible exact absurd hv hc | skip)))
      | (((with_reducible refine gW ?_); (first | with_reducible refine WP.seq ?_ | refine WP.reg mixed (fun ks => _) (fun ks => rfl) (fun ks => ?_) | ((first | (apply cdD; apply Eq.refl) | (apply WP.condE; apply Eq.refl) | (apply WP.condN; apply Eq.refl) | (apply WP.condA; apply Eq.refl)) <;> (intro hc; first | with_reducible exact ff hc | with_reducible exact ff' hc | exact absurd hc (by decide) | with_reducible exact absurd hc hv | with_reducible exact absurd hv hc | skip)) | refine WP.ret ?_ | refine WP.skip ?_ | refine WP.exit ?_ | refine WP.goto ?_ | refine WP.label ?_ | refine WP.block ?_)))
      | (with_reducible refine thn_n ?_)
      | (with_reducible refine thn_r ?_)
      | (with_reducible refine thn_e ?_)
      | (with_reducible refine thn_g ?_)
      | (with_reducible refine blk_n ?_)
      | (with_reducible refine blk_r ?_)
      | (with_reducible refine blk_e ?_)
      | (with_reducible refine blk_g ?_)
      | (((with_reducible refine blk_o ?_ ?_); first | exact rfl | skip))
      | (refine Endz.mk' (by first | exact Or.inl rfl | exact Or.inr rfl) (by repeat (first | exact RVs.nil | apply RVs.cons | exact RV1.tmp rfl | exact RV1.row rfl rfl rfl (by repeat (first | exact look_here | apply look_there)) (by exact rfl) | exact RV1.cell rfl rfl rfl (by repeat (first | exact look_here | apply look_there)) (by exact rfl))) (by first | rfl | (simp [tup, sLo, sHi, sIs, hv, hLo, hHi]; done)) (by repeat (first | exact List.nil_sublist _ | exact List.Sublist.refl _ | apply List.Sublist.cons_cons | apply List.Sublist.cons))))

set_option maxHeartbeats 8000000 in
theorem ref_Sagged (c : Cfg) {ob : AObj} {k f : Nat} {X Y : Nat → Int} (tb : Tb ob f c.ocL X Y) (ok : TOk c.ocL X Y) (ha : 0 < c.ocL → c.ocA = some ⟨k, f, none⟩) (v a : Int) (p q : Bool) (hO : c.Ohm = 20) (h1 : -1000000000 ≤ a) (h2 : a ≤ 1000000000) (v1 : -1000000000 ≤ v) (v2 : v ≤ 1000000000) (e1 : 0 ≤ c.SagErr) (e2 : c.SagErr ≤ 1000000000) : Ctr Tryd.prog G 43 [.agg ⟨c.cells⟩, .agg #[I64 (v), .bool p], .agg #[I64 (a), .bool q]] [(k, ob)] (.tuple #[.agg #[I64 (sLo c X Y v a p q), I64 (sHi c X Y v a p q)], .bool (sIs c v p q)]) [ob] := by
  by_cases hv : v < c.Vmin
  all_goals cases p
  all_goals cases q
  all_goals
    refine Ctr.by layOk Tryd.func43 Tryd.ntmps43 rfl rfl rfl rfl rfl ?_
    repeat' (first
      | (((first | (with_reducible refine gQ0 ?_) | ((with_reducible refine gQ1 ?_ ?_); (focus (apply wg (r := true); (iterate 6 apply Eq.refl))))); (first | ((with_reducible apply q_box (k := ks _)); apply Eq.refl; (focus (repeat (with_reducible (first | apply lh | apply lt)))); apply Eq.refl) | ((with_reducible apply q_alloc (k := ks _) layOk); apply Eq.refl; (focus (repeat (with_reducible (first | apply lh | apply lt)))); apply Eq.refl) | ((with_reducible apply q_move); apply Eq.refl) | ((with_reducible apply q_assign); apply Eq.refl) | ((with_reducible apply q_int); (iterate 3 apply Eq.refl)) | ((with_reducible apply q_fa layOk); (iterate 5 apply Eq.refl)) | ((with_reducible apply q_load layOk); (iterate 3 apply Eq.refl); (focus (repeat (with_reducible (first | apply lh | apply lt)))); apply Eq.refl) | ((with_reducible apply q_loadr layOk); (iterate 3 apply Eq.refl); (focus (repeat (with_reducible (first | apply lh | apply lt)))); apply Eq.refl) | ((with_reducible apply q_build layOk); (iterate 4 apply Eq.refl)) | ((with_reducible apply q_not); apply Eq.refl) | ((with_reducible apply q_box (k := ks _)); apply Eq.refl; (focus (repeat (with_reducible (first | apply lh | apply lt)))); apply Eq.refl) | ((with_reducible apply q_alloc (k := ks _) layOk); apply Eq.refl; (focus (repeat (with_reducible (first | apply lh | apply lt)))); apply Eq.refl) | ((with_reducible apply q_pick_t); (iterate 2 apply Eq.refl)) | ((with_reducible apply q_pick_f); (iterate 2 apply Eq.refl)) | ((with_reducible apply isF (f := 45)); (refine q_call0 rfl (ref_Rest c _ _ hO h1 h2 v1 v2 e1 e2) ?_)) | ((with_reducible apply isF (f := 39)); (refine q_call1r rfl (ref_Back (cap := c.ocC) tb ok ha _) (by first | (focus ((repeat (with_reducible (first | apply lh | apply lt))); done)) | (focus (apply lx; (focus (repeat (with_reducible (first | apply lh | apply lt)))); exact rfl))) ?_)) | ((with_reducible apply isF (f := 89)); (refine q_call0 rfl (ref_Hull _ _ _ _) ?_)) | ((with_reducible apply e_store layOk); (iterate 3 apply Eq.refl); (focus (repeat (with_reducible (first | apply lh | apply lt)))); (iterate 5 apply Eq.refl)))))
      | (((with_reducible refine gR ?_); (first | refine RK.peelN rfl ?_ | refine RK.donef rfl ⟨_, rfl, ?_⟩ | refine RK.donet rfl (by kernel_rfl) ⟨_, rfl, ?_⟩)))
      | ((first | (with_reducible refine gQv ?_ ?_) | (with_reducible refine gQe ?_ ?_)); (focus (first | (apply wg (r := false); (iterate 6 apply Eq.refl)) | (apply wz; (iterate 4 apply Eq.refl)))))
      | ((with_reducible refine gK ?_); ((first | (apply gsD; (iterate 4 apply Eq.refl)) | (apply RKo.gsplitE; (iterate 4 apply Eq.refl)) | (apply RKo.gsplitN; (iterate 4 apply Eq.refl)) | (apply RKo.gsplit; (iterate 4 apply Eq.refl))) <;> (intro hc; first | with_reducible exact ff hc | with_reducible exact ff' hc | exact absurd hc (by decide) | with_reducible exact absurd hc hv | with_reducible exact absurd hv hc | skip)))
      | (((with_reducible refine gW ?_); (first | with_reducible refine WP.seq ?_ | refine WP.reg mixed (fun ks => _) (fun ks => rfl) (fun ks => ?_) | ((first | (apply cdD; apply Eq.refl) | (apply WP.condE; apply Eq.refl) | (apply WP.condN; apply Eq.refl) | (apply WP.condA; apply Eq.refl)) <;> (intro hc; first | with_reducible exact ff hc | with_reducible exact ff' hc | exact absurd hc (by decide) | with_reducible exact absurd hc hv | with_reducible exact absurd hv hc | skip)) | refine WP.ret ?_ | refine WP.skip ?_ | refine WP.exit ?_ | refine WP.goto ?_ | refine WP.label ?_ | refine WP.block ?_)))
      | (with_reducible refine thn_n ?_)
      | (with_reducible refine thn_r ?_)
      | (with_reducible refine thn_e ?_)
      | (with_reducible refine thn_g ?_)
      | (with_reducible refine blk_n ?_)
      | (with_reducible refine blk_r ?_)
      | (with_reducible refine blk_e ?_)
      | (with_reducible refine blk_g ?_)
      | (((with_reducible refine blk_o ?_ ?_); first | exact rfl | skip))
      | (refine Endz.mk' (by first | exact Or.inl rfl | exact Or.inr rfl) (by repeat (first | exact RVs.nil | apply RVs.cons | exact RV1.tmp rfl | exact RV1.row rfl rfl rfl (by repeat (first | exact look_here | apply look_there)) (by exact rfl) | exact RV1.cell rfl rfl rfl (by repeat (first | exact look_here | apply look_there)) (by exact rfl))) (by first | rfl | (simp [tup, sLo, sHi, sIs, hv, hLo, hHi]; done)) (by repeat (first | exact List.nil_sublist _ | exact List.Sublist.refl _ | apply List.Sublist.cons_cons | apply List.Sublist.cons))))
end Go.Proofs.YtlhhcongoplfpaaDoor
namespace Go.Proofs.YtlhhcongoplfpaaDoor
open Go Go.Proofs.YtlhhcongoplfpaaDoorAB
variable {G : Nat}
set_option linter.unusedSimpArgs false
set_option linter.unusedVariables false

theorem beq_selfF (b : Bool) : ¬ ((b == b) = false) := by cases b <;> decide
theorem same_of {a b c d : Int} (h1 : a = c) (h2 : b = d) : ¬ (!decide (a = c ∧ b = d)) = true := by simp [h1, h2]
theorem sag_says (c : Cfg) {k1 : Nat} (e : Int) (hc : c.ocA = some ⟨k1, 0, none⟩) (hl : c.ocL = 4) (hV : c.Vmin = 10000) (hO : c.Ohm = 20) (hS : c.SagErr = e) (e1 : 0 ≤ e) (e2 : e ≤ 1000000000) (v a : Int) (h1 : -1000000000 ≤ a) (h2 : a ≤ 1000000000) (v1 : ¬ v < 10000) (v2 : v ≤ 1000000000) :
    Ctr Tryd.prog G 42 [.agg ⟨c.cells⟩, .agg #[I64 (v), .bool true], .agg #[I64 (a), .bool true]] [(k1, .cells ocv 27)] (.tuple #[.agg #[I64 (hLo 4 oX oY (v + dn (a * 20) 1000 - e) (v + up (a * 20) 1000 + e)), I64 (hHi 4 oX oY (v + dn (a * 20) 1000 - e) (v + up (a * 20) 1000 + e))], .bool true]) [.cells ocv 27] := by
  have h := sag_Charge (G := G) c (k := k1) (by rw [hl]; exact ocTb) (by rw [hl]; exact ocOk) (fun _ => hc) v a true true hO h1 h2 (by omega) v2 (by omega) (by omega)
  have hn : ¬ v < c.Vmin := by rw [hV]; exact v1
  have x1 : sLo c oX oY v a true true = hLo 4 oX oY (v + dn (a * 20) 1000 - e) (v + up (a * 20) 1000 + e) := by
    unfold sLo; rw [if_pos ⟨rfl, rfl, hn⟩, hl, hS]
  have x2 : sHi c oX oY v a true true = hHi 4 oX oY (v + dn (a * 20) 1000 - e) (v + up (a * 20) 1000 + e) := by
    unfold sHi; rw [if_pos ⟨rfl, rfl, hn⟩, hl, hS]
  have x3 : sIs c v true true = true := by unfold sIs; exact decide_eq_true ⟨rfl, rfl, hn⟩
  rw [x1, x2, x3] at h
  exact h
theorem sag_none (c : Cfg) {k1 : Nat} (hc : c.ocA = some ⟨k1, 0, none⟩) (hl : c.ocL = 4) (hV : c.Vmin = 10000) (hO : c.Ohm = 20) (e1 : 0 ≤ c.SagErr) (e2 : c.SagErr ≤ 1000000000) (v a : Int) (p q : Bool) (h1 : -1000000000 ≤ a) (h2 : a ≤ 1000000000) (v1 : -1000000000 ≤ v) (v2 : v ≤ 1000000000) (hn : ¬ (p = true ∧ q = true ∧ ¬ v < 10000)) :
    Ctr Tryd.prog G 42 [.agg ⟨c.cells⟩, .agg #[I64 (v), .bool p], .agg #[I64 (a), .bool q]] [(k1, .cells ocv 27)] (.tuple #[.agg #[I64 (0), I64 (0)], .bool false]) [.cells ocv 27] := by
  have h := sag_Charge (G := G) c (k := k1) (by rw [hl]; exact ocTb) (by rw [hl]; exact ocOk) (fun _ => hc) v a p q hO h1 h2 v1 v2 e1 e2
  rw [← hV] at hn
  have x1 : sLo c oX oY v a p q = 0 := by unfold sLo; rw [if_neg hn]
  have x2 : sHi c oX oY v a p q = 0 := by unfold sHi; rw [if_neg hn]
  have x3 : sIs c v p q = false := by unfold sIs; exact decide_eq_false hn
  rw [x1, x2, x3] at h
  exact h

set_option maxHeartbeats 8000000 in
theorem first19 (u : Unit) : Ctr Tryd.prog G 40 [] [] (.bool true) [] := by
  obtain ⟨fa, fl, fc, hmk⟩ := make_ConfigL (G := G) 0 0 0
  refine Ctr.by layOk Tryd.func40 Tryd.ntmps40 rfl rfl rfl rfl rfl ?_
  repeat' (first
    | (((first | (with_reducible refine gQ0 ?_) | ((with_reducible refine gQ1 ?_ ?_); (focus (apply wg (r := true); (iterate 6 apply Eq.refl))))); (first | ((with_reducible apply q_alloc (k := ks _) layOk); apply Eq.refl; (focus (repeat (with_reducible (first | apply lh | apply lt)))); apply Eq.refl) | ((with_reducible apply q_move); apply Eq.refl) | ((with_reducible apply q_assign); apply Eq.refl) | ((with_reducible apply q_int); (iterate 3 apply Eq.refl)) | ((with_reducible apply q_fa layOk); (iterate 5 apply Eq.refl)) | ((with_reducible apply q_load layOk); (iterate 3 apply Eq.refl); (focus (repeat (with_reducible (first | apply lh | apply lt)))); apply Eq.refl) | ((with_reducible apply q_loadr layOk); (iterate 3 apply Eq.refl); (focus (repeat (with_reducible (first | apply lh | apply lt)))); apply Eq.refl) | ((with_reducible apply q_build layOk); (iterate 4 apply Eq.refl)) | ((with_reducible apply q_not); apply Eq.refl) | ((with_reducible apply q_alloc (k := ks _) layOk); apply Eq.refl; (focus (repeat (with_reducible (first | apply lh | apply lt)))); apply Eq.refl) | ((with_reducible apply q_pick_t); (iterate 2 apply Eq.refl)) | ((with_reducible apply q_pick_f); (iterate 2 apply Eq.refl)) | ((with_reducible apply q_extract); (iterate 2 apply Eq.refl)) | ((with_reducible apply q_beq); (focus (with_reducible exact Tryd.underlying4)); (iterate 2 apply Eq.refl)) | (refine q_call2 rfl (hmk (ks 0) (ks 1)) (by first | (focus ((repeat (with_reducible (first | apply lh | apply lt))); done)) | (focus (apply lx; (focus (repeat (with_reducible (first | apply lh | apply lt)))); exact rfl))) (by first | (focus ((repeat (with_reducible (first | apply lh | apply lt))); done)) | (focus (apply lx; (focus (repeat (with_reducible (first | apply lh | apply lt)))); exact rfl))) (by decide) (by exact rfl) ?_) | (refine q_call1r rfl (sag_none (cfgOf 0 0 0 (some ⟨_, 0, none⟩) (fa _) fl fc) rfl rfl rfl rfl (by show (0 : Int) ≤ 100; decide) (by show (100 : Int) ≤ 1000000000; decide) 0 0 false false (by decide) (by decide) (by decide) (by decide) (by decide)) (by first | (focus ((repeat (with_reducible (first | apply lh | apply lt))); done)) | (focus (apply lx; (focus (repeat (with_reducible (first | apply lh | apply lt)))); exact rfl))) ?_) | ((with_reducible apply isF (f := 44)); (refine q_call0 rfl (sag_Rest (cfgOf 0 0 0 (some ⟨_, 0, none⟩) (fa _) fl fc) 100 0 rfl (by decide) (by decide) (by decide) (by decide) (by show (0 : Int) ≤ 100; decide) (by show (100 : Int) ≤ 1000000000; decide)) ?_)) | ((with_reducible apply e_store layOk); (iterate 3 apply Eq.refl); (focus (repeat (with_reducible (first | apply lh | apply lt)))); (iterate 5 apply Eq.refl)))))
    | (((with_reducible refine gR ?_); (first | refine RK.peelN rfl ?_ | refine RK.donef rfl ⟨_, rfl, ?_⟩ | refine RK.donet rfl (by kernel_rfl) ⟨_, rfl, ?_⟩)))
    | ((first | (with_reducible refine gQv ?_ ?_) | (with_reducible refine gQe ?_ ?_)); (focus (first | (apply wg (r := false); (iterate 6 apply Eq.refl)) | (apply wz; (iterate 4 apply Eq.refl)))))
    | ((with_reducible refine gK ?_); ((first | (apply gsD; (iterate 4 apply Eq.refl)) | (apply RKo.gsplitE; (iterate 4 apply Eq.refl)) | (apply RKo.gsplitN; (iterate 4 apply Eq.refl)) | (apply RKo.gsplit; (iterate 4 apply Eq.refl))) <;> (intro hc; first | with_reducible exact ff hc | with_reducible exact ff' hc | exact absurd hc (by decide) | exact absurd (show (100 : Int) + dn (0 * 20) 1000 - 100 = 0 by decide) hc | exact absurd (show (100 : Int) + up (0 * 20) 1000 + 100 = 200 by decide) hc | skip)))
    | (((with_reducible refine gW ?_); (first | with_reducible refine WP.seq ?_ | refine WP.reg mixed (fun ks => _) (fun ks => rfl) (fun ks => ?_) | ((first | (apply cdD; apply Eq.refl) | (apply WP.condE; apply Eq.refl) | (apply WP.condN; apply Eq.refl) | (apply WP.condA; apply Eq.refl)) <;> (intro hc; first | with_reducible exact ff hc | with_reducible exact ff' hc | exact absurd hc (by decide) | exact absurd (show (100 : Int) + dn (0 * 20) 1000 - 100 = 0 by decide) hc | exact absurd (show (100 : Int) + up (0 * 20) 1000 + 100 = 200 by decide) hc | skip)) | refine WP.ret ?_ | refine WP.skip ?_ | refine WP.exit ?_ | refine WP.goto ?_ | refine WP.label ?_ | refine WP.block ?_)))
    | (with_reducible refine thn_n ?_)
    | (with_reducible refine thn_r ?_)
    | (with_reducible refine thn_e ?_)
    | (with_reducible refine thn_g ?_)
    | (with_reducible refine blk_n ?_)
    | (with_reducible refine blk_r ?_)
    | (with_reducible refine blk_e ?_)
    | (with_reducible refine blk_g ?_)
    | (((with_reducible refine blk_o ?_ ?_); first | exact rfl | skip))
    | (refine Endz.mk' (by first | exact Or.inl rfl | exact Or.inr rfl) (by repeat (first | exact RVs.nil | apply RVs.cons | exact RV1.tmp rfl | exact RV1.row rfl rfl rfl (by repeat (first | exact look_here | apply look_there)) (by exact rfl) | exact RV1.cell rfl rfl rfl (by repeat (first | exact look_here | apply look_there)) (by exact rfl))) (by first | rfl | exact congrArg Value.bool (show decide ((100 : Int) + up (0 * 20) 1000 + 100 = 200) = true by decide)) (by repeat (first | exact List.nil_sublist _ | exact List.Sublist.refl _ | apply List.Sublist.cons_cons | apply List.Sublist.cons))))
end Go.Proofs.YtlhhcongoplfpaaDoor
namespace Go.Proofs.YtlhhcongoplfpaaDoor
open Go Go.Proofs.YtlhhcongoplfpaaDoorAB
variable {G : Nat}
set_option linter.unusedSimpArgs false
set_option linter.unusedVariables false

theorem red_in {M : Int} (hM : 0 < M) (hM2 : M ≤ 1000000000) (v : Int) : 0 ≤ (IntKind.i64.wrap (v.tmod M + M)).tmod M ∧ (IntKind.i64.wrap (v.tmod M + M)).tmod M < M := by
  have h1 : -M < v.tmod M := Int.lt_tmod_of_pos v hM
  have h2 : v.tmod M < M := Int.tmod_lt_of_pos v hM
  rw [wrap_in (by omega) (by omega)]
  exact ⟨Int.tmod_nonneg _ (by omega), Int.tmod_lt_of_pos _ hM⟩
theorem same_ab {a b : Int} : a = a ∧ b = b := ⟨rfl, rfl⟩
theorem rem_in {M : Int} (hM : 0 < M) (v : Int) : -M < v.tmod M ∧ v.tmod M < M := ⟨Int.lt_tmod_of_pos v hM, Int.tmod_lt_of_pos v hM⟩
end Go.Proofs.YtlhhcongoplfpaaDoor
namespace Go.Proofs.YtlhhcongoplfpaaDoor
open Go Go.Proofs.YtlhhcongoplfpaaDoorAB
variable {G : Nat}
set_option linter.unusedSimpArgs false
set_option linter.unusedVariables false

theorem tb2 (a b c d : Int) (ty : TypeId) : Tb (.cells [I64 a, I64 b, I64 c, I64 d] ty) 0 2 (PX [(a, b), (c, d)]) (PY [(a, b), (c, d)]) := by
  refine ⟨fun i h => ?_, fun i h => ?_, fun i h => ?_⟩ <;> (match i, h with
    | 0, _ => rfl
    | 1, _ => rfl)
theorem tb3 (a b c d e f : Int) (ty : TypeId) : Tb (.cells [I64 a, I64 b, I64 c, I64 d, I64 e, I64 f] ty) 0 3 (PX [(a, b), (c, d), (e, f)]) (PY [(a, b), (c, d), (e, f)]) := by
  refine ⟨fun i h => ?_, fun i h => ?_, fun i h => ?_⟩ <;> (match i, h with
    | 0, _ => rfl
    | 1, _ => rfl
    | 2, _ => rfl)
theorem ok2 {a b c d : Int} (h1 : -10000000 ≤ a) (h2 : a < c) (h3 : c ≤ 10000000) (h4 : -10000000 ≤ b) (h5 : b ≤ d) (h6 : d ≤ 10000000) : TOk 2 (PX [(a, b), (c, d)]) (PY [(a, b), (c, d)]) := by
  refine ⟨by decide, by decide, fun i h => ?_, fun i h => ?_, fun i h => ?_, fun i h => ?_, fun i h => ?_, fun i h => ?_⟩
  · match i, h with
    | 0, _ => show -1073741824 ≤ a; omega
    | 1, _ => show -1073741824 ≤ c; omega
  · match i, h with
    | 0, _ => show a ≤ 1073741824; omega
    | 1, _ => show c ≤ 1073741824; omega
  · match i, h with
    | 0, _ => show -1073741824 ≤ b; omega
    | 1, _ => show -1073741824 ≤ d; omega
  · match i, h with
    | 0, _ => show b ≤ 1073741824; omega
    | 1, _ => show d ≤ 1073741824; omega
  · match i, h with
    | 0, _ => exact h2
    | 1, h => omega
  · match i, h with
    | 0, _ => exact h5
    | 1, h => omega
theorem ok3 {a b c d e f : Int} (h1 : -10000000 ≤ a) (h2 : a < c) (h2' : c < e) (h3 : e ≤ 10000000) (h4 : -10000000 ≤ b) (h5 : b ≤ d) (h5' : d ≤ f) (h6 : f ≤ 10000000) : TOk 3 (PX [(a, b), (c, d), (e, f)]) (PY [(a, b), (c, d), (e, f)]) := by
  refine ⟨by decide, by decide, fun i h => ?_, fun i h => ?_, fun i h => ?_, fun i h => ?_, fun i h => ?_, fun i h => ?_⟩
  · match i, h with
    | 0, _ => show -1073741824 ≤ a; omega
    | 1, _ => show -1073741824 ≤ c; omega
    | 2, _ => show -1073741824 ≤ e; omega
  · match i, h with
    | 0, _ => show a ≤ 1073741824; omega
    | 1, _ => show c ≤ 1073741824; omega
    | 2, _ => show e ≤ 1073741824; omega
  · match i, h with
    | 0, _ => show -1073741824 ≤ b; omega
    | 1, _ => show -1073741824 ≤ d; omega
    | 2, _ => show -1073741824 ≤ f; omega
  · match i, h with
    | 0, _ => show b ≤ 1073741824; omega
    | 1, _ => show d ≤ 1073741824; omega
    | 2, _ => show f ≤ 1073741824; omega
  · match i, h with
    | 0, _ => exact h2
    | 1, _ => exact h2'
    | 2, h => omega
  · match i, h with
    | 0, _ => exact h5
    | 1, _ => exact h5'
    | 2, h => omega
theorem first3_law : tLo 2 (PX [(0, 0), (2, 1)]) (PY [(0, 0), (2, 1)]) 1 = 0 ∧ tHi 2 (PX [(0, 0), (2, 1)]) (PY [(0, 0), (2, 1)]) 1 = 1 := by
  have h := (ok2 (a := 0) (b := 0) (c := 2) (d := 1) (by decide) (by decide) (by decide) (by decide) (by decide) (by decide)).seg (i := 0) (x := 1) (by decide) (by decide) (by decide)
  rw [h.1, h.2]; decide
/-- A stair of three points. -/
theorem steps_clean {A W Y U : Int} (a1 : -100000 < A) (a2 : A < 100000) (w1 : 1 ≤ W) (w2 : W ≤ 1000) (y1 : -100000 < Y) (y2 : Y < 100000) (u1 : 1 ≤ U) (p1 : 1 ≤ U * W) (p2 : U * W ≤ 1000000) :
    TOk 3 (PX [(A, Y), (A + W, Y), (A + 2 * W, Y + U * W)]) (PY [(A, Y), (A + W, Y), (A + 2 * W, Y + U * W)]) ∧
    (kLo 3 (PX [(A, Y), (A + W, Y), (A + 2 * W, Y + U * W)]) (PY [(A, Y), (A + W, Y), (A + 2 * W, Y + U * W)]) Y = A ∧ kHi 3 (PX [(A, Y), (A + W, Y), (A + 2 * W, Y + U * W)]) (PY [(A, Y), (A + W, Y), (A + 2 * W, Y + U * W)]) Y = A + W) ∧
    (kLo 3 (PX [(A, Y), (A + W, Y), (A + 2 * W, Y + U * W)]) (PY [(A, Y), (A + W, Y), (A + 2 * W, Y + U * W)]) (Y - 1) = A ∧ kHi 3 (PX [(A, Y), (A + W, Y), (A + 2 * W, Y + U * W)]) (PY [(A, Y), (A + W, Y), (A + 2 * W, Y + U * W)]) (Y - 1) = A) ∧
    (kLo 3 (PX [(A, Y), (A + W, Y), (A + 2 * W, Y + U * W)]) (PY [(A, Y), (A + W, Y), (A + 2 * W, Y + U * W)]) (Y + U * W + 1) = A + 2 * W ∧ kHi 3 (PX [(A, Y), (A + W, Y), (A + 2 * W, Y + U * W)]) (PY [(A, Y), (A + W, Y), (A + 2 * W, Y + U * W)]) (Y + U * W + 1) = A + 2 * W) := by
  have ok := ok3 (a := A) (b := Y) (c := A + W) (d := Y) (e := A + 2 * W) (f := Y + U * W) (by omega) (by omega) (by omega) (by omega) (by omega) (by omega) (by omega) (by omega)
  generalize hX : PX [(A, Y), (A + W, Y), (A + 2 * W, Y + U * W)] = X at ok ⊢
  generalize hY : PY [(A, Y), (A + W, Y), (A + 2 * W, Y + U * W)] = Z at ok ⊢
  have x0 : X 0 = A := by rw [← hX]; rfl
  have x1 : X 1 = A + W := by rw [← hX]; rfl
  have x2 : X (3 - 1) = A + 2 * W := by rw [← hX]; rfl
  have x2' : X (1 + 1) = A + 2 * W := x2
  have z0 : Z 0 = Y := by rw [← hY]; rfl
  have z1 : Z 1 = Y := by rw [← hY]; rfl
  have z2 : Z (3 - 1) = Y + U * W := by rw [← hY]; rfl
  have z2' : Z (1 + 1) = Y + U * W := z2
  have l0 := ok.left (x := A) (by omega)
  have s1 := ok.seg (i := 0) (x := A + W) (by decide) (by omega) (by show A + W ≤ X 1; omega)
  have r2 := ok.right (x := A + 2 * W) (by omega)
  have s1' : tLo 3 X Z (A + W) = Y := by
    rw [s1.1]; show Z 0 + dn ((Z 1 - Z 0) * (A + W - X 0)) (X 1 - X 0) = Y
    rw [z0, z1, Int.sub_self, Int.zero_mul, dn_zero]; omega
  have up_ : ∀ x, A + W < x → Y < tLo 3 X Z x := by
    intro x hx
    rcases ltge (A + 2 * W) x with h | h
    · rw [(ok.right (x := x) (by omega)).1, z2]; omega
    · have s := (ok.seg (i := 1) (x := x) (by decide) (by omega) (by omega)).1
      rw [s, z1, z2', x1, x2']
      have e : (Y + U * W - Y) * (x - (A + W)) = (U * (x - (A + W))) * (A + 2 * W - (A + W)) := by
        rw [show Y + U * W - Y = U * W by omega, show A + 2 * W - (A + W) = W by omega, Int.mul_assoc, Int.mul_comm W, ← Int.mul_assoc]
      rw [e, dn_mul (by omega)]
      have : 1 * 1 ≤ U * (x - (A + W)) := Int.mul_le_mul u1 (by omega) (by decide) (by omega)
      omega
  have hB : ∀ {y r s : Int}, bA 3 X Z y = r → bB 3 X Z y = s → r ≤ s → kLo 3 X Z y = r ∧ kHi 3 X Z y = s := by
    intro y r s h1 h2 h3
    unfold kLo kHi; rw [h1, h2, mn_eq, mx_eq]; omega
  refine ⟨ok, hB (ok.bA_of (by omega) (by omega) (fun x h1 h2 => by omega) (fun _ => by rw [l0.2, z0]; exact Int.le_refl _)) (ok.bB_of (by omega) (by omega) (fun x h1 _ => up_ x h1) (fun _ => by rw [s1']; exact Int.le_refl _)) (by omega),
    hB (ok.bA_of (by omega) (by omega) (fun x h1 h2 => by omega) (fun _ => by rw [l0.2, z0]; omega)) (ok.bB_of (by omega) (by omega) (fun x h1 _ => by have := ok.lo0 x; omega) (fun h => by omega)) (by omega),
    hB (ok.bA_of (by omega) (by omega) (fun x h1 h2 => by have := ok.hi1 x; omega) (fun h => by omega)) (ok.bB_of (by omega) (by omega) (fun x h1 h2 => by omega) (fun _ => by rw [r2.1, z2]; omega)) (by omega)⟩
set_option maxHeartbeats 4000000 in
theorem first3 (u : Unit) : Ctr Tryd.prog G 27 [] [] (.bool true) [] := by
  refine Ctr.by layOk Tryd.func27 Tryd.ntmps27 rfl rfl rfl rfl rfl ?_
  repeat' (first
    | (((first | (with_reducible refine gQ0 ?_) | ((with_reducible refine gQ1 ?_ ?_); (focus (apply wg (r := true); (iterate 6 apply Eq.refl))))); (first | ((with_reducible apply q_alloc (k := ks _) layOk); apply Eq.refl; (focus (repeat (with_reducible (first | apply lh | apply lt)))); apply Eq.refl) | ((with_reducible apply q_buildS (k := ks _) layOk); (iterate 8 apply Eq.refl); (focus (repeat (with_reducible (first | apply lh | apply lt)))); apply Eq.refl) | ((with_reducible apply q_move); apply Eq.refl) | ((with_reducible apply q_assign); apply Eq.refl) | ((with_reducible apply q_int); (iterate 3 apply Eq.refl)) | ((with_reducible apply q_fa layOk); (iterate 5 apply Eq.refl)) | ((with_reducible apply q_load layOk); (iterate 3 apply Eq.refl); (focus (repeat (with_reducible (first | apply lh | apply lt)))); apply Eq.refl) | ((with_reducible apply q_loadr layOk); (iterate 3 apply Eq.refl); (focus (repeat (with_reducible (first | apply lh | apply lt)))); apply Eq.refl) | ((with_reducible apply q_build layOk); (iterate 4 apply Eq.refl)) | ((with_reducible apply q_alloc (k := ks _) layOk); apply Eq.refl; (focus (repeat (with_reducible (first | apply lh | apply lt)))); apply Eq.refl) | ((with_reducible apply q_pick_t); (iterate 2 apply Eq.refl)) | ((with_reducible apply q_pick_f); (iterate 2 apply Eq.refl)) | ((with_reducible apply isF (f := 37)); (refine q_call1r rfl (table_At (cap := 2) (tb2 0 0 2 1 27) (ok2 (by decide) (by decide) (by decide) (by decide) (by decide) (by decide)) (fun _ => rfl) 1) (by first | (focus ((repeat (with_reducible (first | apply lh | apply lt))); done)) | (focus (apply lx; (focus (repeat (with_reducible (first | apply lh | apply lt)))); exact rfl))) ?_)) | ((with_reducible apply e_store layOk); (iterate 3 apply Eq.refl); (focus (repeat (with_reducible (first | apply lh | apply lt)))); (iterate 5 apply Eq.refl)))))
    | (((with_reducible refine gR ?_); (first | refine RK.peelN rfl ?_ | refine RK.donef rfl ⟨_, rfl, ?_⟩ | refine RK.donet rfl (by kernel_rfl) ⟨_, rfl, ?_⟩)))
    | ((first | (with_reducible refine gQv ?_ ?_) | (with_reducible refine gQe ?_ ?_)); (focus (first | (apply wg (r := false); (iterate 6 apply Eq.refl)) | (apply wz; (iterate 4 apply Eq.refl)))))
    | ((with_reducible refine gK ?_); ((first | (apply gsD; (iterate 4 apply Eq.refl)) | (apply RKo.gsplitE; (iterate 4 apply Eq.refl)) | (apply RKo.gsplitN; (iterate 4 apply Eq.refl)) | (apply RKo.gsplit; (iterate 4 apply Eq.refl))) <;> (intro hc; first | with_reducible exact ff hc | with_reducible exact ff' hc | with_reducible exact absurd first3_law.1 hc | with_reducible exact absurd first3_law.2 hc | skip)))
    | (((with_reducible refine gW ?_); (first | with_reducible refine WP.seq ?_ | refine WP.reg mixed (fun ks => _) (fun ks => rfl) (fun ks => ?_) | ((first | (apply cdD; apply Eq.refl) | (apply WP.condE; apply Eq.refl) | (apply WP.condN; apply Eq.refl) | (apply WP.condA; apply Eq.refl)) <;> (intro hc; first | with_reducible exact ff hc | with_reducible exact ff' hc | with_reducible exact absurd first3_law.1 hc | with_reducible exact absurd first3_law.2 hc | skip)) | refine WP.ret ?_ | refine WP.skip ?_ | refine WP.exit ?_ | refine WP.goto ?_ | refine WP.label ?_ | refine WP.block ?_)))
    | (with_reducible refine thn_n ?_)
    | (with_reducible refine thn_r ?_)
    | (with_reducible refine thn_e ?_)
    | (with_reducible refine thn_g ?_)
    | (with_reducible refine blk_n ?_)
    | (with_reducible refine blk_r ?_)
    | (with_reducible refine blk_e ?_)
    | (with_reducible refine blk_g ?_)
    | (((with_reducible refine blk_o ?_ ?_); first | exact rfl | skip))
    | (refine Endz.mk' (by first | exact Or.inl rfl | exact Or.inr rfl) (by repeat (first | exact RVs.nil | apply RVs.cons | exact RV1.tmp rfl | exact RV1.row rfl rfl rfl (by repeat (first | exact look_here | apply look_there)) (by exact rfl) | exact RV1.cell rfl rfl rfl (by repeat (first | exact look_here | apply look_there)) (by exact rfl))) (by first | rfl | exact congrArg Value.bool (by rw [first3_law.2]; rfl) | exact congrArg Value.bool (decide_eq_true first3_law.2)) (by repeat (first | exact List.nil_sublist _ | exact List.Sublist.refl _ | apply List.Sublist.cons_cons | apply List.Sublist.cons))))
end Go.Proofs.YtlhhcongoplfpaaDoor
