/- What functions of this program do, each as a contract that its callers use, and what follows of it in plain numbers.
   By an AI agent. -/
import Derived.Test.YtlhhcongoplfpaaDoorAB
import Derived.Test.YtlhhcongoplfpaaDoorDLO
import Derived.Test.YtlhhcongoplfpaaDoorDSB
import Derived.Test.YtlhhcongoplfpaaDoorABM
namespace Go.Proofs.YtlhhcongoplfpaaDoor
open Go Go.Proofs.YtlhhcongoplfpaaDoorAB
variable {G : Nat}
set_option linter.unusedSimpArgs false
set_option linter.unusedVariables false

theorem ro_atD {zs : List Int} {f i : Nat} (hi : i < zs.length) : AObj.at (.ro f (zs.map I64)) (f + i * 1) = some (I64 (zs.getD i 0)) := by
  rw [ro_at hi, List.getD_eq_getElem?_getD, List.getElem?_eq_getElem hi]; rfl
/-- The points, one by one. -/
def mXY (z : List Int) (x y : Int) : Nat → Int × Int
  | 0 => (x, y)
  | i + 1 => (IntKind.i64.wrap (IntKind.i64.wrap ((mXY z x y i).1 + 1) + num (z.getD (2 * i) 0) 5000), IntKind.i64.wrap ((mXY z x y i).2 + num (z.getD (2 * i + 1) 0) 5000))
def mpts (z : List Int) (x y : Int) : Nat → List Value
  | 0 => []
  | n + 1 => mpts z x y n ++ [I64 (mXY z x y n).1, I64 (mXY z x y n).2]
theorem mpts_len (z : List Int) (x y : Int) (n : Nat) : (mpts z x y n).length = n * 2 := by
  induction n with
  | zero => rfl
  | succ n ih => simp [mpts, ih]; omega
def mN (l : Nat) : Nat := min (l / 2) 64

set_option maxHeartbeats 8000000 in
theorem made1 (o : Option Addr) (l c f : Nat) (z : List Int) (b : AObj) (k0 kn : Nat) (h0 : 0 < l → o = some ⟨k0, f, none⟩ ∧ b = .ro f (z.map I64) ∧ l ≤ z.length) (hl : 2 ≤ l) (hl2 : l ≤ 1000000) (x0 : Int) :
    Ctr Tryd.prog G 28 [.slice o l c, I64 x0] ([(k0, b)] ++ [(kn, .gone)]) (.slice (some ⟨kn, 0, none⟩) (mN l) grown) ([b] ++ [.row (mpts z (x0.tmod 1000000) (x0.tmod 777) (mN l)) 27 2]) := by
  have hpos : 0 < l := by omega
  refine Ctr.ren layOk Tryd.func28 Tryd.ntmps28 rfl rfl rfl rfl rfl ?_
  repeat' (first
    | (((first | (with_reducible refine gQ0 ?_) | ((with_reducible refine gQ1 ?_ ?_); (focus (apply wg (r := true); (iterate 6 apply Eq.refl))))); (first | ((with_reducible apply q_move); apply Eq.refl) | ((with_reducible apply q_assign); apply Eq.refl) | ((with_reducible apply q_int); (iterate 3 apply Eq.refl)) | ((with_reducible apply q_load layOk); (iterate 3 apply Eq.refl); (focus (repeat (with_reducible (first | apply lh | apply lt)))); apply Eq.refl) | ((with_reducible apply q_loadr layOk); (iterate 3 apply Eq.refl); (focus (repeat (with_reducible (first | apply lh | apply lt)))); apply Eq.refl) | ((with_reducible apply q_build layOk); (iterate 4 apply Eq.refl)) | ((with_reducible apply q_pick_t); (iterate 2 apply Eq.refl)) | ((with_reducible apply q_pick_f); (iterate 2 apply Eq.refl)) | ((with_reducible apply q_len layOk); (iterate 4 apply Eq.refl)) | ((with_reducible apply q_rem); (iterate 2 apply Eq.refl); (focus (decide))) | ((with_reducible apply q_buildS (k := ks _) layOk); (iterate 8 apply Eq.refl); (focus (repeat (with_reducible (first | apply lh | apply lt)))); apply Eq.refl) | ((with_reducible apply q_app0 (kn := ks _) layOk); (iterate 10 apply Eq.refl); (focus (repeat (with_reducible (first | apply lh | apply lt)))); (focus (repeat (with_reducible (first | apply lh | apply lt)))); (iterate 2 apply Eq.refl)) | ((with_reducible apply q_app1 (kn := ks _) layOk); (iterate 9 apply Eq.refl); (focus (repeat (with_reducible (first | apply lh | apply lt)))); (focus (repeat (with_reducible (first | apply lh | apply lt)))); (focus (repeat (with_reducible (first | apply lh | apply lt)))); (focus (decide)); (focus (show (i + 1 + 1) * 16 ≤ 1099511627776; omega)); (focus (show i + 1 + 1 ≤ 1099511627776; omega)); (focus (exact mpts_len _ _ _ _)); (iterate 3 apply Eq.refl)))))
    | (((with_reducible refine gR ?_); (first | refine RK.peelN rfl ?_ | refine RK.donef rfl ⟨_, rfl, ?_⟩ | refine RK.donet rfl (by kernel_rfl) ⟨_, rfl, ?_⟩)))
    | ((first | (with_reducible refine gQv ?_ ?_) | (with_reducible refine gQe ?_ ?_)); (focus (first | (apply wg (r := false); (iterate 6 apply Eq.refl)) | (apply wz; (iterate 4 apply Eq.refl)))))
    | ((with_reducible refine gK ?_); ((first | (apply gsD; (iterate 4 apply Eq.refl)) | (apply RKo.gsplitE; (iterate 4 apply Eq.refl)) | (apply RKo.gsplitN; (iterate 4 apply Eq.refl)) | (apply RKo.gsplit; (iterate 4 apply Eq.refl))) <;> (intro hc; first | with_reducible exact ff hc | with_reducible exact ff' hc | skip)))
    | (((with_reducible refine gW ?_); (first | with_reducible refine WP.seq ?_ | refine WP.reg mixed (fun ks => _) (fun ks => rfl) (fun ks => ?_) | ((first | (apply cdD; apply Eq.refl) | (apply WP.condE; apply Eq.refl) | (apply WP.condN; apply Eq.refl) | (apply WP.condA; apply Eq.refl)) <;> (intro hc; first | with_reducible exact ff hc | with_reducible exact ff' hc | skip)) | refine WP.ret ?_ | refine WP.skip ?_ | refine WP.exit ?_ | refine WP.goto ?_ | refine WP.label ?_ | refine WP.block ?_)))
    | (with_reducible refine thn_n ?_)
    | (with_reducible refine thn_r ?_)
    | (with_reducible refine thn_e ?_)
    | (with_reducible refine thn_g ?_)
    | (with_reducible refine blk_n ?_)
    | (with_reducible refine blk_r ?_)
    | (with_reducible refine blk_e ?_)
    | (with_reducible refine blk_g ?_)
    | (((with_reducible refine blk_o ?_ ?_); first | exact rfl | skip))
    | (refine Endz.mk' (by first | exact Or.inl rfl | exact Or.inr rfl) (by repeat (first | exact RVs.nil | apply RVs.cons | exact RV1.tmp rfl | exact RV1.row rfl rfl rfl (by repeat (first | exact look_here | apply look_there)) (by exact rfl) | exact RV1.cell rfl rfl rfl (by repeat (first | exact look_here | apply look_there)) (by exact rfl))) (by rfl) (by repeat (first | exact List.nil_sublist _ | exact List.Sublist.refl _ | apply List.Sublist.cons_cons | apply List.Sublist.cons))))
  refine WP.loopI (n := 48) (α := Option (Nat × Nat)) (fun x => match x with
    | none => [(0, some (.slice o l c)), (5, some (.slice none 0 0)), (6, some (I64 (x0.tmod 1000000))), (7, some (I64 (x0.tmod 777))), (8, some (I64 0))]
    | some (i, kf) => [(0, some (.slice o l c)), (5, some (.slice (some ⟨kf, 0, none⟩) (i + 1) grown)), (6, some (I64 (mXY z (x0.tmod 1000000) (x0.tmod 777) (i + 1)).1)), (7, some (I64 (mXY z (x0.tmod 1000000) (x0.tmod 777) (i + 1)).2)), (8, some (I64 ((2 * (i + 1) : Nat) : Int)))])
    (fun x => match x with
    | none => [(k0, b), (kn, .gone)]
    | some (i, kf) => [(k0, b), (kn, .gone), (kf, .row (mpts z (x0.tmod 1000000) (x0.tmod 777) (i + 1)) 27 2)])
    (fun x => match x with
    | none => True
    | some (i, _) => 2 * (i + 1) ≤ l ∧ i + 1 ≤ 64) (fun x => match x with
    | none => 65
    | some (i, _) => 64 - i) none (Wk.of ⟨rfl, rfl, rfl, rfl, rfl, trivial⟩ (by repeat (first | exact List.nil_sublist _ | exact List.Sublist.refl _ | apply List.Sublist.cons_cons | apply List.Sublist.cons))) trivial (fun x ix => ?_)
  rcases x with _ | ⟨i, kf⟩
  · dsimp only
    have hA : IntKind.i64.wrap (0 + 1) < (l : Int) := by rw [wrap_in (by decide) (by decide)]; omega
    have hB : ((0 : Nat) : Int) < 64 := by decide
    repeat' (first
      | (((first | (with_reducible refine gQ0 ?_) | ((with_reducible refine gQ1 ?_ ?_); (focus (apply wg (r := true); (iterate 6 apply Eq.refl))))); (first | ((with_reducible apply q_load layOk); (iterate 3 apply Eq.refl); (focus (repeat (with_reducible (first | apply lh | apply lt)))); (focus (rw [(h0 hpos).2.1]; exact ro_atD (i := 0) (by have := (h0 hpos).2.2; omega)))) | ((with_reducible apply q_load layOk); (iterate 3 apply Eq.refl); (focus (repeat (with_reducible (first | apply lh | apply lt)))); (focus (rw [(h0 hpos).2.1]; exact ro_atD (i := 1) (by have := (h0 hpos).2.2; omega)))) | ((with_reducible apply q_idxN (m := 0) layOk); (iterate 4 apply Eq.refl); exact (fun h => (h0 h).1); apply Eq.refl; (focus (omega))) | ((with_reducible apply q_idxN (m := 1) layOk); (iterate 4 apply Eq.refl); exact (fun h => (h0 h).1); (focus (decide)); (focus (omega))) | ((with_reducible apply q_move); apply Eq.refl) | ((with_reducible apply q_assign); apply Eq.refl) | ((with_reducible apply q_int); (iterate 3 apply Eq.refl)) | ((with_reducible apply q_load layOk); (iterate 3 apply Eq.refl); (focus (repeat (with_reducible (first | apply lh | apply lt)))); apply Eq.refl) | ((with_reducible apply q_loadr layOk); (iterate 3 apply Eq.refl); (focus (repeat (with_reducible (first | apply lh | apply lt)))); apply Eq.refl) | ((with_reducible apply q_build layOk); (iterate 4 apply Eq.refl)) | ((with_reducible apply q_pick_t); (iterate 2 apply Eq.refl)) | ((with_reducible apply q_pick_f); (iterate 2 apply Eq.refl)) | ((with_reducible apply q_len layOk); (iterate 4 apply Eq.refl)) | ((with_reducible apply q_rem); (iterate 2 apply Eq.refl); (focus (decide))) | ((with_reducible apply q_buildS (k := ks _) layOk); (iterate 8 apply Eq.refl); (focus (repeat (with_reducible (first | apply lh | apply lt)))); apply Eq.refl) | ((with_reducible apply q_app0 (kn := ks _) layOk); (iterate 10 apply Eq.refl); (focus (repeat (with_reducible (first | apply lh | apply lt)))); (focus (repeat (with_reducible (first | apply lh | apply lt)))); (iterate 2 apply Eq.refl)) | ((with_reducible apply q_app1 (kn := ks _) layOk); (iterate 9 apply Eq.refl); (focus (repeat (with_reducible (first | apply lh | apply lt)))); (focus (repeat (with_reducible (first | apply lh | apply lt)))); (focus (repeat (with_reducible (first | apply lh | apply lt)))); (focus (decide)); (focus (show (i + 1 + 1) * 16 ≤ 1099511627776; omega)); (focus (show i + 1 + 1 ≤ 1099511627776; omega)); (focus (exact mpts_len _ _ _ _)); (iterate 3 apply Eq.refl)) | ((with_reducible apply isF (f := 34)); (refine q_call0 rfl (world_Number _ _ (by decide)) ?_)))))
      | (((with_reducible refine gR ?_); (first | refine RK.peelN rfl ?_ | refine RK.donef rfl ⟨_, rfl, ?_⟩ | refine RK.donet rfl (by kernel_rfl) ⟨_, rfl, ?_⟩)))
      | ((first | (with_reducible refine gQv ?_ ?_) | (with_reducible refine gQe ?_ ?_)); (focus (first | (apply wg (r := false); (iterate 6 apply Eq.refl)) | (apply wz; (iterate 4 apply Eq.refl)))))
      | ((with_reducible refine gK ?_); ((first | (apply gsD; (iterate 4 apply Eq.refl)) | (apply RKo.gsplitE; (iterate 4 apply Eq.refl)) | (apply RKo.gsplitN; (iterate 4 apply Eq.refl)) | (apply RKo.gsplit; (iterate 4 apply Eq.refl))) <;> (intro hc; first | with_reducible exact ff hc | with_reducible exact ff' hc | with_reducible exact absurd hA hc | with_reducible exact absurd hB hc | with_reducible exact absurd hc hA | with_reducible exact absurd hc hB | skip)))
      | (((with_reducible refine gW ?_); (first | with_reducible refine WP.seq ?_ | refine WP.reg mixed (fun ks => _) (fun ks => rfl) (fun ks => ?_) | ((first | (apply cdD; apply Eq.refl) | (apply WP.condE; apply Eq.refl) | (apply WP.condN; apply Eq.refl) | (apply WP.condA; apply Eq.refl)) <;> (intro hc; first | with_reducible exact ff hc | with_reducible exact ff' hc | with_reducible exact absurd hA hc | with_reducible exact absurd hB hc | with_reducible exact absurd hc hA | with_reducible exact absurd hc hB | skip)) | refine WP.ret ?_ | refine WP.skip ?_ | refine WP.exit ?_ | refine WP.goto ?_ | refine WP.label ?_ | refine WP.block ?_)))
      | (with_reducible refine thn_n ?_)
      | (with_reducible refine thn_r ?_)
      | (with_reducible refine thn_e ?_)
      | (with_reducible refine thn_g ?_)
      | (with_reducible refine blk_n ?_)
      | (with_reducible refine blk_r ?_)
      | (with_reducible refine blk_e ?_)
      | (with_reducible refine blk_g ?_)
      | (((with_reducible refine blk_o ?_ ?_); first | exact rfl | skip))
      | (refine Endz.mk' (by first | exact Or.inl rfl | exact Or.inr rfl) (by repeat (first | exact RVs.nil | apply RVs.cons | exact RV1.tmp rfl | exact RV1.row rfl rfl rfl (by repeat (first | exact look_here | apply look_there)) (by exact rfl) | exact RV1.cell rfl rfl rfl (by repeat (first | exact look_here | apply look_there)) (by exact rfl))) (by rfl) (by repeat (first | exact List.nil_sublist _ | exact List.Sublist.refl _ | apply List.Sublist.cons_cons | apply List.Sublist.cons))))
    refine ⟨some (0, _), ⟨by omega, by omega⟩, by show 64 - 0 < 65; omega, Wk.of ⟨rfl, rfl, rfl, rfl, ?_, trivial⟩ (by repeat (first | exact List.nil_sublist _ | exact List.Sublist.refl _ | apply List.Sublist.cons_cons | apply List.Sublist.cons))⟩
    exact congrArg (fun x => some (I64 x)) ((wrap_in (by decide) (by decide)).trans (by decide))
  · obtain ⟨i1, i2⟩ : 2 * (i + 1) ≤ l ∧ i + 1 ≤ 64 := ix
    dsimp only
    have e1 : IntKind.i64.wrap (((2 * (i + 1) : Nat) : Int) + 1) = ((2 * (i + 1) + 1 : Nat) : Int) := by rw [wrap_in (by omega) (by omega)]; omega
    by_cases hm : 2 * (i + 1) + 1 < l
    · have hA : IntKind.i64.wrap (((2 * (i + 1) : Nat) : Int) + 1) < (l : Int) := by rw [e1]; omega
      by_cases h64 : i + 1 < 64
      · have hB : ((i + 1 : Nat) : Int) < 64 := by omega
        repeat' (first
          | (((first | (with_reducible refine gQ0 ?_) | ((with_reducible refine gQ1 ?_ ?_); (focus (apply wg (r := true); (iterate 6 apply Eq.refl))))); (first | ((with_reducible apply q_load layOk); (iterate 3 apply Eq.refl); (focus (repeat (with_reducible (first | apply lh | apply lt)))); (focus (rw [(h0 hpos).2.1]; exact ro_atD (i := 2 * (i + 1)) (by have := (h0 hpos).2.2; omega)))) | ((with_reducible apply q_load layOk); (iterate 3 apply Eq.refl); (focus (repeat (with_reducible (first | apply lh | apply lt)))); (focus (rw [(h0 hpos).2.1]; exact ro_atD (i := 2 * (i + 1) + 1) (by have := (h0 hpos).2.2; omega)))) | ((with_reducible apply q_idxN (m := 2 * (i + 1)) layOk); (iterate 4 apply Eq.refl); exact (fun h => (h0 h).1); apply Eq.refl; (focus (omega))) | ((with_reducible apply q_idxN (m := 2 * (i + 1) + 1) layOk); (iterate 4 apply Eq.refl); exact (fun h => (h0 h).1); exact e1; (focus (omega))) | ((with_reducible apply q_move); apply Eq.refl) | ((with_reducible apply q_assign); apply Eq.refl) | ((with_reducible apply q_int); (iterate 3 apply Eq.refl)) | ((with_reducible apply q_load layOk); (iterate 3 apply Eq.refl); (focus (repeat (with_reducible (first | apply lh | apply lt)))); apply Eq.refl) | ((with_reducible apply q_loadr layOk); (iterate 3 apply Eq.refl); (focus (repeat (with_reducible (first | apply lh | apply lt)))); apply Eq.refl) | ((with_reducible apply q_build layOk); (iterate 4 apply Eq.refl)) | ((with_reducible apply q_pick_t); (iterate 2 apply Eq.refl)) | ((with_reducible apply q_pick_f); (iterate 2 apply Eq.refl)) | ((with_reducible apply q_len layOk); (iterate 4 apply Eq.refl)) | ((with_reducible apply q_rem); (iterate 2 apply Eq.refl); (focus (decide))) | ((with_reducible apply q_buildS (k := ks _) layOk); (iterate 8 apply Eq.refl); (focus (repeat (with_reducible (first | apply lh | apply lt)))); apply Eq.refl) | ((with_reducible apply q_app0 (kn := ks _) layOk); (iterate 10 apply Eq.refl); (focus (repeat (with_reducible (first | apply lh | apply lt)))); (focus (repeat (with_reducible (first | apply lh | apply lt)))); (iterate 2 apply Eq.refl)) | ((with_reducible apply q_app1 (kn := ks _) layOk); (iterate 9 apply Eq.refl); (focus (repeat (with_reducible (first | apply lh | apply lt)))); (focus (repeat (with_reducible (first | apply lh | apply lt)))); (focus (repeat (with_reducible (first | apply lh | apply lt)))); (focus (decide)); (focus (show (i + 1 + 1) * 16 ≤ 1099511627776; omega)); (focus (show i + 1 + 1 ≤ 1099511627776; omega)); (focus (exact mpts_len _ _ _ _)); (iterate 3 apply Eq.refl)) | ((with_reducible apply isF (f := 34)); (refine q_call0 rfl (world_Number _ _ (by decide)) ?_)))))
          | (((with_reducible refine gR ?_); (first | refine RK.peelN rfl ?_ | refine RK.donef rfl ⟨_, rfl, ?_⟩ | refine RK.donet rfl (by kernel_rfl) ⟨_, rfl, ?_⟩)))
          | ((first | (with_reducible refine gQv ?_ ?_) | (with_reducible refine gQe ?_ ?_)); (focus (first | (apply wg (r := false); (iterate 6 apply Eq.refl)) | (apply wz; (iterate 4 apply Eq.refl)))))
          | ((with_reducible refine gK ?_); ((first | (apply gsD; (iterate 4 apply Eq.refl)) | (apply RKo.gsplitE; (iterate 4 apply Eq.refl)) | (apply RKo.gsplitN; (iterate 4 apply Eq.refl)) | (apply RKo.gsplit; (iterate 4 apply Eq.refl))) <;> (intro hc; first | with_reducible exact ff hc | with_reducible exact ff' hc | with_reducible exact absurd hA hc | with_reducible exact absurd hB hc | with_reducible exact absurd hc hA | with_reducible exact absurd hc hB | skip)))
          | (((with_reducible refine gW ?_); (first | with_reducible refine WP.seq ?_ | refine WP.reg mixed (fun ks => _) (fun ks => rfl) (fun ks => ?_) | ((first | (apply cdD; apply Eq.refl) | (apply WP.condE; apply Eq.refl) | (apply WP.condN; apply Eq.refl) | (apply WP.condA; apply Eq.refl)) <;> (intro hc; first | with_reducible exact ff hc | with_reducible exact ff' hc | with_reducible exact absurd hA hc | with_reducible exact absurd hB hc | with_reducible exact absurd hc hA | with_reducible exact absurd hc hB | skip)) | refine WP.ret ?_ | refine WP.skip ?_ | refine WP.exit ?_ | refine WP.goto ?_ | refine WP.label ?_ | refine WP.block ?_)))
          | (with_reducible refine thn_n ?_)
          | (with_reducible refine thn_r ?_)
          | (with_reducible refine thn_e ?_)
          | (with_reducible refine thn_g ?_)
          | (with_reducible refine blk_n ?_)
          | (with_reducible refine blk_r ?_)
          | (with_reducible refine blk_e ?_)
          | (with_reducible refine blk_g ?_)
          | (((with_reducible refine blk_o ?_ ?_); first | exact rfl | skip))
          | (refine Endz.mk' (by first | exact Or.inl rfl | exact Or.inr rfl) (by repeat (first | exact RVs.nil | apply RVs.cons | exact RV1.tmp rfl | exact RV1.row rfl rfl rfl (by repeat (first | exact look_here | apply look_there)) (by exact rfl) | exact RV1.cell rfl rfl rfl (by repeat (first | exact look_here | apply look_there)) (by exact rfl))) (by rfl) (by repeat (first | exact List.nil_sublist _ | exact List.Sublist.refl _ | apply List.Sublist.cons_cons | apply List.Sublist.cons))))
        refine ⟨some (i + 1, _), ⟨by omega, by omega⟩, by show 64 - (i + 1) < 64 - i; omega, Wk.of ⟨rfl, rfl, rfl, rfl, ?_, trivial⟩ (by repeat (first | exact List.nil_sublist _ | exact List.Sublist.refl _ | apply List.Sublist.cons_cons | apply List.Sublist.cons))⟩
        exact congrArg (fun x => some (I64 x)) ((wrap_in (by omega) (by omega)).trans (by omega))
      · have hB : ¬ ((i + 1 : Nat) : Int) < 64 := by omega
        have hN : mN l = i + 1 := by unfold mN; omega
        rw [hN]
        repeat' (first
          | (((first | (with_reducible refine gQ0 ?_) | ((with_reducible refine gQ1 ?_ ?_); (focus (apply wg (r := true); (iterate 6 apply Eq.refl))))); (first | ((with_reducible apply q_move); apply Eq.refl) | ((with_reducible apply q_assign); apply Eq.refl) | ((with_reducible apply q_int); (iterate 3 apply Eq.refl)) | ((with_reducible apply q_load layOk); (iterate 3 apply Eq.refl); (focus (repeat (with_reducible (first | apply lh | apply lt)))); apply Eq.refl) | ((with_reducible apply q_loadr layOk); (iterate 3 apply Eq.refl); (focus (repeat (with_reducible (first | apply lh | apply lt)))); apply Eq.refl) | ((with_reducible apply q_build layOk); (iterate 4 apply Eq.refl)) | ((with_reducible apply q_pick_t); (iterate 2 apply Eq.refl)) | ((with_reducible apply q_pick_f); (iterate 2 apply Eq.refl)) | ((with_reducible apply q_len layOk); (iterate 4 apply Eq.refl)) | ((with_reducible apply q_rem); (iterate 2 apply Eq.refl); (focus (decide))) | ((with_reducible apply q_buildS (k := ks _) layOk); (iterate 8 apply Eq.refl); (focus (repeat (with_reducible (first | apply lh | apply lt)))); apply Eq.refl) | ((with_reducible apply q_app0 (kn := ks _) layOk); (iterate 10 apply Eq.refl); (focus (repeat (with_reducible (first | apply lh | apply lt)))); (focus (repeat (with_reducible (first | apply lh | apply lt)))); (iterate 2 apply Eq.refl)) | ((with_reducible apply q_app1 (kn := ks _) layOk); (iterate 9 apply Eq.refl); (focus (repeat (with_reducible (first | apply lh | apply lt)))); (focus (repeat (with_reducible (first | apply lh | apply lt)))); (focus (repeat (with_reducible (first | apply lh | apply lt)))); (focus (decide)); (focus (show (i + 1 + 1) * 16 ≤ 1099511627776; omega)); (focus (show i + 1 + 1 ≤ 1099511627776; omega)); (focus (exact mpts_len _ _ _ _)); (iterate 3 apply Eq.refl)))))
          | (((with_reducible refine gR ?_); (first | refine RK.peelN rfl ?_ | refine RK.donef rfl ⟨_, rfl, ?_⟩ | refine RK.donet rfl (by kernel_rfl) ⟨_, rfl, ?_⟩)))
          | ((first | (with_reducible refine gQv ?_ ?_) | (with_reducible refine gQe ?_ ?_)); (focus (first | (apply wg (r := false); (iterate 6 apply Eq.refl)) | (apply wz; (iterate 4 apply Eq.refl)))))
          | ((with_reducible refine gK ?_); ((first | (apply gsD; (iterate 4 apply Eq.refl)) | (apply RKo.gsplitE; (iterate 4 apply Eq.refl)) | (apply RKo.gsplitN; (iterate 4 apply Eq.refl)) | (apply RKo.gsplit; (iterate 4 apply Eq.refl))) <;> (intro hc; first | with_reducible exact ff hc | with_reducible exact ff' hc | with_reducible exact absurd hA hc | with_reducible exact absurd hB hc | with_reducible exact absurd hc hA | with_reducible exact absurd hc hB | skip)))
          | (((with_reducible refine gW ?_); (first | with_reducible refine WP.seq ?_ | refine WP.reg mixed (fun ks => _) (fun ks => rfl) (fun ks => ?_) | ((first | (apply cdD; apply Eq.refl) | (apply WP.condE; apply Eq.refl) | (apply WP.condN; apply Eq.refl) | (apply WP.condA; apply Eq.refl)) <;> (intro hc; first | with_reducible exact ff hc | with_reducible exact ff' hc | with_reducible exact absurd hA hc | with_reducible exact absurd hB hc | with_reducible exact absurd hc hA | with_reducible exact absurd hc hB | skip)) | refine WP.ret ?_ | refine WP.skip ?_ | refine WP.exit ?_ | refine WP.goto ?_ | refine WP.label ?_ | refine WP.block ?_)))
          | (with_reducible refine thn_n ?_)
          | (with_reducible refine thn_r ?_)
          | (with_reducible refine thn_e ?_)
          | (with_reducible refine thn_g ?_)
          | (with_reducible refine blk_n ?_)
          | (with_reducible refine blk_r ?_)
          | (with_reducible refine blk_e ?_)
          | (with_reducible refine blk_g ?_)
          | (((with_reducible refine blk_o ?_ ?_); first | exact rfl | skip))
          | (refine Endz.mk' (by first | exact Or.inl rfl | exact Or.inr rfl) (by repeat (first | exact RVs.nil | apply RVs.cons | exact RV1.tmp rfl | exact RV1.row rfl rfl rfl (by repeat (first | exact look_here | apply look_there)) (by exact rfl) | exact RV1.cell rfl rfl rfl (by repeat (first | exact look_here | apply look_there)) (by exact rfl))) (by rfl) (by repeat (first | exact List.nil_sublist _ | exact List.Sublist.refl _ | apply List.Sublist.cons_cons | apply List.Sublist.cons))))
        exact ⟨Or.inr rfl, _, _, kf, rfl, (by repeat (first | exact RVs.nil | apply RVs.cons | exact RV1.tmp rfl | exact RV1.row rfl rfl rfl (by repeat (first | exact look_here | apply look_there)) (by exact rfl) | exact RV1.cell rfl rfl rfl (by repeat (first | exact look_here | apply look_there)) (by exact rfl))), RN.slice _ _ _, rfl, (by repeat (first | exact List.nil_sublist _ | exact List.Sublist.refl _ | apply List.Sublist.cons_cons | apply List.Sublist.cons))⟩
    · have hA : ¬ IntKind.i64.wrap (((2 * (i + 1) : Nat) : Int) + 1) < (l : Int) := by rw [e1]; omega
      have hN : mN l = i + 1 := by unfold mN; omega
      rw [hN]
      repeat' (first
        | (((first | (with_reducible refine gQ0 ?_) | ((with_reducible refine gQ1 ?_ ?_); (focus (apply wg (r := true); (iterate 6 apply Eq.refl))))); (first | ((with_reducible apply q_move); apply Eq.refl) | ((with_reducible apply q_assign); apply Eq.refl) | ((with_reducible apply q_int); (iterate 3 apply Eq.refl)) | ((with_reducible apply q_load layOk); (iterate 3 apply Eq.refl); (focus (repeat (with_reducible (first | apply lh | apply lt)))); apply Eq.refl) | ((with_reducible apply q_loadr layOk); (iterate 3 apply Eq.refl); (focus (repeat (with_reducible (first | apply lh | apply lt)))); apply Eq.refl) | ((with_reducible apply q_build layOk); (iterate 4 apply Eq.refl)) | ((with_reducible apply q_pick_t); (iterate 2 apply Eq.refl)) | ((with_reducible apply q_pick_f); (iterate 2 apply Eq.refl)) | ((with_reducible apply q_len layOk); (iterate 4 apply Eq.refl)) | ((with_reducible apply q_rem); (iterate 2 apply Eq.refl); (focus (decide))) | ((with_reducible apply q_buildS (k := ks _) layOk); (iterate 8 apply Eq.refl); (focus (repeat (with_reducible (first | apply lh | apply lt)))); apply Eq.refl) | ((with_reducible apply q_app0 (kn := ks _) layOk); (iterate 10 apply Eq.refl); (focus (repeat (with_reducible (first | apply lh | apply lt)))); (focus (repeat (with_reducible (first | apply lh | apply lt)))); (iterate 2 apply Eq.refl)) | ((with_reducible apply q_app1 (kn := ks _) layOk); (iterate 9 apply Eq.refl); (focus (repeat (with_reducible (first | apply lh | apply lt)))); (focus (repeat (with_reducible (first | apply lh | apply lt)))); (focus (repeat (with_reducible (first | apply lh | apply lt)))); (focus (decide)); (focus (show (i + 1 + 1) * 16 ≤ 1099511627776; omega)); (focus (show i + 1 + 1 ≤ 1099511627776; omega)); (focus (exact mpts_len _ _ _ _)); (iterate 3 apply Eq.refl)))))
        | (((with_reducible refine gR ?_); (first | refine RK.peelN rfl ?_ | refine RK.donef rfl ⟨_, rfl, ?_⟩ | refine RK.donet rfl (by kernel_rfl) ⟨_, rfl, ?_⟩)))
        | ((first | (with_reducible refine gQv ?_ ?_) | (with_reducible refine gQe ?_ ?_)); (focus (first | (apply wg (r := false); (iterate 6 apply Eq.refl)) | (apply wz; (iterate 4 apply Eq.refl)))))
        | ((with_reducible refine gK ?_); ((first | (apply gsD; (iterate 4 apply Eq.refl)) | (apply RKo.gsplitE; (iterate 4 apply Eq.refl)) | (apply RKo.gsplitN; (iterate 4 apply Eq.refl)) | (apply RKo.gsplit; (iterate 4 apply Eq.refl))) <;> (intro hc; first | with_reducible exact ff hc | with_reducible exact ff' hc | with_reducible exact absurd hA hc | with_reducible exact absurd hc hA | skip)))
        | (((with_reducible refine gW ?_); (first | with_reducible refine WP.seq ?_ | refine WP.reg mixed (fun ks => _) (fun ks => rfl) (fun ks => ?_) | ((first | (apply cdD; apply Eq.refl) | (apply WP.condE; apply Eq.refl) | (apply WP.condN; apply Eq.refl) | (apply WP.condA; apply Eq.refl)) <;> (intro hc; first | with_reducible exact ff hc | with_reducible exact ff' hc | with_reducible exact absurd hA hc | with_reducible exact absurd hc hA | skip)) | refine WP.ret ?_ | refine WP.skip ?_ | refine WP.exit ?_ | refine WP.goto ?_ | refine WP.label ?_ | refine WP.block ?_)))
        | (with_reducible refine thn_n ?_)
        | (with_reducible refine thn_r ?_)
        | (with_reducible refine thn_e ?_)
        | (with_reducible refine thn_g ?_)
        | (with_reducible refine blk_n ?_)
        | (with_reducible refine blk_r ?_)
        | (with_reducible refine blk_e ?_)
        | (with_reducible refine blk_g ?_)
        | (((with_reducible refine blk_o ?_ ?_); first | exact rfl | skip))
        | (refine Endz.mk' (by first | exact Or.inl rfl | exact Or.inr rfl) (by repeat (first | exact RVs.nil | apply RVs.cons | exact RV1.tmp rfl | exact RV1.row rfl rfl rfl (by repeat (first | exact look_here | apply look_there)) (by exact rfl) | exact RV1.cell rfl rfl rfl (by repeat (first | exact look_here | apply look_there)) (by exact rfl))) (by rfl) (by repeat (first | exact List.nil_sublist _ | exact List.Sublist.refl _ | apply List.Sublist.cons_cons | apply List.Sublist.cons))))
      exact ⟨Or.inr rfl, _, _, kf, rfl, (by repeat (first | exact RVs.nil | apply RVs.cons | exact RV1.tmp rfl | exact RV1.row rfl rfl rfl (by repeat (first | exact look_here | apply look_there)) (by exact rfl) | exact RV1.cell rfl rfl rfl (by repeat (first | exact look_here | apply look_there)) (by exact rfl))), RN.slice _ _ _, rfl, (by repeat (first | exact List.nil_sublist _ | exact List.Sublist.refl _ | apply List.Sublist.cons_cons | apply List.Sublist.cons))⟩
end Go.Proofs.YtlhhcongoplfpaaDoor
