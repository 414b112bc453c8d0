/- What functions of this program do, each as a contract that its callers use, and what follows of it in plain numbers.
   By an AI agent. -/
import Derived.Test.YtlhhcongoplfpaaDoorDLO
import Derived.Test.YtlhhcongoplfpaaDoorSKB
namespace Go.Proofs.YtlhhcongoplfpaaDoor
open Go Go.Proofs.YtlhhcongoplfpaaDoorAB
set_option linter.unusedSimpArgs false
set_option linter.unusedVariables false
set_option maxHeartbeats 16000000 in
theorem shedBacks_A (n m k : Int) (gap many : Int) (N : Nat) (hN6 : N ≤ 6) (hmk : ∀ k1 k2 : Nat, Ctr Tryd.prog 6 41 [I64 n, I64 m, I64 k] [(k1, .gone), (k2, .gone)] (.agg ⟨(cfgOf n m k (some ⟨k1, 0, none⟩) (some ⟨k2, 0, none⟩) N grown).cells⟩) [.cells ocv 27, .row (feeds k N) 97 3]) : Ctr Tryd.prog 6 22 [I64 n, I64 m, I64 k, I64 gap, I64 many] [(5, .ro 0 tzv)] (.bool true) [.ro 0 tzv] := by
  refine Ctr.by layOk Tryd.func22 Tryd.ntmps22 rfl rfl rfl rfl rfl ?_
  repeat' (first
    | (((first | (with_reducible refine gQ0 ?_) | ((with_reducible refine gQ1 ?_ ?_); (focus (apply wg (r := true); (iterate 6 apply Eq.refl))))); (first | ((with_reducible apply q_move); apply Eq.refl) | ((with_reducible apply q_assign); apply Eq.refl) | ((with_reducible apply q_int); (iterate 3 apply Eq.refl)) | ((with_reducible apply q_fa layOk); (iterate 5 apply Eq.refl)) | ((with_reducible apply q_load layOk); (iterate 3 apply Eq.refl); (focus (repeat (with_reducible (first | apply lh | apply lt)))); apply Eq.refl) | ((with_reducible apply q_loadr layOk); (iterate 3 apply Eq.refl); (focus (repeat (with_reducible (first | apply lh | apply lt)))); apply Eq.refl) | ((with_reducible apply q_not); apply Eq.refl) | ((with_reducible apply q_alloc (k := ks _) layOk); apply Eq.refl; (focus (repeat (with_reducible (first | apply lh | apply lt)))); apply Eq.refl) | ((with_reducible apply q_pick_t); (iterate 2 apply Eq.refl)) | ((with_reducible apply q_pick_f); (iterate 2 apply Eq.refl)) | ((with_reducible apply q_len layOk); (iterate 4 apply Eq.refl)) | ((with_reducible apply q_eqnil); (focus (kernel_rfl)); (iterate 2 apply Eq.refl)) | ((with_reducible apply q_conv); apply Eq.refl; exact Tryd.underlying3; exact Tryd.underlying73) | ((with_reducible apply q_shl); (iterate 2 apply Eq.refl); exact hu) | ((with_reducible apply q_bne); (focus (with_reducible exact Tryd.underlying4)); (iterate 2 apply Eq.refl)) | (refine q_call1r rfl (first25 ()) (by first | (focus ((repeat (with_reducible (first | apply lh | apply lt))); done)) | (focus (apply lx; (focus (repeat (with_reducible (first | apply lh | apply lt)))); exact rfl))) ?_) | (refine q_call2 rfl (hmk (ks 0) (ks 1)) (by first | (focus ((repeat (with_reducible (first | apply lh | apply lt))); done)) | (focus (apply lx; (focus (repeat (with_reducible (first | apply lh | apply lt)))); exact rfl))) (by first | (focus ((repeat (with_reducible (first | apply lh | apply lt))); done)) | (focus (apply lx; (focus (repeat (with_reducible (first | apply lh | apply lt)))); exact rfl))) (by decide) (by exact rfl) ?_) | ((with_reducible apply e_store layOk); (iterate 3 apply Eq.refl); (focus (repeat (with_reducible (first | apply lh | apply lt)))); (iterate 5 apply Eq.refl)))))
    | (((with_reducible refine gR ?_); (first | refine RK.peelN rfl ?_ | refine RK.donef rfl ⟨_, rfl, ?_⟩ | refine RK.donet rfl (by kernel_rfl) ⟨_, rfl, ?_⟩)))
    | ((first | (with_reducible refine gQv ?_ ?_) | (with_reducible refine gQe ?_ ?_)); (focus (first | (apply wg (r := false); (iterate 6 apply Eq.refl)) | (apply wz; (iterate 4 apply Eq.refl)))))
    | ((with_reducible refine gK ?_); ((first | (apply gsD; (iterate 4 apply Eq.refl)) | (apply RKo.gsplitE; (iterate 4 apply Eq.refl)) | (apply RKo.gsplitN; (iterate 4 apply Eq.refl)) | (apply RKo.gsplit; (iterate 4 apply Eq.refl))) <;> (intro hc; first | with_reducible exact ff hc | with_reducible exact ff' hc | exact absurd hc (by decide) | exact absurd rfl hc | skip)))
    | (((with_reducible refine gW ?_); (first | with_reducible refine WP.seq ?_ | refine WP.reg mixed (fun ks => _) (fun ks => rfl) (fun ks => ?_) | ((first | (apply cdD; apply Eq.refl) | (apply WP.condE; apply Eq.refl) | (apply WP.condN; apply Eq.refl) | (apply WP.condA; apply Eq.refl)) <;> (intro hc; first | with_reducible exact ff hc | with_reducible exact ff' hc | exact absurd hc (by decide) | exact absurd rfl hc | skip)) | refine WP.ret ?_ | refine WP.skip ?_ | refine WP.exit ?_ | refine WP.goto ?_ | refine WP.label ?_ | refine WP.block ?_)))
    | (with_reducible refine thn_n ?_)
    | (with_reducible refine thn_r ?_)
    | (with_reducible refine thn_e ?_)
    | (with_reducible refine thn_g ?_)
    | (with_reducible refine blk_n ?_)
    | (with_reducible refine blk_r ?_)
    | (with_reducible refine blk_e ?_)
    | (with_reducible refine blk_g ?_)
    | (((with_reducible refine blk_o ?_ ?_); first | exact rfl | skip))
    | (refine Endz.mk' (by first | exact Or.inl rfl | exact Or.inr rfl) (by repeat (first | exact RVs.nil | apply RVs.cons | exact RV1.tmp rfl | exact RV1.row rfl rfl rfl (by repeat (first | exact look_here | apply look_there)) (by exact rfl) | exact RV1.cell rfl rfl rfl (by repeat (first | exact look_here | apply look_there)) (by exact rfl))) (by rfl) (by repeat (first | exact List.nil_sublist _ | exact List.Sublist.refl _ | apply List.Sublist.cons_cons | apply List.Sublist.cons))))
  rename_i k4 _
  obtain ⟨c, hcc⟩ : ∃ c, cfgOf n m k (some ⟨k4 0, 0, none⟩) (some ⟨k4 1, 0, none⟩) N grown = c := ⟨_, rfl⟩
  rw [hcc]
  have h6 : c.fdL ≤ 6 := by rw [← hcc]; exact hN6
  have fr : Fr (.row (feeds k N) 97 3) c.fdL (fBus k) (fLoad k) (fPrio k) := by rw [← hcc]; exact feeds_Fr k (by omega) _
  have ha : 0 < c.fdL → c.fdA = some ⟨k4 1, 0, none⟩ := by rw [← hcc]; exact fun _ => rfl
  have h7 : c.fdL ≤ 7 := by omega
  have hB : ∀ i, i < c.fdL → 4 ≤ fBus k i ∧ fBus k i < 7 := fun i _ => ⟨(fd_in k i).1, (fd_in k i).2.1⟩
  have hz : ¬ ((c.fdL : Nat) : Int) = 0 := by rw [← hcc]; exact hc
  have hH : 1 ≤ c.H ∧ c.H ≤ 5 := by rw [← hcc]; exact cfgH n
  clear hcc
  have wH : IntKind.i64.wrap (c.H + 1) = c.H + 1 := wrap_in (by omega) (by omega)
  have wH2 : IntKind.i64.wrap (2 * c.H) = 2 * c.H := wrap_in (by omega) (by omega)
  have wH3 : IntKind.i64.wrap (IntKind.i64.wrap (2 * c.H) + 1) = 2 * c.H + 1 := by rw [wH2]; exact wrap_in (by omega) (by omega)
  have hNg := world_Number (G := 6) gap (IntKind.i64.wrap (c.H + 1)) (by omega)
  have hNm := world_Number (G := 6) many (IntKind.i64.wrap (IntKind.i64.wrap (2 * c.H) + 1)) (by omega)
  obtain ⟨g, eg, hg⟩ := num_nat0 gap (IntKind.i64.wrap (c.H + 1)) (by omega) (by omega)
  obtain ⟨g2, eg2, hg2⟩ := num_nat0 many (IntKind.i64.wrap (IntKind.i64.wrap (2 * c.H) + 1)) (by omega) (by omega)
  rw [eg] at hNg
  rw [eg2] at hNm
  have hall := allX ⟨c.fdL, by omega⟩
  have hu := u64nn ⟨c.fdL, by omega⟩
  have hal := all_lt h6
  have hp1 : 2 ≤ 2 ^ c.fdL := by
    have : 2 ^ 1 ≤ 2 ^ c.fdL := Nat.pow_le_pow_right (by decide) (by omega)
    simpa using this
  have hz1 : ¬ ((2 ^ c.fdL - 1 : Nat) : Int) = 0 := by omega
  have hz2 : ¬ (0 : Int) = ((2 ^ c.fdL - 1 : Nat) : Int) := by omega
  have hxx : ¬ ((0 : Nat) : Int) ≠ 0 := fun h => h rfl
  have b0 : (((0 : Nat) : Int) == ((2 ^ c.fdL - 1 : Nat) : Int)) = false := beq_eq_false_iff_ne.2 (by omega)
  have hnew := fun (p q : Nat) => keeper_New c h7 p q
  by_cases hgH : ((g : Nat) : Int) < c.H
  · skip
    repeat' (first
      | (((first | (with_reducible refine gQ0 ?_) | ((with_reducible refine gQ1 ?_ ?_); (focus (apply wg (r := true); (iterate 6 apply Eq.refl))))); (first | ((with_reducible apply q_move); apply Eq.refl) | ((with_reducible apply q_assign); apply Eq.refl) | ((with_reducible apply q_int); (iterate 3 apply Eq.refl)) | ((with_reducible apply q_fa layOk); (iterate 5 apply Eq.refl)) | ((with_reducible apply q_load layOk); (iterate 3 apply Eq.refl); (focus (repeat (with_reducible (first | apply lh | apply lt)))); apply Eq.refl) | ((with_reducible apply q_loadr layOk); (iterate 3 apply Eq.refl); (focus (repeat (with_reducible (first | apply lh | apply lt)))); apply Eq.refl) | ((with_reducible apply q_not); apply Eq.refl) | ((with_reducible apply q_alloc (k := ks _) layOk); apply Eq.refl; (focus (repeat (with_reducible (first | apply lh | apply lt)))); apply Eq.refl) | ((with_reducible apply q_pick_t); (iterate 2 apply Eq.refl)) | ((with_reducible apply q_pick_f); (iterate 2 apply Eq.refl)) | ((with_reducible apply q_len layOk); (iterate 4 apply Eq.refl)) | ((with_reducible apply q_eqnil); (focus (kernel_rfl)); (iterate 2 apply Eq.refl)) | ((with_reducible apply q_conv); apply Eq.refl; exact Tryd.underlying3; exact Tryd.underlying73) | ((with_reducible apply q_shl); (iterate 2 apply Eq.refl); exact hu) | ((with_reducible apply q_bne); (focus (with_reducible exact Tryd.underlying4)); (iterate 2 apply Eq.refl)) | (refine q_call0 rfl hNg ?_) | (refine q_call0 rfl hNm ?_) | (refine q_callW rfl (hnew (ks 0) (ks 1)) (by repeat (first | exact Fd.nil | apply Fd.cons | (focus ((repeat (with_reducible (first | apply lh | apply lt))); done)) | (focus (apply lx; (focus (repeat (with_reducible (first | apply lh | apply lt)))); exact rfl)))) (by decide) rfl (by exact rfl) ?_) | (refine q_call1r rfl (keeper_On _ _ _ _) (by first | (focus ((repeat (with_reducible (first | apply lh | apply lt))); done)) | (focus (apply lx; (focus (repeat (with_reducible (first | apply lh | apply lt)))); exact rfl))) ?_) | ((with_reducible apply e_store layOk); (iterate 3 apply Eq.refl); (focus (repeat (with_reducible (first | apply lh | apply lt)))); (iterate 5 apply Eq.refl)))))
      | (((with_reducible refine gR ?_); (first | refine RK.peelN rfl ?_ | refine RK.donef rfl ⟨_, rfl, ?_⟩ | refine RK.donet rfl (by kernel_rfl) ⟨_, rfl, ?_⟩)))
      | ((first | (with_reducible refine gQv ?_ ?_) | (with_reducible refine gQe ?_ ?_)); (focus (first | (apply wg (r := false); (iterate 6 apply Eq.refl)) | (apply wz; (iterate 4 apply Eq.refl)))))
      | ((with_reducible refine gK ?_); ((first | (apply gsD; (iterate 4 apply Eq.refl)) | (apply RKo.gsplitE; (iterate 4 apply Eq.refl)) | (apply RKo.gsplitN; (iterate 4 apply Eq.refl)) | (apply RKo.gsplit; (iterate 4 apply Eq.refl))) <;> (intro hc; first | with_reducible exact ff hc | with_reducible exact ff' hc | exact absurd hc (by decide) | exact absurd rfl hc | with_reducible exact absurd hxx hc | with_reducible exact absurd hc hxx | skip)))
      | (((with_reducible refine gW ?_); (first | with_reducible refine WP.seq ?_ | refine WP.reg mixed (fun ks => _) (fun ks => rfl) (fun ks => ?_) | ((first | (apply cdD; apply Eq.refl) | (apply WP.condE; apply Eq.refl) | (apply WP.condN; apply Eq.refl) | (apply WP.condA; apply Eq.refl)) <;> (intro hc; first | with_reducible exact ff hc | with_reducible exact ff' hc | exact absurd hc (by decide) | exact absurd rfl hc | with_reducible exact absurd hxx hc | with_reducible exact absurd hc hxx | skip)) | refine WP.ret ?_ | refine WP.skip ?_ | refine WP.exit ?_ | refine WP.goto ?_ | refine WP.label ?_ | refine WP.block ?_)))
      | (with_reducible refine thn_n ?_)
      | (with_reducible refine thn_r ?_)
      | (with_reducible refine thn_e ?_)
      | (with_reducible refine thn_g ?_)
      | (with_reducible refine blk_n ?_)
      | (with_reducible refine blk_r ?_)
      | (with_reducible refine blk_e ?_)
      | (with_reducible refine blk_g ?_)
      | (((with_reducible refine blk_o ?_ ?_); first | exact rfl | skip))
      | (refine Endz.mk' (by first | exact Or.inl rfl | exact Or.inr rfl) (by repeat (first | exact RVs.nil | apply RVs.cons | exact RV1.tmp rfl | exact RV1.row rfl rfl rfl (by repeat (first | exact look_here | apply look_there)) (by exact rfl) | exact RV1.cell rfl rfl rfl (by repeat (first | exact look_here | apply look_there)) (by exact rfl))) (by rfl) (by repeat (first | exact List.nil_sublist _ | exact List.Sublist.refl _ | apply List.Sublist.cons_cons | apply List.Sublist.cons))))
    rename_i kx _ _
    refine WP.loopI (n := 114) (α := Nat) (fun i => [(4, some (I64 ((g2 : Nat) : Int))), (3, some (I64 ((g : Nat) : Int))), (11, some (.bool true)), (12, some (.pointer (some ⟨k4 (0 + 1 + 1), 0, none⟩))), (13, some (I64 ((2 ^ c.fdL - 1 : Nat) : Int))), (14, some (.pointer (some ⟨kx 0, 0, none⟩))), (15, some (I64 ((i : Nat) : Int)))]) (fun i => [(5, .ro 0 tzv), (k4 1, .row (feeds k N) 97 3), (k4 (0 + 1 + 1), .cells c.cells 51), (kx 0, .cells [I64 (c.H), .slice (some ⟨kx 1, 0, none⟩) c.fdL c.fdL, I64 (((kRun c.H c.fdL (fun _ => 0, 0) i).2 : Nat) : Int)] 150), (kx 1, .cells (lm (kRun c.H c.fdL (fun _ => 0, 0) i).1 c.fdL) 3)]) (fun i => i ≤ g) (fun i => g - i) 0 (Wk.of ⟨rfl, rfl, rfl, rfl, congrArg (fun x => some (I64 x)) hall, rfl, rfl, trivial⟩ (by repeat (first | exact List.nil_sublist _ | exact List.Sublist.refl _ | apply List.Sublist.cons_cons | apply List.Sublist.cons))) (Nat.zero_le _) (fun i iy => ?_)
    have iy : i ≤ g := iy
    have ho := run_lt (h := c.H) (n := c.fdL) h6 (s := (fun _ => 0, 0)) (show 0 < 128 by decide) i
    have hr := run_n hH.1 h6 (fun _ => 0) (fun _ _ => rfl) i (by omega)
    by_cases hi : i < g
    · have hlt : (i : Int) < (g : Int) := by omega
      have hw1 : IntKind.i64.wrap ((i : Int) + 1) = ((i + 1 : Nat) : Int) := by rw [wrap_in (by omega) (by omega)]; omega
      have hr1 := (run_n hH.1 h6 (fun _ => 0) (fun _ _ => rfl) (i + 1) (by omega)).2
      rw [if_neg (by omega)] at hr1
      obtain ⟨st, hst⟩ : ∃ st, (kRun c.H c.fdL (fun _ => 0, 0) i) = st := ⟨_, rfl⟩
      have e : (kRun c.H c.fdL (fun _ => 0, 0) (i + 1)) = kTurns c.H (tB ((2 ^ c.fdL - 1 : Nat) : Int)) st c.fdL := by rw [← hst]; rfl
      rw [hst] at ho ⊢
      obtain ⟨N3, o3⟩ := st
      dsimp only at ho e ⊢
      have hks := keeper_Step (kx 0) (kx 1) c.H c.fdL h7 N3 o3 ho ((2 ^ c.fdL - 1 : Nat) : Int)
      rw [e] at hr1
      rw [hr1] at hks
      repeat' (first
        | (((first | (with_reducible refine gQ0 ?_) | ((with_reducible refine gQ1 ?_ ?_); (focus (apply wg (r := true); (iterate 6 apply Eq.refl))))); (first | ((with_reducible apply q_move); apply Eq.refl) | ((with_reducible apply q_assign); apply Eq.refl) | ((with_reducible apply q_int); (iterate 3 apply Eq.refl)) | ((with_reducible apply q_fa layOk); (iterate 5 apply Eq.refl)) | ((with_reducible apply q_load layOk); (iterate 3 apply Eq.refl); (focus (repeat (with_reducible (first | apply lh | apply lt)))); apply Eq.refl) | ((with_reducible apply q_loadr layOk); (iterate 3 apply Eq.refl); (focus (repeat (with_reducible (first | apply lh | apply lt)))); apply Eq.refl) | ((with_reducible apply q_not); apply Eq.refl) | ((with_reducible apply q_alloc (k := ks _) layOk); apply Eq.refl; (focus (repeat (with_reducible (first | apply lh | apply lt)))); apply Eq.refl) | ((with_reducible apply q_pick_t); (iterate 2 apply Eq.refl)) | ((with_reducible apply q_pick_f); (iterate 2 apply Eq.refl)) | ((with_reducible apply q_len layOk); (iterate 4 apply Eq.refl)) | ((with_reducible apply q_eqnil); (focus (kernel_rfl)); (iterate 2 apply Eq.refl)) | ((with_reducible apply q_conv); apply Eq.refl; exact Tryd.underlying3; exact Tryd.underlying73) | ((with_reducible apply q_shl); (iterate 2 apply Eq.refl); exact hu) | ((with_reducible apply q_bne); (focus (with_reducible exact Tryd.underlying4)); (iterate 2 apply Eq.refl)) | (refine q_callW rfl hks (by repeat (first | exact Fd.nil | apply Fd.cons | (focus ((repeat (with_reducible (first | apply lh | apply lt))); done)) | (focus (apply lx; (focus (repeat (with_reducible (first | apply lh | apply lt)))); exact rfl)))) (by decide) rfl (by exact rfl) ?_) | ((with_reducible apply e_store layOk); (iterate 3 apply Eq.refl); (focus (repeat (with_reducible (first | apply lh | apply lt)))); (iterate 5 apply Eq.refl)))))
        | (((with_reducible refine gR ?_); (first | refine RK.peelN rfl ?_ | refine RK.donef rfl ⟨_, rfl, ?_⟩ | refine RK.donet rfl (by kernel_rfl) ⟨_, rfl, ?_⟩)))
        | ((first | (with_reducible refine gQv ?_ ?_) | (with_reducible refine gQe ?_ ?_)); (focus (first | (apply wg (r := false); (iterate 6 apply Eq.refl)) | (apply wz; (iterate 4 apply Eq.refl)))))
        | ((with_reducible refine gK ?_); ((first | (apply gsD; (iterate 4 apply Eq.refl)) | (apply RKo.gsplitE; (iterate 4 apply Eq.refl)) | (apply RKo.gsplitN; (iterate 4 apply Eq.refl)) | (apply RKo.gsplit; (iterate 4 apply Eq.refl))) <;> (intro hc; first | with_reducible exact ff hc | with_reducible exact ff' hc | exact absurd hc (by decide) | exact absurd rfl hc | with_reducible exact absurd hlt hc | with_reducible exact absurd hgH hc | with_reducible exact absurd hxx hc | with_reducible exact absurd hc hlt | with_reducible exact absurd hc hgH | with_reducible exact absurd hc hxx | skip)))
        | (((with_reducible refine gW ?_); (first | with_reducible refine WP.seq ?_ | refine WP.reg mixed (fun ks => _) (fun ks => rfl) (fun ks => ?_) | ((first | (apply cdD; apply Eq.refl) | (apply WP.condE; apply Eq.refl) | (apply WP.condN; apply Eq.refl) | (apply WP.condA; apply Eq.refl)) <;> (intro hc; first | with_reducible exact ff hc | with_reducible exact ff' hc | exact absurd hc (by decide) | exact absurd rfl hc | with_reducible exact absurd hlt hc | with_reducible exact absurd hgH hc | with_reducible exact absurd hxx hc | with_reducible exact absurd hc hlt | with_reducible exact absurd hc hgH | with_reducible exact absurd hc hxx | skip)) | refine WP.ret ?_ | refine WP.skip ?_ | refine WP.exit ?_ | refine WP.goto ?_ | refine WP.label ?_ | refine WP.block ?_)))
        | (with_reducible refine thn_n ?_)
        | (with_reducible refine thn_r ?_)
        | (with_reducible refine thn_e ?_)
        | (with_reducible refine thn_g ?_)
        | (with_reducible refine blk_n ?_)
        | (with_reducible refine blk_r ?_)
        | (with_reducible refine blk_e ?_)
        | (with_reducible refine blk_g ?_)
        | (((with_reducible refine blk_o ?_ ?_); first | exact rfl | skip))
        | (refine Endz.mk' (by first | exact Or.inl rfl | exact Or.inr rfl) (by repeat (first | exact RVs.nil | apply RVs.cons | exact RV1.tmp rfl | exact RV1.row rfl rfl rfl (by repeat (first | exact look_here | apply look_there)) (by exact rfl) | exact RV1.cell rfl rfl rfl (by repeat (first | exact look_here | apply look_there)) (by exact rfl))) (by rfl) (by repeat (first | exact List.nil_sublist _ | exact List.Sublist.refl _ | apply List.Sublist.cons_cons | apply List.Sublist.cons))))
      refine ⟨i + 1, hi, (by show g - (i + 1) < g - i; omega), ?_⟩
      rw [e, hr1]
      exact Wk.of ⟨rfl, rfl, rfl, rfl, rfl, rfl, congrArg (fun x => some (I64 x)) hw1, trivial⟩ (by repeat (first | exact List.nil_sublist _ | exact List.Sublist.refl _ | apply List.Sublist.cons_cons | apply List.Sublist.cons))
    have hge : ¬ (i : Int) < (g : Int) := by omega
    have hr2 := hr.2
    rw [if_neg (by omega)] at hr2
    obtain ⟨st, hst⟩ : ∃ st, (kRun c.H c.fdL (fun _ => 0, 0) i) = st := ⟨_, rfl⟩
    rw [hst] at hr2 ⊢
    obtain ⟨N1, o1⟩ := st
    obtain rfl : o1 = 0 := hr2
    clear hr ho hst
    dsimp only
    have hk0 := keeper_Step (kx 0) (kx 1) c.H c.fdL h7 N1 0 (by decide) 0
    have dd := dn_n c.H N1 c.fdL
    obtain ⟨s2, hs2⟩ : ∃ s, kTurns c.H (tB 0) (N1, 0) c.fdL = s := ⟨_, rfl⟩
    rw [hs2] at hk0 dd
    obtain ⟨N2, o2⟩ := s2
    obtain ⟨d1, d2⟩ := dd
    obtain rfl : o2 = 0 := d2
    dsimp only at hk0 d1
    clear hs2
    repeat' (first
      | (((first | (with_reducible refine gQ0 ?_) | ((with_reducible refine gQ1 ?_ ?_); (focus (apply wg (r := true); (iterate 6 apply Eq.refl))))); (first | ((with_reducible apply q_move); apply Eq.refl) | ((with_reducible apply q_assign); apply Eq.refl) | ((with_reducible apply q_int); (iterate 3 apply Eq.refl)) | ((with_reducible apply q_fa layOk); (iterate 5 apply Eq.refl)) | ((with_reducible apply q_load layOk); (iterate 3 apply Eq.refl); (focus (repeat (with_reducible (first | apply lh | apply lt)))); apply Eq.refl) | ((with_reducible apply q_loadr layOk); (iterate 3 apply Eq.refl); (focus (repeat (with_reducible (first | apply lh | apply lt)))); apply Eq.refl) | ((with_reducible apply q_not); apply Eq.refl) | ((with_reducible apply q_alloc (k := ks _) layOk); apply Eq.refl; (focus (repeat (with_reducible (first | apply lh | apply lt)))); apply Eq.refl) | ((with_reducible apply q_pick_t); (iterate 2 apply Eq.refl)) | ((with_reducible apply q_pick_f); (iterate 2 apply Eq.refl)) | ((with_reducible apply q_len layOk); (iterate 4 apply Eq.refl)) | ((with_reducible apply q_eqnil); (focus (kernel_rfl)); (iterate 2 apply Eq.refl)) | ((with_reducible apply q_conv); apply Eq.refl; exact Tryd.underlying3; exact Tryd.underlying73) | ((with_reducible apply q_shl); (iterate 2 apply Eq.refl); exact hu) | ((with_reducible apply q_bne); (focus (with_reducible exact Tryd.underlying4)); (iterate 2 apply Eq.refl)) | (refine q_callW rfl hk0 (by repeat (first | exact Fd.nil | apply Fd.cons | (focus ((repeat (with_reducible (first | apply lh | apply lt))); done)) | (focus (apply lx; (focus (repeat (with_reducible (first | apply lh | apply lt)))); exact rfl)))) (by decide) rfl (by exact rfl) ?_) | ((with_reducible apply e_store layOk); (iterate 3 apply Eq.refl); (focus (repeat (with_reducible (first | apply lh | apply lt)))); (iterate 5 apply Eq.refl)))))
      | (((with_reducible refine gR ?_); (first | refine RK.peelN rfl ?_ | refine RK.donef rfl ⟨_, rfl, ?_⟩ | refine RK.donet rfl (by kernel_rfl) ⟨_, rfl, ?_⟩)))
      | ((first | (with_reducible refine gQv ?_ ?_) | (with_reducible refine gQe ?_ ?_)); (focus (first | (apply wg (r := false); (iterate 6 apply Eq.refl)) | (apply wz; (iterate 4 apply Eq.refl)))))
      | ((with_reducible refine gK ?_); ((first | (apply gsD; (iterate 4 apply Eq.refl)) | (apply RKo.gsplitE; (iterate 4 apply Eq.refl)) | (apply RKo.gsplitN; (iterate 4 apply Eq.refl)) | (apply RKo.gsplit; (iterate 4 apply Eq.refl))) <;> (intro hc; first | with_reducible exact ff hc | with_reducible exact ff' hc | exact absurd hc (by decide) | exact absurd rfl hc | with_reducible exact absurd hge hc | with_reducible exact absurd hgH hc | with_reducible exact absurd hlt0 hc | with_reducible exact absurd hxx hc | with_reducible exact absurd hc hge | with_reducible exact absurd hc hgH | with_reducible exact absurd hc hlt0 | with_reducible exact absurd hc hxx | skip)))
      | (((with_reducible refine gW ?_); (first | with_reducible refine WP.seq ?_ | refine WP.reg mixed (fun ks => _) (fun ks => rfl) (fun ks => ?_) | ((first | (apply cdD; apply Eq.refl) | (apply WP.condE; apply Eq.refl) | (apply WP.condN; apply Eq.refl) | (apply WP.condA; apply Eq.refl)) <;> (intro hc; first | with_reducible exact ff hc | with_reducible exact ff' hc | exact absurd hc (by decide) | exact absurd rfl hc | with_reducible exact absurd hge hc | with_reducible exact absurd hgH hc | with_reducible exact absurd hlt0 hc | with_reducible exact absurd hxx hc | with_reducible exact absurd hc hge | with_reducible exact absurd hc hgH | with_reducible exact absurd hc hlt0 | with_reducible exact absurd hc hxx | skip)) | refine WP.ret ?_ | refine WP.skip ?_ | refine WP.exit ?_ | refine WP.goto ?_ | refine WP.label ?_ | refine WP.block ?_)))
      | (with_reducible refine thn_n ?_)
      | (with_reducible refine thn_r ?_)
      | (with_reducible refine thn_e ?_)
      | (with_reducible refine thn_g ?_)
      | (with_reducible refine blk_n ?_)
      | (with_reducible refine blk_r ?_)
      | (with_reducible refine blk_e ?_)
      | (with_reducible refine blk_g ?_)
      | (((with_reducible refine blk_o ?_ ?_); first | exact rfl | skip))
      | (refine Endz.mk' (by first | exact Or.inl rfl | exact Or.inr rfl) (by repeat (first | exact RVs.nil | apply RVs.cons | exact RV1.tmp rfl | exact RV1.row rfl rfl rfl (by repeat (first | exact look_here | apply look_there)) (by exact rfl) | exact RV1.cell rfl rfl rfl (by repeat (first | exact look_here | apply look_there)) (by exact rfl))) (by rfl) (by repeat (first | exact List.nil_sublist _ | exact List.Sublist.refl _ | apply List.Sublist.cons_cons | apply List.Sublist.cons))))
    refine WP.loopI (n := 114) (α := Nat) (fun i => [(4, some (I64 ((g2 : Nat) : Int))), (11, some (.bool true)), (12, some (.pointer (some ⟨k4 (0 + 1 + 1), 0, none⟩))), (13, some (I64 ((2 ^ c.fdL - 1 : Nat) : Int))), (14, some (.pointer (some ⟨kx 0, 0, none⟩))), (16, some (I64 ((i : Nat) : Int)))]) (fun i => [(5, .ro 0 tzv), (k4 1, .row (feeds k N) 97 3), (k4 (0 + 1 + 1), .cells c.cells 51), (kx 0, .cells [I64 (c.H), .slice (some ⟨kx 1, 0, none⟩) c.fdL c.fdL, I64 (((kRun c.H c.fdL (N2, 0) i).2 : Nat) : Int)] 150), (kx 1, .cells (lm (kRun c.H c.fdL (N2, 0) i).1 c.fdL) 3)]) (fun i => i ≤ g2) (fun i => g2 - i) 0 (Wk.of ⟨rfl, rfl, rfl, rfl, rfl, rfl, trivial⟩ (by repeat (first | exact List.nil_sublist _ | exact List.Sublist.refl _ | apply List.Sublist.cons_cons | apply List.Sublist.cons))) (Nat.zero_le _) (fun i iy => ?_)
    have iy : i ≤ g2 := iy
    have ho := run_lt (h := c.H) (n := c.fdL) h6 (s := (N2, 0)) (show 0 < 128 by decide) i
    have hr := run_n hH.1 h6 N2 d1 i (by omega)
    by_cases hi2 : i < g2
    rotate_left
    · have hge2 : ¬ (i : Int) < (g2 : Int) := by omega
      obtain ⟨st, hst⟩ : ∃ st, (kRun c.H c.fdL (N2, 0) i) = st := ⟨_, rfl⟩
      rw [hst] at ho hr ⊢
      obtain ⟨N3, o3⟩ := st
      dsimp only at ho ⊢
      have ho3 : o3 < 2 ^ c.fdL := by
        have hp := Nat.two_pow_pos c.fdL
        have e3 : o3 = if (i : Int) ≥ c.H then 2 ^ c.fdL - 1 else 0 := hr.2
        rw [e3]; split <;> omega
      have hk1 := keeper_Step (kx 0) (kx 1) c.H c.fdL h7 N3 o3 ho 1
      have ge := one_end (h := c.H) (N := N3) h6 ho3
      repeat' (first
        | (((first | (with_reducible refine gQ0 ?_) | ((with_reducible refine gQ1 ?_ ?_); (focus (apply wg (r := true); (iterate 6 apply Eq.refl))))); (first | ((with_reducible apply q_move); apply Eq.refl) | ((with_reducible apply q_assign); apply Eq.refl) | ((with_reducible apply q_int); (iterate 3 apply Eq.refl)) | ((with_reducible apply q_fa layOk); (iterate 5 apply Eq.refl)) | ((with_reducible apply q_load layOk); (iterate 3 apply Eq.refl); (focus (repeat (with_reducible (first | apply lh | apply lt)))); apply Eq.refl) | ((with_reducible apply q_loadr layOk); (iterate 3 apply Eq.refl); (focus (repeat (with_reducible (first | apply lh | apply lt)))); apply Eq.refl) | ((with_reducible apply q_not); apply Eq.refl) | ((with_reducible apply q_alloc (k := ks _) layOk); apply Eq.refl; (focus (repeat (with_reducible (first | apply lh | apply lt)))); apply Eq.refl) | ((with_reducible apply q_pick_t); (iterate 2 apply Eq.refl)) | ((with_reducible apply q_pick_f); (iterate 2 apply Eq.refl)) | ((with_reducible apply q_len layOk); (iterate 4 apply Eq.refl)) | ((with_reducible apply q_eqnil); (focus (kernel_rfl)); (iterate 2 apply Eq.refl)) | ((with_reducible apply q_conv); apply Eq.refl; exact Tryd.underlying3; exact Tryd.underlying73) | ((with_reducible apply q_shl); (iterate 2 apply Eq.refl); exact hu) | ((with_reducible apply q_bne); (focus (with_reducible exact Tryd.underlying4)); (iterate 2 apply Eq.refl)) | (refine q_callW rfl hk1 (by repeat (first | exact Fd.nil | apply Fd.cons | (focus ((repeat (with_reducible (first | apply lh | apply lt))); done)) | (focus (apply lx; (focus (repeat (with_reducible (first | apply lh | apply lt)))); exact rfl)))) (by decide) rfl (by exact rfl) ?_) | (refine q_call1r rfl (keeper_On _ _ _ _) (by first | (focus ((repeat (with_reducible (first | apply lh | apply lt))); done)) | (focus (apply lx; (focus (repeat (with_reducible (first | apply lh | apply lt)))); exact rfl))) ?_) | ((with_reducible apply e_store layOk); (iterate 3 apply Eq.refl); (focus (repeat (with_reducible (first | apply lh | apply lt)))); (iterate 5 apply Eq.refl)))))
        | (((with_reducible refine gR ?_); (first | refine RK.peelN rfl ?_ | refine RK.donef rfl ⟨_, rfl, ?_⟩ | refine RK.donet rfl (by kernel_rfl) ⟨_, rfl, ?_⟩)))
        | ((first | (with_reducible refine gQv ?_ ?_) | (with_reducible refine gQe ?_ ?_)); (focus (first | (apply wg (r := false); (iterate 6 apply Eq.refl)) | (apply wz; (iterate 4 apply Eq.refl)))))
        | ((with_reducible refine gK ?_); ((first | (apply gsD; (iterate 4 apply Eq.refl)) | (apply RKo.gsplitE; (iterate 4 apply Eq.refl)) | (apply RKo.gsplitN; (iterate 4 apply Eq.refl)) | (apply RKo.gsplit; (iterate 4 apply Eq.refl))) <;> (intro hc; first | with_reducible exact ff hc | with_reducible exact ff' hc | exact absurd hc (by decide) | exact absurd rfl hc | with_reducible exact absurd hge2 hc | with_reducible exact absurd ge hc | with_reducible exact absurd hc hge2 | with_reducible exact absurd hc ge | skip)))
        | (((with_reducible refine gW ?_); (first | with_reducible refine WP.seq ?_ | refine WP.reg mixed (fun ks => _) (fun ks => rfl) (fun ks => ?_) | ((first | (apply cdD; apply Eq.refl) | (apply WP.condE; apply Eq.refl) | (apply WP.condN; apply Eq.refl) | (apply WP.condA; apply Eq.refl)) <;> (intro hc; first | with_reducible exact ff hc | with_reducible exact ff' hc | exact absurd hc (by decide) | exact absurd rfl hc | with_reducible exact absurd hge2 hc | with_reducible exact absurd ge hc | with_reducible exact absurd hc hge2 | with_reducible exact absurd hc ge | skip)) | refine WP.ret ?_ | refine WP.skip ?_ | refine WP.exit ?_ | refine WP.goto ?_ | refine WP.label ?_ | refine WP.block ?_)))
        | (with_reducible refine thn_n ?_)
        | (with_reducible refine thn_r ?_)
        | (with_reducible refine thn_e ?_)
        | (with_reducible refine thn_g ?_)
        | (with_reducible refine blk_n ?_)
        | (with_reducible refine blk_r ?_)
        | (with_reducible refine blk_e ?_)
        | (with_reducible refine blk_g ?_)
        | (((with_reducible refine blk_o ?_ ?_); first | exact rfl | skip))
        | (refine Endz.mk' (by first | exact Or.inl rfl | exact Or.inr rfl) (by repeat (first | exact RVs.nil | apply RVs.cons | exact RV1.tmp rfl | exact RV1.row rfl rfl rfl (by repeat (first | exact look_here | apply look_there)) (by exact rfl) | exact RV1.cell rfl rfl rfl (by repeat (first | exact look_here | apply look_there)) (by exact rfl))) (by first | rfl | exact congrArg Value.bool (decide_eq_true ge) | exact congrArg Value.bool (beq_iff_eq.2 ge)) (by repeat (first | exact List.nil_sublist _ | exact List.Sublist.refl _ | apply List.Sublist.cons_cons | apply List.Sublist.cons))))
    have hlt2 : (i : Int) < (g2 : Int) := by omega
    have hw2 : IntKind.i64.wrap ((i : Int) + 1) = ((i + 1 : Nat) : Int) := by rw [wrap_in (by omega) (by omega)]; omega
    have hr1 := (run_n hH.1 h6 N2 d1 (i + 1) (by omega)).2
    obtain ⟨st, hst⟩ : ∃ st, (kRun c.H c.fdL (N2, 0) i) = st := ⟨_, rfl⟩
    have e : (kRun c.H c.fdL (N2, 0) (i + 1)) = kTurns c.H (tB ((2 ^ c.fdL - 1 : Nat) : Int)) st c.fdL := by rw [← hst]; rfl
    rw [hst] at ho ⊢
    obtain ⟨N3, o3⟩ := st
    dsimp only at ho e ⊢
    have hks := keeper_Step (kx 0) (kx 1) c.H c.fdL h7 N3 o3 ho ((2 ^ c.fdL - 1 : Nat) : Int)
    rw [e] at hr1
    obtain ⟨s4, hs4⟩ : ∃ s, kTurns c.H (tB ((2 ^ c.fdL - 1 : Nat) : Int)) (N3, o3) c.fdL = s := ⟨_, rfl⟩
    rw [hs4] at hks hr1 e
    obtain ⟨N4, o4⟩ := s4
    dsimp only at hks hr1 e
    clear hs4
    by_cases hge4 : IntKind.i64.wrap ((i : Int) + 1) ≥ c.H
    · have e4 : o4 = 2 ^ c.fdL - 1 := by rw [hr1, if_pos (by rw [← hw2]; exact hge4)]
      subst e4
      have gA := hge4
      repeat' (first
        | (((first | (with_reducible refine gQ0 ?_) | ((with_reducible refine gQ1 ?_ ?_); (focus (apply wg (r := true); (iterate 6 apply Eq.refl))))); (first | ((with_reducible apply q_move); apply Eq.refl) | ((with_reducible apply q_assign); apply Eq.refl) | ((with_reducible apply q_int); (iterate 3 apply Eq.refl)) | ((with_reducible apply q_fa layOk); (iterate 5 apply Eq.refl)) | ((with_reducible apply q_load layOk); (iterate 3 apply Eq.refl); (focus (repeat (with_reducible (first | apply lh | apply lt)))); apply Eq.refl) | ((with_reducible apply q_loadr layOk); (iterate 3 apply Eq.refl); (focus (repeat (with_reducible (first | apply lh | apply lt)))); apply Eq.refl) | ((with_reducible apply q_not); apply Eq.refl) | ((with_reducible apply q_alloc (k := ks _) layOk); apply Eq.refl; (focus (repeat (with_reducible (first | apply lh | apply lt)))); apply Eq.refl) | ((with_reducible apply q_pick_t); (iterate 2 apply Eq.refl)) | ((with_reducible apply q_pick_f); (iterate 2 apply Eq.refl)) | ((with_reducible apply q_len layOk); (iterate 4 apply Eq.refl)) | ((with_reducible apply q_eqnil); (focus (kernel_rfl)); (iterate 2 apply Eq.refl)) | ((with_reducible apply q_conv); apply Eq.refl; exact Tryd.underlying3; exact Tryd.underlying73) | ((with_reducible apply q_shl); (iterate 2 apply Eq.refl); exact hu) | ((with_reducible apply q_bne); (focus (with_reducible exact Tryd.underlying4)); (iterate 2 apply Eq.refl)) | (refine q_callW rfl hks (by repeat (first | exact Fd.nil | apply Fd.cons | (focus ((repeat (with_reducible (first | apply lh | apply lt))); done)) | (focus (apply lx; (focus (repeat (with_reducible (first | apply lh | apply lt)))); exact rfl)))) (by decide) rfl (by exact rfl) ?_) | ((with_reducible apply e_store layOk); (iterate 3 apply Eq.refl); (focus (repeat (with_reducible (first | apply lh | apply lt)))); (iterate 5 apply Eq.refl)))))
        | (((with_reducible refine gR ?_); (first | refine RK.peelN rfl ?_ | refine RK.donef rfl ⟨_, rfl, ?_⟩ | refine RK.donet rfl (by kernel_rfl) ⟨_, rfl, ?_⟩)))
        | ((first | (with_reducible refine gQv ?_ ?_) | (with_reducible refine gQe ?_ ?_)); (focus (first | (apply wg (r := false); (iterate 6 apply Eq.refl)) | (apply wz; (iterate 4 apply Eq.refl)))))
        | ((with_reducible refine gK ?_); ((first | (apply gsD; (iterate 4 apply Eq.refl)) | (apply RKo.gsplitE; (iterate 4 apply Eq.refl)) | (apply RKo.gsplitN; (iterate 4 apply Eq.refl)) | (apply RKo.gsplit; (iterate 4 apply Eq.refl))) <;> (intro hc; first | with_reducible exact ff hc | with_reducible exact ff' hc | exact absurd hc (by decide) | exact absurd rfl hc | with_reducible exact absurd hlt2 hc | with_reducible exact absurd hz1 hc | with_reducible exact absurd hz2 hc | with_reducible exact absurd gA hc | with_reducible exact absurd hc hlt2 | with_reducible exact absurd hc hz1 | with_reducible exact absurd hc hz2 | with_reducible exact absurd hc gA | (exfalso; rw [b0, decide_eq_false gA] at hc; cases hc; done) | (exfalso; simp [gA] at hc; done) | (exfalso; exact hc gA) | (exfalso; exact gA hc) | skip)))
        | (((with_reducible refine gW ?_); (first | with_reducible refine WP.seq ?_ | refine WP.reg mixed (fun ks => _) (fun ks => rfl) (fun ks => ?_) | ((first | (apply cdD; apply Eq.refl) | (apply WP.condE; apply Eq.refl) | (apply WP.condN; apply Eq.refl) | (apply WP.condA; apply Eq.refl)) <;> (intro hc; first | with_reducible exact ff hc | with_reducible exact ff' hc | exact absurd hc (by decide) | exact absurd rfl hc | with_reducible exact absurd hlt2 hc | with_reducible exact absurd hz1 hc | with_reducible exact absurd hz2 hc | with_reducible exact absurd gA hc | with_reducible exact absurd hc hlt2 | with_reducible exact absurd hc hz1 | with_reducible exact absurd hc hz2 | with_reducible exact absurd hc gA | (exfalso; rw [b0, decide_eq_false gA] at hc; cases hc; done) | (exfalso; simp [gA] at hc; done) | (exfalso; exact hc gA) | (exfalso; exact gA hc) | skip)) | refine WP.ret ?_ | refine WP.skip ?_ | refine WP.exit ?_ | refine WP.goto ?_ | refine WP.label ?_ | refine WP.block ?_)))
        | (with_reducible refine thn_n ?_)
        | (with_reducible refine thn_r ?_)
        | (with_reducible refine thn_e ?_)
        | (with_reducible refine thn_g ?_)
        | (with_reducible refine blk_n ?_)
        | (with_reducible refine blk_r ?_)
        | (with_reducible refine blk_e ?_)
        | (with_reducible refine blk_g ?_)
        | (((with_reducible refine blk_o ?_ ?_); first | exact rfl | skip))
        | (refine Endz.mk' (by first | exact Or.inl rfl | exact Or.inr rfl) (by repeat (first | exact RVs.nil | apply RVs.cons | exact RV1.tmp rfl | exact RV1.row rfl rfl rfl (by repeat (first | exact look_here | apply look_there)) (by exact rfl) | exact RV1.cell rfl rfl rfl (by repeat (first | exact look_here | apply look_there)) (by exact rfl))) (by rfl) (by repeat (first | exact List.nil_sublist _ | exact List.Sublist.refl _ | apply List.Sublist.cons_cons | apply List.Sublist.cons))))
      refine ⟨i + 1, hi2, (by show g2 - (i + 1) < g2 - i; omega), ?_⟩
      rw [e]
      exact Wk.of ⟨rfl, rfl, rfl, rfl, rfl, congrArg (fun x => some (I64 x)) hw2, trivial⟩ (by repeat (first | exact List.nil_sublist _ | exact List.Sublist.refl _ | apply List.Sublist.cons_cons | apply List.Sublist.cons))
    · have e4 : o4 = 0 := by rw [hr1, if_neg (by rw [← hw2]; exact hge4)]
      subst e4
      have gA := hge4
      repeat' (first
        | (((first | (with_reducible refine gQ0 ?_) | ((with_reducible refine gQ1 ?_ ?_); (focus (apply wg (r := true); (iterate 6 apply Eq.refl))))); (first | ((with_reducible apply q_move); apply Eq.refl) | ((with_reducible apply q_assign); apply Eq.refl) | ((with_reducible apply q_int); (iterate 3 apply Eq.refl)) | ((with_reducible apply q_fa layOk); (iterate 5 apply Eq.refl)) | ((with_reducible apply q_load layOk); (iterate 3 apply Eq.refl); (focus (repeat (with_reducible (first | apply lh | apply lt)))); apply Eq.refl) | ((with_reducible apply q_loadr layOk); (iterate 3 apply Eq.refl); (focus (repeat (with_reducible (first | apply lh | apply lt)))); apply Eq.refl) | ((with_reducible apply q_not); apply Eq.refl) | ((with_reducible apply q_alloc (k := ks _) layOk); apply Eq.refl; (focus (repeat (with_reducible (first | apply lh | apply lt)))); apply Eq.refl) | ((with_reducible apply q_pick_t); (iterate 2 apply Eq.refl)) | ((with_reducible apply q_pick_f); (iterate 2 apply Eq.refl)) | ((with_reducible apply q_len layOk); (iterate 4 apply Eq.refl)) | ((with_reducible apply q_eqnil); (focus (kernel_rfl)); (iterate 2 apply Eq.refl)) | ((with_reducible apply q_conv); apply Eq.refl; exact Tryd.underlying3; exact Tryd.underlying73) | ((with_reducible apply q_shl); (iterate 2 apply Eq.refl); exact hu) | ((with_reducible apply q_bne); (focus (with_reducible exact Tryd.underlying4)); (iterate 2 apply Eq.refl)) | (refine q_callW rfl hks (by repeat (first | exact Fd.nil | apply Fd.cons | (focus ((repeat (with_reducible (first | apply lh | apply lt))); done)) | (focus (apply lx; (focus (repeat (with_reducible (first | apply lh | apply lt)))); exact rfl)))) (by decide) rfl (by exact rfl) ?_) | ((with_reducible apply e_store layOk); (iterate 3 apply Eq.refl); (focus (repeat (with_reducible (first | apply lh | apply lt)))); (iterate 5 apply Eq.refl)))))
        | (((with_reducible refine gR ?_); (first | refine RK.peelN rfl ?_ | refine RK.donef rfl ⟨_, rfl, ?_⟩ | refine RK.donet rfl (by kernel_rfl) ⟨_, rfl, ?_⟩)))
        | ((first | (with_reducible refine gQv ?_ ?_) | (with_reducible refine gQe ?_ ?_)); (focus (first | (apply wg (r := false); (iterate 6 apply Eq.refl)) | (apply wz; (iterate 4 apply Eq.refl)))))
        | ((with_reducible refine gK ?_); ((first | (apply gsD; (iterate 4 apply Eq.refl)) | (apply RKo.gsplitE; (iterate 4 apply Eq.refl)) | (apply RKo.gsplitN; (iterate 4 apply Eq.refl)) | (apply RKo.gsplit; (iterate 4 apply Eq.refl))) <;> (intro hc; first | with_reducible exact ff hc | with_reducible exact ff' hc | exact absurd hc (by decide) | exact absurd rfl hc | with_reducible exact absurd hlt2 hc | with_reducible exact absurd hz1 hc | with_reducible exact absurd hz2 hc | with_reducible exact absurd gA hc | with_reducible exact absurd hc hlt2 | with_reducible exact absurd hc hz1 | with_reducible exact absurd hc hz2 | with_reducible exact absurd hc gA | (exfalso; rw [b0, decide_eq_false gA] at hc; cases hc; done) | (exfalso; simp [gA] at hc; done) | (exfalso; exact hc gA) | (exfalso; exact gA hc) | skip)))
        | (((with_reducible refine gW ?_); (first | with_reducible refine WP.seq ?_ | refine WP.reg mixed (fun ks => _) (fun ks => rfl) (fun ks => ?_) | ((first | (apply cdD; apply Eq.refl) | (apply WP.condE; apply Eq.refl) | (apply WP.condN; apply Eq.refl) | (apply WP.condA; apply Eq.refl)) <;> (intro hc; first | with_reducible exact ff hc | with_reducible exact ff' hc | exact absurd hc (by decide) | exact absurd rfl hc | with_reducible exact absurd hlt2 hc | with_reducible exact absurd hz1 hc | with_reducible exact absurd hz2 hc | with_reducible exact absurd gA hc | with_reducible exact absurd hc hlt2 | with_reducible exact absurd hc hz1 | with_reducible exact absurd hc hz2 | with_reducible exact absurd hc gA | (exfalso; rw [b0, decide_eq_false gA] at hc; cases hc; done) | (exfalso; simp [gA] at hc; done) | (exfalso; exact hc gA) | (exfalso; exact gA hc) | skip)) | refine WP.ret ?_ | refine WP.skip ?_ | refine WP.exit ?_ | refine WP.goto ?_ | refine WP.label ?_ | refine WP.block ?_)))
        | (with_reducible refine thn_n ?_)
        | (with_reducible refine thn_r ?_)
        | (with_reducible refine thn_e ?_)
        | (with_reducible refine thn_g ?_)
        | (with_reducible refine blk_n ?_)
        | (with_reducible refine blk_r ?_)
        | (with_reducible refine blk_e ?_)
        | (with_reducible refine blk_g ?_)
        | (((with_reducible refine blk_o ?_ ?_); first | exact rfl | skip))
        | (refine Endz.mk' (by first | exact Or.inl rfl | exact Or.inr rfl) (by repeat (first | exact RVs.nil | apply RVs.cons | exact RV1.tmp rfl | exact RV1.row rfl rfl rfl (by repeat (first | exact look_here | apply look_there)) (by exact rfl) | exact RV1.cell rfl rfl rfl (by repeat (first | exact look_here | apply look_there)) (by exact rfl))) (by rfl) (by repeat (first | exact List.nil_sublist _ | exact List.Sublist.refl _ | apply List.Sublist.cons_cons | apply List.Sublist.cons))))
      refine ⟨i + 1, hi2, (by show g2 - (i + 1) < g2 - i; omega), ?_⟩
      rw [e]
      exact Wk.of ⟨rfl, rfl, rfl, rfl, rfl, congrArg (fun x => some (I64 x)) hw2, trivial⟩ (by repeat (first | exact List.nil_sublist _ | exact List.Sublist.refl _ | apply List.Sublist.cons_cons | apply List.Sublist.cons))
  · skip
    repeat' (first
      | (((first | (with_reducible refine gQ0 ?_) | ((with_reducible refine gQ1 ?_ ?_); (focus (apply wg (r := true); (iterate 6 apply Eq.refl))))); (first | ((with_reducible apply q_move); apply Eq.refl) | ((with_reducible apply q_assign); apply Eq.refl) | ((with_reducible apply q_int); (iterate 3 apply Eq.refl)) | ((with_reducible apply q_fa layOk); (iterate 5 apply Eq.refl)) | ((with_reducible apply q_load layOk); (iterate 3 apply Eq.refl); (focus (repeat (with_reducible (first | apply lh | apply lt)))); apply Eq.refl) | ((with_reducible apply q_loadr layOk); (iterate 3 apply Eq.refl); (focus (repeat (with_reducible (first | apply lh | apply lt)))); apply Eq.refl) | ((with_reducible apply q_not); apply Eq.refl) | ((with_reducible apply q_alloc (k := ks _) layOk); apply Eq.refl; (focus (repeat (with_reducible (first | apply lh | apply lt)))); apply Eq.refl) | ((with_reducible apply q_pick_t); (iterate 2 apply Eq.refl)) | ((with_reducible apply q_pick_f); (iterate 2 apply Eq.refl)) | ((with_reducible apply q_len layOk); (iterate 4 apply Eq.refl)) | ((with_reducible apply q_eqnil); (focus (kernel_rfl)); (iterate 2 apply Eq.refl)) | ((with_reducible apply q_conv); apply Eq.refl; exact Tryd.underlying3; exact Tryd.underlying73) | ((with_reducible apply q_shl); (iterate 2 apply Eq.refl); exact hu) | ((with_reducible apply q_bne); (focus (with_reducible exact Tryd.underlying4)); (iterate 2 apply Eq.refl)) | (refine q_call0 rfl hNg ?_) | (refine q_call0 rfl hNm ?_) | (refine q_callW rfl (hnew (ks 0) (ks 1)) (by repeat (first | exact Fd.nil | apply Fd.cons | (focus ((repeat (with_reducible (first | apply lh | apply lt))); done)) | (focus (apply lx; (focus (repeat (with_reducible (first | apply lh | apply lt)))); exact rfl)))) (by decide) rfl (by exact rfl) ?_) | (refine q_call1r rfl (keeper_On _ _ _ _) (by first | (focus ((repeat (with_reducible (first | apply lh | apply lt))); done)) | (focus (apply lx; (focus (repeat (with_reducible (first | apply lh | apply lt)))); exact rfl))) ?_) | ((with_reducible apply e_store layOk); (iterate 3 apply Eq.refl); (focus (repeat (with_reducible (first | apply lh | apply lt)))); (iterate 5 apply Eq.refl)))))
      | (((with_reducible refine gR ?_); (first | refine RK.peelN rfl ?_ | refine RK.donef rfl ⟨_, rfl, ?_⟩ | refine RK.donet rfl (by kernel_rfl) ⟨_, rfl, ?_⟩)))
      | ((first | (with_reducible refine gQv ?_ ?_) | (with_reducible refine gQe ?_ ?_)); (focus (first | (apply wg (r := false); (iterate 6 apply Eq.refl)) | (apply wz; (iterate 4 apply Eq.refl)))))
      | ((with_reducible refine gK ?_); ((first | (apply gsD; (iterate 4 apply Eq.refl)) | (apply RKo.gsplitE; (iterate 4 apply Eq.refl)) | (apply RKo.gsplitN; (iterate 4 apply Eq.refl)) | (apply RKo.gsplit; (iterate 4 apply Eq.refl))) <;> (intro hc; first | with_reducible exact ff hc | with_reducible exact ff' hc | exact absurd hc (by decide) | exact absurd rfl hc | with_reducible exact absurd hxx hc | with_reducible exact absurd hc hxx | skip)))
      | (((with_reducible refine gW ?_); (first | with_reducible refine WP.seq ?_ | refine WP.reg mixed (fun ks => _) (fun ks => rfl) (fun ks => ?_) | ((first | (apply cdD; apply Eq.refl) | (apply WP.condE; apply Eq.refl) | (apply WP.condN; apply Eq.refl) | (apply WP.condA; apply Eq.refl)) <;> (intro hc; first | with_reducible exact ff hc | with_reducible exact ff' hc | exact absurd hc (by decide) | exact absurd rfl hc | with_reducible exact absurd hxx hc | with_reducible exact absurd hc hxx | skip)) | refine WP.ret ?_ | refine WP.skip ?_ | refine WP.exit ?_ | refine WP.goto ?_ | refine WP.label ?_ | refine WP.block ?_)))
      | (with_reducible refine thn_n ?_)
      | (with_reducible refine thn_r ?_)
      | (with_reducible refine thn_e ?_)
      | (with_reducible refine thn_g ?_)
      | (with_reducible refine blk_n ?_)
      | (with_reducible refine blk_r ?_)
      | (with_reducible refine blk_e ?_)
      | (with_reducible refine blk_g ?_)
      | (((with_reducible refine blk_o ?_ ?_); first | exact rfl | skip))
      | (refine Endz.mk' (by first | exact Or.inl rfl | exact Or.inr rfl) (by repeat (first | exact RVs.nil | apply RVs.cons | exact RV1.tmp rfl | exact RV1.row rfl rfl rfl (by repeat (first | exact look_here | apply look_there)) (by exact rfl) | exact RV1.cell rfl rfl rfl (by repeat (first | exact look_here | apply look_there)) (by exact rfl))) (by rfl) (by repeat (first | exact List.nil_sublist _ | exact List.Sublist.refl _ | apply List.Sublist.cons_cons | apply List.Sublist.cons))))
    rename_i kx _ _
    refine WP.loopI (n := 114) (α := Nat) (fun i => [(4, some (I64 ((g2 : Nat) : Int))), (3, some (I64 ((g : Nat) : Int))), (11, some (.bool true)), (12, some (.pointer (some ⟨k4 (0 + 1 + 1), 0, none⟩))), (13, some (I64 ((2 ^ c.fdL - 1 : Nat) : Int))), (14, some (.pointer (some ⟨kx 0, 0, none⟩))), (15, some (I64 ((i : Nat) : Int)))]) (fun i => [(5, .ro 0 tzv), (k4 1, .row (feeds k N) 97 3), (k4 (0 + 1 + 1), .cells c.cells 51), (kx 0, .cells [I64 (c.H), .slice (some ⟨kx 1, 0, none⟩) c.fdL c.fdL, I64 ((((fun _ => 0, 0) : (Nat → Int) × Nat).2 : Nat) : Int)] 150), (kx 1, .cells (lm ((fun _ => 0, 0) : (Nat → Int) × Nat).1 c.fdL) 3)]) (fun i => i = 0) (fun i => i) 0 (Wk.of ⟨rfl, rfl, rfl, rfl, congrArg (fun x => some (I64 x)) hall, rfl, rfl, trivial⟩ (by repeat (first | exact List.nil_sublist _ | exact List.Sublist.refl _ | apply List.Sublist.cons_cons | apply List.Sublist.cons))) rfl (fun i iy => ?_)
    obtain rfl : i = 0 := iy
    obtain ⟨N1, hN1⟩ : ∃ N1 : Nat → Int, (fun _ => 0) = N1 := ⟨_, rfl⟩
    rw [hN1]
    clear hN1
    dsimp only
    have hlt0 : ((0 : Nat) : Int) < ((g : Nat) : Int) := by omega
    have hk0 := keeper_Step (kx 0) (kx 1) c.H c.fdL h7 N1 0 (by decide) 0
    have dd := dn_n c.H N1 c.fdL
    obtain ⟨s2, hs2⟩ : ∃ s, kTurns c.H (tB 0) (N1, 0) c.fdL = s := ⟨_, rfl⟩
    rw [hs2] at hk0 dd
    obtain ⟨N2, o2⟩ := s2
    obtain ⟨d1, d2⟩ := dd
    obtain rfl : o2 = 0 := d2
    dsimp only at hk0 d1
    clear hs2
    repeat' (first
      | (((first | (with_reducible refine gQ0 ?_) | ((with_reducible refine gQ1 ?_ ?_); (focus (apply wg (r := true); (iterate 6 apply Eq.refl))))); (first | ((with_reducible apply q_move); apply Eq.refl) | ((with_reducible apply q_assign); apply Eq.refl) | ((with_reducible apply q_int); (iterate 3 apply Eq.refl)) | ((with_reducible apply q_fa layOk); (iterate 5 apply Eq.refl)) | ((with_reducible apply q_load layOk); (iterate 3 apply Eq.refl); (focus (repeat (with_reducible (first | apply lh | apply lt)))); apply Eq.refl) | ((with_reducible apply q_loadr layOk); (iterate 3 apply Eq.refl); (focus (repeat (with_reducible (first | apply lh | apply lt)))); apply Eq.refl) | ((with_reducible apply q_not); apply Eq.refl) | ((with_reducible apply q_alloc (k := ks _) layOk); apply Eq.refl; (focus (repeat (with_reducible (first | apply lh | apply lt)))); apply Eq.refl) | ((with_reducible apply q_pick_t); (iterate 2 apply Eq.refl)) | ((with_reducible apply q_pick_f); (iterate 2 apply Eq.refl)) | ((with_reducible apply q_len layOk); (iterate 4 apply Eq.refl)) | ((with_reducible apply q_eqnil); (focus (kernel_rfl)); (iterate 2 apply Eq.refl)) | ((with_reducible apply q_conv); apply Eq.refl; exact Tryd.underlying3; exact Tryd.underlying73) | ((with_reducible apply q_shl); (iterate 2 apply Eq.refl); exact hu) | ((with_reducible apply q_bne); (focus (with_reducible exact Tryd.underlying4)); (iterate 2 apply Eq.refl)) | (refine q_callW rfl hk0 (by repeat (first | exact Fd.nil | apply Fd.cons | (focus ((repeat (with_reducible (first | apply lh | apply lt))); done)) | (focus (apply lx; (focus (repeat (with_reducible (first | apply lh | apply lt)))); exact rfl)))) (by decide) rfl (by exact rfl) ?_) | ((with_reducible apply e_store layOk); (iterate 3 apply Eq.refl); (focus (repeat (with_reducible (first | apply lh | apply lt)))); (iterate 5 apply Eq.refl)))))
      | (((with_reducible refine gR ?_); (first | refine RK.peelN rfl ?_ | refine RK.donef rfl ⟨_, rfl, ?_⟩ | refine RK.donet rfl (by kernel_rfl) ⟨_, rfl, ?_⟩)))
      | ((first | (with_reducible refine gQv ?_ ?_) | (with_reducible refine gQe ?_ ?_)); (focus (first | (apply wg (r := false); (iterate 6 apply Eq.refl)) | (apply wz; (iterate 4 apply Eq.refl)))))
      | ((with_reducible refine gK ?_); ((first | (apply gsD; (iterate 4 apply Eq.refl)) | (apply RKo.gsplitE; (iterate 4 apply Eq.refl)) | (apply RKo.gsplitN; (iterate 4 apply Eq.refl)) | (apply RKo.gsplit; (iterate 4 apply Eq.refl))) <;> (intro hc; first | with_reducible exact ff hc | with_reducible exact ff' hc | exact absurd hc (by decide) | exact absurd rfl hc | with_reducible exact absurd hge hc | with_reducible exact absurd hgH hc | with_reducible exact absurd hlt0 hc | with_reducible exact absurd hxx hc | with_reducible exact absurd hc hge | with_reducible exact absurd hc hgH | with_reducible exact absurd hc hlt0 | with_reducible exact absurd hc hxx | skip)))
      | (((with_reducible refine gW ?_); (first | with_reducible refine WP.seq ?_ | refine WP.reg mixed (fun ks => _) (fun ks => rfl) (fun ks => ?_) | ((first | (apply cdD; apply Eq.refl) | (apply WP.condE; apply Eq.refl) | (apply WP.condN; apply Eq.refl) | (apply WP.condA; apply Eq.refl)) <;> (intro hc; first | with_reducible exact ff hc | with_reducible exact ff' hc | exact absurd hc (by decide) | exact absurd rfl hc | with_reducible exact absurd hge hc | with_reducible exact absurd hgH hc | with_reducible exact absurd hlt0 hc | with_reducible exact absurd hxx hc | with_reducible exact absurd hc hge | with_reducible exact absurd hc hgH | with_reducible exact absurd hc hlt0 | with_reducible exact absurd hc hxx | skip)) | refine WP.ret ?_ | refine WP.skip ?_ | refine WP.exit ?_ | refine WP.goto ?_ | refine WP.label ?_ | refine WP.block ?_)))
      | (with_reducible refine thn_n ?_)
      | (with_reducible refine thn_r ?_)
      | (with_reducible refine thn_e ?_)
      | (with_reducible refine thn_g ?_)
      | (with_reducible refine blk_n ?_)
      | (with_reducible refine blk_r ?_)
      | (with_reducible refine blk_e ?_)
      | (with_reducible refine blk_g ?_)
      | (((with_reducible refine blk_o ?_ ?_); first | exact rfl | skip))
      | (refine Endz.mk' (by first | exact Or.inl rfl | exact Or.inr rfl) (by repeat (first | exact RVs.nil | apply RVs.cons | exact RV1.tmp rfl | exact RV1.row rfl rfl rfl (by repeat (first | exact look_here | apply look_there)) (by exact rfl) | exact RV1.cell rfl rfl rfl (by repeat (first | exact look_here | apply look_there)) (by exact rfl))) (by rfl) (by repeat (first | exact List.nil_sublist _ | exact List.Sublist.refl _ | apply List.Sublist.cons_cons | apply List.Sublist.cons))))
    refine WP.loopI (n := 114) (α := Nat) (fun i => [(4, some (I64 ((g2 : Nat) : Int))), (11, some (.bool true)), (12, some (.pointer (some ⟨k4 (0 + 1 + 1), 0, none⟩))), (13, some (I64 ((2 ^ c.fdL - 1 : Nat) : Int))), (14, some (.pointer (some ⟨kx 0, 0, none⟩))), (16, some (I64 ((i : Nat) : Int)))]) (fun i => [(5, .ro 0 tzv), (k4 1, .row (feeds k N) 97 3), (k4 (0 + 1 + 1), .cells c.cells 51), (kx 0, .cells [I64 (c.H), .slice (some ⟨kx 1, 0, none⟩) c.fdL c.fdL, I64 (((kRun c.H c.fdL (N2, 0) i).2 : Nat) : Int)] 150), (kx 1, .cells (lm (kRun c.H c.fdL (N2, 0) i).1 c.fdL) 3)]) (fun i => i ≤ g2) (fun i => g2 - i) 0 (Wk.of ⟨rfl, rfl, rfl, rfl, rfl, rfl, trivial⟩ (by repeat (first | exact List.nil_sublist _ | exact List.Sublist.refl _ | apply List.Sublist.cons_cons | apply List.Sublist.cons))) (Nat.zero_le _) (fun i iy => ?_)
    have iy : i ≤ g2 := iy
    have ho := run_lt (h := c.H) (n := c.fdL) h6 (s := (N2, 0)) (show 0 < 128 by decide) i
    have hr := run_n hH.1 h6 N2 d1 i (by omega)
    by_cases hi2 : i < g2
    rotate_left
    · have hge2 : ¬ (i : Int) < (g2 : Int) := by omega
      obtain ⟨st, hst⟩ : ∃ st, (kRun c.H c.fdL (N2, 0) i) = st := ⟨_, rfl⟩
      rw [hst] at ho hr ⊢
      obtain ⟨N3, o3⟩ := st
      dsimp only at ho ⊢
      have ho3 : o3 < 2 ^ c.fdL := by
        have hp := Nat.two_pow_pos c.fdL
        have e3 : o3 = if (i : Int) ≥ c.H then 2 ^ c.fdL - 1 else 0 := hr.2
        rw [e3]; split <;> omega
      have hk1 := keeper_Step (kx 0) (kx 1) c.H c.fdL h7 N3 o3 ho 1
      have ge := one_end (h := c.H) (N := N3) h6 ho3
      repeat' (first
        | (((first | (with_reducible refine gQ0 ?_) | ((with_reducible refine gQ1 ?_ ?_); (focus (apply wg (r := true); (iterate 6 apply Eq.refl))))); (first | ((with_reducible apply q_move); apply Eq.refl) | ((with_reducible apply q_assign); apply Eq.refl) | ((with_reducible apply q_int); (iterate 3 apply Eq.refl)) | ((with_reducible apply q_fa layOk); (iterate 5 apply Eq.refl)) | ((with_reducible apply q_load layOk); (iterate 3 apply Eq.refl); (focus (repeat (with_reducible (first | apply lh | apply lt)))); apply Eq.refl) | ((with_reducible apply q_loadr layOk); (iterate 3 apply Eq.refl); (focus (repeat (with_reducible (first | apply lh | apply lt)))); apply Eq.refl) | ((with_reducible apply q_not); apply Eq.refl) | ((with_reducible apply q_alloc (k := ks _) layOk); apply Eq.refl; (focus (repeat (with_reducible (first | apply lh | apply lt)))); apply Eq.refl) | ((with_reducible apply q_pick_t); (iterate 2 apply Eq.refl)) | ((with_reducible apply q_pick_f); (iterate 2 apply Eq.refl)) | ((with_reducible apply q_len layOk); (iterate 4 apply Eq.refl)) | ((with_reducible apply q_eqnil); (focus (kernel_rfl)); (iterate 2 apply Eq.refl)) | ((with_reducible apply q_conv); apply Eq.refl; exact Tryd.underlying3; exact Tryd.underlying73) | ((with_reducible apply q_shl); (iterate 2 apply Eq.refl); exact hu) | ((with_reducible apply q_bne); (focus (with_reducible exact Tryd.underlying4)); (iterate 2 apply Eq.refl)) | (refine q_callW rfl hk1 (by repeat (first | exact Fd.nil | apply Fd.cons | (focus ((repeat (with_reducible (first | apply lh | apply lt))); done)) | (focus (apply lx; (focus (repeat (with_reducible (first | apply lh | apply lt)))); exact rfl)))) (by decide) rfl (by exact rfl) ?_) | (refine q_call1r rfl (keeper_On _ _ _ _) (by first | (focus ((repeat (with_reducible (first | apply lh | apply lt))); done)) | (focus (apply lx; (focus (repeat (with_reducible (first | apply lh | apply lt)))); exact rfl))) ?_) | ((with_reducible apply e_store layOk); (iterate 3 apply Eq.refl); (focus (repeat (with_reducible (first | apply lh | apply lt)))); (iterate 5 apply Eq.refl)))))
        | (((with_reducible refine gR ?_); (first | refine RK.peelN rfl ?_ | refine RK.donef rfl ⟨_, rfl, ?_⟩ | refine RK.donet rfl (by kernel_rfl) ⟨_, rfl, ?_⟩)))
        | ((first | (with_reducible refine gQv ?_ ?_) | (with_reducible refine gQe ?_ ?_)); (focus (first | (apply wg (r := false); (iterate 6 apply Eq.refl)) | (apply wz; (iterate 4 apply Eq.refl)))))
        | ((with_reducible refine gK ?_); ((first | (apply gsD; (iterate 4 apply Eq.refl)) | (apply RKo.gsplitE; (iterate 4 apply Eq.refl)) | (apply RKo.gsplitN; (iterate 4 apply Eq.refl)) | (apply RKo.gsplit; (iterate 4 apply Eq.refl))) <;> (intro hc; first | with_reducible exact ff hc | with_reducible exact ff' hc | exact absurd hc (by decide) | exact absurd rfl hc | with_reducible exact absurd hge2 hc | with_reducible exact absurd ge hc | with_reducible exact absurd hc hge2 | with_reducible exact absurd hc ge | skip)))
        | (((with_reducible refine gW ?_); (first | with_reducible refine WP.seq ?_ | refine WP.reg mixed (fun ks => _) (fun ks => rfl) (fun ks => ?_) | ((first | (apply cdD; apply Eq.refl) | (apply WP.condE; apply Eq.refl) | (apply WP.condN; apply Eq.refl) | (apply WP.condA; apply Eq.refl)) <;> (intro hc; first | with_reducible exact ff hc | with_reducible exact ff' hc | exact absurd hc (by decide) | exact absurd rfl hc | with_reducible exact absurd hge2 hc | with_reducible exact absurd ge hc | with_reducible exact absurd hc hge2 | with_reducible exact absurd hc ge | skip)) | refine WP.ret ?_ | refine WP.skip ?_ | refine WP.exit ?_ | refine WP.goto ?_ | refine WP.label ?_ | refine WP.block ?_)))
        | (with_reducible refine thn_n ?_)
        | (with_reducible refine thn_r ?_)
        | (with_reducible refine thn_e ?_)
        | (with_reducible refine thn_g ?_)
        | (with_reducible refine blk_n ?_)
        | (with_reducible refine blk_r ?_)
        | (with_reducible refine blk_e ?_)
        | (with_reducible refine blk_g ?_)
        | (((with_reducible refine blk_o ?_ ?_); first | exact rfl | skip))
        | (refine Endz.mk' (by first | exact Or.inl rfl | exact Or.inr rfl) (by repeat (first | exact RVs.nil | apply RVs.cons | exact RV1.tmp rfl | exact RV1.row rfl rfl rfl (by repeat (first | exact look_here | apply look_there)) (by exact rfl) | exact RV1.cell rfl rfl rfl (by repeat (first | exact look_here | apply look_there)) (by exact rfl))) (by first | rfl | exact congrArg Value.bool (decide_eq_true ge) | exact congrArg Value.bool (beq_iff_eq.2 ge)) (by repeat (first | exact List.nil_sublist _ | exact List.Sublist.refl _ | apply List.Sublist.cons_cons | apply List.Sublist.cons))))
    have hlt2 : (i : Int) < (g2 : Int) := by omega
    have hw2 : IntKind.i64.wrap ((i : Int) + 1) = ((i + 1 : Nat) : Int) := by rw [wrap_in (by omega) (by omega)]; omega
    have hr1 := (run_n hH.1 h6 N2 d1 (i + 1) (by omega)).2
    obtain ⟨st, hst⟩ : ∃ st, (kRun c.H c.fdL (N2, 0) i) = st := ⟨_, rfl⟩
    have e : (kRun c.H c.fdL (N2, 0) (i + 1)) = kTurns c.H (tB ((2 ^ c.fdL - 1 : Nat) : Int)) st c.fdL := by rw [← hst]; rfl
    rw [hst] at ho ⊢
    obtain ⟨N3, o3⟩ := st
    dsimp only at ho e ⊢
    have hks := keeper_Step (kx 0) (kx 1) c.H c.fdL h7 N3 o3 ho ((2 ^ c.fdL - 1 : Nat) : Int)
    rw [e] at hr1
    obtain ⟨s4, hs4⟩ : ∃ s, kTurns c.H (tB ((2 ^ c.fdL - 1 : Nat) : Int)) (N3, o3) c.fdL = s := ⟨_, rfl⟩
    rw [hs4] at hks hr1 e
    obtain ⟨N4, o4⟩ := s4
    dsimp only at hks hr1 e
    clear hs4
    by_cases hge4 : IntKind.i64.wrap ((i : Int) + 1) ≥ c.H
    · have e4 : o4 = 2 ^ c.fdL - 1 := by rw [hr1, if_pos (by rw [← hw2]; exact hge4)]
      subst e4
      have gA := hge4
      repeat' (first
        | (((first | (with_reducible refine gQ0 ?_) | ((with_reducible refine gQ1 ?_ ?_); (focus (apply wg (r := true); (iterate 6 apply Eq.refl))))); (first | ((with_reducible apply q_move); apply Eq.refl) | ((with_reducible apply q_assign); apply Eq.refl) | ((with_reducible apply q_int); (iterate 3 apply Eq.refl)) | ((with_reducible apply q_fa layOk); (iterate 5 apply Eq.refl)) | ((with_reducible apply q_load layOk); (iterate 3 apply Eq.refl); (focus (repeat (with_reducible (first | apply lh | apply lt)))); apply Eq.refl) | ((with_reducible apply q_loadr layOk); (iterate 3 apply Eq.refl); (focus (repeat (with_reducible (first | apply lh | apply lt)))); apply Eq.refl) | ((with_reducible apply q_not); apply Eq.refl) | ((with_reducible apply q_alloc (k := ks _) layOk); apply Eq.refl; (focus (repeat (with_reducible (first | apply lh | apply lt)))); apply Eq.refl) | ((with_reducible apply q_pick_t); (iterate 2 apply Eq.refl)) | ((with_reducible apply q_pick_f); (iterate 2 apply Eq.refl)) | ((with_reducible apply q_len layOk); (iterate 4 apply Eq.refl)) | ((with_reducible apply q_eqnil); (focus (kernel_rfl)); (iterate 2 apply Eq.refl)) | ((with_reducible apply q_conv); apply Eq.refl; exact Tryd.underlying3; exact Tryd.underlying73) | ((with_reducible apply q_shl); (iterate 2 apply Eq.refl); exact hu) | ((with_reducible apply q_bne); (focus (with_reducible exact Tryd.underlying4)); (iterate 2 apply Eq.refl)) | (refine q_callW rfl hks (by repeat (first | exact Fd.nil | apply Fd.cons | (focus ((repeat (with_reducible (first | apply lh | apply lt))); done)) | (focus (apply lx; (focus (repeat (with_reducible (first | apply lh | apply lt)))); exact rfl)))) (by decide) rfl (by exact rfl) ?_) | ((with_reducible apply e_store layOk); (iterate 3 apply Eq.refl); (focus (repeat (with_reducible (first | apply lh | apply lt)))); (iterate 5 apply Eq.refl)))))
        | (((with_reducible refine gR ?_); (first | refine RK.peelN rfl ?_ | refine RK.donef rfl ⟨_, rfl, ?_⟩ | refine RK.donet rfl (by kernel_rfl) ⟨_, rfl, ?_⟩)))
        | ((first | (with_reducible refine gQv ?_ ?_) | (with_reducible refine gQe ?_ ?_)); (focus (first | (apply wg (r := false); (iterate 6 apply Eq.refl)) | (apply wz; (iterate 4 apply Eq.refl)))))
        | ((with_reducible refine gK ?_); ((first | (apply gsD; (iterate 4 apply Eq.refl)) | (apply RKo.gsplitE; (iterate 4 apply Eq.refl)) | (apply RKo.gsplitN; (iterate 4 apply Eq.refl)) | (apply RKo.gsplit; (iterate 4 apply Eq.refl))) <;> (intro hc; first | with_reducible exact ff hc | with_reducible exact ff' hc | exact absurd hc (by decide) | exact absurd rfl hc | with_reducible exact absurd hlt2 hc | with_reducible exact absurd hz1 hc | with_reducible exact absurd hz2 hc | with_reducible exact absurd gA hc | with_reducible exact absurd hc hlt2 | with_reducible exact absurd hc hz1 | with_reducible exact absurd hc hz2 | with_reducible exact absurd hc gA | (exfalso; rw [b0, decide_eq_false gA] at hc; cases hc; done) | (exfalso; simp [gA] at hc; done) | (exfalso; exact hc gA) | (exfalso; exact gA hc) | skip)))
        | (((with_reducible refine gW ?_); (first | with_reducible refine WP.seq ?_ | refine WP.reg mixed (fun ks => _) (fun ks => rfl) (fun ks => ?_) | ((first | (apply cdD; apply Eq.refl) | (apply WP.condE; apply Eq.refl) | (apply WP.condN; apply Eq.refl) | (apply WP.condA; apply Eq.refl)) <;> (intro hc; first | with_reducible exact ff hc | with_reducible exact ff' hc | exact absurd hc (by decide) | exact absurd rfl hc | with_reducible exact absurd hlt2 hc | with_reducible exact absurd hz1 hc | with_reducible exact absurd hz2 hc | with_reducible exact absurd gA hc | with_reducible exact absurd hc hlt2 | with_reducible exact absurd hc hz1 | with_reducible exact absurd hc hz2 | with_reducible exact absurd hc gA | (exfalso; rw [b0, decide_eq_false gA] at hc; cases hc; done) | (exfalso; simp [gA] at hc; done) | (exfalso; exact hc gA) | (exfalso; exact gA hc) | skip)) | refine WP.ret ?_ | refine WP.skip ?_ | refine WP.exit ?_ | refine WP.goto ?_ | refine WP.label ?_ | refine WP.block ?_)))
        | (with_reducible refine thn_n ?_)
        | (with_reducible refine thn_r ?_)
        | (with_reducible refine thn_e ?_)
        | (with_reducible refine thn_g ?_)
        | (with_reducible refine blk_n ?_)
        | (with_reducible refine blk_r ?_)
        | (with_reducible refine blk_e ?_)
        | (with_reducible refine blk_g ?_)
        | (((with_reducible refine blk_o ?_ ?_); first | exact rfl | skip))
        | (refine Endz.mk' (by first | exact Or.inl rfl | exact Or.inr rfl) (by repeat (first | exact RVs.nil | apply RVs.cons | exact RV1.tmp rfl | exact RV1.row rfl rfl rfl (by repeat (first | exact look_here | apply look_there)) (by exact rfl) | exact RV1.cell rfl rfl rfl (by repeat (first | exact look_here | apply look_there)) (by exact rfl))) (by rfl) (by repeat (first | exact List.nil_sublist _ | exact List.Sublist.refl _ | apply List.Sublist.cons_cons | apply List.Sublist.cons))))
      refine ⟨i + 1, hi2, (by show g2 - (i + 1) < g2 - i; omega), ?_⟩
      rw [e]
      exact Wk.of ⟨rfl, rfl, rfl, rfl, rfl, congrArg (fun x => some (I64 x)) hw2, trivial⟩ (by repeat (first | exact List.nil_sublist _ | exact List.Sublist.refl _ | apply List.Sublist.cons_cons | apply List.Sublist.cons))
    · have e4 : o4 = 0 := by rw [hr1, if_neg (by rw [← hw2]; exact hge4)]
      subst e4
      have gA := hge4
      repeat' (first
        | (((first | (with_reducible refine gQ0 ?_) | ((with_reducible refine gQ1 ?_ ?_); (focus (apply wg (r := true); (iterate 6 apply Eq.refl))))); (first | ((with_reducible apply q_move); apply Eq.refl) | ((with_reducible apply q_assign); apply Eq.refl) | ((with_reducible apply q_int); (iterate 3 apply Eq.refl)) | ((with_reducible apply q_fa layOk); (iterate 5 apply Eq.refl)) | ((with_reducible apply q_load layOk); (iterate 3 apply Eq.refl); (focus (repeat (with_reducible (first | apply lh | apply lt)))); apply Eq.refl) | ((with_reducible apply q_loadr layOk); (iterate 3 apply Eq.refl); (focus (repeat (with_reducible (first | apply lh | apply lt)))); apply Eq.refl) | ((with_reducible apply q_not); apply Eq.refl) | ((with_reducible apply q_alloc (k := ks _) layOk); apply Eq.refl; (focus (repeat (with_reducible (first | apply lh | apply lt)))); apply Eq.refl) | ((with_reducible apply q_pick_t); (iterate 2 apply Eq.refl)) | ((with_reducible apply q_pick_f); (iterate 2 apply Eq.refl)) | ((with_reducible apply q_len layOk); (iterate 4 apply Eq.refl)) | ((with_reducible apply q_eqnil); (focus (kernel_rfl)); (iterate 2 apply Eq.refl)) | ((with_reducible apply q_conv); apply Eq.refl; exact Tryd.underlying3; exact Tryd.underlying73) | ((with_reducible apply q_shl); (iterate 2 apply Eq.refl); exact hu) | ((with_reducible apply q_bne); (focus (with_reducible exact Tryd.underlying4)); (iterate 2 apply Eq.refl)) | (refine q_callW rfl hks (by repeat (first | exact Fd.nil | apply Fd.cons | (focus ((repeat (with_reducible (first | apply lh | apply lt))); done)) | (focus (apply lx; (focus (repeat (with_reducible (first | apply lh | apply lt)))); exact rfl)))) (by decide) rfl (by exact rfl) ?_) | ((with_reducible apply e_store layOk); (iterate 3 apply Eq.refl); (focus (repeat (with_reducible (first | apply lh | apply lt)))); (iterate 5 apply Eq.refl)))))
        | (((with_reducible refine gR ?_); (first | refine RK.peelN rfl ?_ | refine RK.donef rfl ⟨_, rfl, ?_⟩ | refine RK.donet rfl (by kernel_rfl) ⟨_, rfl, ?_⟩)))
        | ((first | (with_reducible refine gQv ?_ ?_) | (with_reducible refine gQe ?_ ?_)); (focus (first | (apply wg (r := false); (iterate 6 apply Eq.refl)) | (apply wz; (iterate 4 apply Eq.refl)))))
        | ((with_reducible refine gK ?_); ((first | (apply gsD; (iterate 4 apply Eq.refl)) | (apply RKo.gsplitE; (iterate 4 apply Eq.refl)) | (apply RKo.gsplitN; (iterate 4 apply Eq.refl)) | (apply RKo.gsplit; (iterate 4 apply Eq.refl))) <;> (intro hc; first | with_reducible exact ff hc | with_reducible exact ff' hc | exact absurd hc (by decide) | exact absurd rfl hc | with_reducible exact absurd hlt2 hc | with_reducible exact absurd hz1 hc | with_reducible exact absurd hz2 hc | with_reducible exact absurd gA hc | with_reducible exact absurd hc hlt2 | with_reducible exact absurd hc hz1 | with_reducible exact absurd hc hz2 | with_reducible exact absurd hc gA | (exfalso; rw [b0, decide_eq_false gA] at hc; cases hc; done) | (exfalso; simp [gA] at hc; done) | (exfalso; exact hc gA) | (exfalso; exact gA hc) | skip)))
        | (((with_reducible refine gW ?_); (first | with_reducible refine WP.seq ?_ | refine WP.reg mixed (fun ks => _) (fun ks => rfl) (fun ks => ?_) | ((first | (apply cdD; apply Eq.refl) | (apply WP.condE; apply Eq.refl) | (apply WP.condN; apply Eq.refl) | (apply WP.condA; apply Eq.refl)) <;> (intro hc; first | with_reducible exact ff hc | with_reducible exact ff' hc | exact absurd hc (by decide) | exact absurd rfl hc | with_reducible exact absurd hlt2 hc | with_reducible exact absurd hz1 hc | with_reducible exact absurd hz2 hc | with_reducible exact absurd gA hc | with_reducible exact absurd hc hlt2 | with_reducible exact absurd hc hz1 | with_reducible exact absurd hc hz2 | with_reducible exact absurd hc gA | (exfalso; rw [b0, decide_eq_false gA] at hc; cases hc; done) | (exfalso; simp [gA] at hc; done) | (exfalso; exact hc gA) | (exfalso; exact gA hc) | skip)) | refine WP.ret ?_ | refine WP.skip ?_ | refine WP.exit ?_ | refine WP.goto ?_ | refine WP.label ?_ | refine WP.block ?_)))
        | (with_reducible refine thn_n ?_)
        | (with_reducible refine thn_r ?_)
        | (with_reducible refine thn_e ?_)
        | (with_reducible refine thn_g ?_)
        | (with_reducible refine blk_n ?_)
        | (with_reducible refine blk_r ?_)
        | (with_reducible refine blk_e ?_)
        | (with_reducible refine blk_g ?_)
        | (((with_reducible refine blk_o ?_ ?_); first | exact rfl | skip))
        | (refine Endz.mk' (by first | exact Or.inl rfl | exact Or.inr rfl) (by repeat (first | exact RVs.nil | apply RVs.cons | exact RV1.tmp rfl | exact RV1.row rfl rfl rfl (by repeat (first | exact look_here | apply look_there)) (by exact rfl) | exact RV1.cell rfl rfl rfl (by repeat (first | exact look_here | apply look_there)) (by exact rfl))) (by rfl) (by repeat (first | exact List.nil_sublist _ | exact List.Sublist.refl _ | apply List.Sublist.cons_cons | apply List.Sublist.cons))))
      refine ⟨i + 1, hi2, (by show g2 - (i + 1) < g2 - i; omega), ?_⟩
      rw [e]
      exact Wk.of ⟨rfl, rfl, rfl, rfl, rfl, congrArg (fun x => some (I64 x)) hw2, trivial⟩ (by repeat (first | exact List.nil_sublist _ | exact List.Sublist.refl _ | apply List.Sublist.cons_cons | apply List.Sublist.cons))
set_option maxHeartbeats 16000000 in
theorem shedBacks_B (n m k : Int) (gap many : Int) (hmk : ∀ k1 k2 : Nat, Ctr Tryd.prog 6 41 [I64 n, I64 m, I64 k] [(k1, .gone), (k2, .gone)] (.agg ⟨(cfgOf n m k (some ⟨k1, 0, none⟩) none 0 0).cells⟩) [.cells ocv 27, .lost]) : Ctr Tryd.prog 6 22 [I64 n, I64 m, I64 k, I64 gap, I64 many] [(5, .ro 0 tzv)] (.bool true) [.ro 0 tzv] := by
  refine Ctr.by layOk Tryd.func22 Tryd.ntmps22 rfl rfl rfl rfl rfl ?_
  repeat' (first
    | (((first | (with_reducible refine gQ0 ?_) | ((with_reducible refine gQ1 ?_ ?_); (focus (apply wg (r := true); (iterate 6 apply Eq.refl))))); (first | ((with_reducible apply q_move); apply Eq.refl) | ((with_reducible apply q_assign); apply Eq.refl) | ((with_reducible apply q_int); (iterate 3 apply Eq.refl)) | ((with_reducible apply q_fa layOk); (iterate 5 apply Eq.refl)) | ((with_reducible apply q_load layOk); (iterate 3 apply Eq.refl); (focus (repeat (with_reducible (first | apply lh | apply lt)))); apply Eq.refl) | ((with_reducible apply q_loadr layOk); (iterate 3 apply Eq.refl); (focus (repeat (with_reducible (first | apply lh | apply lt)))); apply Eq.refl) | ((with_reducible apply q_not); apply Eq.refl) | ((with_reducible apply q_alloc (k := ks _) layOk); apply Eq.refl; (focus (repeat (with_reducible (first | apply lh | apply lt)))); apply Eq.refl) | ((with_reducible apply q_pick_t); (iterate 2 apply Eq.refl)) | ((with_reducible apply q_pick_f); (iterate 2 apply Eq.refl)) | ((with_reducible apply q_len layOk); (iterate 4 apply Eq.refl)) | ((with_reducible apply q_eqnil); (focus (kernel_rfl)); (iterate 2 apply Eq.refl)) | ((with_reducible apply q_conv); apply Eq.refl; exact Tryd.underlying3; exact Tryd.underlying73) | ((with_reducible apply q_shl); (iterate 2 apply Eq.refl); exact hu) | ((with_reducible apply q_bne); (focus (with_reducible exact Tryd.underlying4)); (iterate 2 apply Eq.refl)) | (refine q_call1r rfl (first25 ()) (by first | (focus ((repeat (with_reducible (first | apply lh | apply lt))); done)) | (focus (apply lx; (focus (repeat (with_reducible (first | apply lh | apply lt)))); exact rfl))) ?_) | (refine q_call2 rfl (hmk (ks 0) (ks 1)) (by first | (focus ((repeat (with_reducible (first | apply lh | apply lt))); done)) | (focus (apply lx; (focus (repeat (with_reducible (first | apply lh | apply lt)))); exact rfl))) (by first | (focus ((repeat (with_reducible (first | apply lh | apply lt))); done)) | (focus (apply lx; (focus (repeat (with_reducible (first | apply lh | apply lt)))); exact rfl))) (by decide) (by exact rfl) ?_) | ((with_reducible apply e_store layOk); (iterate 3 apply Eq.refl); (focus (repeat (with_reducible (first | apply lh | apply lt)))); (iterate 5 apply Eq.refl)))))
    | (((with_reducible refine gR ?_); (first | refine RK.peelN rfl ?_ | refine RK.donef rfl ⟨_, rfl, ?_⟩ | refine RK.donet rfl (by kernel_rfl) ⟨_, rfl, ?_⟩)))
    | ((first | (with_reducible refine gQv ?_ ?_) | (with_reducible refine gQe ?_ ?_)); (focus (first | (apply wg (r := false); (iterate 6 apply Eq.refl)) | (apply wz; (iterate 4 apply Eq.refl)))))
    | ((with_reducible refine gK ?_); ((first | (apply gsD; (iterate 4 apply Eq.refl)) | (apply RKo.gsplitE; (iterate 4 apply Eq.refl)) | (apply RKo.gsplitN; (iterate 4 apply Eq.refl)) | (apply RKo.gsplit; (iterate 4 apply Eq.refl))) <;> (intro hc; first | with_reducible exact ff hc | with_reducible exact ff' hc | exact absurd hc (by decide) | exact absurd rfl hc | skip)))
    | (((with_reducible refine gW ?_); (first | with_reducible refine WP.seq ?_ | refine WP.reg mixed (fun ks => _) (fun ks => rfl) (fun ks => ?_) | ((first | (apply cdD; apply Eq.refl) | (apply WP.condE; apply Eq.refl) | (apply WP.condN; apply Eq.refl) | (apply WP.condA; apply Eq.refl)) <;> (intro hc; first | with_reducible exact ff hc | with_reducible exact ff' hc | exact absurd hc (by decide) | exact absurd rfl hc | skip)) | refine WP.ret ?_ | refine WP.skip ?_ | refine WP.exit ?_ | refine WP.goto ?_ | refine WP.label ?_ | refine WP.block ?_)))
    | (with_reducible refine thn_n ?_)
    | (with_reducible refine thn_r ?_)
    | (with_reducible refine thn_e ?_)
    | (with_reducible refine thn_g ?_)
    | (with_reducible refine blk_n ?_)
    | (with_reducible refine blk_r ?_)
    | (with_reducible refine blk_e ?_)
    | (with_reducible refine blk_g ?_)
    | (((with_reducible refine blk_o ?_ ?_); first | exact rfl | skip))
    | (refine Endz.mk' (by first | exact Or.inl rfl | exact Or.inr rfl) (by repeat (first | exact RVs.nil | apply RVs.cons | exact RV1.tmp rfl | exact RV1.row rfl rfl rfl (by repeat (first | exact look_here | apply look_there)) (by exact rfl) | exact RV1.cell rfl rfl rfl (by repeat (first | exact look_here | apply look_there)) (by exact rfl))) (by rfl) (by repeat (first | exact List.nil_sublist _ | exact List.Sublist.refl _ | apply List.Sublist.cons_cons | apply List.Sublist.cons))))
theorem shedBacks (n m k : Int) (gap many : Int) : Ctr Tryd.prog 6 22 [I64 n, I64 m, I64 k, I64 gap, I64 many] [(5, .ro 0 tzv)] (.bool true) [.ro 0 tzv] := by
  rcases cfg_cases n m k with ⟨N, hN, h⟩ | h
  · exact shedBacks_A n m k gap many N hN h
  · exact shedBacks_B n m k gap many h
end Go.Proofs.YtlhhcongoplfpaaDoor
