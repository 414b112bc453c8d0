/- What functions of this program do, each as a contract that its callers use, and what follows of it in plain numbers.
   By an AI agent. -/
import Derived.Test.YtlhhcongoplfpaaDoorDLO
import Derived.Test.YtlhhcongoplfpaaDoorSR3
namespace Go.Proofs.YtlhhcongoplfpaaDoor
open Go Go.Proofs.YtlhhcongoplfpaaDoorAB
set_option linter.unusedSimpArgs false
set_option linter.unusedVariables false

theorem want_refN {c : Cfg} {B : Nat → Nat} {W R : Nat → Int} (hk : ∀ k, 0 ≤ R k ∧ R k ≤ 3) (hl : ∀ k, 0 ≤ W k ∧ W k ≤ 1000000) (hc : ∀ s, 0 ≤ capOf c s ∧ capOf c s ≤ 1000000) (shut trips : Int) (few : Bool) :
    rSrc (okW trips few R) R (srcF B shut) W (capOf c) c.fdL 4 = wantN c B W R shut trips few := by
  unfold wantN
  exact want_ref (ok := okW trips few R) (pr := R) (src := srcF B shut) (load := W) (cap := capOf c) hk hl hc (fun k s h => src_lt B shut k s h) c.fdL
theorem capIn (n m k : Int) (oc fa : Option Addr) (fl fc : Nat) : ∀ s : Nat, 0 ≤ capOf (cfgOf n m k oc fa fl fc) s ∧ capOf (cfgOf n m k oc fa fl fc) s ≤ 1000000
  | 0 => ⟨show (0 : Int) ≤ 3000 by decide, show (3000 : Int) ≤ 1000000 by decide⟩
  | 1 => ⟨show (0 : Int) ≤ 500 by decide, show (500 : Int) ≤ 1000000 by decide⟩
  | 2 => ⟨show (0 : Int) ≤ 500 by decide, show (500 : Int) ≤ 1000000 by decide⟩
  | 3 => ⟨show (0 : Int) ≤ 3000 by decide, show (3000 : Int) ≤ 1000000 by decide⟩
  | s + 4 => ⟨show (0 : Int) ≤ 500 by decide, show (500 : Int) ≤ 1000000 by decide⟩

theorem cfg_cases (n m k : Int) : (∃ N : Nat, N ≤ 6 ∧ ∀ k1 k2 : Nat, Ctr Tryd.prog 6 41 [I64 n, I64 m, I64 k] [(k1, .gone), (k2, .gone)] (.agg ⟨(cfgOf n m k (some ⟨k1, 0, none⟩) (some ⟨k2, 0, none⟩) N grown).cells⟩) [.cells ocv 27, .row (feeds k N) 97 3]) ∨
    ∀ k1 k2 : Nat, Ctr Tryd.prog 6 41 [I64 n, I64 m, I64 k] [(k1, .gone), (k2, .gone)] (.agg ⟨(cfgOf n m k (some ⟨k1, 0, none⟩) none 0 0).cells⟩) [.cells ocv 27, .lost] := by
  by_cases h : (0 : Int) < cnt m
  · have h7 : cnt m < 7 := by unfold cnt; exact Int.tmod_lt_of_pos _ (by decide)
    exact .inl ⟨(cnt m).toNat, by omega, fun k1 k2 => make_Config1 n m k k1 k2 h⟩
  · exact .inr fun k1 k2 => ((make_Config0 n m k k1 h).more (k2, .gone)).lose rfl fun i o ho => by
      match i, ho with
      | 0, ho => exact .inr ho
      | 1, ho => cases ho; exact .inl rfl
set_option maxHeartbeats 16000000 in
theorem shedSays_A (n m k : Int) (shut trips fd src : Int) (few u0 u1 : Bool) (f0 f1 a0 b0 a1 b1 : Int) (N : Nat) (hN6 : N ≤ 6) (hmk : ∀ k1 k2 : Nat, Ctr Tryd.prog 6 41 [I64 n, I64 m, I64 k] [(k1, .gone), (k2, .gone)] (.agg ⟨(cfgOf n m k (some ⟨k1, 0, none⟩) (some ⟨k2, 0, none⟩) N grown).cells⟩) [.cells ocv 27, .row (feeds k N) 97 3]) : Ctr Tryd.prog 6 26 [I64 n, I64 m, I64 k, I64 shut, I64 trips, I64 fd, I64 src, .bool few, .agg ⟨[.bool u0, .bool u1]⟩, .agg ⟨[I64 f0, I64 f1]⟩, .agg ⟨[I64 a0, I64 b0, I64 a1, I64 b1]⟩] [(5, .ro 0 tzv)] (.bool true) [.ro 0 tzv] := by
  refine Ctr.by layOk Tryd.func26 Tryd.ntmps26 rfl rfl rfl rfl rfl ?_
  repeat' (first
    | (((with_reducible refine gQ0 ?_); (first | ((with_reducible apply q_move); apply Eq.refl) | ((with_reducible apply q_assign); apply Eq.refl) | ((with_reducible apply q_int); (iterate 3 apply Eq.refl)) | ((with_reducible apply q_load layOk); (iterate 3 apply Eq.refl); (focus (repeat (with_reducible (first | apply lh | apply lt)))); apply Eq.refl) | ((with_reducible apply q_loadr layOk); (iterate 3 apply Eq.refl); (focus (repeat (with_reducible (first | apply lh | apply lt)))); apply Eq.refl) | ((with_reducible apply q_not); apply Eq.refl) | ((with_reducible apply q_box (k := ks _)); apply Eq.refl; (focus (repeat (with_reducible (first | apply lh | apply lt)))); apply Eq.refl) | ((with_reducible apply q_alloc (k := ks _) layOk); apply Eq.refl; (focus (repeat (with_reducible (first | apply lh | apply lt)))); apply Eq.refl) | ((with_reducible apply q_pick_t); (iterate 2 apply Eq.refl)) | ((with_reducible apply q_pick_f); (iterate 2 apply Eq.refl)) | (refine q_call1r rfl (first25 ()) (by first | (focus ((repeat (with_reducible (first | apply lh | apply lt))); done)) | (focus (apply lx; (focus (repeat (with_reducible (first | apply lh | apply lt)))); exact rfl))) ?_) | (refine q_call2 rfl (hmk (ks 0) (ks 1)) (by first | (focus ((repeat (with_reducible (first | apply lh | apply lt))); done)) | (focus (apply lx; (focus (repeat (with_reducible (first | apply lh | apply lt)))); exact rfl))) (by first | (focus ((repeat (with_reducible (first | apply lh | apply lt))); done)) | (focus (apply lx; (focus (repeat (with_reducible (first | apply lh | apply lt)))); exact rfl))) (by decide) (by exact rfl) ?_) | ((with_reducible apply e_store layOk); (iterate 3 apply Eq.refl); (focus (repeat (with_reducible (first | apply lh | apply lt)))); (iterate 5 apply Eq.refl)))))
    | (((with_reducible refine gR ?_); (first | refine RK.peelN rfl ?_ | refine RK.donef rfl ⟨_, rfl, ?_⟩ | refine RK.donet rfl (by kernel_rfl) ⟨_, rfl, ?_⟩)))
    | (((with_reducible refine gW ?_); (first | with_reducible refine WP.seq ?_ | refine WP.reg mixed (fun ks => _) (fun ks => rfl) (fun ks => ?_) | ((first | (apply cdD; apply Eq.refl) | (apply WP.condE; apply Eq.refl) | (apply WP.condN; apply Eq.refl) | (apply WP.condA; apply Eq.refl)) <;> (intro hc; first | with_reducible exact ff hc | with_reducible exact ff' hc | exact absurd rfl hc | exact absurd hc (by decide) | skip)) | refine WP.ret ?_ | refine WP.skip ?_ | refine WP.exit ?_ | refine WP.goto ?_ | refine WP.label ?_ | refine WP.block ?_)))
    | (with_reducible refine thn_n ?_)
    | (with_reducible refine thn_r ?_)
    | (with_reducible refine thn_e ?_)
    | (with_reducible refine thn_g ?_)
    | (with_reducible refine blk_n ?_)
    | (with_reducible refine blk_r ?_)
    | (with_reducible refine blk_e ?_)
    | (with_reducible refine blk_g ?_)
    | (((with_reducible refine blk_o ?_ ?_); first | exact rfl | skip))
    | (refine Endz.mk' (by first | exact Or.inl rfl | exact Or.inr rfl) (by repeat (first | exact RVs.nil | apply RVs.cons | exact RV1.tmp rfl | exact RV1.row rfl rfl rfl (by repeat (first | exact look_here | apply look_there)) (by exact rfl) | exact RV1.cell rfl rfl rfl (by repeat (first | exact look_here | apply look_there)) (by exact rfl))) (by rfl) (by repeat (first | exact List.nil_sublist _ | exact List.Sublist.refl _ | apply List.Sublist.cons_cons | apply List.Sublist.cons))))
  rename_i k4
  obtain ⟨c, hcc⟩ : ∃ c, cfgOf n m k (some ⟨k4 0, 0, none⟩) (some ⟨k4 1, 0, none⟩) N grown = c := ⟨_, rfl⟩
  rw [hcc]
  have h6 : c.fdL ≤ 6 := by rw [← hcc]; exact hN6
  have fr : Fr (.row (feeds k N) 97 3) c.fdL (fBus k) (fLoad k) (fPrio k) := by rw [← hcc]; exact feeds_Fr k (by omega) _
  have ha : 0 < c.fdL → c.fdA = some ⟨k4 1, 0, none⟩ := by rw [← hcc]; exact fun _ => rfl
  have h7 : c.fdL ≤ 7 := by omega
  have hB : ∀ i, i < c.fdL → 4 ≤ fBus k i ∧ fBus k i < 7 := fun i _ => ⟨(fd_in k i).1, (fd_in k i).2.1⟩
  have hC : ∀ s, 0 ≤ capOf c s ∧ capOf c s ≤ 1000000 := by rw [← hcc]; exact capIn n m k _ _ _ _
  have hWl : ∀ i, 0 ≤ fLoad k i ∧ fLoad k i ≤ 290 := fun i => ⟨by have := (fd_in k i).2.2.1; omega, (fd_in k i).2.2.2.1⟩
  have w1 := shed_Want (kf := k4 1) fr ha h7 hB shut trips few
  have w2 := ref_Want (kf := k4 1) fr ha h7 hB hWl hC shut trips few
  have l1 := shed_Load (kf := k4 1) fr ha h7 hB fd shut src
  have l2 := ref_Load (kf := k4 1) fr ha h7 hB fd shut src
  have c1 := shed_Chargers c shut u0 u1 f0 f1 a0 b0 a1 b1
  have c2 := ref_Chargers c shut u0 u1 f0 f1 a0 b0 a1 b1
  have ew := want_refN (c := c) (B := fBus k) (W := fLoad k) (R := fPrio k) (fun i => (fd_in k i).2.2.2.2) (fun i => ⟨(hWl i).1, by have := (hWl i).2; omega⟩) hC shut trips few
  rw [ew] at w2
  rw [← (loadR_eq hWl c.fdL h7).1] at l2
  generalize wantN c (fBus k) (fLoad k) (fPrio k) shut trips few = E at w1 w2
  generalize loadF (bitB fd) (fzF (fBus k) shut) (fLoad k) src c.fdL = L at l1 l2
  generalize chS (chB shut u0 f0 b0 c.Cap 4) (chB shut u1 f1 b1 c.Cap 5) 2 = M at c1 c2
  clear hcc
  repeat' (first
    | (((first | (with_reducible refine gQ0 ?_) | ((with_reducible refine gQ1 ?_ ?_); (focus (apply wg (r := true); (iterate 6 apply Eq.refl))))); (first | ((with_reducible apply q_move); apply Eq.refl) | ((with_reducible apply q_assign); apply Eq.refl) | ((with_reducible apply q_int); (iterate 3 apply Eq.refl)) | ((with_reducible apply q_load layOk); (iterate 3 apply Eq.refl); (focus (repeat (with_reducible (first | apply lh | apply lt)))); apply Eq.refl) | ((with_reducible apply q_loadr layOk); (iterate 3 apply Eq.refl); (focus (repeat (with_reducible (first | apply lh | apply lt)))); apply Eq.refl) | ((with_reducible apply q_not); apply Eq.refl) | ((with_reducible apply q_box (k := ks _)); apply Eq.refl; (focus (repeat (with_reducible (first | apply lh | apply lt)))); apply Eq.refl) | ((with_reducible apply q_alloc (k := ks _) layOk); apply Eq.refl; (focus (repeat (with_reducible (first | apply lh | apply lt)))); apply Eq.refl) | ((with_reducible apply q_pick_t); (iterate 2 apply Eq.refl)) | ((with_reducible apply q_pick_f); (iterate 2 apply Eq.refl)) | (refine q_callR rfl w1 rfl (by repeat (first | exact Fd.nil | apply Fd.cons | (focus ((repeat (with_reducible (first | apply lh | apply lt))); done)) | (focus (apply lx; (focus (repeat (with_reducible (first | apply lh | apply lt)))); exact rfl)))) (by decide) ?_) | (refine q_callR rfl l1 rfl (by repeat (first | exact Fd.nil | apply Fd.cons | (focus ((repeat (with_reducible (first | apply lh | apply lt))); done)) | (focus (apply lx; (focus (repeat (with_reducible (first | apply lh | apply lt)))); exact rfl)))) (by decide) ?_) | (refine q_call1r rfl w2 (by first | (focus ((repeat (with_reducible (first | apply lh | apply lt))); done)) | (focus (apply lx; (focus (repeat (with_reducible (first | apply lh | apply lt)))); exact rfl))) ?_) | (refine q_call1r rfl l2 (by first | (focus ((repeat (with_reducible (first | apply lh | apply lt))); done)) | (focus (apply lx; (focus (repeat (with_reducible (first | apply lh | apply lt)))); exact rfl))) ?_) | (refine q_call1r rfl c1 (by first | (focus ((repeat (with_reducible (first | apply lh | apply lt))); done)) | (focus (apply lx; (focus (repeat (with_reducible (first | apply lh | apply lt)))); exact rfl))) ?_) | (refine q_call0 rfl c2 ?_) | ((with_reducible apply e_store layOk); (iterate 3 apply Eq.refl); (focus (repeat (with_reducible (first | apply lh | apply lt)))); (iterate 5 apply Eq.refl)))))
    | (((with_reducible refine gR ?_); (first | refine RK.peelN rfl ?_ | refine RK.donef rfl ⟨_, rfl, ?_⟩ | refine RK.donet rfl (by kernel_rfl) ⟨_, rfl, ?_⟩)))
    | ((first | (with_reducible refine gQv ?_ ?_) | (with_reducible refine gQe ?_ ?_)); (focus (first | (apply wg (r := false); (iterate 6 apply Eq.refl)) | (apply wz; (iterate 4 apply Eq.refl)))))
    | ((with_reducible refine gK ?_); ((first | (apply gsD; (iterate 4 apply Eq.refl)) | (apply RKo.gsplitE; (iterate 4 apply Eq.refl)) | (apply RKo.gsplitN; (iterate 4 apply Eq.refl)) | (apply RKo.gsplit; (iterate 4 apply Eq.refl))) <;> (intro hc; first | with_reducible exact ff hc | with_reducible exact ff' hc | exact absurd rfl hc | exact absurd hc (by decide) | skip)))
    | (((with_reducible refine gW ?_); (first | with_reducible refine WP.seq ?_ | refine WP.reg mixed (fun ks => _) (fun ks => rfl) (fun ks => ?_) | ((first | (apply cdD; apply Eq.refl) | (apply WP.condE; apply Eq.refl) | (apply WP.condN; apply Eq.refl) | (apply WP.condA; apply Eq.refl)) <;> (intro hc; first | with_reducible exact ff hc | with_reducible exact ff' hc | exact absurd rfl hc | exact absurd hc (by decide) | skip)) | refine WP.ret ?_ | refine WP.skip ?_ | refine WP.exit ?_ | refine WP.goto ?_ | refine WP.label ?_ | refine WP.block ?_)))
    | (with_reducible refine thn_n ?_)
    | (with_reducible refine thn_r ?_)
    | (with_reducible refine thn_e ?_)
    | (with_reducible refine thn_g ?_)
    | (with_reducible refine blk_n ?_)
    | (with_reducible refine blk_r ?_)
    | (with_reducible refine blk_e ?_)
    | (with_reducible refine blk_g ?_)
    | (((with_reducible refine blk_o ?_ ?_); first | exact rfl | skip))
    | (refine Endz.mk' (by first | exact Or.inl rfl | exact Or.inr rfl) (by repeat (first | exact RVs.nil | apply RVs.cons | exact RV1.tmp rfl | exact RV1.row rfl rfl rfl (by repeat (first | exact look_here | apply look_there)) (by exact rfl) | exact RV1.cell rfl rfl rfl (by repeat (first | exact look_here | apply look_there)) (by exact rfl))) (by first | rfl | exact congrArg Value.bool (beq_self_eq_true _) | exact congrArg Value.bool (decide_eq_true rfl)) (by repeat (first | exact List.nil_sublist _ | exact List.Sublist.refl _ | apply List.Sublist.cons_cons | apply List.Sublist.cons))))
set_option maxHeartbeats 16000000 in
theorem shedSays_B (n m k : Int) (shut trips fd src : Int) (few u0 u1 : Bool) (f0 f1 a0 b0 a1 b1 : Int) (hmk : ∀ k1 k2 : Nat, Ctr Tryd.prog 6 41 [I64 n, I64 m, I64 k] [(k1, .gone), (k2, .gone)] (.agg ⟨(cfgOf n m k (some ⟨k1, 0, none⟩) none 0 0).cells⟩) [.cells ocv 27, .lost]) : Ctr Tryd.prog 6 26 [I64 n, I64 m, I64 k, I64 shut, I64 trips, I64 fd, I64 src, .bool few, .agg ⟨[.bool u0, .bool u1]⟩, .agg ⟨[I64 f0, I64 f1]⟩, .agg ⟨[I64 a0, I64 b0, I64 a1, I64 b1]⟩] [(5, .ro 0 tzv)] (.bool true) [.ro 0 tzv] := by
  refine Ctr.by layOk Tryd.func26 Tryd.ntmps26 rfl rfl rfl rfl rfl ?_
  repeat' (first
    | (((with_reducible refine gQ0 ?_); (first | ((with_reducible apply q_move); apply Eq.refl) | ((with_reducible apply q_assign); apply Eq.refl) | ((with_reducible apply q_int); (iterate 3 apply Eq.refl)) | ((with_reducible apply q_load layOk); (iterate 3 apply Eq.refl); (focus (repeat (with_reducible (first | apply lh | apply lt)))); apply Eq.refl) | ((with_reducible apply q_loadr layOk); (iterate 3 apply Eq.refl); (focus (repeat (with_reducible (first | apply lh | apply lt)))); apply Eq.refl) | ((with_reducible apply q_not); apply Eq.refl) | ((with_reducible apply q_box (k := ks _)); apply Eq.refl; (focus (repeat (with_reducible (first | apply lh | apply lt)))); apply Eq.refl) | ((with_reducible apply q_alloc (k := ks _) layOk); apply Eq.refl; (focus (repeat (with_reducible (first | apply lh | apply lt)))); apply Eq.refl) | ((with_reducible apply q_pick_t); (iterate 2 apply Eq.refl)) | ((with_reducible apply q_pick_f); (iterate 2 apply Eq.refl)) | (refine q_call1r rfl (first25 ()) (by first | (focus ((repeat (with_reducible (first | apply lh | apply lt))); done)) | (focus (apply lx; (focus (repeat (with_reducible (first | apply lh | apply lt)))); exact rfl))) ?_) | (refine q_call2 rfl (hmk (ks 0) (ks 1)) (by first | (focus ((repeat (with_reducible (first | apply lh | apply lt))); done)) | (focus (apply lx; (focus (repeat (with_reducible (first | apply lh | apply lt)))); exact rfl))) (by first | (focus ((repeat (with_reducible (first | apply lh | apply lt))); done)) | (focus (apply lx; (focus (repeat (with_reducible (first | apply lh | apply lt)))); exact rfl))) (by decide) (by exact rfl) ?_) | ((with_reducible apply e_store layOk); (iterate 3 apply Eq.refl); (focus (repeat (with_reducible (first | apply lh | apply lt)))); (iterate 5 apply Eq.refl)))))
    | (((with_reducible refine gR ?_); (first | refine RK.peelN rfl ?_ | refine RK.donef rfl ⟨_, rfl, ?_⟩ | refine RK.donet rfl (by kernel_rfl) ⟨_, rfl, ?_⟩)))
    | (((with_reducible refine gW ?_); (first | with_reducible refine WP.seq ?_ | refine WP.reg mixed (fun ks => _) (fun ks => rfl) (fun ks => ?_) | ((first | (apply cdD; apply Eq.refl) | (apply WP.condE; apply Eq.refl) | (apply WP.condN; apply Eq.refl) | (apply WP.condA; apply Eq.refl)) <;> (intro hc; first | with_reducible exact ff hc | with_reducible exact ff' hc | exact absurd rfl hc | exact absurd hc (by decide) | skip)) | refine WP.ret ?_ | refine WP.skip ?_ | refine WP.exit ?_ | refine WP.goto ?_ | refine WP.label ?_ | refine WP.block ?_)))
    | (with_reducible refine thn_n ?_)
    | (with_reducible refine thn_r ?_)
    | (with_reducible refine thn_e ?_)
    | (with_reducible refine thn_g ?_)
    | (with_reducible refine blk_n ?_)
    | (with_reducible refine blk_r ?_)
    | (with_reducible refine blk_e ?_)
    | (with_reducible refine blk_g ?_)
    | (((with_reducible refine blk_o ?_ ?_); first | exact rfl | skip))
    | (refine Endz.mk' (by first | exact Or.inl rfl | exact Or.inr rfl) (by repeat (first | exact RVs.nil | apply RVs.cons | exact RV1.tmp rfl | exact RV1.row rfl rfl rfl (by repeat (first | exact look_here | apply look_there)) (by exact rfl) | exact RV1.cell rfl rfl rfl (by repeat (first | exact look_here | apply look_there)) (by exact rfl))) (by rfl) (by repeat (first | exact List.nil_sublist _ | exact List.Sublist.refl _ | apply List.Sublist.cons_cons | apply List.Sublist.cons))))
  rename_i k4
  obtain ⟨c, hcc⟩ : ∃ c, cfgOf n m k (some ⟨k4 0, 0, none⟩) none 0 0 = c := ⟨_, rfl⟩
  rw [hcc]
  have h6 : c.fdL ≤ 6 := by rw [← hcc]; exact (show 0 ≤ 6 by decide)
  have fr : Fr (.lost) c.fdL (fBus k) (fLoad k) (fPrio k) := by rw [← hcc]; exact ⟨fun i h => absurd h (Nat.not_lt_zero i), fun i h => absurd h (Nat.not_lt_zero i), fun i h => absurd h (Nat.not_lt_zero i), fun i h => absurd h (Nat.not_lt_zero i)⟩
  have ha : 0 < c.fdL → c.fdA = some ⟨k4 1, 0, none⟩ := by rw [← hcc]; exact fun h => absurd h (Nat.lt_irrefl 0)
  have h7 : c.fdL ≤ 7 := by omega
  have hB : ∀ i, i < c.fdL → 4 ≤ fBus k i ∧ fBus k i < 7 := fun i _ => ⟨(fd_in k i).1, (fd_in k i).2.1⟩
  have hC : ∀ s, 0 ≤ capOf c s ∧ capOf c s ≤ 1000000 := by rw [← hcc]; exact capIn n m k _ _ _ _
  have hWl : ∀ i, 0 ≤ fLoad k i ∧ fLoad k i ≤ 290 := fun i => ⟨by have := (fd_in k i).2.2.1; omega, (fd_in k i).2.2.2.1⟩
  have w1 := shed_Want (kf := k4 1) fr ha h7 hB shut trips few
  have w2 := ref_Want (kf := k4 1) fr ha h7 hB hWl hC shut trips few
  have l1 := shed_Load (kf := k4 1) fr ha h7 hB fd shut src
  have l2 := ref_Load (kf := k4 1) fr ha h7 hB fd shut src
  have c1 := shed_Chargers c shut u0 u1 f0 f1 a0 b0 a1 b1
  have c2 := ref_Chargers c shut u0 u1 f0 f1 a0 b0 a1 b1
  have ew := want_refN (c := c) (B := fBus k) (W := fLoad k) (R := fPrio k) (fun i => (fd_in k i).2.2.2.2) (fun i => ⟨(hWl i).1, by have := (hWl i).2; omega⟩) hC shut trips few
  rw [ew] at w2
  rw [← (loadR_eq hWl c.fdL h7).1] at l2
  generalize wantN c (fBus k) (fLoad k) (fPrio k) shut trips few = E at w1 w2
  generalize loadF (bitB fd) (fzF (fBus k) shut) (fLoad k) src c.fdL = L at l1 l2
  generalize chS (chB shut u0 f0 b0 c.Cap 4) (chB shut u1 f1 b1 c.Cap 5) 2 = M at c1 c2
  clear hcc
  repeat' (first
    | (((first | (with_reducible refine gQ0 ?_) | ((with_reducible refine gQ1 ?_ ?_); (focus (apply wg (r := true); (iterate 6 apply Eq.refl))))); (first | ((with_reducible apply q_move); apply Eq.refl) | ((with_reducible apply q_assign); apply Eq.refl) | ((with_reducible apply q_int); (iterate 3 apply Eq.refl)) | ((with_reducible apply q_load layOk); (iterate 3 apply Eq.refl); (focus (repeat (with_reducible (first | apply lh | apply lt)))); apply Eq.refl) | ((with_reducible apply q_loadr layOk); (iterate 3 apply Eq.refl); (focus (repeat (with_reducible (first | apply lh | apply lt)))); apply Eq.refl) | ((with_reducible apply q_not); apply Eq.refl) | ((with_reducible apply q_box (k := ks _)); apply Eq.refl; (focus (repeat (with_reducible (first | apply lh | apply lt)))); apply Eq.refl) | ((with_reducible apply q_alloc (k := ks _) layOk); apply Eq.refl; (focus (repeat (with_reducible (first | apply lh | apply lt)))); apply Eq.refl) | ((with_reducible apply q_pick_t); (iterate 2 apply Eq.refl)) | ((with_reducible apply q_pick_f); (iterate 2 apply Eq.refl)) | (refine q_callR rfl w1 rfl (by repeat (first | exact Fd.nil | apply Fd.cons | (focus ((repeat (with_reducible (first | apply lh | apply lt))); done)) | (focus (apply lx; (focus (repeat (with_reducible (first | apply lh | apply lt)))); exact rfl)))) (by decide) ?_) | (refine q_callR rfl l1 rfl (by repeat (first | exact Fd.nil | apply Fd.cons | (focus ((repeat (with_reducible (first | apply lh | apply lt))); done)) | (focus (apply lx; (focus (repeat (with_reducible (first | apply lh | apply lt)))); exact rfl)))) (by decide) ?_) | (refine q_call1r rfl w2 (by first | (focus ((repeat (with_reducible (first | apply lh | apply lt))); done)) | (focus (apply lx; (focus (repeat (with_reducible (first | apply lh | apply lt)))); exact rfl))) ?_) | (refine q_call1r rfl l2 (by first | (focus ((repeat (with_reducible (first | apply lh | apply lt))); done)) | (focus (apply lx; (focus (repeat (with_reducible (first | apply lh | apply lt)))); exact rfl))) ?_) | (refine q_call1r rfl c1 (by first | (focus ((repeat (with_reducible (first | apply lh | apply lt))); done)) | (focus (apply lx; (focus (repeat (with_reducible (first | apply lh | apply lt)))); exact rfl))) ?_) | (refine q_call0 rfl c2 ?_) | ((with_reducible apply e_store layOk); (iterate 3 apply Eq.refl); (focus (repeat (with_reducible (first | apply lh | apply lt)))); (iterate 5 apply Eq.refl)))))
    | (((with_reducible refine gR ?_); (first | refine RK.peelN rfl ?_ | refine RK.donef rfl ⟨_, rfl, ?_⟩ | refine RK.donet rfl (by kernel_rfl) ⟨_, rfl, ?_⟩)))
    | ((first | (with_reducible refine gQv ?_ ?_) | (with_reducible refine gQe ?_ ?_)); (focus (first | (apply wg (r := false); (iterate 6 apply Eq.refl)) | (apply wz; (iterate 4 apply Eq.refl)))))
    | ((with_reducible refine gK ?_); ((first | (apply gsD; (iterate 4 apply Eq.refl)) | (apply RKo.gsplitE; (iterate 4 apply Eq.refl)) | (apply RKo.gsplitN; (iterate 4 apply Eq.refl)) | (apply RKo.gsplit; (iterate 4 apply Eq.refl))) <;> (intro hc; first | with_reducible exact ff hc | with_reducible exact ff' hc | exact absurd rfl hc | exact absurd hc (by decide) | skip)))
    | (((with_reducible refine gW ?_); (first | with_reducible refine WP.seq ?_ | refine WP.reg mixed (fun ks => _) (fun ks => rfl) (fun ks => ?_) | ((first | (apply cdD; apply Eq.refl) | (apply WP.condE; apply Eq.refl) | (apply WP.condN; apply Eq.refl) | (apply WP.condA; apply Eq.refl)) <;> (intro hc; first | with_reducible exact ff hc | with_reducible exact ff' hc | exact absurd rfl hc | exact absurd hc (by decide) | skip)) | refine WP.ret ?_ | refine WP.skip ?_ | refine WP.exit ?_ | refine WP.goto ?_ | refine WP.label ?_ | refine WP.block ?_)))
    | (with_reducible refine thn_n ?_)
    | (with_reducible refine thn_r ?_)
    | (with_reducible refine thn_e ?_)
    | (with_reducible refine thn_g ?_)
    | (with_reducible refine blk_n ?_)
    | (with_reducible refine blk_r ?_)
    | (with_reducible refine blk_e ?_)
    | (with_reducible refine blk_g ?_)
    | (((with_reducible refine blk_o ?_ ?_); first | exact rfl | skip))
    | (refine Endz.mk' (by first | exact Or.inl rfl | exact Or.inr rfl) (by repeat (first | exact RVs.nil | apply RVs.cons | exact RV1.tmp rfl | exact RV1.row rfl rfl rfl (by repeat (first | exact look_here | apply look_there)) (by exact rfl) | exact RV1.cell rfl rfl rfl (by repeat (first | exact look_here | apply look_there)) (by exact rfl))) (by first | rfl | exact congrArg Value.bool (beq_self_eq_true _) | exact congrArg Value.bool (decide_eq_true rfl)) (by repeat (first | exact List.nil_sublist _ | exact List.Sublist.refl _ | apply List.Sublist.cons_cons | apply List.Sublist.cons))))
theorem shedSays (n m k : Int) (shut trips fd src : Int) (few u0 u1 : Bool) (f0 f1 a0 b0 a1 b1 : Int) : Ctr Tryd.prog 6 26 [I64 n, I64 m, I64 k, I64 shut, I64 trips, I64 fd, I64 src, .bool few, .agg ⟨[.bool u0, .bool u1]⟩, .agg ⟨[I64 f0, I64 f1]⟩, .agg ⟨[I64 a0, I64 b0, I64 a1, I64 b1]⟩] [(5, .ro 0 tzv)] (.bool true) [.ro 0 tzv] := by
  rcases cfg_cases n m k with ⟨N, hN, h⟩ | h
  · exact shedSays_A n m k shut trips fd src few u0 u1 f0 f1 a0 b0 a1 b1 N hN h
  · exact shedSays_B n m k shut trips fd src few u0 u1 f0 f1 a0 b0 a1 b1 h
end Go.Proofs.YtlhhcongoplfpaaDoor
