/- What functions of this program do, each as a contract that its callers use, and what follows of it in plain numbers.
   By an AI agent. -/
import Derived.Test.YtlhhcongoplfpaaDoorDLO
import Derived.Test.YtlhhcongoplfpaaDoorSK6
namespace Go.Proofs.YtlhhcongoplfpaaDoor
open Go Go.Proofs.YtlhhcongoplfpaaDoorAB
set_option linter.unusedSimpArgs false
set_option linter.unusedVariables false

/-- The keeper's state behind so many cycles. -/
def kIter (h : Int) (n : Nat) (Z : Nat → Int) : Nat → (Nat → Int) × Nat
  | 0 => (fun _ => 0, 0)
  | i + 1 => kTurns h (tB (Z i)) (kIter h n Z i) n
theorem kIter_lt {h : Int} {n : Nat} (hn : n ≤ 7) (Z : Nat → Int) : ∀ i : Nat, (kIter h n Z i).2 < 128
  | 0 => (show 0 < 128 by decide)
  | i + 1 => kTurns_lt (kIter_lt hn Z i) n hn
theorem ro_int (f : Nat) (z : List Int) {i : Nat} (h : i < z.length) : AObj.at (.ro f (z.map I64)) (f + i * 1) = some (I64 (z.getD i 0)) := by
  show (if f ≤ f + i * 1 then (z.map I64)[f + i * 1 - f]? else none) = _
  rw [if_pos (by omega), show f + i * 1 - f = i by omega, List.getElem?_map, List.getElem?_eq_getElem h, List.getD_eq_getElem?_getD, List.getElem?_eq_getElem h]; rfl
set_option maxHeartbeats 16000000 in
theorem shedKeeps_A (n m k : Int) (o : Option Addr) (l cp f : Nat) (z : List Int) (bl : AObj) (hob : 0 < l → o = some ⟨6, f, none⟩ ∧ bl = .ro f (z.map I64) ∧ l ≤ z.length) (N : Nat) (hN6 : N ≤ 6) (hmk : ∀ k1 k2 : Nat, Ctr Tryd.prog 6 41 [I64 n, I64 m, I64 k] [(k1, .gone), (k2, .gone)] (.agg ⟨(cfgOf n m k (some ⟨k1, 0, none⟩) (some ⟨k2, 0, none⟩) N grown).cells⟩) [.cells ocv 27, .row (feeds k N) 97 3]) : Ctr Tryd.prog 6 21 [I64 n, I64 m, I64 k, .slice o l cp] [(5, .ro 0 tzv), (6, bl)] (.bool true) [.ro 0 tzv, bl] := by
  have hoo : 0 < l → o = some ⟨6, f, none⟩ := fun h => (hob h).1
  by_cases h100 : (l : Int) > 100
  · refine Ctr.by layOk Tryd.func21 Tryd.ntmps21 rfl rfl rfl rfl rfl ?_
    repeat' (first
      | (((first | (with_reducible refine gQ0 ?_) | ((with_reducible refine gQ1 ?_ ?_); (focus (apply wg (r := true); (iterate 6 apply Eq.refl))))); (first | ((with_reducible apply q_move); apply Eq.refl) | ((with_reducible apply q_assign); apply Eq.refl) | ((with_reducible apply q_int); (iterate 3 apply Eq.refl)) | ((with_reducible apply q_nilCheck); apply Eq.refl) | ((with_reducible apply q_fa layOk); (iterate 5 apply Eq.refl)) | ((with_reducible apply q_load layOk); (iterate 3 apply Eq.refl); (focus (repeat (with_reducible (first | apply lh | apply lt)))); apply Eq.refl) | ((with_reducible apply q_loadr layOk); (iterate 3 apply Eq.refl); (focus (repeat (with_reducible (first | apply lh | apply lt)))); apply Eq.refl) | ((with_reducible apply q_build layOk); (iterate 4 apply Eq.refl)) | ((with_reducible apply q_not); apply Eq.refl) | ((with_reducible apply q_box (k := ks _)); apply Eq.refl; (focus (repeat (with_reducible (first | apply lh | apply lt)))); apply Eq.refl) | ((with_reducible apply q_alloc (k := ks _) layOk); apply Eq.refl; (focus (repeat (with_reducible (first | apply lh | apply lt)))); apply Eq.refl) | ((with_reducible apply q_pick_t); (iterate 2 apply Eq.refl)) | ((with_reducible apply q_pick_f); (iterate 2 apply Eq.refl)) | ((with_reducible apply q_len layOk); (iterate 4 apply Eq.refl)) | ((with_reducible apply q_eqnil); (focus (kernel_rfl)); (iterate 2 apply Eq.refl)) | (refine q_call1r rfl (first25 ()) (by first | (focus ((repeat (with_reducible (first | apply lh | apply lt))); done)) | (focus (apply lx; (focus (repeat (with_reducible (first | apply lh | apply lt)))); exact rfl))) ?_) | ((with_reducible apply e_store layOk); (iterate 3 apply Eq.refl); (focus (repeat (with_reducible (first | apply lh | apply lt)))); (iterate 5 apply Eq.refl)))))
      | (((with_reducible refine gR ?_); (first | refine RK.peelN rfl ?_ | refine RK.donef rfl ⟨_, rfl, ?_⟩ | refine RK.donet rfl (by kernel_rfl) ⟨_, rfl, ?_⟩)))
      | ((first | (with_reducible refine gQv ?_ ?_) | (with_reducible refine gQe ?_ ?_)); (focus (first | (apply wg (r := false); (iterate 6 apply Eq.refl)) | (apply wz; (iterate 4 apply Eq.refl)))))
      | ((with_reducible refine gK ?_); ((first | (apply gsD; (iterate 4 apply Eq.refl)) | (apply RKo.gsplitE; (iterate 4 apply Eq.refl)) | (apply RKo.gsplitN; (iterate 4 apply Eq.refl)) | (apply RKo.gsplit; (iterate 4 apply Eq.refl))) <;> (intro hc; first | with_reducible exact ff hc | with_reducible exact ff' hc | exact absurd hc (by decide) | exact absurd rfl hc | with_reducible exact absurd h100 hc | with_reducible exact absurd hc h100 | skip)))
      | (((with_reducible refine gW ?_); (first | with_reducible refine WP.seq ?_ | refine WP.reg mixed (fun ks => _) (fun ks => rfl) (fun ks => ?_) | ((first | (apply cdD; apply Eq.refl) | (apply WP.condE; apply Eq.refl) | (apply WP.condN; apply Eq.refl) | (apply WP.condA; apply Eq.refl)) <;> (intro hc; first | with_reducible exact ff hc | with_reducible exact ff' hc | exact absurd hc (by decide) | exact absurd rfl hc | with_reducible exact absurd h100 hc | with_reducible exact absurd hc h100 | skip)) | refine WP.ret ?_ | refine WP.skip ?_ | refine WP.exit ?_ | refine WP.goto ?_ | refine WP.label ?_ | refine WP.block ?_)))
      | (with_reducible refine thn_n ?_)
      | (with_reducible refine thn_r ?_)
      | (with_reducible refine thn_e ?_)
      | (with_reducible refine thn_g ?_)
      | (with_reducible refine blk_n ?_)
      | (with_reducible refine blk_r ?_)
      | (with_reducible refine blk_e ?_)
      | (with_reducible refine blk_g ?_)
      | (((with_reducible refine blk_o ?_ ?_); first | exact rfl | skip))
      | (refine Endz.mk' (by first | exact Or.inl rfl | exact Or.inr rfl) (by repeat (first | exact RVs.nil | apply RVs.cons | exact RV1.tmp rfl | exact RV1.row rfl rfl rfl (by repeat (first | exact look_here | apply look_there)) (by exact rfl) | exact RV1.cell rfl rfl rfl (by repeat (first | exact look_here | apply look_there)) (by exact rfl))) (by rfl) (by repeat (first | exact List.nil_sublist _ | exact List.Sublist.refl _ | apply List.Sublist.cons_cons | apply List.Sublist.cons))))
  refine Ctr.by layOk Tryd.func21 Tryd.ntmps21 rfl rfl rfl rfl rfl ?_
  repeat' (first
    | (((first | (with_reducible refine gQ0 ?_) | ((with_reducible refine gQ1 ?_ ?_); (focus (apply wg (r := true); (iterate 6 apply Eq.refl))))); (first | ((with_reducible apply q_move); apply Eq.refl) | ((with_reducible apply q_assign); apply Eq.refl) | ((with_reducible apply q_int); (iterate 3 apply Eq.refl)) | ((with_reducible apply q_nilCheck); apply Eq.refl) | ((with_reducible apply q_fa layOk); (iterate 5 apply Eq.refl)) | ((with_reducible apply q_load layOk); (iterate 3 apply Eq.refl); (focus (repeat (with_reducible (first | apply lh | apply lt)))); apply Eq.refl) | ((with_reducible apply q_loadr layOk); (iterate 3 apply Eq.refl); (focus (repeat (with_reducible (first | apply lh | apply lt)))); apply Eq.refl) | ((with_reducible apply q_build layOk); (iterate 4 apply Eq.refl)) | ((with_reducible apply q_not); apply Eq.refl) | ((with_reducible apply q_box (k := ks _)); apply Eq.refl; (focus (repeat (with_reducible (first | apply lh | apply lt)))); apply Eq.refl) | ((with_reducible apply q_alloc (k := ks _) layOk); apply Eq.refl; (focus (repeat (with_reducible (first | apply lh | apply lt)))); apply Eq.refl) | ((with_reducible apply q_pick_t); (iterate 2 apply Eq.refl)) | ((with_reducible apply q_pick_f); (iterate 2 apply Eq.refl)) | ((with_reducible apply q_len layOk); (iterate 4 apply Eq.refl)) | ((with_reducible apply q_eqnil); (focus (kernel_rfl)); (iterate 2 apply Eq.refl)) | (refine q_call1r rfl (first25 ()) (by first | (focus ((repeat (with_reducible (first | apply lh | apply lt))); done)) | (focus (apply lx; (focus (repeat (with_reducible (first | apply lh | apply lt)))); exact rfl))) ?_) | (refine q_call2 rfl (hmk (ks 0) (ks 1)) (by first | (focus ((repeat (with_reducible (first | apply lh | apply lt))); done)) | (focus (apply lx; (focus (repeat (with_reducible (first | apply lh | apply lt)))); exact rfl))) (by first | (focus ((repeat (with_reducible (first | apply lh | apply lt))); done)) | (focus (apply lx; (focus (repeat (with_reducible (first | apply lh | apply lt)))); exact rfl))) (by decide) (by exact rfl) ?_) | ((with_reducible apply e_store layOk); (iterate 3 apply Eq.refl); (focus (repeat (with_reducible (first | apply lh | apply lt)))); (iterate 5 apply Eq.refl)))))
    | (((with_reducible refine gR ?_); (first | refine RK.peelN rfl ?_ | refine RK.donef rfl ⟨_, rfl, ?_⟩ | refine RK.donet rfl (by kernel_rfl) ⟨_, rfl, ?_⟩)))
    | ((first | (with_reducible refine gQv ?_ ?_) | (with_reducible refine gQe ?_ ?_)); (focus (first | (apply wg (r := false); (iterate 6 apply Eq.refl)) | (apply wz; (iterate 4 apply Eq.refl)))))
    | ((with_reducible refine gK ?_); ((first | (apply gsD; (iterate 4 apply Eq.refl)) | (apply RKo.gsplitE; (iterate 4 apply Eq.refl)) | (apply RKo.gsplitN; (iterate 4 apply Eq.refl)) | (apply RKo.gsplit; (iterate 4 apply Eq.refl))) <;> (intro hc; first | with_reducible exact ff hc | with_reducible exact ff' hc | exact absurd hc (by decide) | exact absurd rfl hc | with_reducible exact absurd h100 hc | with_reducible exact absurd hc h100 | skip)))
    | (((with_reducible refine gW ?_); (first | with_reducible refine WP.seq ?_ | refine WP.reg mixed (fun ks => _) (fun ks => rfl) (fun ks => ?_) | ((first | (apply cdD; apply Eq.refl) | (apply WP.condE; apply Eq.refl) | (apply WP.condN; apply Eq.refl) | (apply WP.condA; apply Eq.refl)) <;> (intro hc; first | with_reducible exact ff hc | with_reducible exact ff' hc | exact absurd hc (by decide) | exact absurd rfl hc | with_reducible exact absurd h100 hc | with_reducible exact absurd hc h100 | skip)) | refine WP.ret ?_ | refine WP.skip ?_ | refine WP.exit ?_ | refine WP.goto ?_ | refine WP.label ?_ | refine WP.block ?_)))
    | (with_reducible refine thn_n ?_)
    | (with_reducible refine thn_r ?_)
    | (with_reducible refine thn_e ?_)
    | (with_reducible refine thn_g ?_)
    | (with_reducible refine blk_n ?_)
    | (with_reducible refine blk_r ?_)
    | (with_reducible refine blk_e ?_)
    | (with_reducible refine blk_g ?_)
    | (((with_reducible refine blk_o ?_ ?_); first | exact rfl | skip))
    | (refine Endz.mk' (by first | exact Or.inl rfl | exact Or.inr rfl) (by repeat (first | exact RVs.nil | apply RVs.cons | exact RV1.tmp rfl | exact RV1.row rfl rfl rfl (by repeat (first | exact look_here | apply look_there)) (by exact rfl) | exact RV1.cell rfl rfl rfl (by repeat (first | exact look_here | apply look_there)) (by exact rfl))) (by rfl) (by repeat (first | exact List.nil_sublist _ | exact List.Sublist.refl _ | apply List.Sublist.cons_cons | apply List.Sublist.cons))))
  rename_i k4
  obtain ⟨c, hcc⟩ : ∃ c, cfgOf n m k (some ⟨k4 0, 0, none⟩) (some ⟨k4 1, 0, none⟩) N grown = c := ⟨_, rfl⟩
  rw [hcc]
  have h6 : c.fdL ≤ 6 := by rw [← hcc]; exact hN6
  have fr : Fr (.row (feeds k N) 97 3) c.fdL (fBus k) (fLoad k) (fPrio k) := by rw [← hcc]; exact feeds_Fr k (by omega) _
  have ha : 0 < c.fdL → c.fdA = some ⟨k4 1, 0, none⟩ := by rw [← hcc]; exact fun _ => rfl
  have h7 : c.fdL ≤ 7 := by omega
  have hB : ∀ i, i < c.fdL → 4 ≤ fBus k i ∧ fBus k i < 7 := fun i _ => ⟨(fd_in k i).1, (fd_in k i).2.1⟩
  have hnew := fun (p q : Nat) => keeper_New c h7 p q
  clear hcc
  repeat' (first
    | (((first | (with_reducible refine gQ0 ?_) | ((with_reducible refine gQ1 ?_ ?_); (focus (apply wg (r := true); (iterate 6 apply Eq.refl))))); (first | ((with_reducible apply q_box (ty := 104) (k := ks _)); apply Eq.refl; (focus (repeat (with_reducible (first | apply lh | apply lt)))); apply Eq.refl) | ((with_reducible apply q_move); apply Eq.refl) | ((with_reducible apply q_assign); apply Eq.refl) | ((with_reducible apply q_int); (iterate 3 apply Eq.refl)) | ((with_reducible apply q_nilCheck); apply Eq.refl) | ((with_reducible apply q_fa layOk); (iterate 5 apply Eq.refl)) | ((with_reducible apply q_load layOk); (iterate 3 apply Eq.refl); (focus (repeat (with_reducible (first | apply lh | apply lt)))); apply Eq.refl) | ((with_reducible apply q_loadr layOk); (iterate 3 apply Eq.refl); (focus (repeat (with_reducible (first | apply lh | apply lt)))); apply Eq.refl) | ((with_reducible apply q_build layOk); (iterate 4 apply Eq.refl)) | ((with_reducible apply q_not); apply Eq.refl) | ((with_reducible apply q_box (k := ks _)); apply Eq.refl; (focus (repeat (with_reducible (first | apply lh | apply lt)))); apply Eq.refl) | ((with_reducible apply q_alloc (k := ks _) layOk); apply Eq.refl; (focus (repeat (with_reducible (first | apply lh | apply lt)))); apply Eq.refl) | ((with_reducible apply q_pick_t); (iterate 2 apply Eq.refl)) | ((with_reducible apply q_pick_f); (iterate 2 apply Eq.refl)) | ((with_reducible apply q_len layOk); (iterate 4 apply Eq.refl)) | ((with_reducible apply q_eqnil); (focus (kernel_rfl)); (iterate 2 apply Eq.refl)) | (refine q_callW rfl (hnew (ks 0) (ks 1)) (by repeat (first | exact Fd.nil | apply Fd.cons | (focus ((repeat (with_reducible (first | apply lh | apply lt))); done)) | (focus (apply lx; (focus (repeat (with_reducible (first | apply lh | apply lt)))); exact rfl)))) (by decide) rfl (by exact rfl) ?_) | ((with_reducible apply e_store layOk); (iterate 3 apply Eq.refl); (focus (repeat (with_reducible (first | apply lh | apply lt)))); (iterate 5 apply Eq.refl)))))
    | (((with_reducible refine gR ?_); (first | refine RK.peelN rfl ?_ | refine RK.donef rfl ⟨_, rfl, ?_⟩ | refine RK.donet rfl (by kernel_rfl) ⟨_, rfl, ?_⟩)))
    | ((first | (with_reducible refine gQv ?_ ?_) | (with_reducible refine gQe ?_ ?_)); (focus (first | (apply wg (r := false); (iterate 6 apply Eq.refl)) | (apply wz; (iterate 4 apply Eq.refl)))))
    | ((with_reducible refine gK ?_); ((first | (apply gsD; (iterate 4 apply Eq.refl)) | (apply RKo.gsplitE; (iterate 4 apply Eq.refl)) | (apply RKo.gsplitN; (iterate 4 apply Eq.refl)) | (apply RKo.gsplit; (iterate 4 apply Eq.refl))) <;> (intro hc; first | with_reducible exact ff hc | with_reducible exact ff' hc | exact absurd hc (by decide) | exact absurd rfl hc | skip)))
    | (((with_reducible refine gW ?_); (first | with_reducible refine WP.seq ?_ | refine WP.reg mixed (fun ks => _) (fun ks => rfl) (fun ks => ?_) | ((first | (apply cdD; apply Eq.refl) | (apply WP.condE; apply Eq.refl) | (apply WP.condN; apply Eq.refl) | (apply WP.condA; apply Eq.refl)) <;> (intro hc; first | with_reducible exact ff hc | with_reducible exact ff' hc | exact absurd hc (by decide) | exact absurd rfl hc | skip)) | refine WP.ret ?_ | refine WP.skip ?_ | refine WP.exit ?_ | refine WP.goto ?_ | refine WP.label ?_ | refine WP.block ?_)))
    | (with_reducible refine thn_n ?_)
    | (with_reducible refine thn_r ?_)
    | (with_reducible refine thn_e ?_)
    | (with_reducible refine thn_g ?_)
    | (with_reducible refine blk_n ?_)
    | (with_reducible refine blk_r ?_)
    | (with_reducible refine blk_e ?_)
    | (with_reducible refine blk_g ?_)
    | (((with_reducible refine blk_o ?_ ?_); first | exact rfl | skip))
    | (refine Endz.mk' (by first | exact Or.inl rfl | exact Or.inr rfl) (by repeat (first | exact RVs.nil | apply RVs.cons | exact RV1.tmp rfl | exact RV1.row rfl rfl rfl (by repeat (first | exact look_here | apply look_there)) (by exact rfl) | exact RV1.cell rfl rfl rfl (by repeat (first | exact look_here | apply look_there)) (by exact rfl))) (by rfl) (by repeat (first | exact List.nil_sublist _ | exact List.Sublist.refl _ | apply List.Sublist.cons_cons | apply List.Sublist.cons))))
  rename_i kx ky _
  refine WP.loopI (n := 61) (α := Nat) (fun i => [(3, some (.slice o l cp)), (9, some (.bool true)), (11, some (.pointer (some ⟨kx 0, 0, none⟩))), (12, some (.pointer (some ⟨ky 0, 0, none⟩))), (13, some (I64 ((i : Nat) : Int)))]) (fun i => [(5, .ro 0 tzv), (6, bl), (kx 0, .cells [I64 (c.H), .slice (some ⟨kx 1, 0, none⟩) c.fdL c.fdL, I64 (((kIter c.H c.fdL (fun j => z.getD j 0) i).2 : Nat) : Int)] 150), (kx 1, .cells (lm (kIter c.H c.fdL (fun j => z.getD j 0) i).1 c.fdL) 3), (ky 0, .cells (rkc c (kIter c.H c.fdL (fun j => z.getD j 0) i).1 (kIter c.H c.fdL (fun j => z.getD j 0) i).2) 104)]) (fun i => i ≤ l) (fun i => l - i) 0 (Wk.of ⟨rfl, rfl, rfl, rfl, rfl, trivial⟩ (by repeat (first | exact List.nil_sublist _ | exact List.Sublist.refl _ | apply List.Sublist.cons_cons | apply List.Sublist.cons))) (Nat.zero_le _) (fun i iy => ?_)
  have iy : i ≤ l := iy
  by_cases hi : i < l
  rotate_left
  · have hge : ¬ (i : Int) < (l : Int) := by omega
    repeat' (first
      | (((first | (with_reducible refine gQ0 ?_) | ((with_reducible refine gQ1 ?_ ?_); (focus (apply wg (r := true); (iterate 6 apply Eq.refl))))); (first | ((with_reducible apply q_move); apply Eq.refl) | ((with_reducible apply q_assign); apply Eq.refl) | ((with_reducible apply q_int); (iterate 3 apply Eq.refl)) | ((with_reducible apply q_nilCheck); apply Eq.refl) | ((with_reducible apply q_fa layOk); (iterate 5 apply Eq.refl)) | ((with_reducible apply q_load layOk); (iterate 3 apply Eq.refl); (focus (repeat (with_reducible (first | apply lh | apply lt)))); apply Eq.refl) | ((with_reducible apply q_loadr layOk); (iterate 3 apply Eq.refl); (focus (repeat (with_reducible (first | apply lh | apply lt)))); apply Eq.refl) | ((with_reducible apply q_build layOk); (iterate 4 apply Eq.refl)) | ((with_reducible apply q_not); apply Eq.refl) | ((with_reducible apply q_box (k := ks _)); apply Eq.refl; (focus (repeat (with_reducible (first | apply lh | apply lt)))); apply Eq.refl) | ((with_reducible apply q_alloc (k := ks _) layOk); apply Eq.refl; (focus (repeat (with_reducible (first | apply lh | apply lt)))); apply Eq.refl) | ((with_reducible apply q_pick_t); (iterate 2 apply Eq.refl)) | ((with_reducible apply q_pick_f); (iterate 2 apply Eq.refl)) | ((with_reducible apply q_len layOk); (iterate 4 apply Eq.refl)) | ((with_reducible apply q_eqnil); (focus (kernel_rfl)); (iterate 2 apply Eq.refl)) | ((with_reducible apply e_store layOk); (iterate 3 apply Eq.refl); (focus (repeat (with_reducible (first | apply lh | apply lt)))); (iterate 5 apply Eq.refl)))))
      | (((with_reducible refine gR ?_); (first | refine RK.peelN rfl ?_ | refine RK.donef rfl ⟨_, rfl, ?_⟩ | refine RK.donet rfl (by kernel_rfl) ⟨_, rfl, ?_⟩)))
      | ((first | (with_reducible refine gQv ?_ ?_) | (with_reducible refine gQe ?_ ?_)); (focus (first | (apply wg (r := false); (iterate 6 apply Eq.refl)) | (apply wz; (iterate 4 apply Eq.refl)))))
      | ((with_reducible refine gK ?_); ((first | (apply gsD; (iterate 4 apply Eq.refl)) | (apply RKo.gsplitE; (iterate 4 apply Eq.refl)) | (apply RKo.gsplitN; (iterate 4 apply Eq.refl)) | (apply RKo.gsplit; (iterate 4 apply Eq.refl))) <;> (intro hc; first | with_reducible exact ff hc | with_reducible exact ff' hc | exact absurd hc (by decide) | exact absurd rfl hc | with_reducible exact absurd hge hc | with_reducible exact absurd hc hge | skip)))
      | (((with_reducible refine gW ?_); (first | with_reducible refine WP.seq ?_ | refine WP.reg mixed (fun ks => _) (fun ks => rfl) (fun ks => ?_) | ((first | (apply cdD; apply Eq.refl) | (apply WP.condE; apply Eq.refl) | (apply WP.condN; apply Eq.refl) | (apply WP.condA; apply Eq.refl)) <;> (intro hc; first | with_reducible exact ff hc | with_reducible exact ff' hc | exact absurd hc (by decide) | exact absurd rfl hc | with_reducible exact absurd hge hc | with_reducible exact absurd hc hge | skip)) | refine WP.ret ?_ | refine WP.skip ?_ | refine WP.exit ?_ | refine WP.goto ?_ | refine WP.label ?_ | refine WP.block ?_)))
      | (with_reducible refine thn_n ?_)
      | (with_reducible refine thn_r ?_)
      | (with_reducible refine thn_e ?_)
      | (with_reducible refine thn_g ?_)
      | (with_reducible refine blk_n ?_)
      | (with_reducible refine blk_r ?_)
      | (with_reducible refine blk_e ?_)
      | (with_reducible refine blk_g ?_)
      | (((with_reducible refine blk_o ?_ ?_); first | exact rfl | skip))
      | (refine Endz.mk' (by first | exact Or.inl rfl | exact Or.inr rfl) (by repeat (first | exact RVs.nil | apply RVs.cons | exact RV1.tmp rfl | exact RV1.row rfl rfl rfl (by repeat (first | exact look_here | apply look_there)) (by exact rfl) | exact RV1.cell rfl rfl rfl (by repeat (first | exact look_here | apply look_there)) (by exact rfl))) (by rfl) (by repeat (first | exact List.nil_sublist _ | exact List.Sublist.refl _ | apply List.Sublist.cons_cons | apply List.Sublist.cons))))
  have hlt : (i : Int) < (l : Int) := by omega
  have hw1 : IntKind.i64.wrap ((i : Int) + 1) = ((i + 1 : Nat) : Int) := by rw [wrap_in (by omega) (by omega)]; omega
  obtain ⟨_, hbl, hzl⟩ := hob (by omega)
  have hrow := ro_int f z (i := i) (by omega)
  rw [← hbl] at hrow
  have ho := kIter_lt (h := c.H) h7 (fun j => z.getD j 0) i
  obtain ⟨st, hst⟩ : ∃ st, (kIter c.H c.fdL (fun j => z.getD j 0) i) = st := ⟨_, rfl⟩
  have e : kIter c.H c.fdL (fun j => z.getD j 0) (i + 1) = kTurns c.H (tB (z.getD i 0)) st c.fdL := by rw [← hst]; rfl
  rw [hst] at ho ⊢
  clear hst
  obtain ⟨N1, on⟩ := st
  dsimp only at ho e ⊢
  have hks := keeper_Step (kx 0) (kx 1) c.H c.fdL h7 N1 on ho (z.getD i 0)
  have hkr := ref_KStep (ky 0) c h6 N1 on ho (z.getD i 0)
  repeat' (first
    | (((first | (with_reducible refine gQ0 ?_) | ((with_reducible refine gQ1 ?_ ?_); (focus (apply wg (r := true); (iterate 6 apply Eq.refl))))); (first | ((with_reducible apply q_load layOk); (iterate 3 apply Eq.refl); (focus (repeat (with_reducible (first | apply lh | apply lt)))); exact hrow) | ((with_reducible apply q_idxN (m := i) layOk); (iterate 4 apply Eq.refl); exact hoo; apply Eq.refl; exact hi) | ((with_reducible apply q_move); apply Eq.refl) | ((with_reducible apply q_assign); apply Eq.refl) | ((with_reducible apply q_int); (iterate 3 apply Eq.refl)) | ((with_reducible apply q_nilCheck); apply Eq.refl) | ((with_reducible apply q_fa layOk); (iterate 5 apply Eq.refl)) | ((with_reducible apply q_load layOk); (iterate 3 apply Eq.refl); (focus (repeat (with_reducible (first | apply lh | apply lt)))); apply Eq.refl) | ((with_reducible apply q_loadr layOk); (iterate 3 apply Eq.refl); (focus (repeat (with_reducible (first | apply lh | apply lt)))); apply Eq.refl) | ((with_reducible apply q_build layOk); (iterate 4 apply Eq.refl)) | ((with_reducible apply q_not); apply Eq.refl) | ((with_reducible apply q_box (k := ks _)); apply Eq.refl; (focus (repeat (with_reducible (first | apply lh | apply lt)))); apply Eq.refl) | ((with_reducible apply q_alloc (k := ks _) layOk); apply Eq.refl; (focus (repeat (with_reducible (first | apply lh | apply lt)))); apply Eq.refl) | ((with_reducible apply q_pick_t); (iterate 2 apply Eq.refl)) | ((with_reducible apply q_pick_f); (iterate 2 apply Eq.refl)) | ((with_reducible apply q_len layOk); (iterate 4 apply Eq.refl)) | ((with_reducible apply q_eqnil); (focus (kernel_rfl)); (iterate 2 apply Eq.refl)) | (refine q_callW rfl hks (by repeat (first | exact Fd.nil | apply Fd.cons | (focus ((repeat (with_reducible (first | apply lh | apply lt))); done)) | (focus (apply lx; (focus (repeat (with_reducible (first | apply lh | apply lt)))); exact rfl)))) (by decide) rfl (by exact rfl) ?_) | (refine q_call1 rfl hkr (by first | (focus ((repeat (with_reducible (first | apply lh | apply lt))); done)) | (focus (apply lx; (focus (repeat (with_reducible (first | apply lh | apply lt)))); exact rfl))) (by exact rfl) ?_) | (refine q_call1r rfl (keeper_On _ _ _ _) (by first | (focus ((repeat (with_reducible (first | apply lh | apply lt))); done)) | (focus (apply lx; (focus (repeat (with_reducible (first | apply lh | apply lt)))); exact rfl))) ?_) | ((with_reducible apply e_store layOk); (iterate 3 apply Eq.refl); (focus (repeat (with_reducible (first | apply lh | apply lt)))); (iterate 5 apply Eq.refl)))))
    | (((with_reducible refine gR ?_); (first | refine RK.peelN rfl ?_ | refine RK.donef rfl ⟨_, rfl, ?_⟩ | refine RK.donet rfl (by kernel_rfl) ⟨_, rfl, ?_⟩)))
    | ((first | (with_reducible refine gQv ?_ ?_) | (with_reducible refine gQe ?_ ?_)); (focus (first | (apply wg (r := false); (iterate 6 apply Eq.refl)) | (apply wz; (iterate 4 apply Eq.refl)))))
    | ((with_reducible refine gK ?_); ((first | (apply gsD; (iterate 4 apply Eq.refl)) | (apply RKo.gsplitE; (iterate 4 apply Eq.refl)) | (apply RKo.gsplitN; (iterate 4 apply Eq.refl)) | (apply RKo.gsplit; (iterate 4 apply Eq.refl))) <;> (intro hc; first | with_reducible exact ff hc | with_reducible exact ff' hc | exact absurd hc (by decide) | exact absurd rfl hc | with_reducible exact absurd hlt hc | with_reducible exact absurd hc hlt | skip)))
    | (((with_reducible refine gW ?_); (first | with_reducible refine WP.seq ?_ | refine WP.reg mixed (fun ks => _) (fun ks => rfl) (fun ks => ?_) | ((first | (apply cdD; apply Eq.refl) | (apply WP.condE; apply Eq.refl) | (apply WP.condN; apply Eq.refl) | (apply WP.condA; apply Eq.refl)) <;> (intro hc; first | with_reducible exact ff hc | with_reducible exact ff' hc | exact absurd hc (by decide) | exact absurd rfl hc | with_reducible exact absurd hlt hc | with_reducible exact absurd hc hlt | skip)) | refine WP.ret ?_ | refine WP.skip ?_ | refine WP.exit ?_ | refine WP.goto ?_ | refine WP.label ?_ | refine WP.block ?_)))
    | (with_reducible refine thn_n ?_)
    | (with_reducible refine thn_r ?_)
    | (with_reducible refine thn_e ?_)
    | (with_reducible refine thn_g ?_)
    | (with_reducible refine blk_n ?_)
    | (with_reducible refine blk_r ?_)
    | (with_reducible refine blk_e ?_)
    | (with_reducible refine blk_g ?_)
    | (((with_reducible refine blk_o ?_ ?_); first | exact rfl | skip))
    | (refine Endz.mk' (by first | exact Or.inl rfl | exact Or.inr rfl) (by repeat (first | exact RVs.nil | apply RVs.cons | exact RV1.tmp rfl | exact RV1.row rfl rfl rfl (by repeat (first | exact look_here | apply look_there)) (by exact rfl) | exact RV1.cell rfl rfl rfl (by repeat (first | exact look_here | apply look_there)) (by exact rfl))) (by rfl) (by repeat (first | exact List.nil_sublist _ | exact List.Sublist.refl _ | apply List.Sublist.cons_cons | apply List.Sublist.cons))))
  refine ⟨i + 1, hi, (by show l - (i + 1) < l - i; omega), ?_⟩
  rw [e]
  exact Wk.of ⟨rfl, rfl, rfl, rfl, congrArg (fun x => some (I64 x)) hw1, trivial⟩ (by repeat (first | exact List.nil_sublist _ | exact List.Sublist.refl _ | apply List.Sublist.cons_cons | apply List.Sublist.cons))
set_option maxHeartbeats 16000000 in
theorem shedKeeps_B (n m k : Int) (o : Option Addr) (l cp f : Nat) (z : List Int) (bl : AObj) (hob : 0 < l → o = some ⟨6, f, none⟩ ∧ bl = .ro f (z.map I64) ∧ l ≤ z.length) (hmk : ∀ k1 k2 : Nat, Ctr Tryd.prog 6 41 [I64 n, I64 m, I64 k] [(k1, .gone), (k2, .gone)] (.agg ⟨(cfgOf n m k (some ⟨k1, 0, none⟩) none 0 0).cells⟩) [.cells ocv 27, .lost]) : Ctr Tryd.prog 6 21 [I64 n, I64 m, I64 k, .slice o l cp] [(5, .ro 0 tzv), (6, bl)] (.bool true) [.ro 0 tzv, bl] := by
  have hoo : 0 < l → o = some ⟨6, f, none⟩ := fun h => (hob h).1
  by_cases h100 : (l : Int) > 100
  · refine Ctr.by layOk Tryd.func21 Tryd.ntmps21 rfl rfl rfl rfl rfl ?_
    repeat' (first
      | (((first | (with_reducible refine gQ0 ?_) | ((with_reducible refine gQ1 ?_ ?_); (focus (apply wg (r := true); (iterate 6 apply Eq.refl))))); (first | ((with_reducible apply q_move); apply Eq.refl) | ((with_reducible apply q_assign); apply Eq.refl) | ((with_reducible apply q_int); (iterate 3 apply Eq.refl)) | ((with_reducible apply q_nilCheck); apply Eq.refl) | ((with_reducible apply q_fa layOk); (iterate 5 apply Eq.refl)) | ((with_reducible apply q_load layOk); (iterate 3 apply Eq.refl); (focus (repeat (with_reducible (first | apply lh | apply lt)))); apply Eq.refl) | ((with_reducible apply q_loadr layOk); (iterate 3 apply Eq.refl); (focus (repeat (with_reducible (first | apply lh | apply lt)))); apply Eq.refl) | ((with_reducible apply q_build layOk); (iterate 4 apply Eq.refl)) | ((with_reducible apply q_not); apply Eq.refl) | ((with_reducible apply q_box (k := ks _)); apply Eq.refl; (focus (repeat (with_reducible (first | apply lh | apply lt)))); apply Eq.refl) | ((with_reducible apply q_alloc (k := ks _) layOk); apply Eq.refl; (focus (repeat (with_reducible (first | apply lh | apply lt)))); apply Eq.refl) | ((with_reducible apply q_pick_t); (iterate 2 apply Eq.refl)) | ((with_reducible apply q_pick_f); (iterate 2 apply Eq.refl)) | ((with_reducible apply q_len layOk); (iterate 4 apply Eq.refl)) | ((with_reducible apply q_eqnil); (focus (kernel_rfl)); (iterate 2 apply Eq.refl)) | (refine q_call1r rfl (first25 ()) (by first | (focus ((repeat (with_reducible (first | apply lh | apply lt))); done)) | (focus (apply lx; (focus (repeat (with_reducible (first | apply lh | apply lt)))); exact rfl))) ?_) | ((with_reducible apply e_store layOk); (iterate 3 apply Eq.refl); (focus (repeat (with_reducible (first | apply lh | apply lt)))); (iterate 5 apply Eq.refl)))))
      | (((with_reducible refine gR ?_); (first | refine RK.peelN rfl ?_ | refine RK.donef rfl ⟨_, rfl, ?_⟩ | refine RK.donet rfl (by kernel_rfl) ⟨_, rfl, ?_⟩)))
      | ((first | (with_reducible refine gQv ?_ ?_) | (with_reducible refine gQe ?_ ?_)); (focus (first | (apply wg (r := false); (iterate 6 apply Eq.refl)) | (apply wz; (iterate 4 apply Eq.refl)))))
      | ((with_reducible refine gK ?_); ((first | (apply gsD; (iterate 4 apply Eq.refl)) | (apply RKo.gsplitE; (iterate 4 apply Eq.refl)) | (apply RKo.gsplitN; (iterate 4 apply Eq.refl)) | (apply RKo.gsplit; (iterate 4 apply Eq.refl))) <;> (intro hc; first | with_reducible exact ff hc | with_reducible exact ff' hc | exact absurd hc (by decide) | exact absurd rfl hc | with_reducible exact absurd h100 hc | with_reducible exact absurd hc h100 | skip)))
      | (((with_reducible refine gW ?_); (first | with_reducible refine WP.seq ?_ | refine WP.reg mixed (fun ks => _) (fun ks => rfl) (fun ks => ?_) | ((first | (apply cdD; apply Eq.refl) | (apply WP.condE; apply Eq.refl) | (apply WP.condN; apply Eq.refl) | (apply WP.condA; apply Eq.refl)) <;> (intro hc; first | with_reducible exact ff hc | with_reducible exact ff' hc | exact absurd hc (by decide) | exact absurd rfl hc | with_reducible exact absurd h100 hc | with_reducible exact absurd hc h100 | skip)) | refine WP.ret ?_ | refine WP.skip ?_ | refine WP.exit ?_ | refine WP.goto ?_ | refine WP.label ?_ | refine WP.block ?_)))
      | (with_reducible refine thn_n ?_)
      | (with_reducible refine thn_r ?_)
      | (with_reducible refine thn_e ?_)
      | (with_reducible refine thn_g ?_)
      | (with_reducible refine blk_n ?_)
      | (with_reducible refine blk_r ?_)
      | (with_reducible refine blk_e ?_)
      | (with_reducible refine blk_g ?_)
      | (((with_reducible refine blk_o ?_ ?_); first | exact rfl | skip))
      | (refine Endz.mk' (by first | exact Or.inl rfl | exact Or.inr rfl) (by repeat (first | exact RVs.nil | apply RVs.cons | exact RV1.tmp rfl | exact RV1.row rfl rfl rfl (by repeat (first | exact look_here | apply look_there)) (by exact rfl) | exact RV1.cell rfl rfl rfl (by repeat (first | exact look_here | apply look_there)) (by exact rfl))) (by rfl) (by repeat (first | exact List.nil_sublist _ | exact List.Sublist.refl _ | apply List.Sublist.cons_cons | apply List.Sublist.cons))))
  refine Ctr.by layOk Tryd.func21 Tryd.ntmps21 rfl rfl rfl rfl rfl ?_
  repeat' (first
    | (((first | (with_reducible refine gQ0 ?_) | ((with_reducible refine gQ1 ?_ ?_); (focus (apply wg (r := true); (iterate 6 apply Eq.refl))))); (first | ((with_reducible apply q_move); apply Eq.refl) | ((with_reducible apply q_assign); apply Eq.refl) | ((with_reducible apply q_int); (iterate 3 apply Eq.refl)) | ((with_reducible apply q_nilCheck); apply Eq.refl) | ((with_reducible apply q_fa layOk); (iterate 5 apply Eq.refl)) | ((with_reducible apply q_load layOk); (iterate 3 apply Eq.refl); (focus (repeat (with_reducible (first | apply lh | apply lt)))); apply Eq.refl) | ((with_reducible apply q_loadr layOk); (iterate 3 apply Eq.refl); (focus (repeat (with_reducible (first | apply lh | apply lt)))); apply Eq.refl) | ((with_reducible apply q_build layOk); (iterate 4 apply Eq.refl)) | ((with_reducible apply q_not); apply Eq.refl) | ((with_reducible apply q_box (k := ks _)); apply Eq.refl; (focus (repeat (with_reducible (first | apply lh | apply lt)))); apply Eq.refl) | ((with_reducible apply q_alloc (k := ks _) layOk); apply Eq.refl; (focus (repeat (with_reducible (first | apply lh | apply lt)))); apply Eq.refl) | ((with_reducible apply q_pick_t); (iterate 2 apply Eq.refl)) | ((with_reducible apply q_pick_f); (iterate 2 apply Eq.refl)) | ((with_reducible apply q_len layOk); (iterate 4 apply Eq.refl)) | ((with_reducible apply q_eqnil); (focus (kernel_rfl)); (iterate 2 apply Eq.refl)) | (refine q_call1r rfl (first25 ()) (by first | (focus ((repeat (with_reducible (first | apply lh | apply lt))); done)) | (focus (apply lx; (focus (repeat (with_reducible (first | apply lh | apply lt)))); exact rfl))) ?_) | (refine q_call2 rfl (hmk (ks 0) (ks 1)) (by first | (focus ((repeat (with_reducible (first | apply lh | apply lt))); done)) | (focus (apply lx; (focus (repeat (with_reducible (first | apply lh | apply lt)))); exact rfl))) (by first | (focus ((repeat (with_reducible (first | apply lh | apply lt))); done)) | (focus (apply lx; (focus (repeat (with_reducible (first | apply lh | apply lt)))); exact rfl))) (by decide) (by exact rfl) ?_) | ((with_reducible apply e_store layOk); (iterate 3 apply Eq.refl); (focus (repeat (with_reducible (first | apply lh | apply lt)))); (iterate 5 apply Eq.refl)))))
    | (((with_reducible refine gR ?_); (first | refine RK.peelN rfl ?_ | refine RK.donef rfl ⟨_, rfl, ?_⟩ | refine RK.donet rfl (by kernel_rfl) ⟨_, rfl, ?_⟩)))
    | ((first | (with_reducible refine gQv ?_ ?_) | (with_reducible refine gQe ?_ ?_)); (focus (first | (apply wg (r := false); (iterate 6 apply Eq.refl)) | (apply wz; (iterate 4 apply Eq.refl)))))
    | ((with_reducible refine gK ?_); ((first | (apply gsD; (iterate 4 apply Eq.refl)) | (apply RKo.gsplitE; (iterate 4 apply Eq.refl)) | (apply RKo.gsplitN; (iterate 4 apply Eq.refl)) | (apply RKo.gsplit; (iterate 4 apply Eq.refl))) <;> (intro hc; first | with_reducible exact ff hc | with_reducible exact ff' hc | exact absurd hc (by decide) | exact absurd rfl hc | with_reducible exact absurd h100 hc | with_reducible exact absurd hc h100 | skip)))
    | (((with_reducible refine gW ?_); (first | with_reducible refine WP.seq ?_ | refine WP.reg mixed (fun ks => _) (fun ks => rfl) (fun ks => ?_) | ((first | (apply cdD; apply Eq.refl) | (apply WP.condE; apply Eq.refl) | (apply WP.condN; apply Eq.refl) | (apply WP.condA; apply Eq.refl)) <;> (intro hc; first | with_reducible exact ff hc | with_reducible exact ff' hc | exact absurd hc (by decide) | exact absurd rfl hc | with_reducible exact absurd h100 hc | with_reducible exact absurd hc h100 | skip)) | refine WP.ret ?_ | refine WP.skip ?_ | refine WP.exit ?_ | refine WP.goto ?_ | refine WP.label ?_ | refine WP.block ?_)))
    | (with_reducible refine thn_n ?_)
    | (with_reducible refine thn_r ?_)
    | (with_reducible refine thn_e ?_)
    | (with_reducible refine thn_g ?_)
    | (with_reducible refine blk_n ?_)
    | (with_reducible refine blk_r ?_)
    | (with_reducible refine blk_e ?_)
    | (with_reducible refine blk_g ?_)
    | (((with_reducible refine blk_o ?_ ?_); first | exact rfl | skip))
    | (refine Endz.mk' (by first | exact Or.inl rfl | exact Or.inr rfl) (by repeat (first | exact RVs.nil | apply RVs.cons | exact RV1.tmp rfl | exact RV1.row rfl rfl rfl (by repeat (first | exact look_here | apply look_there)) (by exact rfl) | exact RV1.cell rfl rfl rfl (by repeat (first | exact look_here | apply look_there)) (by exact rfl))) (by rfl) (by repeat (first | exact List.nil_sublist _ | exact List.Sublist.refl _ | apply List.Sublist.cons_cons | apply List.Sublist.cons))))
  rename_i k4
  obtain ⟨c, hcc⟩ : ∃ c, cfgOf n m k (some ⟨k4 0, 0, none⟩) none 0 0 = c := ⟨_, rfl⟩
  rw [hcc]
  have h6 : c.fdL ≤ 6 := by rw [← hcc]; exact (show 0 ≤ 6 by decide)
  have fr : Fr (.lost) c.fdL (fBus k) (fLoad k) (fPrio k) := by rw [← hcc]; exact ⟨fun i h => absurd h (Nat.not_lt_zero i), fun i h => absurd h (Nat.not_lt_zero i), fun i h => absurd h (Nat.not_lt_zero i), fun i h => absurd h (Nat.not_lt_zero i)⟩
  have ha : 0 < c.fdL → c.fdA = some ⟨k4 1, 0, none⟩ := by rw [← hcc]; exact fun h => absurd h (Nat.lt_irrefl 0)
  have h7 : c.fdL ≤ 7 := by omega
  have hB : ∀ i, i < c.fdL → 4 ≤ fBus k i ∧ fBus k i < 7 := fun i _ => ⟨(fd_in k i).1, (fd_in k i).2.1⟩
  have hnew := fun (p q : Nat) => keeper_New c h7 p q
  clear hcc
  repeat' (first
    | (((first | (with_reducible refine gQ0 ?_) | ((with_reducible refine gQ1 ?_ ?_); (focus (apply wg (r := true); (iterate 6 apply Eq.refl))))); (first | ((with_reducible apply q_box (ty := 104) (k := ks _)); apply Eq.refl; (focus (repeat (with_reducible (first | apply lh | apply lt)))); apply Eq.refl) | ((with_reducible apply q_move); apply Eq.refl) | ((with_reducible apply q_assign); apply Eq.refl) | ((with_reducible apply q_int); (iterate 3 apply Eq.refl)) | ((with_reducible apply q_nilCheck); apply Eq.refl) | ((with_reducible apply q_fa layOk); (iterate 5 apply Eq.refl)) | ((with_reducible apply q_load layOk); (iterate 3 apply Eq.refl); (focus (repeat (with_reducible (first | apply lh | apply lt)))); apply Eq.refl) | ((with_reducible apply q_loadr layOk); (iterate 3 apply Eq.refl); (focus (repeat (with_reducible (first | apply lh | apply lt)))); apply Eq.refl) | ((with_reducible apply q_build layOk); (iterate 4 apply Eq.refl)) | ((with_reducible apply q_not); apply Eq.refl) | ((with_reducible apply q_box (k := ks _)); apply Eq.refl; (focus (repeat (with_reducible (first | apply lh | apply lt)))); apply Eq.refl) | ((with_reducible apply q_alloc (k := ks _) layOk); apply Eq.refl; (focus (repeat (with_reducible (first | apply lh | apply lt)))); apply Eq.refl) | ((with_reducible apply q_pick_t); (iterate 2 apply Eq.refl)) | ((with_reducible apply q_pick_f); (iterate 2 apply Eq.refl)) | ((with_reducible apply q_len layOk); (iterate 4 apply Eq.refl)) | ((with_reducible apply q_eqnil); (focus (kernel_rfl)); (iterate 2 apply Eq.refl)) | (refine q_callW rfl (hnew (ks 0) (ks 1)) (by repeat (first | exact Fd.nil | apply Fd.cons | (focus ((repeat (with_reducible (first | apply lh | apply lt))); done)) | (focus (apply lx; (focus (repeat (with_reducible (first | apply lh | apply lt)))); exact rfl)))) (by decide) rfl (by exact rfl) ?_) | ((with_reducible apply e_store layOk); (iterate 3 apply Eq.refl); (focus (repeat (with_reducible (first | apply lh | apply lt)))); (iterate 5 apply Eq.refl)))))
    | (((with_reducible refine gR ?_); (first | refine RK.peelN rfl ?_ | refine RK.donef rfl ⟨_, rfl, ?_⟩ | refine RK.donet rfl (by kernel_rfl) ⟨_, rfl, ?_⟩)))
    | ((first | (with_reducible refine gQv ?_ ?_) | (with_reducible refine gQe ?_ ?_)); (focus (first | (apply wg (r := false); (iterate 6 apply Eq.refl)) | (apply wz; (iterate 4 apply Eq.refl)))))
    | ((with_reducible refine gK ?_); ((first | (apply gsD; (iterate 4 apply Eq.refl)) | (apply RKo.gsplitE; (iterate 4 apply Eq.refl)) | (apply RKo.gsplitN; (iterate 4 apply Eq.refl)) | (apply RKo.gsplit; (iterate 4 apply Eq.refl))) <;> (intro hc; first | with_reducible exact ff hc | with_reducible exact ff' hc | exact absurd hc (by decide) | exact absurd rfl hc | skip)))
    | (((with_reducible refine gW ?_); (first | with_reducible refine WP.seq ?_ | refine WP.reg mixed (fun ks => _) (fun ks => rfl) (fun ks => ?_) | ((first | (apply cdD; apply Eq.refl) | (apply WP.condE; apply Eq.refl) | (apply WP.condN; apply Eq.refl) | (apply WP.condA; apply Eq.refl)) <;> (intro hc; first | with_reducible exact ff hc | with_reducible exact ff' hc | exact absurd hc (by decide) | exact absurd rfl hc | skip)) | refine WP.ret ?_ | refine WP.skip ?_ | refine WP.exit ?_ | refine WP.goto ?_ | refine WP.label ?_ | refine WP.block ?_)))
    | (with_reducible refine thn_n ?_)
    | (with_reducible refine thn_r ?_)
    | (with_reducible refine thn_e ?_)
    | (with_reducible refine thn_g ?_)
    | (with_reducible refine blk_n ?_)
    | (with_reducible refine blk_r ?_)
    | (with_reducible refine blk_e ?_)
    | (with_reducible refine blk_g ?_)
    | (((with_reducible refine blk_o ?_ ?_); first | exact rfl | skip))
    | (refine Endz.mk' (by first | exact Or.inl rfl | exact Or.inr rfl) (by repeat (first | exact RVs.nil | apply RVs.cons | exact RV1.tmp rfl | exact RV1.row rfl rfl rfl (by repeat (first | exact look_here | apply look_there)) (by exact rfl) | exact RV1.cell rfl rfl rfl (by repeat (first | exact look_here | apply look_there)) (by exact rfl))) (by rfl) (by repeat (first | exact List.nil_sublist _ | exact List.Sublist.refl _ | apply List.Sublist.cons_cons | apply List.Sublist.cons))))
  rename_i kx ky _
  refine WP.loopI (n := 61) (α := Nat) (fun i => [(3, some (.slice o l cp)), (9, some (.bool true)), (11, some (.pointer (some ⟨kx 0, 0, none⟩))), (12, some (.pointer (some ⟨ky 0, 0, none⟩))), (13, some (I64 ((i : Nat) : Int)))]) (fun i => [(5, .ro 0 tzv), (6, bl), (kx 0, .cells [I64 (c.H), .slice (some ⟨kx 1, 0, none⟩) c.fdL c.fdL, I64 (((kIter c.H c.fdL (fun j => z.getD j 0) i).2 : Nat) : Int)] 150), (kx 1, .cells (lm (kIter c.H c.fdL (fun j => z.getD j 0) i).1 c.fdL) 3), (ky 0, .cells (rkc c (kIter c.H c.fdL (fun j => z.getD j 0) i).1 (kIter c.H c.fdL (fun j => z.getD j 0) i).2) 104)]) (fun i => i ≤ l) (fun i => l - i) 0 (Wk.of ⟨rfl, rfl, rfl, rfl, rfl, trivial⟩ (by repeat (first | exact List.nil_sublist _ | exact List.Sublist.refl _ | apply List.Sublist.cons_cons | apply List.Sublist.cons))) (Nat.zero_le _) (fun i iy => ?_)
  have iy : i ≤ l := iy
  by_cases hi : i < l
  rotate_left
  · have hge : ¬ (i : Int) < (l : Int) := by omega
    repeat' (first
      | (((first | (with_reducible refine gQ0 ?_) | ((with_reducible refine gQ1 ?_ ?_); (focus (apply wg (r := true); (iterate 6 apply Eq.refl))))); (first | ((with_reducible apply q_move); apply Eq.refl) | ((with_reducible apply q_assign); apply Eq.refl) | ((with_reducible apply q_int); (iterate 3 apply Eq.refl)) | ((with_reducible apply q_nilCheck); apply Eq.refl) | ((with_reducible apply q_fa layOk); (iterate 5 apply Eq.refl)) | ((with_reducible apply q_load layOk); (iterate 3 apply Eq.refl); (focus (repeat (with_reducible (first | apply lh | apply lt)))); apply Eq.refl) | ((with_reducible apply q_loadr layOk); (iterate 3 apply Eq.refl); (focus (repeat (with_reducible (first | apply lh | apply lt)))); apply Eq.refl) | ((with_reducible apply q_build layOk); (iterate 4 apply Eq.refl)) | ((with_reducible apply q_not); apply Eq.refl) | ((with_reducible apply q_box (k := ks _)); apply Eq.refl; (focus (repeat (with_reducible (first | apply lh | apply lt)))); apply Eq.refl) | ((with_reducible apply q_alloc (k := ks _) layOk); apply Eq.refl; (focus (repeat (with_reducible (first | apply lh | apply lt)))); apply Eq.refl) | ((with_reducible apply q_pick_t); (iterate 2 apply Eq.refl)) | ((with_reducible apply q_pick_f); (iterate 2 apply Eq.refl)) | ((with_reducible apply q_len layOk); (iterate 4 apply Eq.refl)) | ((with_reducible apply q_eqnil); (focus (kernel_rfl)); (iterate 2 apply Eq.refl)) | ((with_reducible apply e_store layOk); (iterate 3 apply Eq.refl); (focus (repeat (with_reducible (first | apply lh | apply lt)))); (iterate 5 apply Eq.refl)))))
      | (((with_reducible refine gR ?_); (first | refine RK.peelN rfl ?_ | refine RK.donef rfl ⟨_, rfl, ?_⟩ | refine RK.donet rfl (by kernel_rfl) ⟨_, rfl, ?_⟩)))
      | ((first | (with_reducible refine gQv ?_ ?_) | (with_reducible refine gQe ?_ ?_)); (focus (first | (apply wg (r := false); (iterate 6 apply Eq.refl)) | (apply wz; (iterate 4 apply Eq.refl)))))
      | ((with_reducible refine gK ?_); ((first | (apply gsD; (iterate 4 apply Eq.refl)) | (apply RKo.gsplitE; (iterate 4 apply Eq.refl)) | (apply RKo.gsplitN; (iterate 4 apply Eq.refl)) | (apply RKo.gsplit; (iterate 4 apply Eq.refl))) <;> (intro hc; first | with_reducible exact ff hc | with_reducible exact ff' hc | exact absurd hc (by decide) | exact absurd rfl hc | with_reducible exact absurd hge hc | with_reducible exact absurd hc hge | skip)))
      | (((with_reducible refine gW ?_); (first | with_reducible refine WP.seq ?_ | refine WP.reg mixed (fun ks => _) (fun ks => rfl) (fun ks => ?_) | ((first | (apply cdD; apply Eq.refl) | (apply WP.condE; apply Eq.refl) | (apply WP.condN; apply Eq.refl) | (apply WP.condA; apply Eq.refl)) <;> (intro hc; first | with_reducible exact ff hc | with_reducible exact ff' hc | exact absurd hc (by decide) | exact absurd rfl hc | with_reducible exact absurd hge hc | with_reducible exact absurd hc hge | skip)) | refine WP.ret ?_ | refine WP.skip ?_ | refine WP.exit ?_ | refine WP.goto ?_ | refine WP.label ?_ | refine WP.block ?_)))
      | (with_reducible refine thn_n ?_)
      | (with_reducible refine thn_r ?_)
      | (with_reducible refine thn_e ?_)
      | (with_reducible refine thn_g ?_)
      | (with_reducible refine blk_n ?_)
      | (with_reducible refine blk_r ?_)
      | (with_reducible refine blk_e ?_)
      | (with_reducible refine blk_g ?_)
      | (((with_reducible refine blk_o ?_ ?_); first | exact rfl | skip))
      | (refine Endz.mk' (by first | exact Or.inl rfl | exact Or.inr rfl) (by repeat (first | exact RVs.nil | apply RVs.cons | exact RV1.tmp rfl | exact RV1.row rfl rfl rfl (by repeat (first | exact look_here | apply look_there)) (by exact rfl) | exact RV1.cell rfl rfl rfl (by repeat (first | exact look_here | apply look_there)) (by exact rfl))) (by rfl) (by repeat (first | exact List.nil_sublist _ | exact List.Sublist.refl _ | apply List.Sublist.cons_cons | apply List.Sublist.cons))))
  have hlt : (i : Int) < (l : Int) := by omega
  have hw1 : IntKind.i64.wrap ((i : Int) + 1) = ((i + 1 : Nat) : Int) := by rw [wrap_in (by omega) (by omega)]; omega
  obtain ⟨_, hbl, hzl⟩ := hob (by omega)
  have hrow := ro_int f z (i := i) (by omega)
  rw [← hbl] at hrow
  have ho := kIter_lt (h := c.H) h7 (fun j => z.getD j 0) i
  obtain ⟨st, hst⟩ : ∃ st, (kIter c.H c.fdL (fun j => z.getD j 0) i) = st := ⟨_, rfl⟩
  have e : kIter c.H c.fdL (fun j => z.getD j 0) (i + 1) = kTurns c.H (tB (z.getD i 0)) st c.fdL := by rw [← hst]; rfl
  rw [hst] at ho ⊢
  clear hst
  obtain ⟨N1, on⟩ := st
  dsimp only at ho e ⊢
  have hks := keeper_Step (kx 0) (kx 1) c.H c.fdL h7 N1 on ho (z.getD i 0)
  have hkr := ref_KStep (ky 0) c h6 N1 on ho (z.getD i 0)
  repeat' (first
    | (((first | (with_reducible refine gQ0 ?_) | ((with_reducible refine gQ1 ?_ ?_); (focus (apply wg (r := true); (iterate 6 apply Eq.refl))))); (first | ((with_reducible apply q_load layOk); (iterate 3 apply Eq.refl); (focus (repeat (with_reducible (first | apply lh | apply lt)))); exact hrow) | ((with_reducible apply q_idxN (m := i) layOk); (iterate 4 apply Eq.refl); exact hoo; apply Eq.refl; exact hi) | ((with_reducible apply q_move); apply Eq.refl) | ((with_reducible apply q_assign); apply Eq.refl) | ((with_reducible apply q_int); (iterate 3 apply Eq.refl)) | ((with_reducible apply q_nilCheck); apply Eq.refl) | ((with_reducible apply q_fa layOk); (iterate 5 apply Eq.refl)) | ((with_reducible apply q_load layOk); (iterate 3 apply Eq.refl); (focus (repeat (with_reducible (first | apply lh | apply lt)))); apply Eq.refl) | ((with_reducible apply q_loadr layOk); (iterate 3 apply Eq.refl); (focus (repeat (with_reducible (first | apply lh | apply lt)))); apply Eq.refl) | ((with_reducible apply q_build layOk); (iterate 4 apply Eq.refl)) | ((with_reducible apply q_not); apply Eq.refl) | ((with_reducible apply q_box (k := ks _)); apply Eq.refl; (focus (repeat (with_reducible (first | apply lh | apply lt)))); apply Eq.refl) | ((with_reducible apply q_alloc (k := ks _) layOk); apply Eq.refl; (focus (repeat (with_reducible (first | apply lh | apply lt)))); apply Eq.refl) | ((with_reducible apply q_pick_t); (iterate 2 apply Eq.refl)) | ((with_reducible apply q_pick_f); (iterate 2 apply Eq.refl)) | ((with_reducible apply q_len layOk); (iterate 4 apply Eq.refl)) | ((with_reducible apply q_eqnil); (focus (kernel_rfl)); (iterate 2 apply Eq.refl)) | (refine q_callW rfl hks (by repeat (first | exact Fd.nil | apply Fd.cons | (focus ((repeat (with_reducible (first | apply lh | apply lt))); done)) | (focus (apply lx; (focus (repeat (with_reducible (first | apply lh | apply lt)))); exact rfl)))) (by decide) rfl (by exact rfl) ?_) | (refine q_call1 rfl hkr (by first | (focus ((repeat (with_reducible (first | apply lh | apply lt))); done)) | (focus (apply lx; (focus (repeat (with_reducible (first | apply lh | apply lt)))); exact rfl))) (by exact rfl) ?_) | (refine q_call1r rfl (keeper_On _ _ _ _) (by first | (focus ((repeat (with_reducible (first | apply lh | apply lt))); done)) | (focus (apply lx; (focus (repeat (with_reducible (first | apply lh | apply lt)))); exact rfl))) ?_) | ((with_reducible apply e_store layOk); (iterate 3 apply Eq.refl); (focus (repeat (with_reducible (first | apply lh | apply lt)))); (iterate 5 apply Eq.refl)))))
    | (((with_reducible refine gR ?_); (first | refine RK.peelN rfl ?_ | refine RK.donef rfl ⟨_, rfl, ?_⟩ | refine RK.donet rfl (by kernel_rfl) ⟨_, rfl, ?_⟩)))
    | ((first | (with_reducible refine gQv ?_ ?_) | (with_reducible refine gQe ?_ ?_)); (focus (first | (apply wg (r := false); (iterate 6 apply Eq.refl)) | (apply wz; (iterate 4 apply Eq.refl)))))
    | ((with_reducible refine gK ?_); ((first | (apply gsD; (iterate 4 apply Eq.refl)) | (apply RKo.gsplitE; (iterate 4 apply Eq.refl)) | (apply RKo.gsplitN; (iterate 4 apply Eq.refl)) | (apply RKo.gsplit; (iterate 4 apply Eq.refl))) <;> (intro hc; first | with_reducible exact ff hc | with_reducible exact ff' hc | exact absurd hc (by decide) | exact absurd rfl hc | with_reducible exact absurd hlt hc | with_reducible exact absurd hc hlt | skip)))
    | (((with_reducible refine gW ?_); (first | with_reducible refine WP.seq ?_ | refine WP.reg mixed (fun ks => _) (fun ks => rfl) (fun ks => ?_) | ((first | (apply cdD; apply Eq.refl) | (apply WP.condE; apply Eq.refl) | (apply WP.condN; apply Eq.refl) | (apply WP.condA; apply Eq.refl)) <;> (intro hc; first | with_reducible exact ff hc | with_reducible exact ff' hc | exact absurd hc (by decide) | exact absurd rfl hc | with_reducible exact absurd hlt hc | with_reducible exact absurd hc hlt | skip)) | refine WP.ret ?_ | refine WP.skip ?_ | refine WP.exit ?_ | refine WP.goto ?_ | refine WP.label ?_ | refine WP.block ?_)))
    | (with_reducible refine thn_n ?_)
    | (with_reducible refine thn_r ?_)
    | (with_reducible refine thn_e ?_)
    | (with_reducible refine thn_g ?_)
    | (with_reducible refine blk_n ?_)
    | (with_reducible refine blk_r ?_)
    | (with_reducible refine blk_e ?_)
    | (with_reducible refine blk_g ?_)
    | (((with_reducible refine blk_o ?_ ?_); first | exact rfl | skip))
    | (refine Endz.mk' (by first | exact Or.inl rfl | exact Or.inr rfl) (by repeat (first | exact RVs.nil | apply RVs.cons | exact RV1.tmp rfl | exact RV1.row rfl rfl rfl (by repeat (first | exact look_here | apply look_there)) (by exact rfl) | exact RV1.cell rfl rfl rfl (by repeat (first | exact look_here | apply look_there)) (by exact rfl))) (by rfl) (by repeat (first | exact List.nil_sublist _ | exact List.Sublist.refl _ | apply List.Sublist.cons_cons | apply List.Sublist.cons))))
  refine ⟨i + 1, hi, (by show l - (i + 1) < l - i; omega), ?_⟩
  rw [e]
  exact Wk.of ⟨rfl, rfl, rfl, rfl, congrArg (fun x => some (I64 x)) hw1, trivial⟩ (by repeat (first | exact List.nil_sublist _ | exact List.Sublist.refl _ | apply List.Sublist.cons_cons | apply List.Sublist.cons))
theorem shedKeeps (n m k : Int) (o : Option Addr) (l cp f : Nat) (z : List Int) (bl : AObj) (hob : 0 < l → o = some ⟨6, f, none⟩ ∧ bl = .ro f (z.map I64) ∧ l ≤ z.length) : Ctr Tryd.prog 6 21 [I64 n, I64 m, I64 k, .slice o l cp] [(5, .ro 0 tzv), (6, bl)] (.bool true) [.ro 0 tzv, bl] := by
  rcases cfg_cases n m k with ⟨N, hN, h⟩ | h
  · exact shedKeeps_A n m k o l cp f z bl hob N hN h
  · exact shedKeeps_B n m k o l cp f z bl hob h
end Go.Proofs.YtlhhcongoplfpaaDoor
