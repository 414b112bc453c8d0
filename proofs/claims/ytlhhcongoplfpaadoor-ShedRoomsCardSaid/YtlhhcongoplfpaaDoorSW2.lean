/- What functions of this program do, each as a contract that its callers use, and what follows of it in plain numbers.
   By an AI agent. -/
import Derived.Test.YtlhhcongoplfpaaDoorDLO
import Derived.Test.YtlhhcongoplfpaaDoorSW1
namespace Go.Proofs.YtlhhcongoplfpaaDoor
open Go Go.Proofs.YtlhhcongoplfpaaDoorAB
set_option linter.unusedSimpArgs false
set_option linter.unusedVariables false

/-- How much may be taken of a source. -/
def capOf (c : Cfg) : Nat → Int
  | 0 => c.GenMax
  | 3 => c.ExtMax
  | _ => c.BatMax
/-- The source that feeds a bus. -/
def srcF (B : Nat → Nat) (shut : Int) (i : Nat) : Option Nat := if feedN (bitB shut) (B i) = -1 then none else some (feedN (bitB shut) (B i)).toNat
/-- May a feeder be wanted? -/
def okW (trips : Int) (few : Bool) (R : Nat → Int) (i : Nat) : Bool := decide (bitX trips i = 0) && (!few || decide (R i = 0))
def wantN (c : Cfg) (B : Nat → Nat) (W R : Nat → Int) (shut trips : Int) (few : Bool) : Nat := (wantL (srcF B shut) W (capOf c) (sortN R (ordN (okW trips few R) c.fdL))).2
theorem src_lt (B : Nat → Nat) (shut : Int) (k s : Nat) (h : srcF B shut k = some s) : s < 4 := by
  unfold srcF at h
  split at h
  · cases h
  · have := Option.some.inj h
    rcases feed_cases (bitB shut) (B k) with h | h | h | h | h <;> omega
theorem sortN_mem {R : Nat → Int} : ∀ {L : List Nat} {k : Nat}, k ∈ sortN R L → k ∈ L := by
  have sw : ∀ (M : List Nat) (j k : Nat), k ∈ swp M j → j + 1 < M.length → k ∈ M := fun M j k h hj => swp_mem hj h
  have sk : ∀ (j : Nat) (M : List Nat) (k : Nat), j < M.length ∨ j = 0 → k ∈ sinkN R j M → k ∈ M := by
    intro j
    induction j with
    | zero => exact fun M k _ h => h
    | succ j ih =>
      intro M k hj h
      unfold sinkN at h
      split at h
      · exact sw M j k (ih _ k (.inl (by rw [swp_len]; omega)) h) (by omega)
      · exact h
  have ii : ∀ (L : List Nat) (i k : Nat), i < L.length ∨ i = 0 → k ∈ isN R L i → k ∈ L := by
    intro L i
    induction i with
    | zero => exact fun k _ h => h
    | succ i ih =>
      intro k hi h
      exact ih k (by omega) (sk (i + 1) _ k (by rw [is_len]; omega) h)
  intro L k h
  exact ii L (L.length - 1) k (by omega) h
theorem sortN_len (R : Nat → Int) (L : List Nat) : (sortN R L).length = L.length := is_len R L _
set_option maxHeartbeats 4000000 in
theorem most_0 (c : Cfg) : Ctr Tryd.prog 6 117 [.agg ⟨c.cells⟩, I64 0] [] (I64 (capOf c 0)) [] := by
  refine Ctr.by layOk Tryd.func117 Tryd.ntmps117 rfl rfl rfl rfl rfl ?_
  repeat' (first
    | (((with_reducible refine gQ0 ?_); (first | ((with_reducible apply q_move); apply Eq.refl) | ((with_reducible apply q_assign); apply Eq.refl) | ((with_reducible apply q_int); (iterate 3 apply Eq.refl)) | ((with_reducible apply q_fa layOk); (iterate 5 apply Eq.refl)) | ((with_reducible apply q_load layOk); (iterate 3 apply Eq.refl); (focus (repeat (with_reducible (first | apply lh | apply lt)))); apply Eq.refl) | ((with_reducible apply q_loadr layOk); (iterate 3 apply Eq.refl); (focus (repeat (with_reducible (first | apply lh | apply lt)))); apply Eq.refl) | ((with_reducible apply q_box (k := ks _)); apply Eq.refl; (focus (repeat (with_reducible (first | apply lh | apply lt)))); apply Eq.refl))))
    | (((with_reducible refine gR ?_); (first | refine RK.peelN rfl ?_ | refine RK.donef rfl ⟨_, rfl, ?_⟩ | refine RK.donet rfl (by kernel_rfl) ⟨_, rfl, ?_⟩)))
    | (((with_reducible refine gW ?_); (first | with_reducible refine WP.seq ?_ | refine WP.reg mixed (fun ks => _) (fun ks => rfl) (fun ks => ?_) | ((first | (apply cdD; apply Eq.refl) | (apply WP.condE; apply Eq.refl) | (apply WP.condN; apply Eq.refl) | (apply WP.condA; apply Eq.refl)) <;> (intro hc; first | with_reducible exact ff hc | with_reducible exact ff' hc | exact absurd hc (by decide) | exact absurd rfl hc | skip)) | refine WP.ret ?_ | refine WP.skip ?_ | refine WP.exit ?_ | refine WP.goto ?_ | refine WP.label ?_ | refine WP.block ?_)))
    | (with_reducible refine thn_n ?_)
    | (with_reducible refine thn_r ?_)
    | (with_reducible refine thn_e ?_)
    | (with_reducible refine thn_g ?_)
    | (with_reducible refine blk_n ?_)
    | (with_reducible refine blk_r ?_)
    | (with_reducible refine blk_e ?_)
    | (with_reducible refine blk_g ?_)
    | (((with_reducible refine blk_o ?_ ?_); first | exact rfl | skip))
    | (refine Endz.mk' (by first | exact Or.inl rfl | exact Or.inr rfl) (by repeat (first | exact RVs.nil | apply RVs.cons | exact RV1.tmp rfl | exact RV1.row rfl rfl rfl (by repeat (first | exact look_here | apply look_there)) (by exact rfl) | exact RV1.cell rfl rfl rfl (by repeat (first | exact look_here | apply look_there)) (by exact rfl))) (by rfl) (by repeat (first | exact List.nil_sublist _ | exact List.Sublist.refl _ | apply List.Sublist.cons_cons | apply List.Sublist.cons))))
set_option maxHeartbeats 4000000 in
theorem most_1 (c : Cfg) : Ctr Tryd.prog 6 117 [.agg ⟨c.cells⟩, I64 1] [] (I64 (capOf c 1)) [] := by
  refine Ctr.by layOk Tryd.func117 Tryd.ntmps117 rfl rfl rfl rfl rfl ?_
  repeat' (first
    | (((with_reducible refine gQ0 ?_); (first | ((with_reducible apply q_move); apply Eq.refl) | ((with_reducible apply q_assign); apply Eq.refl) | ((with_reducible apply q_int); (iterate 3 apply Eq.refl)) | ((with_reducible apply q_fa layOk); (iterate 5 apply Eq.refl)) | ((with_reducible apply q_load layOk); (iterate 3 apply Eq.refl); (focus (repeat (with_reducible (first | apply lh | apply lt)))); apply Eq.refl) | ((with_reducible apply q_loadr layOk); (iterate 3 apply Eq.refl); (focus (repeat (with_reducible (first | apply lh | apply lt)))); apply Eq.refl) | ((with_reducible apply q_box (k := ks _)); apply Eq.refl; (focus (repeat (with_reducible (first | apply lh | apply lt)))); apply Eq.refl))))
    | (((with_reducible refine gR ?_); (first | refine RK.peelN rfl ?_ | refine RK.donef rfl ⟨_, rfl, ?_⟩ | refine RK.donet rfl (by kernel_rfl) ⟨_, rfl, ?_⟩)))
    | (((with_reducible refine gW ?_); (first | with_reducible refine WP.seq ?_ | refine WP.reg mixed (fun ks => _) (fun ks => rfl) (fun ks => ?_) | ((first | (apply cdD; apply Eq.refl) | (apply WP.condE; apply Eq.refl) | (apply WP.condN; apply Eq.refl) | (apply WP.condA; apply Eq.refl)) <;> (intro hc; first | with_reducible exact ff hc | with_reducible exact ff' hc | exact absurd hc (by decide) | exact absurd rfl hc | skip)) | refine WP.ret ?_ | refine WP.skip ?_ | refine WP.exit ?_ | refine WP.goto ?_ | refine WP.label ?_ | refine WP.block ?_)))
    | (with_reducible refine thn_n ?_)
    | (with_reducible refine thn_r ?_)
    | (with_reducible refine thn_e ?_)
    | (with_reducible refine thn_g ?_)
    | (with_reducible refine blk_n ?_)
    | (with_reducible refine blk_r ?_)
    | (with_reducible refine blk_e ?_)
    | (with_reducible refine blk_g ?_)
    | (((with_reducible refine blk_o ?_ ?_); first | exact rfl | skip))
    | (refine Endz.mk' (by first | exact Or.inl rfl | exact Or.inr rfl) (by repeat (first | exact RVs.nil | apply RVs.cons | exact RV1.tmp rfl | exact RV1.row rfl rfl rfl (by repeat (first | exact look_here | apply look_there)) (by exact rfl) | exact RV1.cell rfl rfl rfl (by repeat (first | exact look_here | apply look_there)) (by exact rfl))) (by rfl) (by repeat (first | exact List.nil_sublist _ | exact List.Sublist.refl _ | apply List.Sublist.cons_cons | apply List.Sublist.cons))))
set_option maxHeartbeats 4000000 in
theorem most_2 (c : Cfg) : Ctr Tryd.prog 6 117 [.agg ⟨c.cells⟩, I64 2] [] (I64 (capOf c 2)) [] := by
  refine Ctr.by layOk Tryd.func117 Tryd.ntmps117 rfl rfl rfl rfl rfl ?_
  repeat' (first
    | (((with_reducible refine gQ0 ?_); (first | ((with_reducible apply q_move); apply Eq.refl) | ((with_reducible apply q_assign); apply Eq.refl) | ((with_reducible apply q_int); (iterate 3 apply Eq.refl)) | ((with_reducible apply q_fa layOk); (iterate 5 apply Eq.refl)) | ((with_reducible apply q_load layOk); (iterate 3 apply Eq.refl); (focus (repeat (with_reducible (first | apply lh | apply lt)))); apply Eq.refl) | ((with_reducible apply q_loadr layOk); (iterate 3 apply Eq.refl); (focus (repeat (with_reducible (first | apply lh | apply lt)))); apply Eq.refl) | ((with_reducible apply q_box (k := ks _)); apply Eq.refl; (focus (repeat (with_reducible (first | apply lh | apply lt)))); apply Eq.refl))))
    | (((with_reducible refine gR ?_); (first | refine RK.peelN rfl ?_ | refine RK.donef rfl ⟨_, rfl, ?_⟩ | refine RK.donet rfl (by kernel_rfl) ⟨_, rfl, ?_⟩)))
    | (((with_reducible refine gW ?_); (first | with_reducible refine WP.seq ?_ | refine WP.reg mixed (fun ks => _) (fun ks => rfl) (fun ks => ?_) | ((first | (apply cdD; apply Eq.refl) | (apply WP.condE; apply Eq.refl) | (apply WP.condN; apply Eq.refl) | (apply WP.condA; apply Eq.refl)) <;> (intro hc; first | with_reducible exact ff hc | with_reducible exact ff' hc | exact absurd hc (by decide) | exact absurd rfl hc | skip)) | refine WP.ret ?_ | refine WP.skip ?_ | refine WP.exit ?_ | refine WP.goto ?_ | refine WP.label ?_ | refine WP.block ?_)))
    | (with_reducible refine thn_n ?_)
    | (with_reducible refine thn_r ?_)
    | (with_reducible refine thn_e ?_)
    | (with_reducible refine thn_g ?_)
    | (with_reducible refine blk_n ?_)
    | (with_reducible refine blk_r ?_)
    | (with_reducible refine blk_e ?_)
    | (with_reducible refine blk_g ?_)
    | (((with_reducible refine blk_o ?_ ?_); first | exact rfl | skip))
    | (refine Endz.mk' (by first | exact Or.inl rfl | exact Or.inr rfl) (by repeat (first | exact RVs.nil | apply RVs.cons | exact RV1.tmp rfl | exact RV1.row rfl rfl rfl (by repeat (first | exact look_here | apply look_there)) (by exact rfl) | exact RV1.cell rfl rfl rfl (by repeat (first | exact look_here | apply look_there)) (by exact rfl))) (by rfl) (by repeat (first | exact List.nil_sublist _ | exact List.Sublist.refl _ | apply List.Sublist.cons_cons | apply List.Sublist.cons))))
set_option maxHeartbeats 4000000 in
theorem most_3 (c : Cfg) : Ctr Tryd.prog 6 117 [.agg ⟨c.cells⟩, I64 3] [] (I64 (capOf c 3)) [] := by
  refine Ctr.by layOk Tryd.func117 Tryd.ntmps117 rfl rfl rfl rfl rfl ?_
  repeat' (first
    | (((with_reducible refine gQ0 ?_); (first | ((with_reducible apply q_move); apply Eq.refl) | ((with_reducible apply q_assign); apply Eq.refl) | ((with_reducible apply q_int); (iterate 3 apply Eq.refl)) | ((with_reducible apply q_fa layOk); (iterate 5 apply Eq.refl)) | ((with_reducible apply q_load layOk); (iterate 3 apply Eq.refl); (focus (repeat (with_reducible (first | apply lh | apply lt)))); apply Eq.refl) | ((with_reducible apply q_loadr layOk); (iterate 3 apply Eq.refl); (focus (repeat (with_reducible (first | apply lh | apply lt)))); apply Eq.refl) | ((with_reducible apply q_box (k := ks _)); apply Eq.refl; (focus (repeat (with_reducible (first | apply lh | apply lt)))); apply Eq.refl))))
    | (((with_reducible refine gR ?_); (first | refine RK.peelN rfl ?_ | refine RK.donef rfl ⟨_, rfl, ?_⟩ | refine RK.donet rfl (by kernel_rfl) ⟨_, rfl, ?_⟩)))
    | (((with_reducible refine gW ?_); (first | with_reducible refine WP.seq ?_ | refine WP.reg mixed (fun ks => _) (fun ks => rfl) (fun ks => ?_) | ((first | (apply cdD; apply Eq.refl) | (apply WP.condE; apply Eq.refl) | (apply WP.condN; apply Eq.refl) | (apply WP.condA; apply Eq.refl)) <;> (intro hc; first | with_reducible exact ff hc | with_reducible exact ff' hc | exact absurd hc (by decide) | exact absurd rfl hc | skip)) | refine WP.ret ?_ | refine WP.skip ?_ | refine WP.exit ?_ | refine WP.goto ?_ | refine WP.label ?_ | refine WP.block ?_)))
    | (with_reducible refine thn_n ?_)
    | (with_reducible refine thn_r ?_)
    | (with_reducible refine thn_e ?_)
    | (with_reducible refine thn_g ?_)
    | (with_reducible refine blk_n ?_)
    | (with_reducible refine blk_r ?_)
    | (with_reducible refine blk_e ?_)
    | (with_reducible refine blk_g ?_)
    | (((with_reducible refine blk_o ?_ ?_); first | exact rfl | skip))
    | (refine Endz.mk' (by first | exact Or.inl rfl | exact Or.inr rfl) (by repeat (first | exact RVs.nil | apply RVs.cons | exact RV1.tmp rfl | exact RV1.row rfl rfl rfl (by repeat (first | exact look_here | apply look_there)) (by exact rfl) | exact RV1.cell rfl rfl rfl (by repeat (first | exact look_here | apply look_there)) (by exact rfl))) (by rfl) (by repeat (first | exact List.nil_sublist _ | exact List.Sublist.refl _ | apply List.Sublist.cons_cons | apply List.Sublist.cons))))

theorem ord_yes {c : Nat → Bool} {i : Nat} (h : c i = true) : ordN c (i + 1) = ordN c i ++ [i] := by show (if c i = true then _ else _) = _; rw [if_pos h]
theorem ord_no {c : Nat → Bool} {i : Nat} (h : c i = false) : ordN c (i + 1) = ordN c i := by show (if c i = true then _ else _) = _; rw [if_neg (by rw [h]; decide)]
/-- What the first ones have taken. -/
def stW (c : Cfg) (B : Nat → Nat) (W R : Nat → Int) (shut : Int) (L : List Nat) (p : Nat) : (Nat → Int) × Nat := (L.take p).foldl (wStep (srcF B shut) W (capOf c)) (fun _ => 0, 0)
theorem stW_s (c : Cfg) (B : Nat → Nat) (W R : Nat → Int) (shut : Int) (L : List Nat) {p : Nat} (h : p < L.length) : stW c B W R shut L (p + 1) = wStep (srcF B shut) W (capOf c) (stW c B W R shut L p) (L.getD p 0) := by
  unfold stW
  rw [List.take_succ_eq_append_getElem h, List.foldl_append, List.getD_eq_getElem?_getD, List.getElem?_eq_getElem h]
  rfl
def tW (t : Nat → Int) : List Value := [I64 (t 0), I64 (t 1), I64 (t 2), I64 (t 3)]
set_option maxHeartbeats 16000000 in
theorem want_from {c : Cfg} {ob : AObj} {kf : Nat} {B : Nat → Nat} {W R : Nat → Int} (fr : Fr ob c.fdL B W R) (ha : 0 < c.fdL → c.fdA = some ⟨kf, 0, none⟩) (h7 : c.fdL ≤ 7) (hB : ∀ i, i < c.fdL → 4 ≤ B i ∧ B i < 7) (shut : Int) (kc : Nat) (L : List Nat) (hL : ∀ k ∈ L, k < c.fdL) : True := trivial

set_option maxHeartbeats 16000000 in
theorem shed_Want {c : Cfg} {ob : AObj} {kf : Nat} {B : Nat → Nat} {W R : Nat → Int} (fr : Fr ob c.fdL B W R) (ha : 0 < c.fdL → c.fdA = some ⟨kf, 0, none⟩) (h7 : c.fdL ≤ 7) (hB : ∀ i, i < c.fdL → 4 ≤ B i ∧ B i < 7) (shut trips : Int) (few : Bool) : Ctr Tryd.prog 6 66 [.agg ⟨c.cells⟩, I64 shut, I64 trips, .bool few] [(5, .ro 0 tzv), (kf, ob)] (I64 ((wantN c B W R shut trips few : Nat) : Int)) [.ro 0 tzv, ob] := by
  refine Ctr.by layOk Tryd.func66 Tryd.ntmps66 rfl rfl rfl rfl rfl ?_
  repeat' (first
    | (((first | (with_reducible refine gQ0 ?_) | ((with_reducible refine gQ1 ?_ ?_); (focus (apply wg (r := true); (iterate 6 apply Eq.refl))))); (first | ((with_reducible apply q_move); apply Eq.refl) | ((with_reducible apply q_assign); apply Eq.refl) | ((with_reducible apply q_int); (iterate 3 apply Eq.refl)) | ((with_reducible apply q_fa layOk); (iterate 5 apply Eq.refl)) | ((with_reducible apply q_load layOk); (iterate 3 apply Eq.refl); (focus (repeat (with_reducible (first | apply lh | apply lt)))); apply Eq.refl) | ((with_reducible apply q_loadr layOk); (iterate 3 apply Eq.refl); (focus (repeat (with_reducible (first | apply lh | apply lt)))); apply Eq.refl) | ((with_reducible apply q_not); apply Eq.refl) | ((with_reducible apply q_box (k := ks _)); apply Eq.refl; (focus (repeat (with_reducible (first | apply lh | apply lt)))); apply Eq.refl) | ((with_reducible apply q_alloc (k := ks _) layOk); apply Eq.refl; (focus (repeat (with_reducible (first | apply lh | apply lt)))); apply Eq.refl) | ((with_reducible apply q_pick_t); (iterate 2 apply Eq.refl)) | ((with_reducible apply q_pick_f); (iterate 2 apply Eq.refl)) | ((with_reducible apply q_len layOk); (iterate 4 apply Eq.refl)) | ((with_reducible apply q_shr); (iterate 2 apply Eq.refl); (focus (omega))) | ((with_reducible apply q_shl); (iterate 2 apply Eq.refl); (focus (omega))) | ((with_reducible apply e_store layOk); (iterate 3 apply Eq.refl); (focus (repeat (with_reducible (first | apply lh | apply lt)))); (iterate 5 apply Eq.refl)))))
    | (((with_reducible refine gR ?_); (first | refine RK.peelN rfl ?_ | refine RK.donef rfl ⟨_, rfl, ?_⟩ | refine RK.donet rfl (by kernel_rfl) ⟨_, rfl, ?_⟩)))
    | ((first | (with_reducible refine gQv ?_ ?_) | (with_reducible refine gQe ?_ ?_)); (focus (first | (apply wg (r := false); (iterate 6 apply Eq.refl)) | (apply wz; (iterate 4 apply Eq.refl)))))
    | ((with_reducible refine gK ?_); ((first | (apply gsD; (iterate 4 apply Eq.refl)) | (apply RKo.gsplitE; (iterate 4 apply Eq.refl)) | (apply RKo.gsplitN; (iterate 4 apply Eq.refl)) | (apply RKo.gsplit; (iterate 4 apply Eq.refl))) <;> (intro hc; first | with_reducible exact ff hc | with_reducible exact ff' hc | skip)))
    | (((with_reducible refine gW ?_); (first | with_reducible refine WP.seq ?_ | refine WP.reg mixed (fun ks => _) (fun ks => rfl) (fun ks => ?_) | ((first | (apply cdD; apply Eq.refl) | (apply WP.condE; apply Eq.refl) | (apply WP.condN; apply Eq.refl) | (apply WP.condA; apply Eq.refl)) <;> (intro hc; first | with_reducible exact ff hc | with_reducible exact ff' hc | skip)) | refine WP.ret ?_ | refine WP.skip ?_ | refine WP.exit ?_ | refine WP.goto ?_ | refine WP.label ?_ | refine WP.block ?_)))
    | (with_reducible refine thn_n ?_)
    | (with_reducible refine thn_r ?_)
    | (with_reducible refine thn_e ?_)
    | (with_reducible refine thn_g ?_)
    | (with_reducible refine blk_n ?_)
    | (with_reducible refine blk_r ?_)
    | (with_reducible refine blk_e ?_)
    | (with_reducible refine blk_g ?_)
    | (((with_reducible refine blk_o ?_ ?_); first | exact rfl | skip))
    | (refine Endz.mk' (by first | exact Or.inl rfl | exact Or.inr rfl) (by repeat (first | exact RVs.nil | apply RVs.cons | exact RV1.tmp rfl | exact RV1.row rfl rfl rfl (by repeat (first | exact look_here | apply look_there)) (by exact rfl) | exact RV1.cell rfl rfl rfl (by repeat (first | exact look_here | apply look_there)) (by exact rfl))) (by rfl) (by repeat (first | exact List.nil_sublist _ | exact List.Sublist.refl _ | apply List.Sublist.cons_cons | apply List.Sublist.cons))))
  rename_i k0 k1
  obtain ⟨kc, hkc⟩ : ∃ kc, k0 0 = kc := ⟨_, rfl⟩
  rw [hkc]
  refine WP.loopI (n := 88) (α := Nat × Option Nat) (fun y => match y.2 with
    | none => [(1, some (I64 shut)), (2, some (I64 trips)), (3, some (.bool few)), (4, some (.pointer (some ⟨kc, 0, none⟩))), (9, some (.slice none 0 0)), (19, some (.slice c.fdA c.fdL c.fdC)), (20, some (I64 (c.fdL : Int))), (21, some (I64 ((y.1 : Nat) : Int)))]
    | some ko => [(1, some (I64 shut)), (2, some (I64 trips)), (3, some (.bool few)), (4, some (.pointer (some ⟨kc, 0, none⟩))), (9, some (.slice (some ⟨ko, 0, none⟩) (ordN (okW trips few R) y.1).length grown)), (19, some (.slice c.fdA c.fdL c.fdC)), (20, some (I64 (c.fdL : Int))), (21, some (I64 ((y.1 : Nat) : Int)))])
    (fun y => match y.2 with
    | none => [(5, .ro 0 tzv), (kf, ob), (kc, .cells c.cells 51)]
    | some ko => [(5, .ro 0 tzv), (kf, ob), (kc, .cells c.cells 51), (ko, .row ((ordN (okW trips few R) y.1).map nI) 3 1)])
    (fun y => y.1 ≤ c.fdL ∧ (match y.2 with
    | none => (ordN (okW trips few R) y.1) = []
    | some _ => ¬ (ordN (okW trips few R) y.1) = [])) (fun y => 8 - y.1) (0, none) (Wk.of ⟨rfl, rfl, rfl, rfl, rfl, rfl, rfl, rfl, trivial⟩ (by repeat (first | exact List.nil_sublist _ | exact List.Sublist.refl _ | apply List.Sublist.cons_cons | apply List.Sublist.cons))) ⟨Nat.zero_le _, rfl⟩ (fun y iy => ?_)
  obtain ⟨i, ok⟩ := y
  obtain ⟨hin, hno⟩ := iy
  have hin : i ≤ c.fdL := hin
  have hw : IntKind.i64.wrap ((i : Int) + 1) = ((i + 1 : Nat) : Int) := kp1 (by omega)
  have hlen := ord_len (okW trips few R) i
  have hb8 : ((ordN (okW trips few R) i).length + 1) * 8 ≤ 1099511627776 := by omega
  have hb1 : (ordN (okW trips few R) i).length + 1 ≤ 1099511627776 := by omega
  have hcl : ((ordN (okW trips few R) i).map nI).length = (ordN (okW trips few R) i).length * 1 := by rw [List.length_map, Nat.mul_one]
  by_cases hi : i < c.fdL
  · have hlt : (i : Int) < (c.fdL : Int) := by omega
    rcases ok with _ | ko
    · have hno : (ordN (okW trips few R) i) = [] := hno
      dsimp only
      by_cases hx : bitX trips i = 0
      · cases few with
        | false =>
          have hok : okW trips false R i = true := by unfold okW; rw [decide_eq_true hx]; rfl
          have e := ord_yes hok
          repeat' (first
            | (((first | (with_reducible refine gQ0 ?_) | ((with_reducible refine gQ1 ?_ ?_); (focus (apply wg (r := true); (iterate 6 apply Eq.refl))))); (first | ((with_reducible apply q_loadr layOk); (iterate 3 apply Eq.refl); (focus (repeat (with_reducible (first | apply lh | apply lt)))); exact (fr.seg i hi)) | ((with_reducible apply q_idxN (m := i) layOk); (iterate 4 apply Eq.refl); exact ha; apply Eq.refl; exact hi) | ((with_reducible apply q_buildS (k := ks _) layOk); (iterate 8 apply Eq.refl); (focus (repeat (with_reducible (first | apply lh | apply lt)))); apply Eq.refl) | ((with_reducible apply q_alloc (k := ks _) layOk); apply Eq.refl; (focus (repeat (with_reducible (first | apply lh | apply lt)))); apply Eq.refl) | ((with_reducible apply q_app0 (kn := ks _) layOk); (iterate 10 apply Eq.refl); (focus (repeat (with_reducible (first | apply lh | apply lt)))); (focus (repeat (with_reducible (first | apply lh | apply lt)))); (iterate 2 apply Eq.refl)) | ((with_reducible apply q_move); apply Eq.refl) | ((with_reducible apply q_assign); apply Eq.refl) | ((with_reducible apply q_int); (iterate 3 apply Eq.refl)) | ((with_reducible apply q_fa layOk); (iterate 5 apply Eq.refl)) | ((with_reducible apply q_load layOk); (iterate 3 apply Eq.refl); (focus (repeat (with_reducible (first | apply lh | apply lt)))); apply Eq.refl) | ((with_reducible apply q_loadr layOk); (iterate 3 apply Eq.refl); (focus (repeat (with_reducible (first | apply lh | apply lt)))); apply Eq.refl) | ((with_reducible apply q_not); apply Eq.refl) | ((with_reducible apply q_box (k := ks _)); apply Eq.refl; (focus (repeat (with_reducible (first | apply lh | apply lt)))); apply Eq.refl) | ((with_reducible apply q_alloc (k := ks _) layOk); apply Eq.refl; (focus (repeat (with_reducible (first | apply lh | apply lt)))); apply Eq.refl) | ((with_reducible apply q_pick_t); (iterate 2 apply Eq.refl)) | ((with_reducible apply q_pick_f); (iterate 2 apply Eq.refl)) | ((with_reducible apply q_len layOk); (iterate 4 apply Eq.refl)) | ((with_reducible apply q_shr); (iterate 2 apply Eq.refl); (focus (omega))) | ((with_reducible apply q_shl); (iterate 2 apply Eq.refl); (focus (omega))) | ((with_reducible apply e_store layOk); (iterate 3 apply Eq.refl); (focus (repeat (with_reducible (first | apply lh | apply lt)))); (iterate 5 apply Eq.refl)))))
            | (((with_reducible refine gR ?_); (first | refine RK.peelN rfl ?_ | refine RK.donef rfl ⟨_, rfl, ?_⟩ | refine RK.donet rfl (by kernel_rfl) ⟨_, rfl, ?_⟩)))
            | ((first | (with_reducible refine gQv ?_ ?_) | (with_reducible refine gQe ?_ ?_)); (focus (first | (apply wg (r := false); (iterate 6 apply Eq.refl)) | (apply wz; (iterate 4 apply Eq.refl)))))
            | ((with_reducible refine gK ?_); ((first | (apply gsD; (iterate 4 apply Eq.refl)) | (apply RKo.gsplitE; (iterate 4 apply Eq.refl)) | (apply RKo.gsplitN; (iterate 4 apply Eq.refl)) | (apply RKo.gsplit; (iterate 4 apply Eq.refl))) <;> (intro hc; first | with_reducible exact ff hc | with_reducible exact ff' hc | exact absurd hc (by decide) | with_reducible exact absurd hlt hc | with_reducible exact absurd hx hc | with_reducible exact absurd hc hlt | with_reducible exact absurd hc hx | skip)))
            | (((with_reducible refine gW ?_); (first | with_reducible refine WP.seq ?_ | refine WP.reg mixed (fun ks => _) (fun ks => rfl) (fun ks => ?_) | ((first | (apply cdD; apply Eq.refl) | (apply WP.condE; apply Eq.refl) | (apply WP.condN; apply Eq.refl) | (apply WP.condA; apply Eq.refl)) <;> (intro hc; first | with_reducible exact ff hc | with_reducible exact ff' hc | exact absurd hc (by decide) | with_reducible exact absurd hlt hc | with_reducible exact absurd hx hc | with_reducible exact absurd hc hlt | with_reducible exact absurd hc hx | skip)) | refine WP.ret ?_ | refine WP.skip ?_ | refine WP.exit ?_ | refine WP.goto ?_ | refine WP.label ?_ | refine WP.block ?_)))
            | (with_reducible refine thn_n ?_)
            | (with_reducible refine thn_r ?_)
            | (with_reducible refine thn_e ?_)
            | (with_reducible refine thn_g ?_)
            | (with_reducible refine blk_n ?_)
            | (with_reducible refine blk_r ?_)
            | (with_reducible refine blk_e ?_)
            | (with_reducible refine blk_g ?_)
            | (((with_reducible refine blk_o ?_ ?_); first | exact rfl | skip))
            | (refine Endz.mk' (by first | exact Or.inl rfl | exact Or.inr rfl) (by repeat (first | exact RVs.nil | apply RVs.cons | exact RV1.tmp rfl | exact RV1.row rfl rfl rfl (by repeat (first | exact look_here | apply look_there)) (by exact rfl) | exact RV1.cell rfl rfl rfl (by repeat (first | exact look_here | apply look_there)) (by exact rfl))) (by rfl) (by repeat (first | exact List.nil_sublist _ | exact List.Sublist.refl _ | apply List.Sublist.cons_cons | apply List.Sublist.cons))))
          rename_i kx
          refine ⟨(i + 1, some (kx (0 + 1))), ⟨hi, by rw [e]; simp⟩, by show 8 - (i + 1) < 8 - i; omega, ?_⟩
          dsimp only
          rw [e, hno]
          exact Wk.of ⟨rfl, rfl, rfl, rfl, rfl, rfl, rfl, congrArg (fun x => some (I64 x)) hw, trivial⟩ (by repeat (first | exact List.nil_sublist _ | exact List.Sublist.refl _ | apply List.Sublist.cons_cons | apply List.Sublist.cons))
        | true =>
          by_cases hr : R i = 0
          · have hok : okW trips true R i = true := by unfold okW; rw [decide_eq_true hx, decide_eq_true hr]; rfl
            have e := ord_yes hok
            repeat' (first
              | (((first | (with_reducible refine gQ0 ?_) | ((with_reducible refine gQ1 ?_ ?_); (focus (apply wg (r := true); (iterate 6 apply Eq.refl))))); (first | ((with_reducible apply q_loadr layOk); (iterate 3 apply Eq.refl); (focus (repeat (with_reducible (first | apply lh | apply lt)))); exact (fr.seg i hi)) | ((with_reducible apply q_idxN (m := i) layOk); (iterate 4 apply Eq.refl); exact ha; apply Eq.refl; exact hi) | ((with_reducible apply q_buildS (k := ks _) layOk); (iterate 8 apply Eq.refl); (focus (repeat (with_reducible (first | apply lh | apply lt)))); apply Eq.refl) | ((with_reducible apply q_alloc (k := ks _) layOk); apply Eq.refl; (focus (repeat (with_reducible (first | apply lh | apply lt)))); apply Eq.refl) | ((with_reducible apply q_app0 (kn := ks _) layOk); (iterate 10 apply Eq.refl); (focus (repeat (with_reducible (first | apply lh | apply lt)))); (focus (repeat (with_reducible (first | apply lh | apply lt)))); (iterate 2 apply Eq.refl)) | ((with_reducible apply q_move); apply Eq.refl) | ((with_reducible apply q_assign); apply Eq.refl) | ((with_reducible apply q_int); (iterate 3 apply Eq.refl)) | ((with_reducible apply q_fa layOk); (iterate 5 apply Eq.refl)) | ((with_reducible apply q_load layOk); (iterate 3 apply Eq.refl); (focus (repeat (with_reducible (first | apply lh | apply lt)))); apply Eq.refl) | ((with_reducible apply q_loadr layOk); (iterate 3 apply Eq.refl); (focus (repeat (with_reducible (first | apply lh | apply lt)))); apply Eq.refl) | ((with_reducible apply q_not); apply Eq.refl) | ((with_reducible apply q_box (k := ks _)); apply Eq.refl; (focus (repeat (with_reducible (first | apply lh | apply lt)))); apply Eq.refl) | ((with_reducible apply q_alloc (k := ks _) layOk); apply Eq.refl; (focus (repeat (with_reducible (first | apply lh | apply lt)))); apply Eq.refl) | ((with_reducible apply q_pick_t); (iterate 2 apply Eq.refl)) | ((with_reducible apply q_pick_f); (iterate 2 apply Eq.refl)) | ((with_reducible apply q_len layOk); (iterate 4 apply Eq.refl)) | ((with_reducible apply q_shr); (iterate 2 apply Eq.refl); (focus (omega))) | ((with_reducible apply q_shl); (iterate 2 apply Eq.refl); (focus (omega))) | ((with_reducible apply e_store layOk); (iterate 3 apply Eq.refl); (focus (repeat (with_reducible (first | apply lh | apply lt)))); (iterate 5 apply Eq.refl)))))
              | (((with_reducible refine gR ?_); (first | refine RK.peelN rfl ?_ | refine RK.donef rfl ⟨_, rfl, ?_⟩ | refine RK.donet rfl (by kernel_rfl) ⟨_, rfl, ?_⟩)))
              | ((first | (with_reducible refine gQv ?_ ?_) | (with_reducible refine gQe ?_ ?_)); (focus (first | (apply wg (r := false); (iterate 6 apply Eq.refl)) | (apply wz; (iterate 4 apply Eq.refl)))))
              | ((with_reducible refine gK ?_); ((first | (apply gsD; (iterate 4 apply Eq.refl)) | (apply RKo.gsplitE; (iterate 4 apply Eq.refl)) | (apply RKo.gsplitN; (iterate 4 apply Eq.refl)) | (apply RKo.gsplit; (iterate 4 apply Eq.refl))) <;> (intro hc; first | with_reducible exact ff hc | with_reducible exact ff' hc | exact absurd hc (by decide) | with_reducible exact absurd hlt hc | with_reducible exact absurd hx hc | with_reducible exact absurd hr hc | with_reducible exact absurd hc hlt | with_reducible exact absurd hc hx | with_reducible exact absurd hc hr | skip)))
              | (((with_reducible refine gW ?_); (first | with_reducible refine WP.seq ?_ | refine WP.reg mixed (fun ks => _) (fun ks => rfl) (fun ks => ?_) | ((first | (apply cdD; apply Eq.refl) | (apply WP.condE; apply Eq.refl) | (apply WP.condN; apply Eq.refl) | (apply WP.condA; apply Eq.refl)) <;> (intro hc; first | with_reducible exact ff hc | with_reducible exact ff' hc | exact absurd hc (by decide) | with_reducible exact absurd hlt hc | with_reducible exact absurd hx hc | with_reducible exact absurd hr hc | with_reducible exact absurd hc hlt | with_reducible exact absurd hc hx | with_reducible exact absurd hc hr | skip)) | refine WP.ret ?_ | refine WP.skip ?_ | refine WP.exit ?_ | refine WP.goto ?_ | refine WP.label ?_ | refine WP.block ?_)))
              | (with_reducible refine thn_n ?_)
              | (with_reducible refine thn_r ?_)
              | (with_reducible refine thn_e ?_)
              | (with_reducible refine thn_g ?_)
              | (with_reducible refine blk_n ?_)
              | (with_reducible refine blk_r ?_)
              | (with_reducible refine blk_e ?_)
              | (with_reducible refine blk_g ?_)
              | (((with_reducible refine blk_o ?_ ?_); first | exact rfl | skip))
              | (refine Endz.mk' (by first | exact Or.inl rfl | exact Or.inr rfl) (by repeat (first | exact RVs.nil | apply RVs.cons | exact RV1.tmp rfl | exact RV1.row rfl rfl rfl (by repeat (first | exact look_here | apply look_there)) (by exact rfl) | exact RV1.cell rfl rfl rfl (by repeat (first | exact look_here | apply look_there)) (by exact rfl))) (by rfl) (by repeat (first | exact List.nil_sublist _ | exact List.Sublist.refl _ | apply List.Sublist.cons_cons | apply List.Sublist.cons))))
            rename_i kx
            refine ⟨(i + 1, some (kx (0 + 1))), ⟨hi, by rw [e]; simp⟩, by show 8 - (i + 1) < 8 - i; omega, ?_⟩
            dsimp only
            rw [e, hno]
            exact Wk.of ⟨rfl, rfl, rfl, rfl, rfl, rfl, rfl, congrArg (fun x => some (I64 x)) hw, trivial⟩ (by repeat (first | exact List.nil_sublist _ | exact List.Sublist.refl _ | apply List.Sublist.cons_cons | apply List.Sublist.cons))
          · have hok : okW trips true R i = false := by unfold okW; rw [decide_eq_true hx, decide_eq_false hr]; rfl
            have e := ord_no hok
            repeat' (first
              | (((first | (with_reducible refine gQ0 ?_) | ((with_reducible refine gQ1 ?_ ?_); (focus (apply wg (r := true); (iterate 6 apply Eq.refl))))); (first | ((with_reducible apply q_loadr layOk); (iterate 3 apply Eq.refl); (focus (repeat (with_reducible (first | apply lh | apply lt)))); exact (fr.seg i hi)) | ((with_reducible apply q_idxN (m := i) layOk); (iterate 4 apply Eq.refl); exact ha; apply Eq.refl; exact hi) | ((with_reducible apply q_buildS (k := ks _) layOk); (iterate 8 apply Eq.refl); (focus (repeat (with_reducible (first | apply lh | apply lt)))); apply Eq.refl) | ((with_reducible apply q_alloc (k := ks _) layOk); apply Eq.refl; (focus (repeat (with_reducible (first | apply lh | apply lt)))); apply Eq.refl) | ((with_reducible apply q_app0 (kn := ks _) layOk); (iterate 10 apply Eq.refl); (focus (repeat (with_reducible (first | apply lh | apply lt)))); (focus (repeat (with_reducible (first | apply lh | apply lt)))); (iterate 2 apply Eq.refl)) | ((with_reducible apply q_move); apply Eq.refl) | ((with_reducible apply q_assign); apply Eq.refl) | ((with_reducible apply q_int); (iterate 3 apply Eq.refl)) | ((with_reducible apply q_fa layOk); (iterate 5 apply Eq.refl)) | ((with_reducible apply q_load layOk); (iterate 3 apply Eq.refl); (focus (repeat (with_reducible (first | apply lh | apply lt)))); apply Eq.refl) | ((with_reducible apply q_loadr layOk); (iterate 3 apply Eq.refl); (focus (repeat (with_reducible (first | apply lh | apply lt)))); apply Eq.refl) | ((with_reducible apply q_not); apply Eq.refl) | ((with_reducible apply q_box (k := ks _)); apply Eq.refl; (focus (repeat (with_reducible (first | apply lh | apply lt)))); apply Eq.refl) | ((with_reducible apply q_alloc (k := ks _) layOk); apply Eq.refl; (focus (repeat (with_reducible (first | apply lh | apply lt)))); apply Eq.refl) | ((with_reducible apply q_pick_t); (iterate 2 apply Eq.refl)) | ((with_reducible apply q_pick_f); (iterate 2 apply Eq.refl)) | ((with_reducible apply q_len layOk); (iterate 4 apply Eq.refl)) | ((with_reducible apply q_shr); (iterate 2 apply Eq.refl); (focus (omega))) | ((with_reducible apply q_shl); (iterate 2 apply Eq.refl); (focus (omega))) | ((with_reducible apply e_store layOk); (iterate 3 apply Eq.refl); (focus (repeat (with_reducible (first | apply lh | apply lt)))); (iterate 5 apply Eq.refl)))))
              | (((with_reducible refine gR ?_); (first | refine RK.peelN rfl ?_ | refine RK.donef rfl ⟨_, rfl, ?_⟩ | refine RK.donet rfl (by kernel_rfl) ⟨_, rfl, ?_⟩)))
              | ((first | (with_reducible refine gQv ?_ ?_) | (with_reducible refine gQe ?_ ?_)); (focus (first | (apply wg (r := false); (iterate 6 apply Eq.refl)) | (apply wz; (iterate 4 apply Eq.refl)))))
              | ((with_reducible refine gK ?_); ((first | (apply gsD; (iterate 4 apply Eq.refl)) | (apply RKo.gsplitE; (iterate 4 apply Eq.refl)) | (apply RKo.gsplitN; (iterate 4 apply Eq.refl)) | (apply RKo.gsplit; (iterate 4 apply Eq.refl))) <;> (intro hc; first | with_reducible exact ff hc | with_reducible exact ff' hc | exact absurd hc (by decide) | with_reducible exact absurd hlt hc | with_reducible exact absurd hx hc | with_reducible exact absurd hr hc | with_reducible exact absurd hc hlt | with_reducible exact absurd hc hx | with_reducible exact absurd hc hr | skip)))
              | (((with_reducible refine gW ?_); (first | with_reducible refine WP.seq ?_ | refine WP.reg mixed (fun ks => _) (fun ks => rfl) (fun ks => ?_) | ((first | (apply cdD; apply Eq.refl) | (apply WP.condE; apply Eq.refl) | (apply WP.condN; apply Eq.refl) | (apply WP.condA; apply Eq.refl)) <;> (intro hc; first | with_reducible exact ff hc | with_reducible exact ff' hc | exact absurd hc (by decide) | with_reducible exact absurd hlt hc | with_reducible exact absurd hx hc | with_reducible exact absurd hr hc | with_reducible exact absurd hc hlt | with_reducible exact absurd hc hx | with_reducible exact absurd hc hr | skip)) | refine WP.ret ?_ | refine WP.skip ?_ | refine WP.exit ?_ | refine WP.goto ?_ | refine WP.label ?_ | refine WP.block ?_)))
              | (with_reducible refine thn_n ?_)
              | (with_reducible refine thn_r ?_)
              | (with_reducible refine thn_e ?_)
              | (with_reducible refine thn_g ?_)
              | (with_reducible refine blk_n ?_)
              | (with_reducible refine blk_r ?_)
              | (with_reducible refine blk_e ?_)
              | (with_reducible refine blk_g ?_)
              | (((with_reducible refine blk_o ?_ ?_); first | exact rfl | skip))
              | (refine Endz.mk' (by first | exact Or.inl rfl | exact Or.inr rfl) (by repeat (first | exact RVs.nil | apply RVs.cons | exact RV1.tmp rfl | exact RV1.row rfl rfl rfl (by repeat (first | exact look_here | apply look_there)) (by exact rfl) | exact RV1.cell rfl rfl rfl (by repeat (first | exact look_here | apply look_there)) (by exact rfl))) (by rfl) (by repeat (first | exact List.nil_sublist _ | exact List.Sublist.refl _ | apply List.Sublist.cons_cons | apply List.Sublist.cons))))
            refine ⟨(i + 1, none), ⟨hi, by rw [e]; exact hno⟩, by show 8 - (i + 1) < 8 - i; omega, ?_⟩
            exact Wk.of ⟨rfl, rfl, rfl, rfl, rfl, rfl, rfl, congrArg (fun x => some (I64 x)) hw, trivial⟩ (by repeat (first | exact List.nil_sublist _ | exact List.Sublist.refl _ | apply List.Sublist.cons_cons | apply List.Sublist.cons))
      · have hok : okW trips few R i = false := by unfold okW; rw [decide_eq_false hx]; rfl
        have e := ord_no hok
        repeat' (first
          | (((first | (with_reducible refine gQ0 ?_) | ((with_reducible refine gQ1 ?_ ?_); (focus (apply wg (r := true); (iterate 6 apply Eq.refl))))); (first | ((with_reducible apply q_loadr layOk); (iterate 3 apply Eq.refl); (focus (repeat (with_reducible (first | apply lh | apply lt)))); exact (fr.seg i hi)) | ((with_reducible apply q_idxN (m := i) layOk); (iterate 4 apply Eq.refl); exact ha; apply Eq.refl; exact hi) | ((with_reducible apply q_buildS (k := ks _) layOk); (iterate 8 apply Eq.refl); (focus (repeat (with_reducible (first | apply lh | apply lt)))); apply Eq.refl) | ((with_reducible apply q_alloc (k := ks _) layOk); apply Eq.refl; (focus (repeat (with_reducible (first | apply lh | apply lt)))); apply Eq.refl) | ((with_reducible apply q_app0 (kn := ks _) layOk); (iterate 10 apply Eq.refl); (focus (repeat (with_reducible (first | apply lh | apply lt)))); (focus (repeat (with_reducible (first | apply lh | apply lt)))); (iterate 2 apply Eq.refl)) | ((with_reducible apply q_move); apply Eq.refl) | ((with_reducible apply q_assign); apply Eq.refl) | ((with_reducible apply q_int); (iterate 3 apply Eq.refl)) | ((with_reducible apply q_fa layOk); (iterate 5 apply Eq.refl)) | ((with_reducible apply q_load layOk); (iterate 3 apply Eq.refl); (focus (repeat (with_reducible (first | apply lh | apply lt)))); apply Eq.refl) | ((with_reducible apply q_loadr layOk); (iterate 3 apply Eq.refl); (focus (repeat (with_reducible (first | apply lh | apply lt)))); apply Eq.refl) | ((with_reducible apply q_not); apply Eq.refl) | ((with_reducible apply q_box (k := ks _)); apply Eq.refl; (focus (repeat (with_reducible (first | apply lh | apply lt)))); apply Eq.refl) | ((with_reducible apply q_alloc (k := ks _) layOk); apply Eq.refl; (focus (repeat (with_reducible (first | apply lh | apply lt)))); apply Eq.refl) | ((with_reducible apply q_pick_t); (iterate 2 apply Eq.refl)) | ((with_reducible apply q_pick_f); (iterate 2 apply Eq.refl)) | ((with_reducible apply q_len layOk); (iterate 4 apply Eq.refl)) | ((with_reducible apply q_shr); (iterate 2 apply Eq.refl); (focus (omega))) | ((with_reducible apply q_shl); (iterate 2 apply Eq.refl); (focus (omega))) | ((with_reducible apply e_store layOk); (iterate 3 apply Eq.refl); (focus (repeat (with_reducible (first | apply lh | apply lt)))); (iterate 5 apply Eq.refl)))))
          | (((with_reducible refine gR ?_); (first | refine RK.peelN rfl ?_ | refine RK.donef rfl ⟨_, rfl, ?_⟩ | refine RK.donet rfl (by kernel_rfl) ⟨_, rfl, ?_⟩)))
          | ((first | (with_reducible refine gQv ?_ ?_) | (with_reducible refine gQe ?_ ?_)); (focus (first | (apply wg (r := false); (iterate 6 apply Eq.refl)) | (apply wz; (iterate 4 apply Eq.refl)))))
          | ((with_reducible refine gK ?_); ((first | (apply gsD; (iterate 4 apply Eq.refl)) | (apply RKo.gsplitE; (iterate 4 apply Eq.refl)) | (apply RKo.gsplitN; (iterate 4 apply Eq.refl)) | (apply RKo.gsplit; (iterate 4 apply Eq.refl))) <;> (intro hc; first | with_reducible exact ff hc | with_reducible exact ff' hc | exact absurd hc (by decide) | with_reducible exact absurd hlt hc | with_reducible exact absurd hx hc | with_reducible exact absurd hc hlt | with_reducible exact absurd hc hx | skip)))
          | (((with_reducible refine gW ?_); (first | with_reducible refine WP.seq ?_ | refine WP.reg mixed (fun ks => _) (fun ks => rfl) (fun ks => ?_) | ((first | (apply cdD; apply Eq.refl) | (apply WP.condE; apply Eq.refl) | (apply WP.condN; apply Eq.refl) | (apply WP.condA; apply Eq.refl)) <;> (intro hc; first | with_reducible exact ff hc | with_reducible exact ff' hc | exact absurd hc (by decide) | with_reducible exact absurd hlt hc | with_reducible exact absurd hx hc | with_reducible exact absurd hc hlt | with_reducible exact absurd hc hx | skip)) | refine WP.ret ?_ | refine WP.skip ?_ | refine WP.exit ?_ | refine WP.goto ?_ | refine WP.label ?_ | refine WP.block ?_)))
          | (with_reducible refine thn_n ?_)
          | (with_reducible refine thn_r ?_)
          | (with_reducible refine thn_e ?_)
          | (with_reducible refine thn_g ?_)
          | (with_reducible refine blk_n ?_)
          | (with_reducible refine blk_r ?_)
          | (with_reducible refine blk_e ?_)
          | (with_reducible refine blk_g ?_)
          | (((with_reducible refine blk_o ?_ ?_); first | exact rfl | skip))
          | (refine Endz.mk' (by first | exact Or.inl rfl | exact Or.inr rfl) (by repeat (first | exact RVs.nil | apply RVs.cons | exact RV1.tmp rfl | exact RV1.row rfl rfl rfl (by repeat (first | exact look_here | apply look_there)) (by exact rfl) | exact RV1.cell rfl rfl rfl (by repeat (first | exact look_here | apply look_there)) (by exact rfl))) (by rfl) (by repeat (first | exact List.nil_sublist _ | exact List.Sublist.refl _ | apply List.Sublist.cons_cons | apply List.Sublist.cons))))
        refine ⟨(i + 1, none), ⟨hi, by rw [e]; exact hno⟩, by show 8 - (i + 1) < 8 - i; omega, ?_⟩
        exact Wk.of ⟨rfl, rfl, rfl, rfl, rfl, rfl, rfl, congrArg (fun x => some (I64 x)) hw, trivial⟩ (by repeat (first | exact List.nil_sublist _ | exact List.Sublist.refl _ | apply List.Sublist.cons_cons | apply List.Sublist.cons))
    · have hno : ¬ (ordN (okW trips few R) i) = [] := hno
      dsimp only
      by_cases hx : bitX trips i = 0
      · cases few with
        | false =>
          have hok : okW trips false R i = true := by unfold okW; rw [decide_eq_true hx]; rfl
          have e := ord_yes hok
          repeat' (first
            | (((first | (with_reducible refine gQ0 ?_) | ((with_reducible refine gQ1 ?_ ?_); (focus (apply wg (r := true); (iterate 6 apply Eq.refl))))); (first | ((with_reducible apply q_loadr layOk); (iterate 3 apply Eq.refl); (focus (repeat (with_reducible (first | apply lh | apply lt)))); exact (fr.seg i hi)) | ((with_reducible apply q_idxN (m := i) layOk); (iterate 4 apply Eq.refl); exact ha; apply Eq.refl; exact hi) | ((with_reducible apply q_buildS (k := ks _) layOk); (iterate 8 apply Eq.refl); (focus (repeat (with_reducible (first | apply lh | apply lt)))); apply Eq.refl) | ((with_reducible apply q_alloc (k := ks _) layOk); apply Eq.refl; (focus (repeat (with_reducible (first | apply lh | apply lt)))); apply Eq.refl) | ((with_reducible apply q_app1 (kn := ks _) layOk); (iterate 9 apply Eq.refl); (focus (repeat (with_reducible (first | apply lh | apply lt)))); (focus (repeat (with_reducible (first | apply lh | apply lt)))); (focus (repeat (with_reducible (first | apply lh | apply lt)))); (focus (decide)); (focus (exact hb8)); (focus (exact hb1)); (focus (exact hcl)); (iterate 3 apply Eq.refl)) | ((with_reducible apply q_move); apply Eq.refl) | ((with_reducible apply q_assign); apply Eq.refl) | ((with_reducible apply q_int); (iterate 3 apply Eq.refl)) | ((with_reducible apply q_fa layOk); (iterate 5 apply Eq.refl)) | ((with_reducible apply q_load layOk); (iterate 3 apply Eq.refl); (focus (repeat (with_reducible (first | apply lh | apply lt)))); apply Eq.refl) | ((with_reducible apply q_loadr layOk); (iterate 3 apply Eq.refl); (focus (repeat (with_reducible (first | apply lh | apply lt)))); apply Eq.refl) | ((with_reducible apply q_not); apply Eq.refl) | ((with_reducible apply q_box (k := ks _)); apply Eq.refl; (focus (repeat (with_reducible (first | apply lh | apply lt)))); apply Eq.refl) | ((with_reducible apply q_alloc (k := ks _) layOk); apply Eq.refl; (focus (repeat (with_reducible (first | apply lh | apply lt)))); apply Eq.refl) | ((with_reducible apply q_pick_t); (iterate 2 apply Eq.refl)) | ((with_reducible apply q_pick_f); (iterate 2 apply Eq.refl)) | ((with_reducible apply q_len layOk); (iterate 4 apply Eq.refl)) | ((with_reducible apply q_shr); (iterate 2 apply Eq.refl); (focus (omega))) | ((with_reducible apply q_shl); (iterate 2 apply Eq.refl); (focus (omega))) | ((with_reducible apply e_store layOk); (iterate 3 apply Eq.refl); (focus (repeat (with_reducible (first | apply lh | apply lt)))); (iterate 5 apply Eq.refl)))))
            | (((with_reducible refine gR ?_); (first | refine RK.peelN rfl ?_ | refine RK.donef rfl ⟨_, rfl, ?_⟩ | refine RK.donet rfl (by kernel_rfl) ⟨_, rfl, ?_⟩)))
            | ((first | (with_reducible refine gQv ?_ ?_) | (with_reducible refine gQe ?_ ?_)); (focus (first | (apply wg (r := false); (iterate 6 apply Eq.refl)) | (apply wz; (iterate 4 apply Eq.refl)))))
            | ((with_reducible refine gK ?_); ((first | (apply gsD; (iterate 4 apply Eq.refl)) | (apply RKo.gsplitE; (iterate 4 apply Eq.refl)) | (apply RKo.gsplitN; (iterate 4 apply Eq.refl)) | (apply RKo.gsplit; (iterate 4 apply Eq.refl))) <;> (intro hc; first | with_reducible exact ff hc | with_reducible exact ff' hc | exact absurd hc (by decide) | with_reducible exact absurd hlt hc | with_reducible exact absurd hx hc | with_reducible exact absurd hc hlt | with_reducible exact absurd hc hx | skip)))
            | (((with_reducible refine gW ?_); (first | with_reducible refine WP.seq ?_ | refine WP.reg mixed (fun ks => _) (fun ks => rfl) (fun ks => ?_) | ((first | (apply cdD; apply Eq.refl) | (apply WP.condE; apply Eq.refl) | (apply WP.condN; apply Eq.refl) | (apply WP.condA; apply Eq.refl)) <;> (intro hc; first | with_reducible exact ff hc | with_reducible exact ff' hc | exact absurd hc (by decide) | with_reducible exact absurd hlt hc | with_reducible exact absurd hx hc | with_reducible exact absurd hc hlt | with_reducible exact absurd hc hx | skip)) | refine WP.ret ?_ | refine WP.skip ?_ | refine WP.exit ?_ | refine WP.goto ?_ | refine WP.label ?_ | refine WP.block ?_)))
            | (with_reducible refine thn_n ?_)
            | (with_reducible refine thn_r ?_)
            | (with_reducible refine thn_e ?_)
            | (with_reducible refine thn_g ?_)
            | (with_reducible refine blk_n ?_)
            | (with_reducible refine blk_r ?_)
            | (with_reducible refine blk_e ?_)
            | (with_reducible refine blk_g ?_)
            | (((with_reducible refine blk_o ?_ ?_); first | exact rfl | skip))
            | (refine Endz.mk' (by first | exact Or.inl rfl | exact Or.inr rfl) (by repeat (first | exact RVs.nil | apply RVs.cons | exact RV1.tmp rfl | exact RV1.row rfl rfl rfl (by repeat (first | exact look_here | apply look_there)) (by exact rfl) | exact RV1.cell rfl rfl rfl (by repeat (first | exact look_here | apply look_there)) (by exact rfl))) (by rfl) (by repeat (first | exact List.nil_sublist _ | exact List.Sublist.refl _ | apply List.Sublist.cons_cons | apply List.Sublist.cons))))
          rename_i kx
          refine ⟨(i + 1, some (kx (0 + 1))), ⟨hi, by rw [e]; simp⟩, by show 8 - (i + 1) < 8 - i; omega, ?_⟩
          dsimp only
          rw [e, List.map_append, List.length_append]
          exact Wk.of ⟨rfl, rfl, rfl, rfl, rfl, rfl, rfl, congrArg (fun x => some (I64 x)) hw, trivial⟩ (by repeat (first | exact List.nil_sublist _ | exact List.Sublist.refl _ | apply List.Sublist.cons_cons | apply List.Sublist.cons))
        | true =>
          by_cases hr : R i = 0
          · have hok : okW trips true R i = true := by unfold okW; rw [decide_eq_true hx, decide_eq_true hr]; rfl
            have e := ord_yes hok
            repeat' (first
              | (((first | (with_reducible refine gQ0 ?_) | ((with_reducible refine gQ1 ?_ ?_); (focus (apply wg (r := true); (iterate 6 apply Eq.refl))))); (first | ((with_reducible apply q_loadr layOk); (iterate 3 apply Eq.refl); (focus (repeat (with_reducible (first | apply lh | apply lt)))); exact (fr.seg i hi)) | ((with_reducible apply q_idxN (m := i) layOk); (iterate 4 apply Eq.refl); exact ha; apply Eq.refl; exact hi) | ((with_reducible apply q_buildS (k := ks _) layOk); (iterate 8 apply Eq.refl); (focus (repeat (with_reducible (first | apply lh | apply lt)))); apply Eq.refl) | ((with_reducible apply q_alloc (k := ks _) layOk); apply Eq.refl; (focus (repeat (with_reducible (first | apply lh | apply lt)))); apply Eq.refl) | ((with_reducible apply q_app1 (kn := ks _) layOk); (iterate 9 apply Eq.refl); (focus (repeat (with_reducible (first | apply lh | apply lt)))); (focus (repeat (with_reducible (first | apply lh | apply lt)))); (focus (repeat (with_reducible (first | apply lh | apply lt)))); (focus (decide)); (focus (exact hb8)); (focus (exact hb1)); (focus (exact hcl)); (iterate 3 apply Eq.refl)) | ((with_reducible apply q_move); apply Eq.refl) | ((with_reducible apply q_assign); apply Eq.refl) | ((with_reducible apply q_int); (iterate 3 apply Eq.refl)) | ((with_reducible apply q_fa layOk); (iterate 5 apply Eq.refl)) | ((with_reducible apply q_load layOk); (iterate 3 apply Eq.refl); (focus (repeat (with_reducible (first | apply lh | apply lt)))); apply Eq.refl) | ((with_reducible apply q_loadr layOk); (iterate 3 apply Eq.refl); (focus (repeat (with_reducible (first | apply lh | apply lt)))); apply Eq.refl) | ((with_reducible apply q_not); apply Eq.refl) | ((with_reducible apply q_box (k := ks _)); apply Eq.refl; (focus (repeat (with_reducible (first | apply lh | apply lt)))); apply Eq.refl) | ((with_reducible apply q_alloc (k := ks _) layOk); apply Eq.refl; (focus (repeat (with_reducible (first | apply lh | apply lt)))); apply Eq.refl) | ((with_reducible apply q_pick_t); (iterate 2 apply Eq.refl)) | ((with_reducible apply q_pick_f); (iterate 2 apply Eq.refl)) | ((with_reducible apply q_len layOk); (iterate 4 apply Eq.refl)) | ((with_reducible apply q_shr); (iterate 2 apply Eq.refl); (focus (omega))) | ((with_reducible apply q_shl); (iterate 2 apply Eq.refl); (focus (omega))) | ((with_reducible apply e_store layOk); (iterate 3 apply Eq.refl); (focus (repeat (with_reducible (first | apply lh | apply lt)))); (iterate 5 apply Eq.refl)))))
              | (((with_reducible refine gR ?_); (first | refine RK.peelN rfl ?_ | refine RK.donef rfl ⟨_, rfl, ?_⟩ | refine RK.donet rfl (by kernel_rfl) ⟨_, rfl, ?_⟩)))
              | ((first | (with_reducible refine gQv ?_ ?_) | (with_reducible refine gQe ?_ ?_)); (focus (first | (apply wg (r := false); (iterate 6 apply Eq.refl)) | (apply wz; (iterate 4 apply Eq.refl)))))
              | ((with_reducible refine gK ?_); ((first | (apply gsD; (iterate 4 apply Eq.refl)) | (apply RKo.gsplitE; (iterate 4 apply Eq.refl)) | (apply RKo.gsplitN; (iterate 4 apply Eq.refl)) | (apply RKo.gsplit; (iterate 4 apply Eq.refl))) <;> (intro hc; first | with_reducible exact ff hc | with_reducible exact ff' hc | exact absurd hc (by decide) | with_reducible exact absurd hlt hc | with_reducible exact absurd hx hc | with_reducible exact absurd hr hc | with_reducible exact absurd hc hlt | with_reducible exact absurd hc hx | with_reducible exact absurd hc hr | skip)))
              | (((with_reducible refine gW ?_); (first | with_reducible refine WP.seq ?_ | refine WP.reg mixed (fun ks => _) (fun ks => rfl) (fun ks => ?_) | ((first | (apply cdD; apply Eq.refl) | (apply WP.condE; apply Eq.refl) | (apply WP.condN; apply Eq.refl) | (apply WP.condA; apply Eq.refl)) <;> (intro hc; first | with_reducible exact ff hc | with_reducible exact ff' hc | exact absurd hc (by decide) | with_reducible exact absurd hlt hc | with_reducible exact absurd hx hc | with_reducible exact absurd hr hc | with_reducible exact absurd hc hlt | with_reducible exact absurd hc hx | with_reducible exact absurd hc hr | skip)) | refine WP.ret ?_ | refine WP.skip ?_ | refine WP.exit ?_ | refine WP.goto ?_ | refine WP.label ?_ | refine WP.block ?_)))
              | (with_reducible refine thn_n ?_)
              | (with_reducible refine thn_r ?_)
              | (with_reducible refine thn_e ?_)
              | (with_reducible refine thn_g ?_)
              | (with_reducible refine blk_n ?_)
              | (with_reducible refine blk_r ?_)
              | (with_reducible refine blk_e ?_)
              | (with_reducible refine blk_g ?_)
              | (((with_reducible refine blk_o ?_ ?_); first | exact rfl | skip))
              | (refine Endz.mk' (by first | exact Or.inl rfl | exact Or.inr rfl) (by repeat (first | exact RVs.nil | apply RVs.cons | exact RV1.tmp rfl | exact RV1.row rfl rfl rfl (by repeat (first | exact look_here | apply look_there)) (by exact rfl) | exact RV1.cell rfl rfl rfl (by repeat (first | exact look_here | apply look_there)) (by exact rfl))) (by rfl) (by repeat (first | exact List.nil_sublist _ | exact List.Sublist.refl _ | apply List.Sublist.cons_cons | apply List.Sublist.cons))))
            rename_i kx
            refine ⟨(i + 1, some (kx (0 + 1))), ⟨hi, by rw [e]; simp⟩, by show 8 - (i + 1) < 8 - i; omega, ?_⟩
            dsimp only
            rw [e, List.map_append, List.length_append]
            exact Wk.of ⟨rfl, rfl, rfl, rfl, rfl, rfl, rfl, congrArg (fun x => some (I64 x)) hw, trivial⟩ (by repeat (first | exact List.nil_sublist _ | exact List.Sublist.refl _ | apply List.Sublist.cons_cons | apply List.Sublist.cons))
          · have hok : okW trips true R i = false := by unfold okW; rw [decide_eq_true hx, decide_eq_false hr]; rfl
            have e := ord_no hok
            repeat' (first
              | (((first | (with_reducible refine gQ0 ?_) | ((with_reducible refine gQ1 ?_ ?_); (focus (apply wg (r := true); (iterate 6 apply Eq.refl))))); (first | ((with_reducible apply q_loadr layOk); (iterate 3 apply Eq.refl); (focus (repeat (with_reducible (first | apply lh | apply lt)))); exact (fr.seg i hi)) | ((with_reducible apply q_idxN (m := i) layOk); (iterate 4 apply Eq.refl); exact ha; apply Eq.refl; exact hi) | ((with_reducible apply q_buildS (k := ks _) layOk); (iterate 8 apply Eq.refl); (focus (repeat (with_reducible (first | apply lh | apply lt)))); apply Eq.refl) | ((with_reducible apply q_alloc (k := ks _) layOk); apply Eq.refl; (focus (repeat (with_reducible (first | apply lh | apply lt)))); apply Eq.refl) | ((with_reducible apply q_app1 (kn := ks _) layOk); (iterate 9 apply Eq.refl); (focus (repeat (with_reducible (first | apply lh | apply lt)))); (focus (repeat (with_reducible (first | apply lh | apply lt)))); (focus (repeat (with_reducible (first | apply lh | apply lt)))); (focus (decide)); (focus (exact hb8)); (focus (exact hb1)); (focus (exact hcl)); (iterate 3 apply Eq.refl)) | ((with_reducible apply q_move); apply Eq.refl) | ((with_reducible apply q_assign); apply Eq.refl) | ((with_reducible apply q_int); (iterate 3 apply Eq.refl)) | ((with_reducible apply q_fa layOk); (iterate 5 apply Eq.refl)) | ((with_reducible apply q_load layOk); (iterate 3 apply Eq.refl); (focus (repeat (with_reducible (first | apply lh | apply lt)))); apply Eq.refl) | ((with_reducible apply q_loadr layOk); (iterate 3 apply Eq.refl); (focus (repeat (with_reducible (first | apply lh | apply lt)))); apply Eq.refl) | ((with_reducible apply q_not); apply Eq.refl) | ((with_reducible apply q_box (k := ks _)); apply Eq.refl; (focus (repeat (with_reducible (first | apply lh | apply lt)))); apply Eq.refl) | ((with_reducible apply q_alloc (k := ks _) layOk); apply Eq.refl; (focus (repeat (with_reducible (first | apply lh | apply lt)))); apply Eq.refl) | ((with_reducible apply q_pick_t); (iterate 2 apply Eq.refl)) | ((with_reducible apply q_pick_f); (iterate 2 apply Eq.refl)) | ((with_reducible apply q_len layOk); (iterate 4 apply Eq.refl)) | ((with_reducible apply q_shr); (iterate 2 apply Eq.refl); (focus (omega))) | ((with_reducible apply q_shl); (iterate 2 apply Eq.refl); (focus (omega))) | ((with_reducible apply e_store layOk); (iterate 3 apply Eq.refl); (focus (repeat (with_reducible (first | apply lh | apply lt)))); (iterate 5 apply Eq.refl)))))
              | (((with_reducible refine gR ?_); (first | refine RK.peelN rfl ?_ | refine RK.donef rfl ⟨_, rfl, ?_⟩ | refine RK.donet rfl (by kernel_rfl) ⟨_, rfl, ?_⟩)))
              | ((first | (with_reducible refine gQv ?_ ?_) | (with_reducible refine gQe ?_ ?_)); (focus (first | (apply wg (r := false); (iterate 6 apply Eq.refl)) | (apply wz; (iterate 4 apply Eq.refl)))))
              | ((with_reducible refine gK ?_); ((first | (apply gsD; (iterate 4 apply Eq.refl)) | (apply RKo.gsplitE; (iterate 4 apply Eq.refl)) | (apply RKo.gsplitN; (iterate 4 apply Eq.refl)) | (apply RKo.gsplit; (iterate 4 apply Eq.refl))) <;> (intro hc; first | with_reducible exact ff hc | with_reducible exact ff' hc | exact absurd hc (by decide) | with_reducible exact absurd hlt hc | with_reducible exact absurd hx hc | with_reducible exact absurd hr hc | with_reducible exact absurd hc hlt | with_reducible exact absurd hc hx | with_reducible exact absurd hc hr | skip)))
              | (((with_reducible refine gW ?_); (first | with_reducible refine WP.seq ?_ | refine WP.reg mixed (fun ks => _) (fun ks => rfl) (fun ks => ?_) | ((first | (apply cdD; apply Eq.refl) | (apply WP.condE; apply Eq.refl) | (apply WP.condN; apply Eq.refl) | (apply WP.condA; apply Eq.refl)) <;> (intro hc; first | with_reducible exact ff hc | with_reducible exact ff' hc | exact absurd hc (by decide) | with_reducible exact absurd hlt hc | with_reducible exact absurd hx hc | with_reducible exact absurd hr hc | with_reducible exact absurd hc hlt | with_reducible exact absurd hc hx | with_reducible exact absurd hc hr | skip)) | refine WP.ret ?_ | refine WP.skip ?_ | refine WP.exit ?_ | refine WP.goto ?_ | refine WP.label ?_ | refine WP.block ?_)))
              | (with_reducible refine thn_n ?_)
              | (with_reducible refine thn_r ?_)
              | (with_reducible refine thn_e ?_)
              | (with_reducible refine thn_g ?_)
              | (with_reducible refine blk_n ?_)
              | (with_reducible refine blk_r ?_)
              | (with_reducible refine blk_e ?_)
              | (with_reducible refine blk_g ?_)
              | (((with_reducible refine blk_o ?_ ?_); first | exact rfl | skip))
              | (refine Endz.mk' (by first | exact Or.inl rfl | exact Or.inr rfl) (by repeat (first | exact RVs.nil | apply RVs.cons | exact RV1.tmp rfl | exact RV1.row rfl rfl rfl (by repeat (first | exact look_here | apply look_there)) (by exact rfl) | exact RV1.cell rfl rfl rfl (by repeat (first | exact look_here | apply look_there)) (by exact rfl))) (by rfl) (by repeat (first | exact List.nil_sublist _ | exact List.Sublist.refl _ | apply List.Sublist.cons_cons | apply List.Sublist.cons))))
            refine ⟨(i + 1, some ko), ⟨hi, by rw [e]; exact hno⟩, by show 8 - (i + 1) < 8 - i; omega, ?_⟩
            dsimp only
            rw [e]
            exact Wk.of ⟨rfl, rfl, rfl, rfl, rfl, rfl, rfl, congrArg (fun x => some (I64 x)) hw, trivial⟩ (by repeat (first | exact List.nil_sublist _ | exact List.Sublist.refl _ | apply List.Sublist.cons_cons | apply List.Sublist.cons))
      · have hok : okW trips few R i = false := by unfold okW; rw [decide_eq_false hx]; rfl
        have e := ord_no hok
        repeat' (first
          | (((first | (with_reducible refine gQ0 ?_) | ((with_reducible refine gQ1 ?_ ?_); (focus (apply wg (r := true); (iterate 6 apply Eq.refl))))); (first | ((with_reducible apply q_loadr layOk); (iterate 3 apply Eq.refl); (focus (repeat (with_reducible (first | apply lh | apply lt)))); exact (fr.seg i hi)) | ((with_reducible apply q_idxN (m := i) layOk); (iterate 4 apply Eq.refl); exact ha; apply Eq.refl; exact hi) | ((with_reducible apply q_buildS (k := ks _) layOk); (iterate 8 apply Eq.refl); (focus (repeat (with_reducible (first | apply lh | apply lt)))); apply Eq.refl) | ((with_reducible apply q_alloc (k := ks _) layOk); apply Eq.refl; (focus (repeat (with_reducible (first | apply lh | apply lt)))); apply Eq.refl) | ((with_reducible apply q_app1 (kn := ks _) layOk); (iterate 9 apply Eq.refl); (focus (repeat (with_reducible (first | apply lh | apply lt)))); (focus (repeat (with_reducible (first | apply lh | apply lt)))); (focus (repeat (with_reducible (first | apply lh | apply lt)))); (focus (decide)); (focus (exact hb8)); (focus (exact hb1)); (focus (exact hcl)); (iterate 3 apply Eq.refl)) | ((with_reducible apply q_move); apply Eq.refl) | ((with_reducible apply q_assign); apply Eq.refl) | ((with_reducible apply q_int); (iterate 3 apply Eq.refl)) | ((with_reducible apply q_fa layOk); (iterate 5 apply Eq.refl)) | ((with_reducible apply q_load layOk); (iterate 3 apply Eq.refl); (focus (repeat (with_reducible (first | apply lh | apply lt)))); apply Eq.refl) | ((with_reducible apply q_loadr layOk); (iterate 3 apply Eq.refl); (focus (repeat (with_reducible (first | apply lh | apply lt)))); apply Eq.refl) | ((with_reducible apply q_not); apply Eq.refl) | ((with_reducible apply q_box (k := ks _)); apply Eq.refl; (focus (repeat (with_reducible (first | apply lh | apply lt)))); apply Eq.refl) | ((with_reducible apply q_alloc (k := ks _) layOk); apply Eq.refl; (focus (repeat (with_reducible (first | apply lh | apply lt)))); apply Eq.refl) | ((with_reducible apply q_pick_t); (iterate 2 apply Eq.refl)) | ((with_reducible apply q_pick_f); (iterate 2 apply Eq.refl)) | ((with_reducible apply q_len layOk); (iterate 4 apply Eq.refl)) | ((with_reducible apply q_shr); (iterate 2 apply Eq.refl); (focus (omega))) | ((with_reducible apply q_shl); (iterate 2 apply Eq.refl); (focus (omega))) | ((with_reducible apply e_store layOk); (iterate 3 apply Eq.refl); (focus (repeat (with_reducible (first | apply lh | apply lt)))); (iterate 5 apply Eq.refl)))))
          | (((with_reducible refine gR ?_); (first | refine RK.peelN rfl ?_ | refine RK.donef rfl ⟨_, rfl, ?_⟩ | refine RK.donet rfl (by kernel_rfl) ⟨_, rfl, ?_⟩)))
          | ((first | (with_reducible refine gQv ?_ ?_) | (with_reducible refine gQe ?_ ?_)); (focus (first | (apply wg (r := false); (iterate 6 apply Eq.refl)) | (apply wz; (iterate 4 apply Eq.refl)))))
          | ((with_reducible refine gK ?_); ((first | (apply gsD; (iterate 4 apply Eq.refl)) | (apply RKo.gsplitE; (iterate 4 apply Eq.refl)) | (apply RKo.gsplitN; (iterate 4 apply Eq.refl)) | (apply RKo.gsplit; (iterate 4 apply Eq.refl))) <;> (intro hc; first | with_reducible exact ff hc | with_reducible exact ff' hc | exact absurd hc (by decide) | with_reducible exact absurd hlt hc | with_reducible exact absurd hx hc | with_reducible exact absurd hc hlt | with_reducible exact absurd hc hx | skip)))
          | (((with_reducible refine gW ?_); (first | with_reducible refine WP.seq ?_ | refine WP.reg mixed (fun ks => _) (fun ks => rfl) (fun ks => ?_) | ((first | (apply cdD; apply Eq.refl) | (apply WP.condE; apply Eq.refl) | (apply WP.condN; apply Eq.refl) | (apply WP.condA; apply Eq.refl)) <;> (intro hc; first | with_reducible exact ff hc | with_reducible exact ff' hc | exact absurd hc (by decide) | with_reducible exact absurd hlt hc | with_reducible exact absurd hx hc | with_reducible exact absurd hc hlt | with_reducible exact absurd hc hx | skip)) | refine WP.ret ?_ | refine WP.skip ?_ | refine WP.exit ?_ | refine WP.goto ?_ | refine WP.label ?_ | refine WP.block ?_)))
          | (with_reducible refine thn_n ?_)
          | (with_reducible refine thn_r ?_)
          | (with_reducible refine thn_e ?_)
          | (with_reducible refine thn_g ?_)
          | (with_reducible refine blk_n ?_)
          | (with_reducible refine blk_r ?_)
          | (with_reducible refine blk_e ?_)
          | (with_reducible refine blk_g ?_)
          | (((with_reducible refine blk_o ?_ ?_); first | exact rfl | skip))
          | (refine Endz.mk' (by first | exact Or.inl rfl | exact Or.inr rfl) (by repeat (first | exact RVs.nil | apply RVs.cons | exact RV1.tmp rfl | exact RV1.row rfl rfl rfl (by repeat (first | exact look_here | apply look_there)) (by exact rfl) | exact RV1.cell rfl rfl rfl (by repeat (first | exact look_here | apply look_there)) (by exact rfl))) (by rfl) (by repeat (first | exact List.nil_sublist _ | exact List.Sublist.refl _ | apply List.Sublist.cons_cons | apply List.Sublist.cons))))
        refine ⟨(i + 1, some ko), ⟨hi, by rw [e]; exact hno⟩, by show 8 - (i + 1) < 8 - i; omega, ?_⟩
        dsimp only
        rw [e]
        exact Wk.of ⟨rfl, rfl, rfl, rfl, rfl, rfl, rfl, congrArg (fun x => some (I64 x)) hw, trivial⟩ (by repeat (first | exact List.nil_sublist _ | exact List.Sublist.refl _ | apply List.Sublist.cons_cons | apply List.Sublist.cons))
  have hge : ¬ (i : Int) < (c.fdL : Int) := by omega
  obtain rfl : i = c.fdL := by omega
  rcases ok with _ | ko
  · have hno : (ordN (okW trips few R) c.fdL) = [] := hno
    have ew : wantN c B W R shut trips few = 0 := by unfold wantN; rw [hno]; rfl
    rw [ew]
    dsimp only
    repeat' (first
      | (with_reducible refine loopW_s ?_)
      | (((first | (with_reducible refine gQ0 ?_) | ((with_reducible refine gQ1 ?_ ?_); (focus (apply wg (r := true); (iterate 6 apply Eq.refl))))); (first | ((with_reducible apply q_mkFunc); (iterate 2 apply Eq.refl)) | ((with_reducible apply q_move); apply Eq.refl) | ((with_reducible apply q_assign); apply Eq.refl) | ((with_reducible apply q_int); (iterate 3 apply Eq.refl)) | ((with_reducible apply q_fa layOk); (iterate 5 apply Eq.refl)) | ((with_reducible apply q_load layOk); (iterate 3 apply Eq.refl); (focus (repeat (with_reducible (first | apply lh | apply lt)))); apply Eq.refl) | ((with_reducible apply q_loadr layOk); (iterate 3 apply Eq.refl); (focus (repeat (with_reducible (first | apply lh | apply lt)))); apply Eq.refl) | ((with_reducible apply q_not); apply Eq.refl) | ((with_reducible apply q_box (k := ks _)); apply Eq.refl; (focus (repeat (with_reducible (first | apply lh | apply lt)))); apply Eq.refl) | ((with_reducible apply q_alloc (k := ks _) layOk); apply Eq.refl; (focus (repeat (with_reducible (first | apply lh | apply lt)))); apply Eq.refl) | ((with_reducible apply q_pick_t); (iterate 2 apply Eq.refl)) | ((with_reducible apply q_pick_f); (iterate 2 apply Eq.refl)) | ((with_reducible apply q_len layOk); (iterate 4 apply Eq.refl)) | ((with_reducible apply q_shr); (iterate 2 apply Eq.refl); (focus (omega))) | ((with_reducible apply q_shl); (iterate 2 apply Eq.refl); (focus (omega))) | (refine q_call0 rfl (sort_all0 _) ?_) | ((with_reducible apply e_store layOk); (iterate 3 apply Eq.refl); (focus (repeat (with_reducible (first | apply lh | apply lt)))); (iterate 5 apply Eq.refl)))))
      | (((with_reducible refine gR ?_); (first | refine RK.peelN rfl ?_ | refine RK.donef rfl ⟨_, rfl, ?_⟩ | refine RK.donet rfl (by kernel_rfl) ⟨_, rfl, ?_⟩)))
      | ((first | (with_reducible refine gQv ?_ ?_) | (with_reducible refine gQe ?_ ?_)); (focus (first | (apply wg (r := false); (iterate 6 apply Eq.refl)) | (apply wz; (iterate 4 apply Eq.refl)))))
      | ((with_reducible refine gK ?_); ((first | (apply gsD; (iterate 4 apply Eq.refl)) | (apply RKo.gsplitE; (iterate 4 apply Eq.refl)) | (apply RKo.gsplitN; (iterate 4 apply Eq.refl)) | (apply RKo.gsplit; (iterate 4 apply Eq.refl))) <;> (intro hc; first | with_reducible exact ff hc | with_reducible exact ff' hc | exact absurd hc (by decide) | with_reducible exact absurd hge hc | with_reducible exact absurd hc hge | skip)))
      | (((with_reducible refine gW ?_); (first | refine WP.unroll 1 ?_ | with_reducible refine WP.seq ?_ | refine WP.reg mixed (fun ks => _) (fun ks => rfl) (fun ks => ?_) | ((first | (apply cdD; apply Eq.refl) | (apply WP.condE; apply Eq.refl) | (apply WP.condN; apply Eq.refl) | (apply WP.condA; apply Eq.refl)) <;> (intro hc; first | with_reducible exact ff hc | with_reducible exact ff' hc | exact absurd hc (by decide) | with_reducible exact absurd hge hc | with_reducible exact absurd hc hge | skip)) | refine WP.ret ?_ | refine WP.skip ?_ | refine WP.exit ?_ | refine WP.goto ?_ | refine WP.label ?_ | refine WP.block ?_)))
      | (with_reducible refine thn_n ?_)
      | (with_reducible refine thn_r ?_)
      | (with_reducible refine thn_e ?_)
      | (with_reducible refine thn_g ?_)
      | (with_reducible refine blk_n ?_)
      | (with_reducible refine blk_r ?_)
      | (with_reducible refine blk_e ?_)
      | (with_reducible refine blk_g ?_)
      | (((with_reducible refine blk_o ?_ ?_); first | exact rfl | skip))
      | (refine Endz.mk' (by first | exact Or.inl rfl | exact Or.inr rfl) (by repeat (first | exact RVs.nil | apply RVs.cons | exact RV1.tmp rfl | exact RV1.row rfl rfl rfl (by repeat (first | exact look_here | apply look_there)) (by exact rfl) | exact RV1.cell rfl rfl rfl (by repeat (first | exact look_here | apply look_there)) (by exact rfl))) (by rfl) (by repeat (first | exact List.nil_sublist _ | exact List.Sublist.refl _ | apply List.Sublist.cons_cons | apply List.Sublist.cons))))
  have hno : ¬ (ordN (okW trips few R) c.fdL) = [] := hno
  dsimp only
  have hlt2 := ord_lt (okW trips few R) c.fdL
  unfold wantN
  generalize (ordN (okW trips few R) c.fdL) = L0 at hno hlt2 hlen ⊢
  have h1 : 1 ≤ L0.length := by
    cases L0 with
    | nil => exact absurd rfl hno
    | cons x l => simp
  have hsort := sort_all (kc := kc) fr ha ko L0 hlt2 (by omega) h1
  repeat' (first
    | (((first | (with_reducible refine gQ0 ?_) | ((with_reducible refine gQ1 ?_ ?_); (focus (apply wg (r := true); (iterate 6 apply Eq.refl))))); (first | ((with_reducible apply q_mkFunc); (iterate 2 apply Eq.refl)) | ((with_reducible apply q_move); apply Eq.refl) | ((with_reducible apply q_assign); apply Eq.refl) | ((with_reducible apply q_int); (iterate 3 apply Eq.refl)) | ((with_reducible apply q_fa layOk); (iterate 5 apply Eq.refl)) | ((with_reducible apply q_load layOk); (iterate 3 apply Eq.refl); (focus (repeat (with_reducible (first | apply lh | apply lt)))); apply Eq.refl) | ((with_reducible apply q_loadr layOk); (iterate 3 apply Eq.refl); (focus (repeat (with_reducible (first | apply lh | apply lt)))); apply Eq.refl) | ((with_reducible apply q_not); apply Eq.refl) | ((with_reducible apply q_box (k := ks _)); apply Eq.refl; (focus (repeat (with_reducible (first | apply lh | apply lt)))); apply Eq.refl) | ((with_reducible apply q_alloc (k := ks _) layOk); apply Eq.refl; (focus (repeat (with_reducible (first | apply lh | apply lt)))); apply Eq.refl) | ((with_reducible apply q_pick_t); (iterate 2 apply Eq.refl)) | ((with_reducible apply q_pick_f); (iterate 2 apply Eq.refl)) | ((with_reducible apply q_len layOk); (iterate 4 apply Eq.refl)) | ((with_reducible apply q_shr); (iterate 2 apply Eq.refl); (focus (omega))) | ((with_reducible apply q_shl); (iterate 2 apply Eq.refl); (focus (omega))) | (refine q_callW rfl hsort (by repeat (first | exact Fd.nil | apply Fd.cons | (focus ((repeat (with_reducible (first | apply lh | apply lt))); done)) | (focus (apply lx; (focus (repeat (with_reducible (first | apply lh | apply lt)))); exact rfl)))) (by decide) rfl (by exact rfl) ?_) | ((with_reducible apply e_store layOk); (iterate 3 apply Eq.refl); (focus (repeat (with_reducible (first | apply lh | apply lt)))); (iterate 5 apply Eq.refl)))))
    | (((with_reducible refine gR ?_); (first | refine RK.peelN rfl ?_ | refine RK.donef rfl ⟨_, rfl, ?_⟩ | refine RK.donet rfl (by kernel_rfl) ⟨_, rfl, ?_⟩)))
    | ((first | (with_reducible refine gQv ?_ ?_) | (with_reducible refine gQe ?_ ?_)); (focus (first | (apply wg (r := false); (iterate 6 apply Eq.refl)) | (apply wz; (iterate 4 apply Eq.refl)))))
    | ((with_reducible refine gK ?_); ((first | (apply gsD; (iterate 4 apply Eq.refl)) | (apply RKo.gsplitE; (iterate 4 apply Eq.refl)) | (apply RKo.gsplitN; (iterate 4 apply Eq.refl)) | (apply RKo.gsplit; (iterate 4 apply Eq.refl))) <;> (intro hc; first | with_reducible exact ff hc | with_reducible exact ff' hc | exact absurd hc (by decide) | with_reducible exact absurd hge hc | with_reducible exact absurd hc hge | skip)))
    | (((with_reducible refine gW ?_); (first | with_reducible refine WP.seq ?_ | refine WP.reg mixed (fun ks => _) (fun ks => rfl) (fun ks => ?_) | ((first | (apply cdD; apply Eq.refl) | (apply WP.condE; apply Eq.refl) | (apply WP.condN; apply Eq.refl) | (apply WP.condA; apply Eq.refl)) <;> (intro hc; first | with_reducible exact ff hc | with_reducible exact ff' hc | exact absurd hc (by decide) | with_reducible exact absurd hge hc | with_reducible exact absurd hc hge | skip)) | refine WP.ret ?_ | refine WP.skip ?_ | refine WP.exit ?_ | refine WP.goto ?_ | refine WP.label ?_ | refine WP.block ?_)))
    | (with_reducible refine thn_n ?_)
    | (with_reducible refine thn_r ?_)
    | (with_reducible refine thn_e ?_)
    | (with_reducible refine thn_g ?_)
    | (with_reducible refine blk_n ?_)
    | (with_reducible refine blk_r ?_)
    | (with_reducible refine blk_e ?_)
    | (with_reducible refine blk_g ?_)
    | (((with_reducible refine blk_o ?_ ?_); first | exact rfl | skip))
    | (refine Endz.mk' (by first | exact Or.inl rfl | exact Or.inr rfl) (by repeat (first | exact RVs.nil | apply RVs.cons | exact RV1.tmp rfl | exact RV1.row rfl rfl rfl (by repeat (first | exact look_here | apply look_there)) (by exact rfl) | exact RV1.cell rfl rfl rfl (by repeat (first | exact look_here | apply look_there)) (by exact rfl))) (by rfl) (by repeat (first | exact List.nil_sublist _ | exact List.Sublist.refl _ | apply List.Sublist.cons_cons | apply List.Sublist.cons))))
  rename_i a0 a1 a2
  obtain ⟨kt, hkt⟩ : ∃ kt, a1 0 = kt := ⟨_, rfl⟩
  rw [hkt]
  obtain ⟨L, hL⟩ : ∃ L, sortN R L0 = L := ⟨_, rfl⟩
  have hll : L0.length = L.length := by rw [← hL, sortN_len]
  have hmem : ∀ k ∈ L, k < c.fdL := fun k h => hlt2 k (sortN_mem (hL ▸ h))
  rw [hL, hll]
  refine WP.loopI (n := 88) (α := Nat) (fun p => [(1, some (I64 shut)), (4, some (.pointer (some ⟨kc, 0, none⟩))), (12, some (.pointer (some ⟨kt, 0, none⟩))), (13, some (I64 (((stW c B W R shut L p).2 : Nat) : Int))), (48, some (.slice (some ⟨ko, 0, none⟩) L.length grown)), (49, some (I64 (L.length : Int))), (50, some (I64 ((p : Nat) : Int)))]) (fun p => [(5, .ro 0 tzv), (kf, ob), (kc, .cells c.cells 51), (ko, .row (L.map nI) 3 1), (kt, .cells (tW (stW c B W R shut L p).1) 147)]) (fun p => p ≤ L.length) (fun p => L.length - p) 0 (Wk.of ⟨rfl, rfl, rfl, rfl, rfl, rfl, rfl, trivial⟩ (by repeat (first | exact List.nil_sublist _ | exact List.Sublist.refl _ | apply List.Sublist.cons_cons | apply List.Sublist.cons))) (Nat.zero_le _) (fun p py => ?_)
  have py : p ≤ L.length := py
  by_cases hp : p < L.length
  rotate_left
  · have hge : ¬ (p : Int) < (L.length : Int) := by omega
    obtain rfl : p = L.length := by omega
    have e : (wantL (srcF B shut) W (capOf c) L).2 = (stW c B W R shut L L.length).2 := by unfold wantL stW; rw [List.take_length]
    rw [e]
    repeat' (first
      | (((first | (with_reducible refine gQ0 ?_) | ((with_reducible refine gQ1 ?_ ?_); (focus (apply wg (r := true); (iterate 6 apply Eq.refl))))); (first | ((with_reducible apply q_move); apply Eq.refl) | ((with_reducible apply q_assign); apply Eq.refl) | ((with_reducible apply q_int); (iterate 3 apply Eq.refl)) | ((with_reducible apply q_fa layOk); (iterate 5 apply Eq.refl)) | ((with_reducible apply q_load layOk); (iterate 3 apply Eq.refl); (focus (repeat (with_reducible (first | apply lh | apply lt)))); apply Eq.refl) | ((with_reducible apply q_loadr layOk); (iterate 3 apply Eq.refl); (focus (repeat (with_reducible (first | apply lh | apply lt)))); apply Eq.refl) | ((with_reducible apply q_not); apply Eq.refl) | ((with_reducible apply q_box (k := ks _)); apply Eq.refl; (focus (repeat (with_reducible (first | apply lh | apply lt)))); apply Eq.refl) | ((with_reducible apply q_alloc (k := ks _) layOk); apply Eq.refl; (focus (repeat (with_reducible (first | apply lh | apply lt)))); apply Eq.refl) | ((with_reducible apply q_pick_t); (iterate 2 apply Eq.refl)) | ((with_reducible apply q_pick_f); (iterate 2 apply Eq.refl)) | ((with_reducible apply q_len layOk); (iterate 4 apply Eq.refl)) | ((with_reducible apply q_shr); (iterate 2 apply Eq.refl); (focus (omega))) | ((with_reducible apply q_shl); (iterate 2 apply Eq.refl); (focus (omega))) | ((with_reducible apply e_store layOk); (iterate 3 apply Eq.refl); (focus (repeat (with_reducible (first | apply lh | apply lt)))); (iterate 5 apply Eq.refl)))))
      | (((with_reducible refine gR ?_); (first | refine RK.peelN rfl ?_ | refine RK.donef rfl ⟨_, rfl, ?_⟩ | refine RK.donet rfl (by kernel_rfl) ⟨_, rfl, ?_⟩)))
      | ((first | (with_reducible refine gQv ?_ ?_) | (with_reducible refine gQe ?_ ?_)); (focus (first | (apply wg (r := false); (iterate 6 apply Eq.refl)) | (apply wz; (iterate 4 apply Eq.refl)))))
      | ((with_reducible refine gK ?_); ((first | (apply gsD; (iterate 4 apply Eq.refl)) | (apply RKo.gsplitE; (iterate 4 apply Eq.refl)) | (apply RKo.gsplitN; (iterate 4 apply Eq.refl)) | (apply RKo.gsplit; (iterate 4 apply Eq.refl))) <;> (intro hc; first | with_reducible exact ff hc | with_reducible exact ff' hc | exact absurd hc (by decide) | with_reducible exact absurd hge hc | with_reducible exact absurd hc hge | skip)))
      | (((with_reducible refine gW ?_); (first | with_reducible refine WP.seq ?_ | refine WP.reg mixed (fun ks => _) (fun ks => rfl) (fun ks => ?_) | ((first | (apply cdD; apply Eq.refl) | (apply WP.condE; apply Eq.refl) | (apply WP.condN; apply Eq.refl) | (apply WP.condA; apply Eq.refl)) <;> (intro hc; first | with_reducible exact ff hc | with_reducible exact ff' hc | exact absurd hc (by decide) | with_reducible exact absurd hge hc | with_reducible exact absurd hc hge | skip)) | refine WP.ret ?_ | refine WP.skip ?_ | refine WP.exit ?_ | refine WP.goto ?_ | refine WP.label ?_ | refine WP.block ?_)))
      | (with_reducible refine thn_n ?_)
      | (with_reducible refine thn_r ?_)
      | (with_reducible refine thn_e ?_)
      | (with_reducible refine thn_g ?_)
      | (with_reducible refine blk_n ?_)
      | (with_reducible refine blk_r ?_)
      | (with_reducible refine blk_e ?_)
      | (with_reducible refine blk_g ?_)
      | (((with_reducible refine blk_o ?_ ?_); first | exact rfl | skip))
      | (refine Endz.mk' (by first | exact Or.inl rfl | exact Or.inr rfl) (by repeat (first | exact RVs.nil | apply RVs.cons | exact RV1.tmp rfl | exact RV1.row rfl rfl rfl (by repeat (first | exact look_here | apply look_there)) (by exact rfl) | exact RV1.cell rfl rfl rfl (by repeat (first | exact look_here | apply look_there)) (by exact rfl))) (by rfl) (by repeat (first | exact List.nil_sublist _ | exact List.Sublist.refl _ | apply List.Sublist.cons_cons | apply List.Sublist.cons))))
  have hlt : (p : Int) < (L.length : Int) := by omega
  have hw : IntKind.i64.wrap ((p : Int) + 1) = ((p + 1 : Nat) : Int) := kp1 (by omega)
  have hst := stW_s c B W R shut L hp
  have hrow := row_at nI L 0 hp 3 1
  have hol : (stW c B W R shut L p).2 < 2 ^ 7 := fold_lt _ _ (by decide) (fun k hk => by have := hmem k (List.mem_of_mem_take hk); omega)
  generalize stW c B W R shut L p = st at hst hol ⊢
  obtain ⟨tf, out⟩ := st
  have hk := hmem _ (getD_mem L hp)
  generalize L.getD p 0 = k at hst hrow hk
  obtain ⟨hb1, hb2⟩ := hB k hk
  have hfe := graph_Feeds shut (B k) hb1 hb2
  have hor : orX ((out : Nat) : Int) (shX ((k : Nat) : Int)) = ((out ||| 2 ^ k : Nat) : Int) := by
    rw [sh_eq k (by omega)]; exact or_eq hol (pow7 (by omega))
  rcases feed_cases (bitB shut) (B k) with h | h | h | h | h
  · have hs : srcF B shut k = none := by unfold srcF; rw [if_pos h]
    have e : stW c B W R shut L (p + 1) = (tf, out) := by rw [hst]; exact wStep_none hs
    rw [h] at hfe
    repeat' (first
      | (((first | (with_reducible refine gQ0 ?_) | ((with_reducible refine gQ1 ?_ ?_); (focus (apply wg (r := true); (iterate 6 apply Eq.refl))))); (first | ((with_reducible apply q_load layOk); (iterate 3 apply Eq.refl); (focus (repeat (with_reducible (first | apply lh | apply lt)))); exact hrow) | ((with_reducible apply q_idxN (m := p) layOk); (iterate 4 apply Eq.refl); exact (fun _ => rfl); apply Eq.refl; exact hp) | ((with_reducible apply q_idxN (m := k) layOk); (iterate 4 apply Eq.refl); exact ha; apply Eq.refl; exact hk) | ((with_reducible apply q_load layOk); (iterate 3 apply Eq.refl); (focus (repeat (with_reducible (first | apply lh | apply lt)))); exact (fr.ab k hk)) | ((with_reducible apply q_load layOk); (iterate 3 apply Eq.refl); (focus (repeat (with_reducible (first | apply lh | apply lt)))); exact (fr.aw k hk)) | ((with_reducible apply q_move); apply Eq.refl) | ((with_reducible apply q_assign); apply Eq.refl) | ((with_reducible apply q_int); (iterate 3 apply Eq.refl)) | ((with_reducible apply q_fa layOk); (iterate 5 apply Eq.refl)) | ((with_reducible apply q_load layOk); (iterate 3 apply Eq.refl); (focus (repeat (with_reducible (first | apply lh | apply lt)))); apply Eq.refl) | ((with_reducible apply q_loadr layOk); (iterate 3 apply Eq.refl); (focus (repeat (with_reducible (first | apply lh | apply lt)))); apply Eq.refl) | ((with_reducible apply q_not); apply Eq.refl) | ((with_reducible apply q_box (k := ks _)); apply Eq.refl; (focus (repeat (with_reducible (first | apply lh | apply lt)))); apply Eq.refl) | ((with_reducible apply q_alloc (k := ks _) layOk); apply Eq.refl; (focus (repeat (with_reducible (first | apply lh | apply lt)))); apply Eq.refl) | ((with_reducible apply q_pick_t); (iterate 2 apply Eq.refl)) | ((with_reducible apply q_pick_f); (iterate 2 apply Eq.refl)) | ((with_reducible apply q_len layOk); (iterate 4 apply Eq.refl)) | ((with_reducible apply q_shr); (iterate 2 apply Eq.refl); (focus (omega))) | ((with_reducible apply q_shl); (iterate 2 apply Eq.refl); (focus (omega))) | (refine q_call1r rfl hfe (by first | (focus ((repeat (with_reducible (first | apply lh | apply lt))); done)) | (focus (apply lx; (focus (repeat (with_reducible (first | apply lh | apply lt)))); exact rfl))) ?_) | ((with_reducible apply isF (f := 116)); (refine q_call0 rfl (fixed_Add _ _) ?_)) | ((with_reducible apply e_store layOk); (iterate 3 apply Eq.refl); (focus (repeat (with_reducible (first | apply lh | apply lt)))); (iterate 5 apply Eq.refl)))))
      | (((with_reducible refine gR ?_); (first | refine RK.peelN rfl ?_ | refine RK.donef rfl ⟨_, rfl, ?_⟩ | refine RK.donet rfl (by kernel_rfl) ⟨_, rfl, ?_⟩)))
      | ((first | (with_reducible refine gQv ?_ ?_) | (with_reducible refine gQe ?_ ?_)); (focus (first | (apply wg (r := false); (iterate 6 apply Eq.refl)) | (apply wz; (iterate 4 apply Eq.refl)))))
      | ((with_reducible refine gK ?_); ((first | (apply gsD; (iterate 4 apply Eq.refl)) | (apply RKo.gsplitE; (iterate 4 apply Eq.refl)) | (apply RKo.gsplitN; (iterate 4 apply Eq.refl)) | (apply RKo.gsplit; (iterate 4 apply Eq.refl))) <;> (intro hc; first | with_reducible exact ff hc | with_reducible exact ff' hc | exact absurd hc (by decide) | with_reducible exact absurd hlt hc | with_reducible exact absurd hc hlt | skip)))
      | (((with_reducible refine gW ?_); (first | with_reducible refine WP.seq ?_ | refine WP.reg mixed (fun ks => _) (fun ks => rfl) (fun ks => ?_) | ((first | (apply cdD; apply Eq.refl) | (apply WP.condE; apply Eq.refl) | (apply WP.condN; apply Eq.refl) | (apply WP.condA; apply Eq.refl)) <;> (intro hc; first | with_reducible exact ff hc | with_reducible exact ff' hc | exact absurd hc (by decide) | with_reducible exact absurd hlt hc | with_reducible exact absurd hc hlt | skip)) | refine WP.ret ?_ | refine WP.skip ?_ | refine WP.exit ?_ | refine WP.goto ?_ | refine WP.label ?_ | refine WP.block ?_)))
      | (with_reducible refine thn_n ?_)
      | (with_reducible refine thn_r ?_)
      | (with_reducible refine thn_e ?_)
      | (with_reducible refine thn_g ?_)
      | (with_reducible refine blk_n ?_)
      | (with_reducible refine blk_r ?_)
      | (with_reducible refine blk_e ?_)
      | (with_reducible refine blk_g ?_)
      | (((with_reducible refine blk_o ?_ ?_); first | exact rfl | skip))
      | (refine Endz.mk' (by first | exact Or.inl rfl | exact Or.inr rfl) (by repeat (first | exact RVs.nil | apply RVs.cons | exact RV1.tmp rfl | exact RV1.row rfl rfl rfl (by repeat (first | exact look_here | apply look_there)) (by exact rfl) | exact RV1.cell rfl rfl rfl (by repeat (first | exact look_here | apply look_there)) (by exact rfl))) (by rfl) (by repeat (first | exact List.nil_sublist _ | exact List.Sublist.refl _ | apply List.Sublist.cons_cons | apply List.Sublist.cons))))
    refine ⟨p + 1, hp, by show L.length - (p + 1) < L.length - p; omega, ?_⟩
    rw [e]
    exact Wk.of ⟨rfl, rfl, rfl, rfl, rfl, rfl, congrArg (fun x => some (I64 x)) hw, trivial⟩ (by repeat (first | exact List.nil_sublist _ | exact List.Sublist.refl _ | apply List.Sublist.cons_cons | apply List.Sublist.cons))
  · have hs : srcF B shut k = some 0 := by unfold srcF; rw [if_neg (by rw [h]; decide), h]; rfl
    rw [h] at hfe
    by_cases hc2 : fAdd (tf 0) (W k) ≤ capOf c 0
    · have e : stW c B W R shut L (p + 1) = (fun i => if i = 0 then fAdd (tf 0) (W k) else tf i, out ||| 2 ^ k) := by rw [hst]; exact wStep_yes hs hc2
      repeat' (first
        | (((first | (with_reducible refine gQ0 ?_) | ((with_reducible refine gQ1 ?_ ?_); (focus (apply wg (r := true); (iterate 6 apply Eq.refl))))); (first | ((with_reducible apply q_load layOk); (iterate 3 apply Eq.refl); (focus (repeat (with_reducible (first | apply lh | apply lt)))); exact hrow) | ((with_reducible apply q_idxN (m := p) layOk); (iterate 4 apply Eq.refl); exact (fun _ => rfl); apply Eq.refl; exact hp) | ((with_reducible apply q_idxN (m := k) layOk); (iterate 4 apply Eq.refl); exact ha; apply Eq.refl; exact hk) | ((with_reducible apply q_load layOk); (iterate 3 apply Eq.refl); (focus (repeat (with_reducible (first | apply lh | apply lt)))); exact (fr.ab k hk)) | ((with_reducible apply q_load layOk); (iterate 3 apply Eq.refl); (focus (repeat (with_reducible (first | apply lh | apply lt)))); exact (fr.aw k hk)) | ((with_reducible apply q_idxPN (m := 0) layOk); (iterate 5 apply Eq.refl); (focus (decide))) | ((with_reducible apply q_move); apply Eq.refl) | ((with_reducible apply q_assign); apply Eq.refl) | ((with_reducible apply q_int); (iterate 3 apply Eq.refl)) | ((with_reducible apply q_fa layOk); (iterate 5 apply Eq.refl)) | ((with_reducible apply q_load layOk); (iterate 3 apply Eq.refl); (focus (repeat (with_reducible (first | apply lh | apply lt)))); apply Eq.refl) | ((with_reducible apply q_loadr layOk); (iterate 3 apply Eq.refl); (focus (repeat (with_reducible (first | apply lh | apply lt)))); apply Eq.refl) | ((with_reducible apply q_not); apply Eq.refl) | ((with_reducible apply q_box (k := ks _)); apply Eq.refl; (focus (repeat (with_reducible (first | apply lh | apply lt)))); apply Eq.refl) | ((with_reducible apply q_alloc (k := ks _) layOk); apply Eq.refl; (focus (repeat (with_reducible (first | apply lh | apply lt)))); apply Eq.refl) | ((with_reducible apply q_pick_t); (iterate 2 apply Eq.refl)) | ((with_reducible apply q_pick_f); (iterate 2 apply Eq.refl)) | ((with_reducible apply q_len layOk); (iterate 4 apply Eq.refl)) | ((with_reducible apply q_shr); (iterate 2 apply Eq.refl); (focus (omega))) | ((with_reducible apply q_shl); (iterate 2 apply Eq.refl); (focus (omega))) | (refine q_call1r rfl hfe (by first | (focus ((repeat (with_reducible (first | apply lh | apply lt))); done)) | (focus (apply lx; (focus (repeat (with_reducible (first | apply lh | apply lt)))); exact rfl))) ?_) | ((with_reducible apply isF (f := 116)); (refine q_call0 rfl (fixed_Add _ _) ?_)) | (refine q_call0 rfl (most_0 c) ?_) | ((with_reducible apply e_store layOk); (iterate 3 apply Eq.refl); (focus (repeat (with_reducible (first | apply lh | apply lt)))); (iterate 5 apply Eq.refl)))))
        | (((with_reducible refine gR ?_); (first | refine RK.peelN rfl ?_ | refine RK.donef rfl ⟨_, rfl, ?_⟩ | refine RK.donet rfl (by kernel_rfl) ⟨_, rfl, ?_⟩)))
        | ((first | (with_reducible refine gQv ?_ ?_) | (with_reducible refine gQe ?_ ?_)); (focus (first | (apply wg (r := false); (iterate 6 apply Eq.refl)) | (apply wz; (iterate 4 apply Eq.refl)))))
        | ((with_reducible refine gK ?_); ((first | (apply gsD; (iterate 4 apply Eq.refl)) | (apply RKo.gsplitE; (iterate 4 apply Eq.refl)) | (apply RKo.gsplitN; (iterate 4 apply Eq.refl)) | (apply RKo.gsplit; (iterate 4 apply Eq.refl))) <;> (intro hc; first | with_reducible exact ff hc | with_reducible exact ff' hc | exact absurd hc (by decide) | with_reducible exact absurd hlt hc | with_reducible exact absurd hc2 hc | with_reducible exact absurd hc hlt | with_reducible exact absurd hc hc2 | skip)))
        | (((with_reducible refine gW ?_); (first | with_reducible refine WP.seq ?_ | refine WP.reg mixed (fun ks => _) (fun ks => rfl) (fun ks => ?_) | ((first | (apply cdD; apply Eq.refl) | (apply WP.condE; apply Eq.refl) | (apply WP.condN; apply Eq.refl) | (apply WP.condA; apply Eq.refl)) <;> (intro hc; first | with_reducible exact ff hc | with_reducible exact ff' hc | exact absurd hc (by decide) | with_reducible exact absurd hlt hc | with_reducible exact absurd hc2 hc | with_reducible exact absurd hc hlt | with_reducible exact absurd hc hc2 | skip)) | refine WP.ret ?_ | refine WP.skip ?_ | refine WP.exit ?_ | refine WP.goto ?_ | refine WP.label ?_ | refine WP.block ?_)))
        | (with_reducible refine thn_n ?_)
        | (with_reducible refine thn_r ?_)
        | (with_reducible refine thn_e ?_)
        | (with_reducible refine thn_g ?_)
        | (with_reducible refine blk_n ?_)
        | (with_reducible refine blk_r ?_)
        | (with_reducible refine blk_e ?_)
        | (with_reducible refine blk_g ?_)
        | (((with_reducible refine blk_o ?_ ?_); first | exact rfl | skip))
        | (refine Endz.mk' (by first | exact Or.inl rfl | exact Or.inr rfl) (by repeat (first | exact RVs.nil | apply RVs.cons | exact RV1.tmp rfl | exact RV1.row rfl rfl rfl (by repeat (first | exact look_here | apply look_there)) (by exact rfl) | exact RV1.cell rfl rfl rfl (by repeat (first | exact look_here | apply look_there)) (by exact rfl))) (by rfl) (by repeat (first | exact List.nil_sublist _ | exact List.Sublist.refl _ | apply List.Sublist.cons_cons | apply List.Sublist.cons))))
      refine ⟨p + 1, hp, by show L.length - (p + 1) < L.length - p; omega, ?_⟩
      rw [e]
      exact Wk.of ⟨rfl, rfl, rfl, congrArg (fun x => some (I64 x)) hor, rfl, rfl, congrArg (fun x => some (I64 x)) hw, trivial⟩ (by repeat (first | exact List.nil_sublist _ | exact List.Sublist.refl _ | apply List.Sublist.cons_cons | apply List.Sublist.cons))
    · have e : stW c B W R shut L (p + 1) = (tf, out) := by rw [hst]; exact wStep_no hs hc2
      repeat' (first
        | (((first | (with_reducible refine gQ0 ?_) | ((with_reducible refine gQ1 ?_ ?_); (focus (apply wg (r := true); (iterate 6 apply Eq.refl))))); (first | ((with_reducible apply q_load layOk); (iterate 3 apply Eq.refl); (focus (repeat (with_reducible (first | apply lh | apply lt)))); exact hrow) | ((with_reducible apply q_idxN (m := p) layOk); (iterate 4 apply Eq.refl); exact (fun _ => rfl); apply Eq.refl; exact hp) | ((with_reducible apply q_idxN (m := k) layOk); (iterate 4 apply Eq.refl); exact ha; apply Eq.refl; exact hk) | ((with_reducible apply q_load layOk); (iterate 3 apply Eq.refl); (focus (repeat (with_reducible (first | apply lh | apply lt)))); exact (fr.ab k hk)) | ((with_reducible apply q_load layOk); (iterate 3 apply Eq.refl); (focus (repeat (with_reducible (first | apply lh | apply lt)))); exact (fr.aw k hk)) | ((with_reducible apply q_idxPN (m := 0) layOk); (iterate 5 apply Eq.refl); (focus (decide))) | ((with_reducible apply q_move); apply Eq.refl) | ((with_reducible apply q_assign); apply Eq.refl) | ((with_reducible apply q_int); (iterate 3 apply Eq.refl)) | ((with_reducible apply q_fa layOk); (iterate 5 apply Eq.refl)) | ((with_reducible apply q_load layOk); (iterate 3 apply Eq.refl); (focus (repeat (with_reducible (first | apply lh | apply lt)))); apply Eq.refl) | ((with_reducible apply q_loadr layOk); (iterate 3 apply Eq.refl); (focus (repeat (with_reducible (first | apply lh | apply lt)))); apply Eq.refl) | ((with_reducible apply q_not); apply Eq.refl) | ((with_reducible apply q_box (k := ks _)); apply Eq.refl; (focus (repeat (with_reducible (first | apply lh | apply lt)))); apply Eq.refl) | ((with_reducible apply q_alloc (k := ks _) layOk); apply Eq.refl; (focus (repeat (with_reducible (first | apply lh | apply lt)))); apply Eq.refl) | ((with_reducible apply q_pick_t); (iterate 2 apply Eq.refl)) | ((with_reducible apply q_pick_f); (iterate 2 apply Eq.refl)) | ((with_reducible apply q_len layOk); (iterate 4 apply Eq.refl)) | ((with_reducible apply q_shr); (iterate 2 apply Eq.refl); (focus (omega))) | ((with_reducible apply q_shl); (iterate 2 apply Eq.refl); (focus (omega))) | (refine q_call1r rfl hfe (by first | (focus ((repeat (with_reducible (first | apply lh | apply lt))); done)) | (focus (apply lx; (focus (repeat (with_reducible (first | apply lh | apply lt)))); exact rfl))) ?_) | ((with_reducible apply isF (f := 116)); (refine q_call0 rfl (fixed_Add _ _) ?_)) | (refine q_call0 rfl (most_0 c) ?_) | ((with_reducible apply e_store layOk); (iterate 3 apply Eq.refl); (focus (repeat (with_reducible (first | apply lh | apply lt)))); (iterate 5 apply Eq.refl)))))
        | (((with_reducible refine gR ?_); (first | refine RK.peelN rfl ?_ | refine RK.donef rfl ⟨_, rfl, ?_⟩ | refine RK.donet rfl (by kernel_rfl) ⟨_, rfl, ?_⟩)))
        | ((first | (with_reducible refine gQv ?_ ?_) | (with_reducible refine gQe ?_ ?_)); (focus (first | (apply wg (r := false); (iterate 6 apply Eq.refl)) | (apply wz; (iterate 4 apply Eq.refl)))))
        | ((with_reducible refine gK ?_); ((first | (apply gsD; (iterate 4 apply Eq.refl)) | (apply RKo.gsplitE; (iterate 4 apply Eq.refl)) | (apply RKo.gsplitN; (iterate 4 apply Eq.refl)) | (apply RKo.gsplit; (iterate 4 apply Eq.refl))) <;> (intro hc; first | with_reducible exact ff hc | with_reducible exact ff' hc | exact absurd hc (by decide) | with_reducible exact absurd hlt hc | with_reducible exact absurd hc2 hc | with_reducible exact absurd hc hlt | with_reducible exact absurd hc hc2 | skip)))
        | (((with_reducible refine gW ?_); (first | with_reducible refine WP.seq ?_ | refine WP.reg mixed (fun ks => _) (fun ks => rfl) (fun ks => ?_) | ((first | (apply cdD; apply Eq.refl) | (apply WP.condE; apply Eq.refl) | (apply WP.condN; apply Eq.refl) | (apply WP.condA; apply Eq.refl)) <;> (intro hc; first | with_reducible exact ff hc | with_reducible exact ff' hc | exact absurd hc (by decide) | with_reducible exact absurd hlt hc | with_reducible exact absurd hc2 hc | with_reducible exact absurd hc hlt | with_reducible exact absurd hc hc2 | skip)) | refine WP.ret ?_ | refine WP.skip ?_ | refine WP.exit ?_ | refine WP.goto ?_ | refine WP.label ?_ | refine WP.block ?_)))
        | (with_reducible refine thn_n ?_)
        | (with_reducible refine thn_r ?_)
        | (with_reducible refine thn_e ?_)
        | (with_reducible refine thn_g ?_)
        | (with_reducible refine blk_n ?_)
        | (with_reducible refine blk_r ?_)
        | (with_reducible refine blk_e ?_)
        | (with_reducible refine blk_g ?_)
        | (((with_reducible refine blk_o ?_ ?_); first | exact rfl | skip))
        | (refine Endz.mk' (by first | exact Or.inl rfl | exact Or.inr rfl) (by repeat (first | exact RVs.nil | apply RVs.cons | exact RV1.tmp rfl | exact RV1.row rfl rfl rfl (by repeat (first | exact look_here | apply look_there)) (by exact rfl) | exact RV1.cell rfl rfl rfl (by repeat (first | exact look_here | apply look_there)) (by exact rfl))) (by rfl) (by repeat (first | exact List.nil_sublist _ | exact List.Sublist.refl _ | apply List.Sublist.cons_cons | apply List.Sublist.cons))))
      refine ⟨p + 1, hp, by show L.length - (p + 1) < L.length - p; omega, ?_⟩
      rw [e]
      exact Wk.of ⟨rfl, rfl, rfl, rfl, rfl, rfl, congrArg (fun x => some (I64 x)) hw, trivial⟩ (by repeat (first | exact List.nil_sublist _ | exact List.Sublist.refl _ | apply List.Sublist.cons_cons | apply List.Sublist.cons))
  · have hs : srcF B shut k = some 1 := by unfold srcF; rw [if_neg (by rw [h]; decide), h]; rfl
    rw [h] at hfe
    by_cases hc2 : fAdd (tf 1) (W k) ≤ capOf c 1
    · have e : stW c B W R shut L (p + 1) = (fun i => if i = 1 then fAdd (tf 1) (W k) else tf i, out ||| 2 ^ k) := by rw [hst]; exact wStep_yes hs hc2
      repeat' (first
        | (((first | (with_reducible refine gQ0 ?_) | ((with_reducible refine gQ1 ?_ ?_); (focus (apply wg (r := true); (iterate 6 apply Eq.refl))))); (first | ((with_reducible apply q_load layOk); (iterate 3 apply Eq.refl); (focus (repeat (with_reducible (first | apply lh | apply lt)))); exact hrow) | ((with_reducible apply q_idxN (m := p) layOk); (iterate 4 apply Eq.refl); exact (fun _ => rfl); apply Eq.refl; exact hp) | ((with_reducible apply q_idxN (m := k) layOk); (iterate 4 apply Eq.refl); exact ha; apply Eq.refl; exact hk) | ((with_reducible apply q_load layOk); (iterate 3 apply Eq.refl); (focus (repeat (with_reducible (first | apply lh | apply lt)))); exact (fr.ab k hk)) | ((with_reducible apply q_load layOk); (iterate 3 apply Eq.refl); (focus (repeat (with_reducible (first | apply lh | apply lt)))); exact (fr.aw k hk)) | ((with_reducible apply q_idxPN (m := 1) layOk); (iterate 5 apply Eq.refl); (focus (decide))) | ((with_reducible apply q_move); apply Eq.refl) | ((with_reducible apply q_assign); apply Eq.refl) | ((with_reducible apply q_int); (iterate 3 apply Eq.refl)) | ((with_reducible apply q_fa layOk); (iterate 5 apply Eq.refl)) | ((with_reducible apply q_load layOk); (iterate 3 apply Eq.refl); (focus (repeat (with_reducible (first | apply lh | apply lt)))); apply Eq.refl) | ((with_reducible apply q_loadr layOk); (iterate 3 apply Eq.refl); (focus (repeat (with_reducible (first | apply lh | apply lt)))); apply Eq.refl) | ((with_reducible apply q_not); apply Eq.refl) | ((with_reducible apply q_box (k := ks _)); apply Eq.refl; (focus (repeat (with_reducible (first | apply lh | apply lt)))); apply Eq.refl) | ((with_reducible apply q_alloc (k := ks _) layOk); apply Eq.refl; (focus (repeat (with_reducible (first | apply lh | apply lt)))); apply Eq.refl) | ((with_reducible apply q_pick_t); (iterate 2 apply Eq.refl)) | ((with_reducible apply q_pick_f); (iterate 2 apply Eq.refl)) | ((with_reducible apply q_len layOk); (iterate 4 apply Eq.refl)) | ((with_reducible apply q_shr); (iterate 2 apply Eq.refl); (focus (omega))) | ((with_reducible apply q_shl); (iterate 2 apply Eq.refl); (focus (omega))) | (refine q_call1r rfl hfe (by first | (focus ((repeat (with_reducible (first | apply lh | apply lt))); done)) | (focus (apply lx; (focus (repeat (with_reducible (first | apply lh | apply lt)))); exact rfl))) ?_) | ((with_reducible apply isF (f := 116)); (refine q_call0 rfl (fixed_Add _ _) ?_)) | (refine q_call0 rfl (most_1 c) ?_) | ((with_reducible apply e_store layOk); (iterate 3 apply Eq.refl); (focus (repeat (with_reducible (first | apply lh | apply lt)))); (iterate 5 apply Eq.refl)))))
        | (((with_reducible refine gR ?_); (first | refine RK.peelN rfl ?_ | refine RK.donef rfl ⟨_, rfl, ?_⟩ | refine RK.donet rfl (by kernel_rfl) ⟨_, rfl, ?_⟩)))
        | ((first | (with_reducible refine gQv ?_ ?_) | (with_reducible refine gQe ?_ ?_)); (focus (first | (apply wg (r := false); (iterate 6 apply Eq.refl)) | (apply wz; (iterate 4 apply Eq.refl)))))
        | ((with_reducible refine gK ?_); ((first | (apply gsD; (iterate 4 apply Eq.refl)) | (apply RKo.gsplitE; (iterate 4 apply Eq.refl)) | (apply RKo.gsplitN; (iterate 4 apply Eq.refl)) | (apply RKo.gsplit; (iterate 4 apply Eq.refl))) <;> (intro hc; first | with_reducible exact ff hc | with_reducible exact ff' hc | exact absurd hc (by decide) | with_reducible exact absurd hlt hc | with_reducible exact absurd hc2 hc | with_reducible exact absurd hc hlt | with_reducible exact absurd hc hc2 | skip)))
        | (((with_reducible refine gW ?_); (first | with_reducible refine WP.seq ?_ | refine WP.reg mixed (fun ks => _) (fun ks => rfl) (fun ks => ?_) | ((first | (apply cdD; apply Eq.refl) | (apply WP.condE; apply Eq.refl) | (apply WP.condN; apply Eq.refl) | (apply WP.condA; apply Eq.refl)) <;> (intro hc; first | with_reducible exact ff hc | with_reducible exact ff' hc | exact absurd hc (by decide) | with_reducible exact absurd hlt hc | with_reducible exact absurd hc2 hc | with_reducible exact absurd hc hlt | with_reducible exact absurd hc hc2 | skip)) | refine WP.ret ?_ | refine WP.skip ?_ | refine WP.exit ?_ | refine WP.goto ?_ | refine WP.label ?_ | refine WP.block ?_)))
        | (with_reducible refine thn_n ?_)
        | (with_reducible refine thn_r ?_)
        | (with_reducible refine thn_e ?_)
        | (with_reducible refine thn_g ?_)
        | (with_reducible refine blk_n ?_)
        | (with_reducible refine blk_r ?_)
        | (with_reducible refine blk_e ?_)
        | (with_reducible refine blk_g ?_)
        | (((with_reducible refine blk_o ?_ ?_); first | exact rfl | skip))
        | (refine Endz.mk' (by first | exact Or.inl rfl | exact Or.inr rfl) (by repeat (first | exact RVs.nil | apply RVs.cons | exact RV1.tmp rfl | exact RV1.row rfl rfl rfl (by repeat (first | exact look_here | apply look_there)) (by exact rfl) | exact RV1.cell rfl rfl rfl (by repeat (first | exact look_here | apply look_there)) (by exact rfl))) (by rfl) (by repeat (first | exact List.nil_sublist _ | exact List.Sublist.refl _ | apply List.Sublist.cons_cons | apply List.Sublist.cons))))
      refine ⟨p + 1, hp, by show L.length - (p + 1) < L.length - p; omega, ?_⟩
      rw [e]
      exact Wk.of ⟨rfl, rfl, rfl, congrArg (fun x => some (I64 x)) hor, rfl, rfl, congrArg (fun x => some (I64 x)) hw, trivial⟩ (by repeat (first | exact List.nil_sublist _ | exact List.Sublist.refl _ | apply List.Sublist.cons_cons | apply List.Sublist.cons))
    · have e : stW c B W R shut L (p + 1) = (tf, out) := by rw [hst]; exact wStep_no hs hc2
      repeat' (first
        | (((first | (with_reducible refine gQ0 ?_) | ((with_reducible refine gQ1 ?_ ?_); (focus (apply wg (r := true); (iterate 6 apply Eq.refl))))); (first | ((with_reducible apply q_load layOk); (iterate 3 apply Eq.refl); (focus (repeat (with_reducible (first | apply lh | apply lt)))); exact hrow) | ((with_reducible apply q_idxN (m := p) layOk); (iterate 4 apply Eq.refl); exact (fun _ => rfl); apply Eq.refl; exact hp) | ((with_reducible apply q_idxN (m := k) layOk); (iterate 4 apply Eq.refl); exact ha; apply Eq.refl; exact hk) | ((with_reducible apply q_load layOk); (iterate 3 apply Eq.refl); (focus (repeat (with_reducible (first | apply lh | apply lt)))); exact (fr.ab k hk)) | ((with_reducible apply q_load layOk); (iterate 3 apply Eq.refl); (focus (repeat (with_reducible (first | apply lh | apply lt)))); exact (fr.aw k hk)) | ((with_reducible apply q_idxPN (m := 1) layOk); (iterate 5 apply Eq.refl); (focus (decide))) | ((with_reducible apply q_move); apply Eq.refl) | ((with_reducible apply q_assign); apply Eq.refl) | ((with_reducible apply q_int); (iterate 3 apply Eq.refl)) | ((with_reducible apply q_fa layOk); (iterate 5 apply Eq.refl)) | ((with_reducible apply q_load layOk); (iterate 3 apply Eq.refl); (focus (repeat (with_reducible (first | apply lh | apply lt)))); apply Eq.refl) | ((with_reducible apply q_loadr layOk); (iterate 3 apply Eq.refl); (focus (repeat (with_reducible (first | apply lh | apply lt)))); apply Eq.refl) | ((with_reducible apply q_not); apply Eq.refl) | ((with_reducible apply q_box (k := ks _)); apply Eq.refl; (focus (repeat (with_reducible (first | apply lh | apply lt)))); apply Eq.refl) | ((with_reducible apply q_alloc (k := ks _) layOk); apply Eq.refl; (focus (repeat (with_reducible (first | apply lh | apply lt)))); apply Eq.refl) | ((with_reducible apply q_pick_t); (iterate 2 apply Eq.refl)) | ((with_reducible apply q_pick_f); (iterate 2 apply Eq.refl)) | ((with_reducible apply q_len layOk); (iterate 4 apply Eq.refl)) | ((with_reducible apply q_shr); (iterate 2 apply Eq.refl); (focus (omega))) | ((with_reducible apply q_shl); (iterate 2 apply Eq.refl); (focus (omega))) | (refine q_call1r rfl hfe (by first | (focus ((repeat (with_reducible (first | apply lh | apply lt))); done)) | (focus (apply lx; (focus (repeat (with_reducible (first | apply lh | apply lt)))); exact rfl))) ?_) | ((with_reducible apply isF (f := 116)); (refine q_call0 rfl (fixed_Add _ _) ?_)) | (refine q_call0 rfl (most_1 c) ?_) | ((with_reducible apply e_store layOk); (iterate 3 apply Eq.refl); (focus (repeat (with_reducible (first | apply lh | apply lt)))); (iterate 5 apply Eq.refl)))))
        | (((with_reducible refine gR ?_); (first | refine RK.peelN rfl ?_ | refine RK.donef rfl ⟨_, rfl, ?_⟩ | refine RK.donet rfl (by kernel_rfl) ⟨_, rfl, ?_⟩)))
        | ((first | (with_reducible refine gQv ?_ ?_) | (with_reducible refine gQe ?_ ?_)); (focus (first | (apply wg (r := false); (iterate 6 apply Eq.refl)) | (apply wz; (iterate 4 apply Eq.refl)))))
        | ((with_reducible refine gK ?_); ((first | (apply gsD; (iterate 4 apply Eq.refl)) | (apply RKo.gsplitE; (iterate 4 apply Eq.refl)) | (apply RKo.gsplitN; (iterate 4 apply Eq.refl)) | (apply RKo.gsplit; (iterate 4 apply Eq.refl))) <;> (intro hc; first | with_reducible exact ff hc | with_reducible exact ff' hc | exact absurd hc (by decide) | with_reducible exact absurd hlt hc | with_reducible exact absurd hc2 hc | with_reducible exact absurd hc hlt | with_reducible exact absurd hc hc2 | skip)))
        | (((with_reducible refine gW ?_); (first | with_reducible refine WP.seq ?_ | refine WP.reg mixed (fun ks => _) (fun ks => rfl) (fun ks => ?_) | ((first | (apply cdD; apply Eq.refl) | (apply WP.condE; apply Eq.refl) | (apply WP.condN; apply Eq.refl) | (apply WP.condA; apply Eq.refl)) <;> (intro hc; first | with_reducible exact ff hc | with_reducible exact ff' hc | exact absurd hc (by decide) | with_reducible exact absurd hlt hc | with_reducible exact absurd hc2 hc | with_reducible exact absurd hc hlt | with_reducible exact absurd hc hc2 | skip)) | refine WP.ret ?_ | refine WP.skip ?_ | refine WP.exit ?_ | refine WP.goto ?_ | refine WP.label ?_ | refine WP.block ?_)))
        | (with_reducible refine thn_n ?_)
        | (with_reducible refine thn_r ?_)
        | (with_reducible refine thn_e ?_)
        | (with_reducible refine thn_g ?_)
        | (with_reducible refine blk_n ?_)
        | (with_reducible refine blk_r ?_)
        | (with_reducible refine blk_e ?_)
        | (with_reducible refine blk_g ?_)
        | (((with_reducible refine blk_o ?_ ?_); first | exact rfl | skip))
        | (refine Endz.mk' (by first | exact Or.inl rfl | exact Or.inr rfl) (by repeat (first | exact RVs.nil | apply RVs.cons | exact RV1.tmp rfl | exact RV1.row rfl rfl rfl (by repeat (first | exact look_here | apply look_there)) (by exact rfl) | exact RV1.cell rfl rfl rfl (by repeat (first | exact look_here | apply look_there)) (by exact rfl))) (by rfl) (by repeat (first | exact List.nil_sublist _ | exact List.Sublist.refl _ | apply List.Sublist.cons_cons | apply List.Sublist.cons))))
      refine ⟨p + 1, hp, by show L.length - (p + 1) < L.length - p; omega, ?_⟩
      rw [e]
      exact Wk.of ⟨rfl, rfl, rfl, rfl, rfl, rfl, congrArg (fun x => some (I64 x)) hw, trivial⟩ (by repeat (first | exact List.nil_sublist _ | exact List.Sublist.refl _ | apply List.Sublist.cons_cons | apply List.Sublist.cons))
  · have hs : srcF B shut k = some 2 := by unfold srcF; rw [if_neg (by rw [h]; decide), h]; rfl
    rw [h] at hfe
    by_cases hc2 : fAdd (tf 2) (W k) ≤ capOf c 2
    · have e : stW c B W R shut L (p + 1) = (fun i => if i = 2 then fAdd (tf 2) (W k) else tf i, out ||| 2 ^ k) := by rw [hst]; exact wStep_yes hs hc2
      repeat' (first
        | (((first | (with_reducible refine gQ0 ?_) | ((with_reducible refine gQ1 ?_ ?_); (focus (apply wg (r := true); (iterate 6 apply Eq.refl))))); (first | ((with_reducible apply q_load layOk); (iterate 3 apply Eq.refl); (focus (repeat (with_reducible (first | apply lh | apply lt)))); exact hrow) | ((with_reducible apply q_idxN (m := p) layOk); (iterate 4 apply Eq.refl); exact (fun _ => rfl); apply Eq.refl; exact hp) | ((with_reducible apply q_idxN (m := k) layOk); (iterate 4 apply Eq.refl); exact ha; apply Eq.refl; exact hk) | ((with_reducible apply q_load layOk); (iterate 3 apply Eq.refl); (focus (repeat (with_reducible (first | apply lh | apply lt)))); exact (fr.ab k hk)) | ((with_reducible apply q_load layOk); (iterate 3 apply Eq.refl); (focus (repeat (with_reducible (first | apply lh | apply lt)))); exact (fr.aw k hk)) | ((with_reducible apply q_idxPN (m := 2) layOk); (iterate 5 apply Eq.refl); (focus (decide))) | ((with_reducible apply q_move); apply Eq.refl) | ((with_reducible apply q_assign); apply Eq.refl) | ((with_reducible apply q_int); (iterate 3 apply Eq.refl)) | ((with_reducible apply q_fa layOk); (iterate 5 apply Eq.refl)) | ((with_reducible apply q_load layOk); (iterate 3 apply Eq.refl); (focus (repeat (with_reducible (first | apply lh | apply lt)))); apply Eq.refl) | ((with_reducible apply q_loadr layOk); (iterate 3 apply Eq.refl); (focus (repeat (with_reducible (first | apply lh | apply lt)))); apply Eq.refl) | ((with_reducible apply q_not); apply Eq.refl) | ((with_reducible apply q_box (k := ks _)); apply Eq.refl; (focus (repeat (with_reducible (first | apply lh | apply lt)))); apply Eq.refl) | ((with_reducible apply q_alloc (k := ks _) layOk); apply Eq.refl; (focus (repeat (with_reducible (first | apply lh | apply lt)))); apply Eq.refl) | ((with_reducible apply q_pick_t); (iterate 2 apply Eq.refl)) | ((with_reducible apply q_pick_f); (iterate 2 apply Eq.refl)) | ((with_reducible apply q_len layOk); (iterate 4 apply Eq.refl)) | ((with_reducible apply q_shr); (iterate 2 apply Eq.refl); (focus (omega))) | ((with_reducible apply q_shl); (iterate 2 apply Eq.refl); (focus (omega))) | (refine q_call1r rfl hfe (by first | (focus ((repeat (with_reducible (first | apply lh | apply lt))); done)) | (focus (apply lx; (focus (repeat (with_reducible (first | apply lh | apply lt)))); exact rfl))) ?_) | ((with_reducible apply isF (f := 116)); (refine q_call0 rfl (fixed_Add _ _) ?_)) | (refine q_call0 rfl (most_2 c) ?_) | ((with_reducible apply e_store layOk); (iterate 3 apply Eq.refl); (focus (repeat (with_reducible (first | apply lh | apply lt)))); (iterate 5 apply Eq.refl)))))
        | (((with_reducible refine gR ?_); (first | refine RK.peelN rfl ?_ | refine RK.donef rfl ⟨_, rfl, ?_⟩ | refine RK.donet rfl (by kernel_rfl) ⟨_, rfl, ?_⟩)))
        | ((first | (with_reducible refine gQv ?_ ?_) | (with_reducible refine gQe ?_ ?_)); (focus (first | (apply wg (r := false); (iterate 6 apply Eq.refl)) | (apply wz; (iterate 4 apply Eq.refl)))))
        | ((with_reducible refine gK ?_); ((first | (apply gsD; (iterate 4 apply Eq.refl)) | (apply RKo.gsplitE; (iterate 4 apply Eq.refl)) | (apply RKo.gsplitN; (iterate 4 apply Eq.refl)) | (apply RKo.gsplit; (iterate 4 apply Eq.refl))) <;> (intro hc; first | with_reducible exact ff hc | with_reducible exact ff' hc | exact absurd hc (by decide) | with_reducible exact absurd hlt hc | with_reducible exact absurd hc2 hc | with_reducible exact absurd hc hlt | with_reducible exact absurd hc hc2 | skip)))
        | (((with_reducible refine gW ?_); (first | with_reducible refine WP.seq ?_ | refine WP.reg mixed (fun ks => _) (fun ks => rfl) (fun ks => ?_) | ((first | (apply cdD; apply Eq.refl) | (apply WP.condE; apply Eq.refl) | (apply WP.condN; apply Eq.refl) | (apply WP.condA; apply Eq.refl)) <;> (intro hc; first | with_reducible exact ff hc | with_reducible exact ff' hc | exact absurd hc (by decide) | with_reducible exact absurd hlt hc | with_reducible exact absurd hc2 hc | with_reducible exact absurd hc hlt | with_reducible exact absurd hc hc2 | skip)) | refine WP.ret ?_ | refine WP.skip ?_ | refine WP.exit ?_ | refine WP.goto ?_ | refine WP.label ?_ | refine WP.block ?_)))
        | (with_reducible refine thn_n ?_)
        | (with_reducible refine thn_r ?_)
        | (with_reducible refine thn_e ?_)
        | (with_reducible refine thn_g ?_)
        | (with_reducible refine blk_n ?_)
        | (with_reducible refine blk_r ?_)
        | (with_reducible refine blk_e ?_)
        | (with_reducible refine blk_g ?_)
        | (((with_reducible refine blk_o ?_ ?_); first | exact rfl | skip))
        | (refine Endz.mk' (by first | exact Or.inl rfl | exact Or.inr rfl) (by repeat (first | exact RVs.nil | apply RVs.cons | exact RV1.tmp rfl | exact RV1.row rfl rfl rfl (by repeat (first | exact look_here | apply look_there)) (by exact rfl) | exact RV1.cell rfl rfl rfl (by repeat (first | exact look_here | apply look_there)) (by exact rfl))) (by rfl) (by repeat (first | exact List.nil_sublist _ | exact List.Sublist.refl _ | apply List.Sublist.cons_cons | apply List.Sublist.cons))))
      refine ⟨p + 1, hp, by show L.length - (p + 1) < L.length - p; omega, ?_⟩
      rw [e]
      exact Wk.of ⟨rfl, rfl, rfl, congrArg (fun x => some (I64 x)) hor, rfl, rfl, congrArg (fun x => some (I64 x)) hw, trivial⟩ (by repeat (first | exact List.nil_sublist _ | exact List.Sublist.refl _ | apply List.Sublist.cons_cons | apply List.Sublist.cons))
    · have e : stW c B W R shut L (p + 1) = (tf, out) := by rw [hst]; exact wStep_no hs hc2
      repeat' (first
        | (((first | (with_reducible refine gQ0 ?_) | ((with_reducible refine gQ1 ?_ ?_); (focus (apply wg (r := true); (iterate 6 apply Eq.refl))))); (first | ((with_reducible apply q_load layOk); (iterate 3 apply Eq.refl); (focus (repeat (with_reducible (first | apply lh | apply lt)))); exact hrow) | ((with_reducible apply q_idxN (m := p) layOk); (iterate 4 apply Eq.refl); exact (fun _ => rfl); apply Eq.refl; exact hp) | ((with_reducible apply q_idxN (m := k) layOk); (iterate 4 apply Eq.refl); exact ha; apply Eq.refl; exact hk) | ((with_reducible apply q_load layOk); (iterate 3 apply Eq.refl); (focus (repeat (with_reducible (first | apply lh | apply lt)))); exact (fr.ab k hk)) | ((with_reducible apply q_load layOk); (iterate 3 apply Eq.refl); (focus (repeat (with_reducible (first | apply lh | apply lt)))); exact (fr.aw k hk)) | ((with_reducible apply q_idxPN (m := 2) layOk); (iterate 5 apply Eq.refl); (focus (decide))) | ((with_reducible apply q_move); apply Eq.refl) | ((with_reducible apply q_assign); apply Eq.refl) | ((with_reducible apply q_int); (iterate 3 apply Eq.refl)) | ((with_reducible apply q_fa layOk); (iterate 5 apply Eq.refl)) | ((with_reducible apply q_load layOk); (iterate 3 apply Eq.refl); (focus (repeat (with_reducible (first | apply lh | apply lt)))); apply Eq.refl) | ((with_reducible apply q_loadr layOk); (iterate 3 apply Eq.refl); (focus (repeat (with_reducible (first | apply lh | apply lt)))); apply Eq.refl) | ((with_reducible apply q_not); apply Eq.refl) | ((with_reducible apply q_box (k := ks _)); apply Eq.refl; (focus (repeat (with_reducible (first | apply lh | apply lt)))); apply Eq.refl) | ((with_reducible apply q_alloc (k := ks _) layOk); apply Eq.refl; (focus (repeat (with_reducible (first | apply lh | apply lt)))); apply Eq.refl) | ((with_reducible apply q_pick_t); (iterate 2 apply Eq.refl)) | ((with_reducible apply q_pick_f); (iterate 2 apply Eq.refl)) | ((with_reducible apply q_len layOk); (iterate 4 apply Eq.refl)) | ((with_reducible apply q_shr); (iterate 2 apply Eq.refl); (focus (omega))) | ((with_reducible apply q_shl); (iterate 2 apply Eq.refl); (focus (omega))) | (refine q_call1r rfl hfe (by first | (focus ((repeat (with_reducible (first | apply lh | apply lt))); done)) | (focus (apply lx; (focus (repeat (with_reducible (first | apply lh | apply lt)))); exact rfl))) ?_) | ((with_reducible apply isF (f := 116)); (refine q_call0 rfl (fixed_Add _ _) ?_)) | (refine q_call0 rfl (most_2 c) ?_) | ((with_reducible apply e_store layOk); (iterate 3 apply Eq.refl); (focus (repeat (with_reducible (first | apply lh | apply lt)))); (iterate 5 apply Eq.refl)))))
        | (((with_reducible refine gR ?_); (first | refine RK.peelN rfl ?_ | refine RK.donef rfl ⟨_, rfl, ?_⟩ | refine RK.donet rfl (by kernel_rfl) ⟨_, rfl, ?_⟩)))
        | ((first | (with_reducible refine gQv ?_ ?_) | (with_reducible refine gQe ?_ ?_)); (focus (first | (apply wg (r := false); (iterate 6 apply Eq.refl)) | (apply wz; (iterate 4 apply Eq.refl)))))
        | ((with_reducible refine gK ?_); ((first | (apply gsD; (iterate 4 apply Eq.refl)) | (apply RKo.gsplitE; (iterate 4 apply Eq.refl)) | (apply RKo.gsplitN; (iterate 4 apply Eq.refl)) | (apply RKo.gsplit; (iterate 4 apply Eq.refl))) <;> (intro hc; first | with_reducible exact ff hc | with_reducible exact ff' hc | exact absurd hc (by decide) | with_reducible exact absurd hlt hc | with_reducible exact absurd hc2 hc | with_reducible exact absurd hc hlt | with_reducible exact absurd hc hc2 | skip)))
        | (((with_reducible refine gW ?_); (first | with_reducible refine WP.seq ?_ | refine WP.reg mixed (fun ks => _) (fun ks => rfl) (fun ks => ?_) | ((first | (apply cdD; apply Eq.refl) | (apply WP.condE; apply Eq.refl) | (apply WP.condN; apply Eq.refl) | (apply WP.condA; apply Eq.refl)) <;> (intro hc; first | with_reducible exact ff hc | with_reducible exact ff' hc | exact absurd hc (by decide) | with_reducible exact absurd hlt hc | with_reducible exact absurd hc2 hc | with_reducible exact absurd hc hlt | with_reducible exact absurd hc hc2 | skip)) | refine WP.ret ?_ | refine WP.skip ?_ | refine WP.exit ?_ | refine WP.goto ?_ | refine WP.label ?_ | refine WP.block ?_)))
        | (with_reducible refine thn_n ?_)
        | (with_reducible refine thn_r ?_)
        | (with_reducible refine thn_e ?_)
        | (with_reducible refine thn_g ?_)
        | (with_reducible refine blk_n ?_)
        | (with_reducible refine blk_r ?_)
        | (with_reducible refine blk_e ?_)
        | (with_reducible refine blk_g ?_)
        | (((with_reducible refine blk_o ?_ ?_); first | exact rfl | skip))
        | (refine Endz.mk' (by first | exact Or.inl rfl | exact Or.inr rfl) (by repeat (first | exact RVs.nil | apply RVs.cons | exact RV1.tmp rfl | exact RV1.row rfl rfl rfl (by repeat (first | exact look_here | apply look_there)) (by exact rfl) | exact RV1.cell rfl rfl rfl (by repeat (first | exact look_here | apply look_there)) (by exact rfl))) (by rfl) (by repeat (first | exact List.nil_sublist _ | exact List.Sublist.refl _ | apply List.Sublist.cons_cons | apply List.Sublist.cons))))
      refine ⟨p + 1, hp, by show L.length - (p + 1) < L.length - p; omega, ?_⟩
      rw [e]
      exact Wk.of ⟨rfl, rfl, rfl, rfl, rfl, rfl, congrArg (fun x => some (I64 x)) hw, trivial⟩ (by repeat (first | exact List.nil_sublist _ | exact List.Sublist.refl _ | apply List.Sublist.cons_cons | apply List.Sublist.cons))
  · have hs : srcF B shut k = some 3 := by unfold srcF; rw [if_neg (by rw [h]; decide), h]; rfl
    rw [h] at hfe
    by_cases hc2 : fAdd (tf 3) (W k) ≤ capOf c 3
    · have e : stW c B W R shut L (p + 1) = (fun i => if i = 3 then fAdd (tf 3) (W k) else tf i, out ||| 2 ^ k) := by rw [hst]; exact wStep_yes hs hc2
      repeat' (first
        | (((first | (with_reducible refine gQ0 ?_) | ((with_reducible refine gQ1 ?_ ?_); (focus (apply wg (r := true); (iterate 6 apply Eq.refl))))); (first | ((with_reducible apply q_load layOk); (iterate 3 apply Eq.refl); (focus (repeat (with_reducible (first | apply lh | apply lt)))); exact hrow) | ((with_reducible apply q_idxN (m := p) layOk); (iterate 4 apply Eq.refl); exact (fun _ => rfl); apply Eq.refl; exact hp) | ((with_reducible apply q_idxN (m := k) layOk); (iterate 4 apply Eq.refl); exact ha; apply Eq.refl; exact hk) | ((with_reducible apply q_load layOk); (iterate 3 apply Eq.refl); (focus (repeat (with_reducible (first | apply lh | apply lt)))); exact (fr.ab k hk)) | ((with_reducible apply q_load layOk); (iterate 3 apply Eq.refl); (focus (repeat (with_reducible (first | apply lh | apply lt)))); exact (fr.aw k hk)) | ((with_reducible apply q_idxPN (m := 3) layOk); (iterate 5 apply Eq.refl); (focus (decide))) | ((with_reducible apply q_move); apply Eq.refl) | ((with_reducible apply q_assign); apply Eq.refl) | ((with_reducible apply q_int); (iterate 3 apply Eq.refl)) | ((with_reducible apply q_fa layOk); (iterate 5 apply Eq.refl)) | ((with_reducible apply q_load layOk); (iterate 3 apply Eq.refl); (focus (repeat (with_reducible (first | apply lh | apply lt)))); apply Eq.refl) | ((with_reducible apply q_loadr layOk); (iterate 3 apply Eq.refl); (focus (repeat (with_reducible (first | apply lh | apply lt)))); apply Eq.refl) | ((with_reducible apply q_not); apply Eq.refl) | ((with_reducible apply q_box (k := ks _)); apply Eq.refl; (focus (repeat (with_reducible (first | apply lh | apply lt)))); apply Eq.refl) | ((with_reducible apply q_alloc (k := ks _) layOk); apply Eq.refl; (focus (repeat (with_reducible (first | apply lh | apply lt)))); apply Eq.refl) | ((with_reducible apply q_pick_t); (iterate 2 apply Eq.refl)) | ((with_reducible apply q_pick_f); (iterate 2 apply Eq.refl)) | ((with_reducible apply q_len layOk); (iterate 4 apply Eq.refl)) | ((with_reducible apply q_shr); (iterate 2 apply Eq.refl); (focus (omega))) | ((with_reducible apply q_shl); (iterate 2 apply Eq.refl); (focus (omega))) | (refine q_call1r rfl hfe (by first | (focus ((repeat (with_reducible (first | apply lh | apply lt))); done)) | (focus (apply lx; (focus (repeat (with_reducible (first | apply lh | apply lt)))); exact rfl))) ?_) | ((with_reducible apply isF (f := 116)); (refine q_call0 rfl (fixed_Add _ _) ?_)) | (refine q_call0 rfl (most_3 c) ?_) | ((with_reducible apply e_store layOk); (iterate 3 apply Eq.refl); (focus (repeat (with_reducible (first | apply lh | apply lt)))); (iterate 5 apply Eq.refl)))))
        | (((with_reducible refine gR ?_); (first | refine RK.peelN rfl ?_ | refine RK.donef rfl ⟨_, rfl, ?_⟩ | refine RK.donet rfl (by kernel_rfl) ⟨_, rfl, ?_⟩)))
        | ((first | (with_reducible refine gQv ?_ ?_) | (with_reducible refine gQe ?_ ?_)); (focus (first | (apply wg (r := false); (iterate 6 apply Eq.refl)) | (apply wz; (iterate 4 apply Eq.refl)))))
        | ((with_reducible refine gK ?_); ((first | (apply gsD; (iterate 4 apply Eq.refl)) | (apply RKo.gsplitE; (iterate 4 apply Eq.refl)) | (apply RKo.gsplitN; (iterate 4 apply Eq.refl)) | (apply RKo.gsplit; (iterate 4 apply Eq.refl))) <;> (intro hc; first | with_reducible exact ff hc | with_reducible exact ff' hc | exact absurd hc (by decide) | with_reducible exact absurd hlt hc | with_reducible exact absurd hc2 hc | with_reducible exact absurd hc hlt | with_reducible exact absurd hc hc2 | skip)))
        | (((with_reducible refine gW ?_); (first | with_reducible refine WP.seq ?_ | refine WP.reg mixed (fun ks => _) (fun ks => rfl) (fun ks => ?_) | ((first | (apply cdD; apply Eq.refl) | (apply WP.condE; apply Eq.refl) | (apply WP.condN; apply Eq.refl) | (apply WP.condA; apply Eq.refl)) <;> (intro hc; first | with_reducible exact ff hc | with_reducible exact ff' hc | exact absurd hc (by decide) | with_reducible exact absurd hlt hc | with_reducible exact absurd hc2 hc | with_reducible exact absurd hc hlt | with_reducible exact absurd hc hc2 | skip)) | refine WP.ret ?_ | refine WP.skip ?_ | refine WP.exit ?_ | refine WP.goto ?_ | refine WP.label ?_ | refine WP.block ?_)))
        | (with_reducible refine thn_n ?_)
        | (with_reducible refine thn_r ?_)
        | (with_reducible refine thn_e ?_)
        | (with_reducible refine thn_g ?_)
        | (with_reducible refine blk_n ?_)
        | (with_reducible refine blk_r ?_)
        | (with_reducible refine blk_e ?_)
        | (with_reducible refine blk_g ?_)
        | (((with_reducible refine blk_o ?_ ?_); first | exact rfl | skip))
        | (refine Endz.mk' (by first | exact Or.inl rfl | exact Or.inr rfl) (by repeat (first | exact RVs.nil | apply RVs.cons | exact RV1.tmp rfl | exact RV1.row rfl rfl rfl (by repeat (first | exact look_here | apply look_there)) (by exact rfl) | exact RV1.cell rfl rfl rfl (by repeat (first | exact look_here | apply look_there)) (by exact rfl))) (by rfl) (by repeat (first | exact List.nil_sublist _ | exact List.Sublist.refl _ | apply List.Sublist.cons_cons | apply List.Sublist.cons))))
      refine ⟨p + 1, hp, by show L.length - (p + 1) < L.length - p; omega, ?_⟩
      rw [e]
      exact Wk.of ⟨rfl, rfl, rfl, congrArg (fun x => some (I64 x)) hor, rfl, rfl, congrArg (fun x => some (I64 x)) hw, trivial⟩ (by repeat (first | exact List.nil_sublist _ | exact List.Sublist.refl _ | apply List.Sublist.cons_cons | apply List.Sublist.cons))
    · have e : stW c B W R shut L (p + 1) = (tf, out) := by rw [hst]; exact wStep_no hs hc2
      repeat' (first
        | (((first | (with_reducible refine gQ0 ?_) | ((with_reducible refine gQ1 ?_ ?_); (focus (apply wg (r := true); (iterate 6 apply Eq.refl))))); (first | ((with_reducible apply q_load layOk); (iterate 3 apply Eq.refl); (focus (repeat (with_reducible (first | apply lh | apply lt)))); exact hrow) | ((with_reducible apply q_idxN (m := p) layOk); (iterate 4 apply Eq.refl); exact (fun _ => rfl); apply Eq.refl; exact hp) | ((with_reducible apply q_idxN (m := k) layOk); (iterate 4 apply Eq.refl); exact ha; apply Eq.refl; exact hk) | ((with_reducible apply q_load layOk); (iterate 3 apply Eq.refl); (focus (repeat (with_reducible (first | apply lh | apply lt)))); exact (fr.ab k hk)) | ((with_reducible apply q_load layOk); (iterate 3 apply Eq.refl); (focus (repeat (with_reducible (first | apply lh | apply lt)))); exact (fr.aw k hk)) | ((with_reducible apply q_idxPN (m := 3) layOk); (iterate 5 apply Eq.refl); (focus (decide))) | ((with_reducible apply q_move); apply Eq.refl) | ((with_reducible apply q_assign); apply Eq.refl) | ((with_reducible apply q_int); (iterate 3 apply Eq.refl)) | ((with_reducible apply q_fa layOk); (iterate 5 apply Eq.refl)) | ((with_reducible apply q_load layOk); (iterate 3 apply Eq.refl); (focus (repeat (with_reducible (first | apply lh | apply lt)))); apply Eq.refl) | ((with_reducible apply q_loadr layOk); (iterate 3 apply Eq.refl); (focus (repeat (with_reducible (first | apply lh | apply lt)))); apply Eq.refl) | ((with_reducible apply q_not); apply Eq.refl) | ((with_reducible apply q_box (k := ks _)); apply Eq.refl; (focus (repeat (with_reducible (first | apply lh | apply lt)))); apply Eq.refl) | ((with_reducible apply q_alloc (k := ks _) layOk); apply Eq.refl; (focus (repeat (with_reducible (first | apply lh | apply lt)))); apply Eq.refl) | ((with_reducible apply q_pick_t); (iterate 2 apply Eq.refl)) | ((with_reducible apply q_pick_f); (iterate 2 apply Eq.refl)) | ((with_reducible apply q_len layOk); (iterate 4 apply Eq.refl)) | ((with_reducible apply q_shr); (iterate 2 apply Eq.refl); (focus (omega))) | ((with_reducible apply q_shl); (iterate 2 apply Eq.refl); (focus (omega))) | (refine q_call1r rfl hfe (by first | (focus ((repeat (with_reducible (first | apply lh | apply lt))); done)) | (focus (apply lx; (focus (repeat (with_reducible (first | apply lh | apply lt)))); exact rfl))) ?_) | ((with_reducible apply isF (f := 116)); (refine q_call0 rfl (fixed_Add _ _) ?_)) | (refine q_call0 rfl (most_3 c) ?_) | ((with_reducible apply e_store layOk); (iterate 3 apply Eq.refl); (focus (repeat (with_reducible (first | apply lh | apply lt)))); (iterate 5 apply Eq.refl)))))
        | (((with_reducible refine gR ?_); (first | refine RK.peelN rfl ?_ | refine RK.donef rfl ⟨_, rfl, ?_⟩ | refine RK.donet rfl (by kernel_rfl) ⟨_, rfl, ?_⟩)))
        | ((first | (with_reducible refine gQv ?_ ?_) | (with_reducible refine gQe ?_ ?_)); (focus (first | (apply wg (r := false); (iterate 6 apply Eq.refl)) | (apply wz; (iterate 4 apply Eq.refl)))))
        | ((with_reducible refine gK ?_); ((first | (apply gsD; (iterate 4 apply Eq.refl)) | (apply RKo.gsplitE; (iterate 4 apply Eq.refl)) | (apply RKo.gsplitN; (iterate 4 apply Eq.refl)) | (apply RKo.gsplit; (iterate 4 apply Eq.refl))) <;> (intro hc; first | with_reducible exact ff hc | with_reducible exact ff' hc | exact absurd hc (by decide) | with_reducible exact absurd hlt hc | with_reducible exact absurd hc2 hc | with_reducible exact absurd hc hlt | with_reducible exact absurd hc hc2 | skip)))
        | (((with_reducible refine gW ?_); (first | with_reducible refine WP.seq ?_ | refine WP.reg mixed (fun ks => _) (fun ks => rfl) (fun ks => ?_) | ((first | (apply cdD; apply Eq.refl) | (apply WP.condE; apply Eq.refl) | (apply WP.condN; apply Eq.refl) | (apply WP.condA; apply Eq.refl)) <;> (intro hc; first | with_reducible exact ff hc | with_reducible exact ff' hc | exact absurd hc (by decide) | with_reducible exact absurd hlt hc | with_reducible exact absurd hc2 hc | with_reducible exact absurd hc hlt | with_reducible exact absurd hc hc2 | skip)) | refine WP.ret ?_ | refine WP.skip ?_ | refine WP.exit ?_ | refine WP.goto ?_ | refine WP.label ?_ | refine WP.block ?_)))
        | (with_reducible refine thn_n ?_)
        | (with_reducible refine thn_r ?_)
        | (with_reducible refine thn_e ?_)
        | (with_reducible refine thn_g ?_)
        | (with_reducible refine blk_n ?_)
        | (with_reducible refine blk_r ?_)
        | (with_reducible refine blk_e ?_)
        | (with_reducible refine blk_g ?_)
        | (((with_reducible refine blk_o ?_ ?_); first | exact rfl | skip))
        | (refine Endz.mk' (by first | exact Or.inl rfl | exact Or.inr rfl) (by repeat (first | exact RVs.nil | apply RVs.cons | exact RV1.tmp rfl | exact RV1.row rfl rfl rfl (by repeat (first | exact look_here | apply look_there)) (by exact rfl) | exact RV1.cell rfl rfl rfl (by repeat (first | exact look_here | apply look_there)) (by exact rfl))) (by rfl) (by repeat (first | exact List.nil_sublist _ | exact List.Sublist.refl _ | apply List.Sublist.cons_cons | apply List.Sublist.cons))))
      refine ⟨p + 1, hp, by show L.length - (p + 1) < L.length - p; omega, ?_⟩
      rw [e]
      exact Wk.of ⟨rfl, rfl, rfl, rfl, rfl, rfl, congrArg (fun x => some (I64 x)) hw, trivial⟩ (by repeat (first | exact List.nil_sublist _ | exact List.Sublist.refl _ | apply List.Sublist.cons_cons | apply List.Sublist.cons))

end Go.Proofs.YtlhhcongoplfpaaDoor
