/- What functions of this program do, each as a contract that its callers use, and what follows of it in plain numbers.
   By an AI agent. -/
import Derived.Test.YtlhhcongoplfpaaDoorDLO
import Derived.Test.YtlhhcongoplfpaaDoorSK5
namespace Go.Proofs.YtlhhcongoplfpaaDoor
open Go Go.Proofs.YtlhhcongoplfpaaDoorAB
set_option linter.unusedSimpArgs false
set_option linter.unusedVariables false

section
variable {src : Nat → Option Nat} {load cap : Nat → Int}
theorem want_nosrc (h : ∀ k, src k = none) : ∀ (ord : List Nat) (st : (Nat → Int) × Nat), ord.foldl (wStep src load cap) st = st
  | [], st => rfl
  | k :: ord, st => by rw [List.foldl_cons, wStep_none (h k), want_nosrc h ord st]
end
theorem feed0 (b : Nat) (h : 4 ≤ b) (h2 : b < 7) : feedN (bitB 0) b = -1 := by
  have q : ∀ b : Fin 7, 4 ≤ b.val → feedN (bitB 0) b.val = -1 := by decide +kernel
  exact q ⟨b, h2⟩ h
theorem want_dark (c : Cfg) {B : Nat → Nat} (hB : ∀ i, 4 ≤ B i ∧ B i < 7) (W R : Nat → Int) (trips : Int) (few : Bool) : wantN c B W R 0 trips few = 0 := by
  unfold wantN wantL
  rw [want_nosrc (fun k => by unfold srcF; rw [if_pos (feed0 _ (hB k).1 (hB k).2)])]
theorem ord_none (c : Nat → Bool) : ∀ n : Nat, (∀ i, i < n → c i = false) → ordN c n = []
  | 0, _ => rfl
  | n + 1, h => by rw [ord_no (h n (by omega)), ord_none c n (fun i hi => h i (by omega))]
theorem bits16 : ∀ i : Fin 7, bitX 65535 i.val = 1 := by decide +kernel
theorem want_tripped (c : Cfg) (B : Nat → Nat) (W R : Nat → Int) (shut : Int) (few : Bool) (h : c.fdL ≤ 7) : wantN c B W R shut 65535 few = 0 := by
  unfold wantN
  rw [ord_none _ _ (fun i hi => by unfold okW; rw [bits16 ⟨i, by omega⟩]; rfl)]
  rfl
theorem wantN_lt (c : Cfg) (B : Nat → Nat) (W R : Nat → Int) (shut trips : Int) (few : Bool) (h : c.fdL ≤ 7) : wantN c B W R shut trips few < 128 := by
  unfold wantN wantL
  exact fold_lt (n := 7) _ _ (by decide) (fun k hk => by have := ord_lt _ _ k (sortN_mem hk); omega)
theorem wantN_bit {c : Cfg} {B : Nat → Nat} {W R : Nat → Int} {shut trips : Int} {few : Bool} {i : Nat} (h : (wantN c B W R shut trips few).testBit i = true) : i < c.fdL ∧ okW trips few R i = true ∧ ∃ s, srcF B shut i = some s := by
  unfold wantN at h
  obtain ⟨a, b⟩ := want_bit h
  have hm := sortN_mem a
  refine ⟨ord_lt _ _ i hm, ?_, b⟩
  rw [ord_filter] at hm
  exact (List.mem_filter.1 hm).2
/-- With few alone those of the first rank are wanted, as ever. -/
theorem want_few {c : Cfg} {B : Nat → Nat} {W R : Nat → Int} (hk : ∀ k, 0 ≤ R k ∧ R k ≤ 3) {shut trips : Int} {i : Nat} (h : (wantN c B W R shut trips true).testBit i = true) : (wantN c B W R shut trips false).testBit i = true := by
  unfold wantN at h ⊢
  rw [sort_cat hk, ord_filter] at h ⊢
  have e : ∀ p : Int, p ≠ 0 → ((List.range c.fdL).filter (okW trips true R)).filter (fun k => decide (R k = p)) = [] := fun p hp => by
    rw [List.filter_eq_nil_iff]
    intro k hk' h2
    have h1 := (List.mem_filter.1 hk').2
    have h2 := of_decide_eq_true h2
    unfold okW at h1
    rw [Bool.and_eq_true] at h1
    have := of_decide_eq_true (by simpa using h1.2 : decide (R k = 0) = true)
    omega
  have e0 : ((List.range c.fdL).filter (okW trips true R)).filter (fun k => decide (R k = 0)) = ((List.range c.fdL).filter (okW trips false R)).filter (fun k => decide (R k = 0)) := by
    rw [List.filter_filter, List.filter_filter]
    refine List.filter_congr fun k _ => ?_
    unfold okW
    cases decide (R k = 0) <;> cases decide (bitX trips k = 0) <;> rfl
  unfold catF at h
  rw [e 1 (by decide), e 2 (by decide), e 3 (by decide), e0] at h
  simp only [List.append_nil] at h
  unfold catF wantL
  rw [List.foldl_append]
  exact fold_more i _ _ h
theorem okW_trip {trips : Int} {few : Bool} {R : Nat → Int} {i : Nat} (h : okW trips few R i = true) : bitX trips i = 0 := by
  unfold okW at h; rw [Bool.and_eq_true] at h; exact of_decide_eq_true h.1
theorem okW_few {trips : Int} {R : Nat → Int} {i : Nat} (h : okW trips true R i = true) : R i = 0 := by
  unfold okW at h; rw [Bool.and_eq_true] at h; exact of_decide_eq_true (by simpa using h.2)

theorem cfg_cases (n m k : Int) : (∃ N : Nat, N ≤ 6 ∧ ∀ k1 k2 : Nat, Ctr Tryd.prog 6 41 [I64 n, I64 m, I64 k] [(k1, .gone), (k2, .gone)] (.agg ⟨(cfgOf n m k (some ⟨k1, 0, none⟩) (some ⟨k2, 0, none⟩) N grown).cells⟩) [.cells ocv 27, .row (feeds k N) 97 3]) ∨
    ∀ k1 k2 : Nat, Ctr Tryd.prog 6 41 [I64 n, I64 m, I64 k] [(k1, .gone), (k2, .gone)] (.agg ⟨(cfgOf n m k (some ⟨k1, 0, none⟩) none 0 0).cells⟩) [.cells ocv 27, .lost] := by
  by_cases h : (0 : Int) < cnt m
  · have h7 : cnt m < 7 := by unfold cnt; exact Int.tmod_lt_of_pos _ (by decide)
    exact .inl ⟨(cnt m).toNat, by omega, fun k1 k2 => make_Config1 n m k k1 k2 h⟩
  · exact .inr fun k1 k2 => ((make_Config0 n m k k1 h).more (k2, .gone)).lose rfl fun i o ho => by
      match i, ho with
      | 0, ho => exact .inr ho
      | 1, ho => cases ho; exact .inl rfl
set_option maxHeartbeats 16000000 in
theorem shedTrips_A (n m k : Int) (shut trips : Int) (N : Nat) (hN6 : N ≤ 6) (hmk : ∀ k1 k2 : Nat, Ctr Tryd.prog 6 41 [I64 n, I64 m, I64 k] [(k1, .gone), (k2, .gone)] (.agg ⟨(cfgOf n m k (some ⟨k1, 0, none⟩) (some ⟨k2, 0, none⟩) N grown).cells⟩) [.cells ocv 27, .row (feeds k N) 97 3]) : Ctr Tryd.prog 6 20 [I64 n, I64 m, I64 k, I64 shut, I64 trips] [(5, .ro 0 tzv)] (.bool true) [.ro 0 tzv] := by
  have hN := world_Number (G := 6) shut 128 (by decide)
  obtain ⟨w, ew, hw⟩ := num_nat0 shut 128 (by decide) (by decide)
  rw [ew] at hN
  have hw : w < 128 := Int.ofNat_lt.1 hw
  clear ew
  refine Ctr.by layOk Tryd.func20 Tryd.ntmps20 rfl rfl rfl rfl rfl ?_
  repeat' (first
    | (((first | (with_reducible refine gQ0 ?_) | ((with_reducible refine gQ1 ?_ ?_); (focus (apply wg (r := true); (iterate 6 apply Eq.refl))))); (first | ((with_reducible apply q_move); apply Eq.refl) | ((with_reducible apply q_assign); apply Eq.refl) | ((with_reducible apply q_int); (iterate 3 apply Eq.refl)) | ((with_reducible apply q_fa layOk); (iterate 5 apply Eq.refl)) | ((with_reducible apply q_load layOk); (iterate 3 apply Eq.refl); (focus (repeat (with_reducible (first | apply lh | apply lt)))); apply Eq.refl) | ((with_reducible apply q_loadr layOk); (iterate 3 apply Eq.refl); (focus (repeat (with_reducible (first | apply lh | apply lt)))); apply Eq.refl) | ((with_reducible apply q_not); apply Eq.refl) | ((with_reducible apply q_alloc (k := ks _) layOk); apply Eq.refl; (focus (repeat (with_reducible (first | apply lh | apply lt)))); apply Eq.refl) | ((with_reducible apply q_pick_t); (iterate 2 apply Eq.refl)) | ((with_reducible apply q_pick_f); (iterate 2 apply Eq.refl)) | ((with_reducible apply q_len layOk); (iterate 4 apply Eq.refl)) | ((with_reducible apply q_conv); apply Eq.refl; exact Tryd.underlying3; exact Tryd.underlying73) | ((with_reducible apply q_shr); (iterate 2 apply Eq.refl); exact hu) | (refine q_call1r rfl (first25 ()) (by first | (focus ((repeat (with_reducible (first | apply lh | apply lt))); done)) | (focus (apply lx; (focus (repeat (with_reducible (first | apply lh | apply lt)))); exact rfl))) ?_) | (refine q_call2 rfl (hmk (ks 0) (ks 1)) (by first | (focus ((repeat (with_reducible (first | apply lh | apply lt))); done)) | (focus (apply lx; (focus (repeat (with_reducible (first | apply lh | apply lt)))); exact rfl))) (by first | (focus ((repeat (with_reducible (first | apply lh | apply lt))); done)) | (focus (apply lx; (focus (repeat (with_reducible (first | apply lh | apply lt)))); exact rfl))) (by decide) (by exact rfl) ?_) | (refine q_call0 rfl hN ?_) | ((with_reducible apply e_store layOk); (iterate 3 apply Eq.refl); (focus (repeat (with_reducible (first | apply lh | apply lt)))); (iterate 5 apply Eq.refl)))))
    | (((with_reducible refine gR ?_); (first | refine RK.peelN rfl ?_ | refine RK.donef rfl ⟨_, rfl, ?_⟩ | refine RK.donet rfl (by kernel_rfl) ⟨_, rfl, ?_⟩)))
    | ((first | (with_reducible refine gQv ?_ ?_) | (with_reducible refine gQe ?_ ?_)); (focus (first | (apply wg (r := false); (iterate 6 apply Eq.refl)) | (apply wz; (iterate 4 apply Eq.refl)))))
    | ((with_reducible refine gK ?_); ((first | (apply gsD; (iterate 4 apply Eq.refl)) | (apply RKo.gsplitE; (iterate 4 apply Eq.refl)) | (apply RKo.gsplitN; (iterate 4 apply Eq.refl)) | (apply RKo.gsplit; (iterate 4 apply Eq.refl))) <;> (intro hc; first | with_reducible exact ff hc | with_reducible exact ff' hc | exact absurd hc (by decide) | exact absurd rfl hc | skip)))
    | (((with_reducible refine gW ?_); (first | with_reducible refine WP.seq ?_ | refine WP.reg mixed (fun ks => _) (fun ks => rfl) (fun ks => ?_) | ((first | (apply cdD; apply Eq.refl) | (apply WP.condE; apply Eq.refl) | (apply WP.condN; apply Eq.refl) | (apply WP.condA; apply Eq.refl)) <;> (intro hc; first | with_reducible exact ff hc | with_reducible exact ff' hc | exact absurd hc (by decide) | exact absurd rfl hc | skip)) | refine WP.ret ?_ | refine WP.skip ?_ | refine WP.exit ?_ | refine WP.goto ?_ | refine WP.label ?_ | refine WP.block ?_)))
    | (with_reducible refine thn_n ?_)
    | (with_reducible refine thn_r ?_)
    | (with_reducible refine thn_e ?_)
    | (with_reducible refine thn_g ?_)
    | (with_reducible refine blk_n ?_)
    | (with_reducible refine blk_r ?_)
    | (with_reducible refine blk_e ?_)
    | (with_reducible refine blk_g ?_)
    | (((with_reducible refine blk_o ?_ ?_); first | exact rfl | skip))
    | (refine Endz.mk' (by first | exact Or.inl rfl | exact Or.inr rfl) (by repeat (first | exact RVs.nil | apply RVs.cons | exact RV1.tmp rfl | exact RV1.row rfl rfl rfl (by repeat (first | exact look_here | apply look_there)) (by exact rfl) | exact RV1.cell rfl rfl rfl (by repeat (first | exact look_here | apply look_there)) (by exact rfl))) (by rfl) (by repeat (first | exact List.nil_sublist _ | exact List.Sublist.refl _ | apply List.Sublist.cons_cons | apply List.Sublist.cons))))
  rename_i k4 _
  obtain ⟨c, hcc⟩ : ∃ c, cfgOf n m k (some ⟨k4 0, 0, none⟩) (some ⟨k4 1, 0, none⟩) N grown = c := ⟨_, rfl⟩
  rw [hcc]
  have h6 : c.fdL ≤ 6 := by rw [← hcc]; exact hN6
  have fr : Fr (.row (feeds k N) 97 3) c.fdL (fBus k) (fLoad k) (fPrio k) := by rw [← hcc]; exact feeds_Fr k (by omega) _
  have ha : 0 < c.fdL → c.fdA = some ⟨k4 1, 0, none⟩ := by rw [← hcc]; exact fun _ => rfl
  have h7 : c.fdL ≤ 7 := by omega
  have hB : ∀ i, i < c.fdL → 4 ≤ fBus k i ∧ fBus k i < 7 := fun i _ => ⟨(fd_in k i).1, (fd_in k i).2.1⟩
  have hW1 := shed_Want (kf := k4 1) fr ha h7 hB ((w : Nat) : Int) 0 false
  have hW2 := shed_Want (kf := k4 1) fr ha h7 hB ((w : Nat) : Int) trips false
  have hW3 := shed_Want (kf := k4 1) fr ha h7 hB ((w : Nat) : Int) trips true
  have hW4 := shed_Want (kf := k4 1) fr ha h7 hB 0 trips false
  have hW5 := shed_Want (kf := k4 1) fr ha h7 hB ((w : Nat) : Int) 65535 false
  rw [want_dark c (fun i => ⟨(fd_in k i).1, (fd_in k i).2.1⟩)] at hW4
  rw [want_tripped c _ _ _ _ _ h7] at hW5
  have l2 := wantN_lt c (fBus k) (fLoad k) (fPrio k) ((w : Nat) : Int) trips false h7
  have l3 := wantN_lt c (fBus k) (fLoad k) (fPrio k) ((w : Nat) : Int) trips true h7
  have b2 := fun i => wantN_bit (c := c) (B := fBus k) (W := fLoad k) (R := fPrio k) (shut := ((w : Nat) : Int)) (trips := trips) (few := false) (i := i)
  have b3 := fun i => wantN_bit (c := c) (B := fBus k) (W := fLoad k) (R := fPrio k) (shut := ((w : Nat) : Int)) (trips := trips) (few := true) (i := i)
  have b32 := fun i => want_few (c := c) (B := fBus k) (W := fLoad k) (R := fPrio k) (fun i => (fd_in k i).2.2.2.2) (shut := ((w : Nat) : Int)) (trips := trips) (i := i)
  generalize wantN c (fBus k) (fLoad k) (fPrio k) ((w : Nat) : Int) 0 false = A at hW1
  generalize wantN c (fBus k) (fLoad k) (fPrio k) ((w : Nat) : Int) trips false = S at hW2 l2 b2 b32
  generalize wantN c (fBus k) (fLoad k) (fPrio k) ((w : Nat) : Int) trips true = E at hW3 l3 b3 b32
  have g1 : andX ((S : Nat) : Int) trips = 0 := and_disj l2 trips fun i hi hb => (bit0 trips hi).1 (okW_trip (b2 i hb).2.1)
  have g2 : anX ((E : Nat) : Int) ((S : Nat) : Int) = 0 := by rw [anX_eq l3 l2, nAn_sub l3 fun i hb => b32 i hb]; rfl
  have g3 : ((A : Nat) : Int) ≥ 0 := by omega
  clear hcc
  repeat' (first
    | (((first | (with_reducible refine gQ0 ?_) | ((with_reducible refine gQ1 ?_ ?_); (focus (apply wg (r := true); (iterate 6 apply Eq.refl))))); (first | ((with_reducible apply q_load layOk); (iterate 3 apply Eq.refl); (focus (repeat (with_reducible (first | apply lh | apply lt)))); exact (fr.ar i hi)) | ((with_reducible apply q_idxN (m := i) layOk); (iterate 4 apply Eq.refl); exact ha; apply Eq.refl; exact hi) | ((with_reducible apply q_move); apply Eq.refl) | ((with_reducible apply q_assign); apply Eq.refl) | ((with_reducible apply q_int); (iterate 3 apply Eq.refl)) | ((with_reducible apply q_fa layOk); (iterate 5 apply Eq.refl)) | ((with_reducible apply q_load layOk); (iterate 3 apply Eq.refl); (focus (repeat (with_reducible (first | apply lh | apply lt)))); apply Eq.refl) | ((with_reducible apply q_loadr layOk); (iterate 3 apply Eq.refl); (focus (repeat (with_reducible (first | apply lh | apply lt)))); apply Eq.refl) | ((with_reducible apply q_not); apply Eq.refl) | ((with_reducible apply q_alloc (k := ks _) layOk); apply Eq.refl; (focus (repeat (with_reducible (first | apply lh | apply lt)))); apply Eq.refl) | ((with_reducible apply q_pick_t); (iterate 2 apply Eq.refl)) | ((with_reducible apply q_pick_f); (iterate 2 apply Eq.refl)) | ((with_reducible apply q_len layOk); (iterate 4 apply Eq.refl)) | ((with_reducible apply q_conv); apply Eq.refl; exact Tryd.underlying3; exact Tryd.underlying73) | ((with_reducible apply q_shr); (iterate 2 apply Eq.refl); exact hu) | (refine q_callR rfl hW1 rfl (by repeat (first | exact Fd.nil | apply Fd.cons | (focus ((repeat (with_reducible (first | apply lh | apply lt))); done)) | (focus (apply lx; (focus (repeat (with_reducible (first | apply lh | apply lt)))); exact rfl)))) (by decide) ?_) | (refine q_callR rfl hW2 rfl (by repeat (first | exact Fd.nil | apply Fd.cons | (focus ((repeat (with_reducible (first | apply lh | apply lt))); done)) | (focus (apply lx; (focus (repeat (with_reducible (first | apply lh | apply lt)))); exact rfl)))) (by decide) ?_) | (refine q_callR rfl hW3 rfl (by repeat (first | exact Fd.nil | apply Fd.cons | (focus ((repeat (with_reducible (first | apply lh | apply lt))); done)) | (focus (apply lx; (focus (repeat (with_reducible (first | apply lh | apply lt)))); exact rfl)))) (by decide) ?_) | (refine q_callR rfl hW4 rfl (by repeat (first | exact Fd.nil | apply Fd.cons | (focus ((repeat (with_reducible (first | apply lh | apply lt))); done)) | (focus (apply lx; (focus (repeat (with_reducible (first | apply lh | apply lt)))); exact rfl)))) (by decide) ?_) | (refine q_callR rfl hW5 rfl (by repeat (first | exact Fd.nil | apply Fd.cons | (focus ((repeat (with_reducible (first | apply lh | apply lt))); done)) | (focus (apply lx; (focus (repeat (with_reducible (first | apply lh | apply lt)))); exact rfl)))) (by decide) ?_) | ((with_reducible apply e_store layOk); (iterate 3 apply Eq.refl); (focus (repeat (with_reducible (first | apply lh | apply lt)))); (iterate 5 apply Eq.refl)))))
    | (((with_reducible refine gR ?_); (first | refine RK.peelN rfl ?_ | refine RK.donef rfl ⟨_, rfl, ?_⟩ | refine RK.donet rfl (by kernel_rfl) ⟨_, rfl, ?_⟩)))
    | ((first | (with_reducible refine gQv ?_ ?_) | (with_reducible refine gQe ?_ ?_)); (focus (first | (apply wg (r := false); (iterate 6 apply Eq.refl)) | (apply wz; (iterate 4 apply Eq.refl)))))
    | ((with_reducible refine gK ?_); ((first | (apply gsD; (iterate 4 apply Eq.refl)) | (apply RKo.gsplitE; (iterate 4 apply Eq.refl)) | (apply RKo.gsplitN; (iterate 4 apply Eq.refl)) | (apply RKo.gsplit; (iterate 4 apply Eq.refl))) <;> (intro hc; first | with_reducible exact ff hc | with_reducible exact ff' hc | exact absurd hc (by decide) | exact absurd rfl hc | skip)))
    | (((with_reducible refine gW ?_); (first | with_reducible refine WP.seq ?_ | refine WP.reg mixed (fun ks => _) (fun ks => rfl) (fun ks => ?_) | ((first | (apply cdD; apply Eq.refl) | (apply WP.condE; apply Eq.refl) | (apply WP.condN; apply Eq.refl) | (apply WP.condA; apply Eq.refl)) <;> (intro hc; first | with_reducible exact ff hc | with_reducible exact ff' hc | exact absurd hc (by decide) | exact absurd rfl hc | skip)) | refine WP.ret ?_ | refine WP.skip ?_ | refine WP.exit ?_ | refine WP.goto ?_ | refine WP.label ?_ | refine WP.block ?_)))
    | (with_reducible refine thn_n ?_)
    | (with_reducible refine thn_r ?_)
    | (with_reducible refine thn_e ?_)
    | (with_reducible refine thn_g ?_)
    | (with_reducible refine blk_n ?_)
    | (with_reducible refine blk_r ?_)
    | (with_reducible refine blk_e ?_)
    | (with_reducible refine blk_g ?_)
    | (((with_reducible refine blk_o ?_ ?_); first | exact rfl | skip))
    | (refine Endz.mk' (by first | exact Or.inl rfl | exact Or.inr rfl) (by repeat (first | exact RVs.nil | apply RVs.cons | exact RV1.tmp rfl | exact RV1.row rfl rfl rfl (by repeat (first | exact look_here | apply look_there)) (by exact rfl) | exact RV1.cell rfl rfl rfl (by repeat (first | exact look_here | apply look_there)) (by exact rfl))) (by rfl) (by repeat (first | exact List.nil_sublist _ | exact List.Sublist.refl _ | apply List.Sublist.cons_cons | apply List.Sublist.cons))))
  refine WP.loopI (n := 88) (α := Nat) (fun i => [(3, some (I64 ((w : Nat) : Int))), (4, some (I64 trips)), (11, some (.bool true)), (12, some (.pointer (some ⟨k4 (0 + 1 + 1), 0, none⟩))), (13, some (I64 ((A : Nat) : Int))), (14, some (I64 ((S : Nat) : Int))), (15, some (I64 ((E : Nat) : Int))), (16, some (I64 (i : Int)))]) (fun i => [(5, .ro 0 tzv), (k4 1, .row (feeds k N) 97 3), (k4 (0 + 1 + 1), .cells c.cells 51)]) (fun i => i ≤ c.fdL) (fun i => c.fdL - i) 0 (Wk.of ⟨rfl, rfl, rfl, rfl, rfl, rfl, rfl, rfl, trivial⟩ (by repeat (first | exact List.nil_sublist _ | exact List.Sublist.refl _ | apply List.Sublist.cons_cons | apply List.Sublist.cons))) (Nat.zero_le _) (fun i iy => ?_)
  have iy : i ≤ c.fdL := iy
  by_cases hi : i < c.fdL
  rotate_left
  · have hge : ¬ (i : Int) < (c.fdL : Int) := by omega
    repeat' (first
      | (((first | (with_reducible refine gQ0 ?_) | ((with_reducible refine gQ1 ?_ ?_); (focus (apply wg (r := true); (iterate 6 apply Eq.refl))))); (first | ((with_reducible apply q_load layOk); (iterate 3 apply Eq.refl); (focus (repeat (with_reducible (first | apply lh | apply lt)))); exact (fr.ar i hi)) | ((with_reducible apply q_idxN (m := i) layOk); (iterate 4 apply Eq.refl); exact ha; apply Eq.refl; exact hi) | ((with_reducible apply q_move); apply Eq.refl) | ((with_reducible apply q_assign); apply Eq.refl) | ((with_reducible apply q_int); (iterate 3 apply Eq.refl)) | ((with_reducible apply q_fa layOk); (iterate 5 apply Eq.refl)) | ((with_reducible apply q_load layOk); (iterate 3 apply Eq.refl); (focus (repeat (with_reducible (first | apply lh | apply lt)))); apply Eq.refl) | ((with_reducible apply q_loadr layOk); (iterate 3 apply Eq.refl); (focus (repeat (with_reducible (first | apply lh | apply lt)))); apply Eq.refl) | ((with_reducible apply q_not); apply Eq.refl) | ((with_reducible apply q_alloc (k := ks _) layOk); apply Eq.refl; (focus (repeat (with_reducible (first | apply lh | apply lt)))); apply Eq.refl) | ((with_reducible apply q_pick_t); (iterate 2 apply Eq.refl)) | ((with_reducible apply q_pick_f); (iterate 2 apply Eq.refl)) | ((with_reducible apply q_len layOk); (iterate 4 apply Eq.refl)) | ((with_reducible apply q_conv); apply Eq.refl; exact Tryd.underlying3; exact Tryd.underlying73) | ((with_reducible apply q_shr); (iterate 2 apply Eq.refl); exact hu) | (refine q_callR rfl hW1 rfl (by repeat (first | exact Fd.nil | apply Fd.cons | (focus ((repeat (with_reducible (first | apply lh | apply lt))); done)) | (focus (apply lx; (focus (repeat (with_reducible (first | apply lh | apply lt)))); exact rfl)))) (by decide) ?_) | (refine q_callR rfl hW2 rfl (by repeat (first | exact Fd.nil | apply Fd.cons | (focus ((repeat (with_reducible (first | apply lh | apply lt))); done)) | (focus (apply lx; (focus (repeat (with_reducible (first | apply lh | apply lt)))); exact rfl)))) (by decide) ?_) | (refine q_callR rfl hW3 rfl (by repeat (first | exact Fd.nil | apply Fd.cons | (focus ((repeat (with_reducible (first | apply lh | apply lt))); done)) | (focus (apply lx; (focus (repeat (with_reducible (first | apply lh | apply lt)))); exact rfl)))) (by decide) ?_) | (refine q_callR rfl hW4 rfl (by repeat (first | exact Fd.nil | apply Fd.cons | (focus ((repeat (with_reducible (first | apply lh | apply lt))); done)) | (focus (apply lx; (focus (repeat (with_reducible (first | apply lh | apply lt)))); exact rfl)))) (by decide) ?_) | (refine q_callR rfl hW5 rfl (by repeat (first | exact Fd.nil | apply Fd.cons | (focus ((repeat (with_reducible (first | apply lh | apply lt))); done)) | (focus (apply lx; (focus (repeat (with_reducible (first | apply lh | apply lt)))); exact rfl)))) (by decide) ?_) | ((with_reducible apply e_store layOk); (iterate 3 apply Eq.refl); (focus (repeat (with_reducible (first | apply lh | apply lt)))); (iterate 5 apply Eq.refl)))))
      | (((with_reducible refine gR ?_); (first | refine RK.peelN rfl ?_ | refine RK.donef rfl ⟨_, rfl, ?_⟩ | refine RK.donet rfl (by kernel_rfl) ⟨_, rfl, ?_⟩)))
      | ((first | (with_reducible refine gQv ?_ ?_) | (with_reducible refine gQe ?_ ?_)); (focus (first | (apply wg (r := false); (iterate 6 apply Eq.refl)) | (apply wz; (iterate 4 apply Eq.refl)))))
      | ((with_reducible refine gK ?_); ((first | (apply gsD; (iterate 4 apply Eq.refl)) | (apply RKo.gsplitE; (iterate 4 apply Eq.refl)) | (apply RKo.gsplitN; (iterate 4 apply Eq.refl)) | (apply RKo.gsplit; (iterate 4 apply Eq.refl))) <;> (intro hc; first | with_reducible exact ff hc | with_reducible exact ff' hc | exact absurd hc (by decide) | exact absurd rfl hc | with_reducible exact absurd hge hc | with_reducible exact absurd g1 hc | with_reducible exact absurd g2 hc | with_reducible exact absurd g3 hc | with_reducible exact absurd hc hge | with_reducible exact absurd hc g1 | with_reducible exact absurd hc g2 | with_reducible exact absurd hc g3 | skip)))
      | (((with_reducible refine gW ?_); (first | with_reducible refine WP.seq ?_ | refine WP.reg mixed (fun ks => _) (fun ks => rfl) (fun ks => ?_) | ((first | (apply cdD; apply Eq.refl) | (apply WP.condE; apply Eq.refl) | (apply WP.condN; apply Eq.refl) | (apply WP.condA; apply Eq.refl)) <;> (intro hc; first | with_reducible exact ff hc | with_reducible exact ff' hc | exact absurd hc (by decide) | exact absurd rfl hc | with_reducible exact absurd hge hc | with_reducible exact absurd g1 hc | with_reducible exact absurd g2 hc | with_reducible exact absurd g3 hc | with_reducible exact absurd hc hge | with_reducible exact absurd hc g1 | with_reducible exact absurd hc g2 | with_reducible exact absurd hc g3 | skip)) | refine WP.ret ?_ | refine WP.skip ?_ | refine WP.exit ?_ | refine WP.goto ?_ | refine WP.label ?_ | refine WP.block ?_)))
      | (with_reducible refine thn_n ?_)
      | (with_reducible refine thn_r ?_)
      | (with_reducible refine thn_e ?_)
      | (with_reducible refine thn_g ?_)
      | (with_reducible refine blk_n ?_)
      | (with_reducible refine blk_r ?_)
      | (with_reducible refine blk_e ?_)
      | (with_reducible refine blk_g ?_)
      | (((with_reducible refine blk_o ?_ ?_); first | exact rfl | skip))
      | (refine Endz.mk' (by first | exact Or.inl rfl | exact Or.inr rfl) (by repeat (first | exact RVs.nil | apply RVs.cons | exact RV1.tmp rfl | exact RV1.row rfl rfl rfl (by repeat (first | exact look_here | apply look_there)) (by exact rfl) | exact RV1.cell rfl rfl rfl (by repeat (first | exact look_here | apply look_there)) (by exact rfl))) (by rfl) (by repeat (first | exact List.nil_sublist _ | exact List.Sublist.refl _ | apply List.Sublist.cons_cons | apply List.Sublist.cons))))
  have hlt : (i : Int) < (c.fdL : Int) := by omega
  have hw1 : IntKind.i64.wrap ((i : Int) + 1) = ((i + 1 : Nat) : Int) := kp1 (by omega)
  have hu : 0 ≤ IntKind.u64.wrap ((i : Nat) : Int) := by rw [u64_small (by omega)]; omega
  have hbe : (bitU ((E : Nat) : Int) ((i : Nat) : Int) = 1) = (E.testBit i = true) := by rw [bitU_eq _ (by omega), bit1 _ (by omega), tB_nat l3]
  cases hb : E.testBit i with
  | false =>
    have hx : ¬ bitU ((E : Nat) : Int) ((i : Nat) : Int) = 1 := by rw [hbe, hb]; decide
    repeat' (first
      | (((first | (with_reducible refine gQ0 ?_) | ((with_reducible refine gQ1 ?_ ?_); (focus (apply wg (r := true); (iterate 6 apply Eq.refl))))); (first | ((with_reducible apply q_load layOk); (iterate 3 apply Eq.refl); (focus (repeat (with_reducible (first | apply lh | apply lt)))); exact (fr.ar i hi)) | ((with_reducible apply q_idxN (m := i) layOk); (iterate 4 apply Eq.refl); exact ha; apply Eq.refl; exact hi) | ((with_reducible apply q_move); apply Eq.refl) | ((with_reducible apply q_assign); apply Eq.refl) | ((with_reducible apply q_int); (iterate 3 apply Eq.refl)) | ((with_reducible apply q_fa layOk); (iterate 5 apply Eq.refl)) | ((with_reducible apply q_load layOk); (iterate 3 apply Eq.refl); (focus (repeat (with_reducible (first | apply lh | apply lt)))); apply Eq.refl) | ((with_reducible apply q_loadr layOk); (iterate 3 apply Eq.refl); (focus (repeat (with_reducible (first | apply lh | apply lt)))); apply Eq.refl) | ((with_reducible apply q_not); apply Eq.refl) | ((with_reducible apply q_alloc (k := ks _) layOk); apply Eq.refl; (focus (repeat (with_reducible (first | apply lh | apply lt)))); apply Eq.refl) | ((with_reducible apply q_pick_t); (iterate 2 apply Eq.refl)) | ((with_reducible apply q_pick_f); (iterate 2 apply Eq.refl)) | ((with_reducible apply q_len layOk); (iterate 4 apply Eq.refl)) | ((with_reducible apply q_conv); apply Eq.refl; exact Tryd.underlying3; exact Tryd.underlying73) | ((with_reducible apply q_shr); (iterate 2 apply Eq.refl); exact hu) | (refine q_callR rfl hW1 rfl (by repeat (first | exact Fd.nil | apply Fd.cons | (focus ((repeat (with_reducible (first | apply lh | apply lt))); done)) | (focus (apply lx; (focus (repeat (with_reducible (first | apply lh | apply lt)))); exact rfl)))) (by decide) ?_) | (refine q_callR rfl hW2 rfl (by repeat (first | exact Fd.nil | apply Fd.cons | (focus ((repeat (with_reducible (first | apply lh | apply lt))); done)) | (focus (apply lx; (focus (repeat (with_reducible (first | apply lh | apply lt)))); exact rfl)))) (by decide) ?_) | (refine q_callR rfl hW3 rfl (by repeat (first | exact Fd.nil | apply Fd.cons | (focus ((repeat (with_reducible (first | apply lh | apply lt))); done)) | (focus (apply lx; (focus (repeat (with_reducible (first | apply lh | apply lt)))); exact rfl)))) (by decide) ?_) | (refine q_callR rfl hW4 rfl (by repeat (first | exact Fd.nil | apply Fd.cons | (focus ((repeat (with_reducible (first | apply lh | apply lt))); done)) | (focus (apply lx; (focus (repeat (with_reducible (first | apply lh | apply lt)))); exact rfl)))) (by decide) ?_) | (refine q_callR rfl hW5 rfl (by repeat (first | exact Fd.nil | apply Fd.cons | (focus ((repeat (with_reducible (first | apply lh | apply lt))); done)) | (focus (apply lx; (focus (repeat (with_reducible (first | apply lh | apply lt)))); exact rfl)))) (by decide) ?_) | ((with_reducible apply e_store layOk); (iterate 3 apply Eq.refl); (focus (repeat (with_reducible (first | apply lh | apply lt)))); (iterate 5 apply Eq.refl)))))
      | (((with_reducible refine gR ?_); (first | refine RK.peelN rfl ?_ | refine RK.donef rfl ⟨_, rfl, ?_⟩ | refine RK.donet rfl (by kernel_rfl) ⟨_, rfl, ?_⟩)))
      | ((first | (with_reducible refine gQv ?_ ?_) | (with_reducible refine gQe ?_ ?_)); (focus (first | (apply wg (r := false); (iterate 6 apply Eq.refl)) | (apply wz; (iterate 4 apply Eq.refl)))))
      | ((with_reducible refine gK ?_); ((first | (apply gsD; (iterate 4 apply Eq.refl)) | (apply RKo.gsplitE; (iterate 4 apply Eq.refl)) | (apply RKo.gsplitN; (iterate 4 apply Eq.refl)) | (apply RKo.gsplit; (iterate 4 apply Eq.refl))) <;> (intro hc; first | with_reducible exact ff hc | with_reducible exact ff' hc | exact absurd hc (by decide) | exact absurd rfl hc | with_reducible exact absurd hlt hc | with_reducible exact absurd hx hc | with_reducible exact absurd hc hlt | with_reducible exact absurd hc hx | skip)))
      | (((with_reducible refine gW ?_); (first | with_reducible refine WP.seq ?_ | refine WP.reg mixed (fun ks => _) (fun ks => rfl) (fun ks => ?_) | ((first | (apply cdD; apply Eq.refl) | (apply WP.condE; apply Eq.refl) | (apply WP.condN; apply Eq.refl) | (apply WP.condA; apply Eq.refl)) <;> (intro hc; first | with_reducible exact ff hc | with_reducible exact ff' hc | exact absurd hc (by decide) | exact absurd rfl hc | with_reducible exact absurd hlt hc | with_reducible exact absurd hx hc | with_reducible exact absurd hc hlt | with_reducible exact absurd hc hx | skip)) | refine WP.ret ?_ | refine WP.skip ?_ | refine WP.exit ?_ | refine WP.goto ?_ | refine WP.label ?_ | refine WP.block ?_)))
      | (with_reducible refine thn_n ?_)
      | (with_reducible refine thn_r ?_)
      | (with_reducible refine thn_e ?_)
      | (with_reducible refine thn_g ?_)
      | (with_reducible refine blk_n ?_)
      | (with_reducible refine blk_r ?_)
      | (with_reducible refine blk_e ?_)
      | (with_reducible refine blk_g ?_)
      | (((with_reducible refine blk_o ?_ ?_); first | exact rfl | skip))
      | (refine Endz.mk' (by first | exact Or.inl rfl | exact Or.inr rfl) (by repeat (first | exact RVs.nil | apply RVs.cons | exact RV1.tmp rfl | exact RV1.row rfl rfl rfl (by repeat (first | exact look_here | apply look_there)) (by exact rfl) | exact RV1.cell rfl rfl rfl (by repeat (first | exact look_here | apply look_there)) (by exact rfl))) (by rfl) (by repeat (first | exact List.nil_sublist _ | exact List.Sublist.refl _ | apply List.Sublist.cons_cons | apply List.Sublist.cons))))
    exact ⟨i + 1, hi, (by show c.fdL - (i + 1) < c.fdL - i; omega), Wk.of ⟨rfl, rfl, rfl, rfl, rfl, rfl, rfl, congrArg (fun x => some (I64 x)) hw1, trivial⟩ (by repeat (first | exact List.nil_sublist _ | exact List.Sublist.refl _ | apply List.Sublist.cons_cons | apply List.Sublist.cons))⟩
  | true =>
    have hx : bitU ((E : Nat) : Int) ((i : Nat) : Int) = 1 := by rw [hbe, hb]
    have hr : fPrio k i = 0 := okW_few (b3 i hb).2.1
    repeat' (first
      | (((first | (with_reducible refine gQ0 ?_) | ((with_reducible refine gQ1 ?_ ?_); (focus (apply wg (r := true); (iterate 6 apply Eq.refl))))); (first | ((with_reducible apply q_load layOk); (iterate 3 apply Eq.refl); (focus (repeat (with_reducible (first | apply lh | apply lt)))); exact (fr.ar i hi)) | ((with_reducible apply q_idxN (m := i) layOk); (iterate 4 apply Eq.refl); exact ha; apply Eq.refl; exact hi) | ((with_reducible apply q_move); apply Eq.refl) | ((with_reducible apply q_assign); apply Eq.refl) | ((with_reducible apply q_int); (iterate 3 apply Eq.refl)) | ((with_reducible apply q_fa layOk); (iterate 5 apply Eq.refl)) | ((with_reducible apply q_load layOk); (iterate 3 apply Eq.refl); (focus (repeat (with_reducible (first | apply lh | apply lt)))); apply Eq.refl) | ((with_reducible apply q_loadr layOk); (iterate 3 apply Eq.refl); (focus (repeat (with_reducible (first | apply lh | apply lt)))); apply Eq.refl) | ((with_reducible apply q_not); apply Eq.refl) | ((with_reducible apply q_alloc (k := ks _) layOk); apply Eq.refl; (focus (repeat (with_reducible (first | apply lh | apply lt)))); apply Eq.refl) | ((with_reducible apply q_pick_t); (iterate 2 apply Eq.refl)) | ((with_reducible apply q_pick_f); (iterate 2 apply Eq.refl)) | ((with_reducible apply q_len layOk); (iterate 4 apply Eq.refl)) | ((with_reducible apply q_conv); apply Eq.refl; exact Tryd.underlying3; exact Tryd.underlying73) | ((with_reducible apply q_shr); (iterate 2 apply Eq.refl); exact hu) | (refine q_callR rfl hW1 rfl (by repeat (first | exact Fd.nil | apply Fd.cons | (focus ((repeat (with_reducible (first | apply lh | apply lt))); done)) | (focus (apply lx; (focus (repeat (with_reducible (first | apply lh | apply lt)))); exact rfl)))) (by decide) ?_) | (refine q_callR rfl hW2 rfl (by repeat (first | exact Fd.nil | apply Fd.cons | (focus ((repeat (with_reducible (first | apply lh | apply lt))); done)) | (focus (apply lx; (focus (repeat (with_reducible (first | apply lh | apply lt)))); exact rfl)))) (by decide) ?_) | (refine q_callR rfl hW3 rfl (by repeat (first | exact Fd.nil | apply Fd.cons | (focus ((repeat (with_reducible (first | apply lh | apply lt))); done)) | (focus (apply lx; (focus (repeat (with_reducible (first | apply lh | apply lt)))); exact rfl)))) (by decide) ?_) | (refine q_callR rfl hW4 rfl (by repeat (first | exact Fd.nil | apply Fd.cons | (focus ((repeat (with_reducible (first | apply lh | apply lt))); done)) | (focus (apply lx; (focus (repeat (with_reducible (first | apply lh | apply lt)))); exact rfl)))) (by decide) ?_) | (refine q_callR rfl hW5 rfl (by repeat (first | exact Fd.nil | apply Fd.cons | (focus ((repeat (with_reducible (first | apply lh | apply lt))); done)) | (focus (apply lx; (focus (repeat (with_reducible (first | apply lh | apply lt)))); exact rfl)))) (by decide) ?_) | ((with_reducible apply e_store layOk); (iterate 3 apply Eq.refl); (focus (repeat (with_reducible (first | apply lh | apply lt)))); (iterate 5 apply Eq.refl)))))
      | (((with_reducible refine gR ?_); (first | refine RK.peelN rfl ?_ | refine RK.donef rfl ⟨_, rfl, ?_⟩ | refine RK.donet rfl (by kernel_rfl) ⟨_, rfl, ?_⟩)))
      | ((first | (with_reducible refine gQv ?_ ?_) | (with_reducible refine gQe ?_ ?_)); (focus (first | (apply wg (r := false); (iterate 6 apply Eq.refl)) | (apply wz; (iterate 4 apply Eq.refl)))))
      | ((with_reducible refine gK ?_); ((first | (apply gsD; (iterate 4 apply Eq.refl)) | (apply RKo.gsplitE; (iterate 4 apply Eq.refl)) | (apply RKo.gsplitN; (iterate 4 apply Eq.refl)) | (apply RKo.gsplit; (iterate 4 apply Eq.refl))) <;> (intro hc; first | with_reducible exact ff hc | with_reducible exact ff' hc | exact absurd hc (by decide) | exact absurd rfl hc | with_reducible exact absurd hlt hc | with_reducible exact absurd hx hc | with_reducible exact absurd hr hc | with_reducible exact absurd hc hlt | with_reducible exact absurd hc hx | with_reducible exact absurd hc hr | skip)))
      | (((with_reducible refine gW ?_); (first | with_reducible refine WP.seq ?_ | refine WP.reg mixed (fun ks => _) (fun ks => rfl) (fun ks => ?_) | ((first | (apply cdD; apply Eq.refl) | (apply WP.condE; apply Eq.refl) | (apply WP.condN; apply Eq.refl) | (apply WP.condA; apply Eq.refl)) <;> (intro hc; first | with_reducible exact ff hc | with_reducible exact ff' hc | exact absurd hc (by decide) | exact absurd rfl hc | with_reducible exact absurd hlt hc | with_reducible exact absurd hx hc | with_reducible exact absurd hr hc | with_reducible exact absurd hc hlt | with_reducible exact absurd hc hx | with_reducible exact absurd hc hr | skip)) | refine WP.ret ?_ | refine WP.skip ?_ | refine WP.exit ?_ | refine WP.goto ?_ | refine WP.label ?_ | refine WP.block ?_)))
      | (with_reducible refine thn_n ?_)
      | (with_reducible refine thn_r ?_)
      | (with_reducible refine thn_e ?_)
      | (with_reducible refine thn_g ?_)
      | (with_reducible refine blk_n ?_)
      | (with_reducible refine blk_r ?_)
      | (with_reducible refine blk_e ?_)
      | (with_reducible refine blk_g ?_)
      | (((with_reducible refine blk_o ?_ ?_); first | exact rfl | skip))
      | (refine Endz.mk' (by first | exact Or.inl rfl | exact Or.inr rfl) (by repeat (first | exact RVs.nil | apply RVs.cons | exact RV1.tmp rfl | exact RV1.row rfl rfl rfl (by repeat (first | exact look_here | apply look_there)) (by exact rfl) | exact RV1.cell rfl rfl rfl (by repeat (first | exact look_here | apply look_there)) (by exact rfl))) (by rfl) (by repeat (first | exact List.nil_sublist _ | exact List.Sublist.refl _ | apply List.Sublist.cons_cons | apply List.Sublist.cons))))
    exact ⟨i + 1, hi, (by show c.fdL - (i + 1) < c.fdL - i; omega), Wk.of ⟨rfl, rfl, rfl, rfl, rfl, rfl, rfl, congrArg (fun x => some (I64 x)) hw1, trivial⟩ (by repeat (first | exact List.nil_sublist _ | exact List.Sublist.refl _ | apply List.Sublist.cons_cons | apply List.Sublist.cons))⟩
set_option maxHeartbeats 16000000 in
theorem shedTrips_B (n m k : Int) (shut trips : Int) (hmk : ∀ k1 k2 : Nat, Ctr Tryd.prog 6 41 [I64 n, I64 m, I64 k] [(k1, .gone), (k2, .gone)] (.agg ⟨(cfgOf n m k (some ⟨k1, 0, none⟩) none 0 0).cells⟩) [.cells ocv 27, .lost]) : Ctr Tryd.prog 6 20 [I64 n, I64 m, I64 k, I64 shut, I64 trips] [(5, .ro 0 tzv)] (.bool true) [.ro 0 tzv] := by
  have hN := world_Number (G := 6) shut 128 (by decide)
  obtain ⟨w, ew, hw⟩ := num_nat0 shut 128 (by decide) (by decide)
  rw [ew] at hN
  have hw : w < 128 := Int.ofNat_lt.1 hw
  clear ew
  refine Ctr.by layOk Tryd.func20 Tryd.ntmps20 rfl rfl rfl rfl rfl ?_
  repeat' (first
    | (((first | (with_reducible refine gQ0 ?_) | ((with_reducible refine gQ1 ?_ ?_); (focus (apply wg (r := true); (iterate 6 apply Eq.refl))))); (first | ((with_reducible apply q_move); apply Eq.refl) | ((with_reducible apply q_assign); apply Eq.refl) | ((with_reducible apply q_int); (iterate 3 apply Eq.refl)) | ((with_reducible apply q_fa layOk); (iterate 5 apply Eq.refl)) | ((with_reducible apply q_load layOk); (iterate 3 apply Eq.refl); (focus (repeat (with_reducible (first | apply lh | apply lt)))); apply Eq.refl) | ((with_reducible apply q_loadr layOk); (iterate 3 apply Eq.refl); (focus (repeat (with_reducible (first | apply lh | apply lt)))); apply Eq.refl) | ((with_reducible apply q_not); apply Eq.refl) | ((with_reducible apply q_alloc (k := ks _) layOk); apply Eq.refl; (focus (repeat (with_reducible (first | apply lh | apply lt)))); apply Eq.refl) | ((with_reducible apply q_pick_t); (iterate 2 apply Eq.refl)) | ((with_reducible apply q_pick_f); (iterate 2 apply Eq.refl)) | ((with_reducible apply q_len layOk); (iterate 4 apply Eq.refl)) | ((with_reducible apply q_conv); apply Eq.refl; exact Tryd.underlying3; exact Tryd.underlying73) | ((with_reducible apply q_shr); (iterate 2 apply Eq.refl); exact hu) | (refine q_call1r rfl (first25 ()) (by first | (focus ((repeat (with_reducible (first | apply lh | apply lt))); done)) | (focus (apply lx; (focus (repeat (with_reducible (first | apply lh | apply lt)))); exact rfl))) ?_) | (refine q_call2 rfl (hmk (ks 0) (ks 1)) (by first | (focus ((repeat (with_reducible (first | apply lh | apply lt))); done)) | (focus (apply lx; (focus (repeat (with_reducible (first | apply lh | apply lt)))); exact rfl))) (by first | (focus ((repeat (with_reducible (first | apply lh | apply lt))); done)) | (focus (apply lx; (focus (repeat (with_reducible (first | apply lh | apply lt)))); exact rfl))) (by decide) (by exact rfl) ?_) | (refine q_call0 rfl hN ?_) | ((with_reducible apply e_store layOk); (iterate 3 apply Eq.refl); (focus (repeat (with_reducible (first | apply lh | apply lt)))); (iterate 5 apply Eq.refl)))))
    | (((with_reducible refine gR ?_); (first | refine RK.peelN rfl ?_ | refine RK.donef rfl ⟨_, rfl, ?_⟩ | refine RK.donet rfl (by kernel_rfl) ⟨_, rfl, ?_⟩)))
    | ((first | (with_reducible refine gQv ?_ ?_) | (with_reducible refine gQe ?_ ?_)); (focus (first | (apply wg (r := false); (iterate 6 apply Eq.refl)) | (apply wz; (iterate 4 apply Eq.refl)))))
    | ((with_reducible refine gK ?_); ((first | (apply gsD; (iterate 4 apply Eq.refl)) | (apply RKo.gsplitE; (iterate 4 apply Eq.refl)) | (apply RKo.gsplitN; (iterate 4 apply Eq.refl)) | (apply RKo.gsplit; (iterate 4 apply Eq.refl))) <;> (intro hc; first | with_reducible exact ff hc | with_reducible exact ff' hc | exact absurd hc (by decide) | exact absurd rfl hc | skip)))
    | (((with_reducible refine gW ?_); (first | with_reducible refine WP.seq ?_ | refine WP.reg mixed (fun ks => _) (fun ks => rfl) (fun ks => ?_) | ((first | (apply cdD; apply Eq.refl) | (apply WP.condE; apply Eq.refl) | (apply WP.condN; apply Eq.refl) | (apply WP.condA; apply Eq.refl)) <;> (intro hc; first | with_reducible exact ff hc | with_reducible exact ff' hc | exact absurd hc (by decide) | exact absurd rfl hc | skip)) | refine WP.ret ?_ | refine WP.skip ?_ | refine WP.exit ?_ | refine WP.goto ?_ | refine WP.label ?_ | refine WP.block ?_)))
    | (with_reducible refine thn_n ?_)
    | (with_reducible refine thn_r ?_)
    | (with_reducible refine thn_e ?_)
    | (with_reducible refine thn_g ?_)
    | (with_reducible refine blk_n ?_)
    | (with_reducible refine blk_r ?_)
    | (with_reducible refine blk_e ?_)
    | (with_reducible refine blk_g ?_)
    | (((with_reducible refine blk_o ?_ ?_); first | exact rfl | skip))
    | (refine Endz.mk' (by first | exact Or.inl rfl | exact Or.inr rfl) (by repeat (first | exact RVs.nil | apply RVs.cons | exact RV1.tmp rfl | exact RV1.row rfl rfl rfl (by repeat (first | exact look_here | apply look_there)) (by exact rfl) | exact RV1.cell rfl rfl rfl (by repeat (first | exact look_here | apply look_there)) (by exact rfl))) (by rfl) (by repeat (first | exact List.nil_sublist _ | exact List.Sublist.refl _ | apply List.Sublist.cons_cons | apply List.Sublist.cons))))
  rename_i k4 _
  obtain ⟨c, hcc⟩ : ∃ c, cfgOf n m k (some ⟨k4 0, 0, none⟩) none 0 0 = c := ⟨_, rfl⟩
  rw [hcc]
  have h6 : c.fdL ≤ 6 := by rw [← hcc]; exact (show 0 ≤ 6 by decide)
  have fr : Fr (.lost) c.fdL (fBus k) (fLoad k) (fPrio k) := by rw [← hcc]; exact ⟨fun i h => absurd h (Nat.not_lt_zero i), fun i h => absurd h (Nat.not_lt_zero i), fun i h => absurd h (Nat.not_lt_zero i), fun i h => absurd h (Nat.not_lt_zero i)⟩
  have ha : 0 < c.fdL → c.fdA = some ⟨k4 1, 0, none⟩ := by rw [← hcc]; exact fun h => absurd h (Nat.lt_irrefl 0)
  have h7 : c.fdL ≤ 7 := by omega
  have hB : ∀ i, i < c.fdL → 4 ≤ fBus k i ∧ fBus k i < 7 := fun i _ => ⟨(fd_in k i).1, (fd_in k i).2.1⟩
  have hW1 := shed_Want (kf := k4 1) fr ha h7 hB ((w : Nat) : Int) 0 false
  have hW2 := shed_Want (kf := k4 1) fr ha h7 hB ((w : Nat) : Int) trips false
  have hW3 := shed_Want (kf := k4 1) fr ha h7 hB ((w : Nat) : Int) trips true
  have hW4 := shed_Want (kf := k4 1) fr ha h7 hB 0 trips false
  have hW5 := shed_Want (kf := k4 1) fr ha h7 hB ((w : Nat) : Int) 65535 false
  rw [want_dark c (fun i => ⟨(fd_in k i).1, (fd_in k i).2.1⟩)] at hW4
  rw [want_tripped c _ _ _ _ _ h7] at hW5
  have l2 := wantN_lt c (fBus k) (fLoad k) (fPrio k) ((w : Nat) : Int) trips false h7
  have l3 := wantN_lt c (fBus k) (fLoad k) (fPrio k) ((w : Nat) : Int) trips true h7
  have b2 := fun i => wantN_bit (c := c) (B := fBus k) (W := fLoad k) (R := fPrio k) (shut := ((w : Nat) : Int)) (trips := trips) (few := false) (i := i)
  have b3 := fun i => wantN_bit (c := c) (B := fBus k) (W := fLoad k) (R := fPrio k) (shut := ((w : Nat) : Int)) (trips := trips) (few := true) (i := i)
  have b32 := fun i => want_few (c := c) (B := fBus k) (W := fLoad k) (R := fPrio k) (fun i => (fd_in k i).2.2.2.2) (shut := ((w : Nat) : Int)) (trips := trips) (i := i)
  generalize wantN c (fBus k) (fLoad k) (fPrio k) ((w : Nat) : Int) 0 false = A at hW1
  generalize wantN c (fBus k) (fLoad k) (fPrio k) ((w : Nat) : Int) trips false = S at hW2 l2 b2 b32
  generalize wantN c (fBus k) (fLoad k) (fPrio k) ((w : Nat) : Int) trips true = E at hW3 l3 b3 b32
  have g1 : andX ((S : Nat) : Int) trips = 0 := and_disj l2 trips fun i hi hb => (bit0 trips hi).1 (okW_trip (b2 i hb).2.1)
  have g2 : anX ((E : Nat) : Int) ((S : Nat) : Int) = 0 := by rw [anX_eq l3 l2, nAn_sub l3 fun i hb => b32 i hb]; rfl
  have g3 : ((A : Nat) : Int) ≥ 0 := by omega
  clear hcc
  repeat' (first
    | (((first | (with_reducible refine gQ0 ?_) | ((with_reducible refine gQ1 ?_ ?_); (focus (apply wg (r := true); (iterate 6 apply Eq.refl))))); (first | ((with_reducible apply q_load layOk); (iterate 3 apply Eq.refl); (focus (repeat (with_reducible (first | apply lh | apply lt)))); exact (fr.ar i hi)) | ((with_reducible apply q_idxN (m := i) layOk); (iterate 4 apply Eq.refl); exact ha; apply Eq.refl; exact hi) | ((with_reducible apply q_move); apply Eq.refl) | ((with_reducible apply q_assign); apply Eq.refl) | ((with_reducible apply q_int); (iterate 3 apply Eq.refl)) | ((with_reducible apply q_fa layOk); (iterate 5 apply Eq.refl)) | ((with_reducible apply q_load layOk); (iterate 3 apply Eq.refl); (focus (repeat (with_reducible (first | apply lh | apply lt)))); apply Eq.refl) | ((with_reducible apply q_loadr layOk); (iterate 3 apply Eq.refl); (focus (repeat (with_reducible (first | apply lh | apply lt)))); apply Eq.refl) | ((with_reducible apply q_not); apply Eq.refl) | ((with_reducible apply q_alloc (k := ks _) layOk); apply Eq.refl; (focus (repeat (with_reducible (first | apply lh | apply lt)))); apply Eq.refl) | ((with_reducible apply q_pick_t); (iterate 2 apply Eq.refl)) | ((with_reducible apply q_pick_f); (iterate 2 apply Eq.refl)) | ((with_reducible apply q_len layOk); (iterate 4 apply Eq.refl)) | ((with_reducible apply q_conv); apply Eq.refl; exact Tryd.underlying3; exact Tryd.underlying73) | ((with_reducible apply q_shr); (iterate 2 apply Eq.refl); exact hu) | (refine q_callR rfl hW1 rfl (by repeat (first | exact Fd.nil | apply Fd.cons | (focus ((repeat (with_reducible (first | apply lh | apply lt))); done)) | (focus (apply lx; (focus (repeat (with_reducible (first | apply lh | apply lt)))); exact rfl)))) (by decide) ?_) | (refine q_callR rfl hW2 rfl (by repeat (first | exact Fd.nil | apply Fd.cons | (focus ((repeat (with_reducible (first | apply lh | apply lt))); done)) | (focus (apply lx; (focus (repeat (with_reducible (first | apply lh | apply lt)))); exact rfl)))) (by decide) ?_) | (refine q_callR rfl hW3 rfl (by repeat (first | exact Fd.nil | apply Fd.cons | (focus ((repeat (with_reducible (first | apply lh | apply lt))); done)) | (focus (apply lx; (focus (repeat (with_reducible (first | apply lh | apply lt)))); exact rfl)))) (by decide) ?_) | (refine q_callR rfl hW4 rfl (by repeat (first | exact Fd.nil | apply Fd.cons | (focus ((repeat (with_reducible (first | apply lh | apply lt))); done)) | (focus (apply lx; (focus (repeat (with_reducible (first | apply lh | apply lt)))); exact rfl)))) (by decide) ?_) | (refine q_callR rfl hW5 rfl (by repeat (first | exact Fd.nil | apply Fd.cons | (focus ((repeat (with_reducible (first | apply lh | apply lt))); done)) | (focus (apply lx; (focus (repeat (with_reducible (first | apply lh | apply lt)))); exact rfl)))) (by decide) ?_) | ((with_reducible apply e_store layOk); (iterate 3 apply Eq.refl); (focus (repeat (with_reducible (first | apply lh | apply lt)))); (iterate 5 apply Eq.refl)))))
    | (((with_reducible refine gR ?_); (first | refine RK.peelN rfl ?_ | refine RK.donef rfl ⟨_, rfl, ?_⟩ | refine RK.donet rfl (by kernel_rfl) ⟨_, rfl, ?_⟩)))
    | ((first | (with_reducible refine gQv ?_ ?_) | (with_reducible refine gQe ?_ ?_)); (focus (first | (apply wg (r := false); (iterate 6 apply Eq.refl)) | (apply wz; (iterate 4 apply Eq.refl)))))
    | ((with_reducible refine gK ?_); ((first | (apply gsD; (iterate 4 apply Eq.refl)) | (apply RKo.gsplitE; (iterate 4 apply Eq.refl)) | (apply RKo.gsplitN; (iterate 4 apply Eq.refl)) | (apply RKo.gsplit; (iterate 4 apply Eq.refl))) <;> (intro hc; first | with_reducible exact ff hc | with_reducible exact ff' hc | exact absurd hc (by decide) | exact absurd rfl hc | skip)))
    | (((with_reducible refine gW ?_); (first | with_reducible refine WP.seq ?_ | refine WP.reg mixed (fun ks => _) (fun ks => rfl) (fun ks => ?_) | ((first | (apply cdD; apply Eq.refl) | (apply WP.condE; apply Eq.refl) | (apply WP.condN; apply Eq.refl) | (apply WP.condA; apply Eq.refl)) <;> (intro hc; first | with_reducible exact ff hc | with_reducible exact ff' hc | exact absurd hc (by decide) | exact absurd rfl hc | skip)) | refine WP.ret ?_ | refine WP.skip ?_ | refine WP.exit ?_ | refine WP.goto ?_ | refine WP.label ?_ | refine WP.block ?_)))
    | (with_reducible refine thn_n ?_)
    | (with_reducible refine thn_r ?_)
    | (with_reducible refine thn_e ?_)
    | (with_reducible refine thn_g ?_)
    | (with_reducible refine blk_n ?_)
    | (with_reducible refine blk_r ?_)
    | (with_reducible refine blk_e ?_)
    | (with_reducible refine blk_g ?_)
    | (((with_reducible refine blk_o ?_ ?_); first | exact rfl | skip))
    | (refine Endz.mk' (by first | exact Or.inl rfl | exact Or.inr rfl) (by repeat (first | exact RVs.nil | apply RVs.cons | exact RV1.tmp rfl | exact RV1.row rfl rfl rfl (by repeat (first | exact look_here | apply look_there)) (by exact rfl) | exact RV1.cell rfl rfl rfl (by repeat (first | exact look_here | apply look_there)) (by exact rfl))) (by rfl) (by repeat (first | exact List.nil_sublist _ | exact List.Sublist.refl _ | apply List.Sublist.cons_cons | apply List.Sublist.cons))))
  refine WP.loopI (n := 88) (α := Nat) (fun i => [(3, some (I64 ((w : Nat) : Int))), (4, some (I64 trips)), (11, some (.bool true)), (12, some (.pointer (some ⟨k4 (0 + 1 + 1), 0, none⟩))), (13, some (I64 ((A : Nat) : Int))), (14, some (I64 ((S : Nat) : Int))), (15, some (I64 ((E : Nat) : Int))), (16, some (I64 (i : Int)))]) (fun i => [(5, .ro 0 tzv), (k4 1, .lost), (k4 (0 + 1 + 1), .cells c.cells 51)]) (fun i => i ≤ c.fdL) (fun i => c.fdL - i) 0 (Wk.of ⟨rfl, rfl, rfl, rfl, rfl, rfl, rfl, rfl, trivial⟩ (by repeat (first | exact List.nil_sublist _ | exact List.Sublist.refl _ | apply List.Sublist.cons_cons | apply List.Sublist.cons))) (Nat.zero_le _) (fun i iy => ?_)
  have iy : i ≤ c.fdL := iy
  by_cases hi : i < c.fdL
  rotate_left
  · have hge : ¬ (i : Int) < (c.fdL : Int) := by omega
    repeat' (first
      | (((first | (with_reducible refine gQ0 ?_) | ((with_reducible refine gQ1 ?_ ?_); (focus (apply wg (r := true); (iterate 6 apply Eq.refl))))); (first | ((with_reducible apply q_load layOk); (iterate 3 apply Eq.refl); (focus (repeat (with_reducible (first | apply lh | apply lt)))); exact (fr.ar i hi)) | ((with_reducible apply q_idxN (m := i) layOk); (iterate 4 apply Eq.refl); exact ha; apply Eq.refl; exact hi) | ((with_reducible apply q_move); apply Eq.refl) | ((with_reducible apply q_assign); apply Eq.refl) | ((with_reducible apply q_int); (iterate 3 apply Eq.refl)) | ((with_reducible apply q_fa layOk); (iterate 5 apply Eq.refl)) | ((with_reducible apply q_load layOk); (iterate 3 apply Eq.refl); (focus (repeat (with_reducible (first | apply lh | apply lt)))); apply Eq.refl) | ((with_reducible apply q_loadr layOk); (iterate 3 apply Eq.refl); (focus (repeat (with_reducible (first | apply lh | apply lt)))); apply Eq.refl) | ((with_reducible apply q_not); apply Eq.refl) | ((with_reducible apply q_alloc (k := ks _) layOk); apply Eq.refl; (focus (repeat (with_reducible (first | apply lh | apply lt)))); apply Eq.refl) | ((with_reducible apply q_pick_t); (iterate 2 apply Eq.refl)) | ((with_reducible apply q_pick_f); (iterate 2 apply Eq.refl)) | ((with_reducible apply q_len layOk); (iterate 4 apply Eq.refl)) | ((with_reducible apply q_conv); apply Eq.refl; exact Tryd.underlying3; exact Tryd.underlying73) | ((with_reducible apply q_shr); (iterate 2 apply Eq.refl); exact hu) | (refine q_callR rfl hW1 rfl (by repeat (first | exact Fd.nil | apply Fd.cons | (focus ((repeat (with_reducible (first | apply lh | apply lt))); done)) | (focus (apply lx; (focus (repeat (with_reducible (first | apply lh | apply lt)))); exact rfl)))) (by decide) ?_) | (refine q_callR rfl hW2 rfl (by repeat (first | exact Fd.nil | apply Fd.cons | (focus ((repeat (with_reducible (first | apply lh | apply lt))); done)) | (focus (apply lx; (focus (repeat (with_reducible (first | apply lh | apply lt)))); exact rfl)))) (by decide) ?_) | (refine q_callR rfl hW3 rfl (by repeat (first | exact Fd.nil | apply Fd.cons | (focus ((repeat (with_reducible (first | apply lh | apply lt))); done)) | (focus (apply lx; (focus (repeat (with_reducible (first | apply lh | apply lt)))); exact rfl)))) (by decide) ?_) | (refine q_callR rfl hW4 rfl (by repeat (first | exact Fd.nil | apply Fd.cons | (focus ((repeat (with_reducible (first | apply lh | apply lt))); done)) | (focus (apply lx; (focus (repeat (with_reducible (first | apply lh | apply lt)))); exact rfl)))) (by decide) ?_) | (refine q_callR rfl hW5 rfl (by repeat (first | exact Fd.nil | apply Fd.cons | (focus ((repeat (with_reducible (first | apply lh | apply lt))); done)) | (focus (apply lx; (focus (repeat (with_reducible (first | apply lh | apply lt)))); exact rfl)))) (by decide) ?_) | ((with_reducible apply e_store layOk); (iterate 3 apply Eq.refl); (focus (repeat (with_reducible (first | apply lh | apply lt)))); (iterate 5 apply Eq.refl)))))
      | (((with_reducible refine gR ?_); (first | refine RK.peelN rfl ?_ | refine RK.donef rfl ⟨_, rfl, ?_⟩ | refine RK.donet rfl (by kernel_rfl) ⟨_, rfl, ?_⟩)))
      | ((first | (with_reducible refine gQv ?_ ?_) | (with_reducible refine gQe ?_ ?_)); (focus (first | (apply wg (r := false); (iterate 6 apply Eq.refl)) | (apply wz; (iterate 4 apply Eq.refl)))))
      | ((with_reducible refine gK ?_); ((first | (apply gsD; (iterate 4 apply Eq.refl)) | (apply RKo.gsplitE; (iterate 4 apply Eq.refl)) | (apply RKo.gsplitN; (iterate 4 apply Eq.refl)) | (apply RKo.gsplit; (iterate 4 apply Eq.refl))) <;> (intro hc; first | with_reducible exact ff hc | with_reducible exact ff' hc | exact absurd hc (by decide) | exact absurd rfl hc | with_reducible exact absurd hge hc | with_reducible exact absurd g1 hc | with_reducible exact absurd g2 hc | with_reducible exact absurd g3 hc | with_reducible exact absurd hc hge | with_reducible exact absurd hc g1 | with_reducible exact absurd hc g2 | with_reducible exact absurd hc g3 | skip)))
      | (((with_reducible refine gW ?_); (first | with_reducible refine WP.seq ?_ | refine WP.reg mixed (fun ks => _) (fun ks => rfl) (fun ks => ?_) | ((first | (apply cdD; apply Eq.refl) | (apply WP.condE; apply Eq.refl) | (apply WP.condN; apply Eq.refl) | (apply WP.condA; apply Eq.refl)) <;> (intro hc; first | with_reducible exact ff hc | with_reducible exact ff' hc | exact absurd hc (by decide) | exact absurd rfl hc | with_reducible exact absurd hge hc | with_reducible exact absurd g1 hc | with_reducible exact absurd g2 hc | with_reducible exact absurd g3 hc | with_reducible exact absurd hc hge | with_reducible exact absurd hc g1 | with_reducible exact absurd hc g2 | with_reducible exact absurd hc g3 | skip)) | refine WP.ret ?_ | refine WP.skip ?_ | refine WP.exit ?_ | refine WP.goto ?_ | refine WP.label ?_ | refine WP.block ?_)))
      | (with_reducible refine thn_n ?_)
      | (with_reducible refine thn_r ?_)
      | (with_reducible refine thn_e ?_)
      | (with_reducible refine thn_g ?_)
      | (with_reducible refine blk_n ?_)
      | (with_reducible refine blk_r ?_)
      | (with_reducible refine blk_e ?_)
      | (with_reducible refine blk_g ?_)
      | (((with_reducible refine blk_o ?_ ?_); first | exact rfl | skip))
      | (refine Endz.mk' (by first | exact Or.inl rfl | exact Or.inr rfl) (by repeat (first | exact RVs.nil | apply RVs.cons | exact RV1.tmp rfl | exact RV1.row rfl rfl rfl (by repeat (first | exact look_here | apply look_there)) (by exact rfl) | exact RV1.cell rfl rfl rfl (by repeat (first | exact look_here | apply look_there)) (by exact rfl))) (by rfl) (by repeat (first | exact List.nil_sublist _ | exact List.Sublist.refl _ | apply List.Sublist.cons_cons | apply List.Sublist.cons))))
  have hlt : (i : Int) < (c.fdL : Int) := by omega
  have hw1 : IntKind.i64.wrap ((i : Int) + 1) = ((i + 1 : Nat) : Int) := kp1 (by omega)
  have hu : 0 ≤ IntKind.u64.wrap ((i : Nat) : Int) := by rw [u64_small (by omega)]; omega
  have hbe : (bitU ((E : Nat) : Int) ((i : Nat) : Int) = 1) = (E.testBit i = true) := by rw [bitU_eq _ (by omega), bit1 _ (by omega), tB_nat l3]
  cases hb : E.testBit i with
  | false =>
    have hx : ¬ bitU ((E : Nat) : Int) ((i : Nat) : Int) = 1 := by rw [hbe, hb]; decide
    repeat' (first
      | (((first | (with_reducible refine gQ0 ?_) | ((with_reducible refine gQ1 ?_ ?_); (focus (apply wg (r := true); (iterate 6 apply Eq.refl))))); (first | ((with_reducible apply q_load layOk); (iterate 3 apply Eq.refl); (focus (repeat (with_reducible (first | apply lh | apply lt)))); exact (fr.ar i hi)) | ((with_reducible apply q_idxN (m := i) layOk); (iterate 4 apply Eq.refl); exact ha; apply Eq.refl; exact hi) | ((with_reducible apply q_move); apply Eq.refl) | ((with_reducible apply q_assign); apply Eq.refl) | ((with_reducible apply q_int); (iterate 3 apply Eq.refl)) | ((with_reducible apply q_fa layOk); (iterate 5 apply Eq.refl)) | ((with_reducible apply q_load layOk); (iterate 3 apply Eq.refl); (focus (repeat (with_reducible (first | apply lh | apply lt)))); apply Eq.refl) | ((with_reducible apply q_loadr layOk); (iterate 3 apply Eq.refl); (focus (repeat (with_reducible (first | apply lh | apply lt)))); apply Eq.refl) | ((with_reducible apply q_not); apply Eq.refl) | ((with_reducible apply q_alloc (k := ks _) layOk); apply Eq.refl; (focus (repeat (with_reducible (first | apply lh | apply lt)))); apply Eq.refl) | ((with_reducible apply q_pick_t); (iterate 2 apply Eq.refl)) | ((with_reducible apply q_pick_f); (iterate 2 apply Eq.refl)) | ((with_reducible apply q_len layOk); (iterate 4 apply Eq.refl)) | ((with_reducible apply q_conv); apply Eq.refl; exact Tryd.underlying3; exact Tryd.underlying73) | ((with_reducible apply q_shr); (iterate 2 apply Eq.refl); exact hu) | (refine q_callR rfl hW1 rfl (by repeat (first | exact Fd.nil | apply Fd.cons | (focus ((repeat (with_reducible (first | apply lh | apply lt))); done)) | (focus (apply lx; (focus (repeat (with_reducible (first | apply lh | apply lt)))); exact rfl)))) (by decide) ?_) | (refine q_callR rfl hW2 rfl (by repeat (first | exact Fd.nil | apply Fd.cons | (focus ((repeat (with_reducible (first | apply lh | apply lt))); done)) | (focus (apply lx; (focus (repeat (with_reducible (first | apply lh | apply lt)))); exact rfl)))) (by decide) ?_) | (refine q_callR rfl hW3 rfl (by repeat (first | exact Fd.nil | apply Fd.cons | (focus ((repeat (with_reducible (first | apply lh | apply lt))); done)) | (focus (apply lx; (focus (repeat (with_reducible (first | apply lh | apply lt)))); exact rfl)))) (by decide) ?_) | (refine q_callR rfl hW4 rfl (by repeat (first | exact Fd.nil | apply Fd.cons | (focus ((repeat (with_reducible (first | apply lh | apply lt))); done)) | (focus (apply lx; (focus (repeat (with_reducible (first | apply lh | apply lt)))); exact rfl)))) (by decide) ?_) | (refine q_callR rfl hW5 rfl (by repeat (first | exact Fd.nil | apply Fd.cons | (focus ((repeat (with_reducible (first | apply lh | apply lt))); done)) | (focus (apply lx; (focus (repeat (with_reducible (first | apply lh | apply lt)))); exact rfl)))) (by decide) ?_) | ((with_reducible apply e_store layOk); (iterate 3 apply Eq.refl); (focus (repeat (with_reducible (first | apply lh | apply lt)))); (iterate 5 apply Eq.refl)))))
      | (((with_reducible refine gR ?_); (first | refine RK.peelN rfl ?_ | refine RK.donef rfl ⟨_, rfl, ?_⟩ | refine RK.donet rfl (by kernel_rfl) ⟨_, rfl, ?_⟩)))
      | ((first | (with_reducible refine gQv ?_ ?_) | (with_reducible refine gQe ?_ ?_)); (focus (first | (apply wg (r := false); (iterate 6 apply Eq.refl)) | (apply wz; (iterate 4 apply Eq.refl)))))
      | ((with_reducible refine gK ?_); ((first | (apply gsD; (iterate 4 apply Eq.refl)) | (apply RKo.gsplitE; (iterate 4 apply Eq.refl)) | (apply RKo.gsplitN; (iterate 4 apply Eq.refl)) | (apply RKo.gsplit; (iterate 4 apply Eq.refl))) <;> (intro hc; first | with_reducible exact ff hc | with_reducible exact ff' hc | exact absurd hc (by decide) | exact absurd rfl hc | with_reducible exact absurd hlt hc | with_reducible exact absurd hx hc | with_reducible exact absurd hc hlt | with_reducible exact absurd hc hx | skip)))
      | (((with_reducible refine gW ?_); (first | with_reducible refine WP.seq ?_ | refine WP.reg mixed (fun ks => _) (fun ks => rfl) (fun ks => ?_) | ((first | (apply cdD; apply Eq.refl) | (apply WP.condE; apply Eq.refl) | (apply WP.condN; apply Eq.refl) | (apply WP.condA; apply Eq.refl)) <;> (intro hc; first | with_reducible exact ff hc | with_reducible exact ff' hc | exact absurd hc (by decide) | exact absurd rfl hc | with_reducible exact absurd hlt hc | with_reducible exact absurd hx hc | with_reducible exact absurd hc hlt | with_reducible exact absurd hc hx | skip)) | refine WP.ret ?_ | refine WP.skip ?_ | refine WP.exit ?_ | refine WP.goto ?_ | refine WP.label ?_ | refine WP.block ?_)))
      | (with_reducible refine thn_n ?_)
      | (with_reducible refine thn_r ?_)
      | (with_reducible refine thn_e ?_)
      | (with_reducible refine thn_g ?_)
      | (with_reducible refine blk_n ?_)
      | (with_reducible refine blk_r ?_)
      | (with_reducible refine blk_e ?_)
      | (with_reducible refine blk_g ?_)
      | (((with_reducible refine blk_o ?_ ?_); first | exact rfl | skip))
      | (refine Endz.mk' (by first | exact Or.inl rfl | exact Or.inr rfl) (by repeat (first | exact RVs.nil | apply RVs.cons | exact RV1.tmp rfl | exact RV1.row rfl rfl rfl (by repeat (first | exact look_here | apply look_there)) (by exact rfl) | exact RV1.cell rfl rfl rfl (by repeat (first | exact look_here | apply look_there)) (by exact rfl))) (by rfl) (by repeat (first | exact List.nil_sublist _ | exact List.Sublist.refl _ | apply List.Sublist.cons_cons | apply List.Sublist.cons))))
    exact ⟨i + 1, hi, (by show c.fdL - (i + 1) < c.fdL - i; omega), Wk.of ⟨rfl, rfl, rfl, rfl, rfl, rfl, rfl, congrArg (fun x => some (I64 x)) hw1, trivial⟩ (by repeat (first | exact List.nil_sublist _ | exact List.Sublist.refl _ | apply List.Sublist.cons_cons | apply List.Sublist.cons))⟩
  | true =>
    have hx : bitU ((E : Nat) : Int) ((i : Nat) : Int) = 1 := by rw [hbe, hb]
    have hr : fPrio k i = 0 := okW_few (b3 i hb).2.1
    repeat' (first
      | (((first | (with_reducible refine gQ0 ?_) | ((with_reducible refine gQ1 ?_ ?_); (focus (apply wg (r := true); (iterate 6 apply Eq.refl))))); (first | ((with_reducible apply q_load layOk); (iterate 3 apply Eq.refl); (focus (repeat (with_reducible (first | apply lh | apply lt)))); exact (fr.ar i hi)) | ((with_reducible apply q_idxN (m := i) layOk); (iterate 4 apply Eq.refl); exact ha; apply Eq.refl; exact hi) | ((with_reducible apply q_move); apply Eq.refl) | ((with_reducible apply q_assign); apply Eq.refl) | ((with_reducible apply q_int); (iterate 3 apply Eq.refl)) | ((with_reducible apply q_fa layOk); (iterate 5 apply Eq.refl)) | ((with_reducible apply q_load layOk); (iterate 3 apply Eq.refl); (focus (repeat (with_reducible (first | apply lh | apply lt)))); apply Eq.refl) | ((with_reducible apply q_loadr layOk); (iterate 3 apply Eq.refl); (focus (repeat (with_reducible (first | apply lh | apply lt)))); apply Eq.refl) | ((with_reducible apply q_not); apply Eq.refl) | ((with_reducible apply q_alloc (k := ks _) layOk); apply Eq.refl; (focus (repeat (with_reducible (first | apply lh | apply lt)))); apply Eq.refl) | ((with_reducible apply q_pick_t); (iterate 2 apply Eq.refl)) | ((with_reducible apply q_pick_f); (iterate 2 apply Eq.refl)) | ((with_reducible apply q_len layOk); (iterate 4 apply Eq.refl)) | ((with_reducible apply q_conv); apply Eq.refl; exact Tryd.underlying3; exact Tryd.underlying73) | ((with_reducible apply q_shr); (iterate 2 apply Eq.refl); exact hu) | (refine q_callR rfl hW1 rfl (by repeat (first | exact Fd.nil | apply Fd.cons | (focus ((repeat (with_reducible (first | apply lh | apply lt))); done)) | (focus (apply lx; (focus (repeat (with_reducible (first | apply lh | apply lt)))); exact rfl)))) (by decide) ?_) | (refine q_callR rfl hW2 rfl (by repeat (first | exact Fd.nil | apply Fd.cons | (focus ((repeat (with_reducible (first | apply lh | apply lt))); done)) | (focus (apply lx; (focus (repeat (with_reducible (first | apply lh | apply lt)))); exact rfl)))) (by decide) ?_) | (refine q_callR rfl hW3 rfl (by repeat (first | exact Fd.nil | apply Fd.cons | (focus ((repeat (with_reducible (first | apply lh | apply lt))); done)) | (focus (apply lx; (focus (repeat (with_reducible (first | apply lh | apply lt)))); exact rfl)))) (by decide) ?_) | (refine q_callR rfl hW4 rfl (by repeat (first | exact Fd.nil | apply Fd.cons | (focus ((repeat (with_reducible (first | apply lh | apply lt))); done)) | (focus (apply lx; (focus (repeat (with_reducible (first | apply lh | apply lt)))); exact rfl)))) (by decide) ?_) | (refine q_callR rfl hW5 rfl (by repeat (first | exact Fd.nil | apply Fd.cons | (focus ((repeat (with_reducible (first | apply lh | apply lt))); done)) | (focus (apply lx; (focus (repeat (with_reducible (first | apply lh | apply lt)))); exact rfl)))) (by decide) ?_) | ((with_reducible apply e_store layOk); (iterate 3 apply Eq.refl); (focus (repeat (with_reducible (first | apply lh | apply lt)))); (iterate 5 apply Eq.refl)))))
      | (((with_reducible refine gR ?_); (first | refine RK.peelN rfl ?_ | refine RK.donef rfl ⟨_, rfl, ?_⟩ | refine RK.donet rfl (by kernel_rfl) ⟨_, rfl, ?_⟩)))
      | ((first | (with_reducible refine gQv ?_ ?_) | (with_reducible refine gQe ?_ ?_)); (focus (first | (apply wg (r := false); (iterate 6 apply Eq.refl)) | (apply wz; (iterate 4 apply Eq.refl)))))
      | ((with_reducible refine gK ?_); ((first | (apply gsD; (iterate 4 apply Eq.refl)) | (apply RKo.gsplitE; (iterate 4 apply Eq.refl)) | (apply RKo.gsplitN; (iterate 4 apply Eq.refl)) | (apply RKo.gsplit; (iterate 4 apply Eq.refl))) <;> (intro hc; first | with_reducible exact ff hc | with_reducible exact ff' hc | exact absurd hc (by decide) | exact absurd rfl hc | with_reducible exact absurd hlt hc | with_reducible exact absurd hx hc | with_reducible exact absurd hr hc | with_reducible exact absurd hc hlt | with_reducible exact absurd hc hx | with_reducible exact absurd hc hr | skip)))
      | (((with_reducible refine gW ?_); (first | with_reducible refine WP.seq ?_ | refine WP.reg mixed (fun ks => _) (fun ks => rfl) (fun ks => ?_) | ((first | (apply cdD; apply Eq.refl) | (apply WP.condE; apply Eq.refl) | (apply WP.condN; apply Eq.refl) | (apply WP.condA; apply Eq.refl)) <;> (intro hc; first | with_reducible exact ff hc | with_reducible exact ff' hc | exact absurd hc (by decide) | exact absurd rfl hc | with_reducible exact absurd hlt hc | with_reducible exact absurd hx hc | with_reducible exact absurd hr hc | with_reducible exact absurd hc hlt | with_reducible exact absurd hc hx | with_reducible exact absurd hc hr | skip)) | refine WP.ret ?_ | refine WP.skip ?_ | refine WP.exit ?_ | refine WP.goto ?_ | refine WP.label ?_ | refine WP.block ?_)))
      | (with_reducible refine thn_n ?_)
      | (with_reducible refine thn_r ?_)
      | (with_reducible refine thn_e ?_)
      | (with_reducible refine thn_g ?_)
      | (with_reducible refine blk_n ?_)
      | (with_reducible refine blk_r ?_)
      | (with_reducible refine blk_e ?_)
      | (with_reducible refine blk_g ?_)
      | (((with_reducible refine blk_o ?_ ?_); first | exact rfl | skip))
      | (refine Endz.mk' (by first | exact Or.inl rfl | exact Or.inr rfl) (by repeat (first | exact RVs.nil | apply RVs.cons | exact RV1.tmp rfl | exact RV1.row rfl rfl rfl (by repeat (first | exact look_here | apply look_there)) (by exact rfl) | exact RV1.cell rfl rfl rfl (by repeat (first | exact look_here | apply look_there)) (by exact rfl))) (by rfl) (by repeat (first | exact List.nil_sublist _ | exact List.Sublist.refl _ | apply List.Sublist.cons_cons | apply List.Sublist.cons))))
    exact ⟨i + 1, hi, (by show c.fdL - (i + 1) < c.fdL - i; omega), Wk.of ⟨rfl, rfl, rfl, rfl, rfl, rfl, rfl, congrArg (fun x => some (I64 x)) hw1, trivial⟩ (by repeat (first | exact List.nil_sublist _ | exact List.Sublist.refl _ | apply List.Sublist.cons_cons | apply List.Sublist.cons))⟩
theorem shedTrips (n m k : Int) (shut trips : Int) : Ctr Tryd.prog 6 20 [I64 n, I64 m, I64 k, I64 shut, I64 trips] [(5, .ro 0 tzv)] (.bool true) [.ro 0 tzv] := by
  rcases cfg_cases n m k with ⟨N, hN, h⟩ | h
  · exact shedTrips_A n m k shut trips N hN h
  · exact shedTrips_B n m k shut trips h
end Go.Proofs.YtlhhcongoplfpaaDoor
