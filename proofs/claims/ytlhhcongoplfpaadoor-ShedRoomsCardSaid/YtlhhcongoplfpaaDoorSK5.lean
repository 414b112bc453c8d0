/- What functions of this program do, each as a contract that its callers use, and what follows of it in plain numbers.
   By an AI agent. -/
import Derived.Test.YtlhhcongoplfpaaDoorDLO
import Derived.Test.YtlhhcongoplfpaaDoorSK2
namespace Go.Proofs.YtlhhcongoplfpaaDoor
open Go Go.Proofs.YtlhhcongoplfpaaDoorAB
set_option linter.unusedSimpArgs false
set_option linter.unusedVariables false

/-- Config, its feeders told. -/
theorem cfg_feed (n m k : Int) : ∃ (fa : Nat → Option Addr) (fl fc : Nat) (ob : AObj), fl ≤ 6 ∧ Fr ob fl (fBus k) (fLoad k) (fPrio k) ∧ (∀ k2, 0 < fl → fa k2 = some ⟨k2, 0, none⟩) ∧
    ∀ k1 k2 : Nat, Ctr Tryd.prog 6 41 [I64 n, I64 m, I64 k] [(k1, .gone), (k2, .gone)] (.agg ⟨(cfgOf n m k (some ⟨k1, 0, none⟩) (fa k2) fl fc).cells⟩) [.cells ocv 27, ob] := by
  by_cases h : (0 : Int) < cnt m
  · have h7 : cnt m < 7 := by unfold cnt; exact Int.tmod_lt_of_pos _ (by decide)
    exact ⟨fun k2 => some ⟨k2, 0, none⟩, (cnt m).toNat, grown, .row (feeds k (cnt m).toNat) 97 3, by omega, feeds_Fr k (by omega) _, fun _ _ => rfl, fun k1 k2 => make_Config1 n m k k1 k2 h⟩
  · exact ⟨fun _ => none, 0, 0, .lost, by decide, ⟨fun i h => absurd h (Nat.not_lt_zero i), fun i h => absurd h (Nat.not_lt_zero i), fun i h => absurd h (Nat.not_lt_zero i), fun i h => absurd h (Nat.not_lt_zero i)⟩, fun _ h => absurd h (Nat.lt_irrefl 0),
      fun k1 k2 => ((make_Config0 n m k k1 h).more (k2, .gone)).lose rfl fun i o ho => by
        match i, ho with
        | 0, ho => exact .inr ho
        | 1, ho => cases ho; exact .inl rfl⟩
theorem num_nat0 (n : Int) (b : Int) (h : 0 < b) (h2 : b < 1000000000) : ∃ k : Nat, num n b = ((k : Nat) : Int) ∧ (k : Int) < b := by
  obtain ⟨a, c⟩ := num_nonneg n b h h2
  exact ⟨(num n b).toNat, by omega, by omega⟩
/-- What a source is asked for by those that are fed. -/
def loadF (bit : Nat → Bool) (fz W : Nat → Int) (z : Int) : Nat → Int
  | 0 => 0
  | i + 1 => if bit i = true ∧ fz i ≥ 0 ∧ fz i = z then fAdd (loadF bit fz W z i) (W i) else loadF bit fz W z i
theorem loadF_yes {bit : Nat → Bool} {fz W : Nat → Int} {z : Int} {i : Nat} (h : bit i = true ∧ fz i ≥ 0 ∧ fz i = z) : loadF bit fz W z (i + 1) = fAdd (loadF bit fz W z i) (W i) := if_pos h
theorem loadF_no {bit : Nat → Bool} {fz W : Nat → Int} {z : Int} {i : Nat} (h : ¬ (bit i = true ∧ fz i ≥ 0 ∧ fz i = z)) : loadF bit fz W z (i + 1) = loadF bit fz W z i := if_neg h
def fzF (B : Nat → Nat) (shut : Int) (i : Nat) : Int := feedN (bitB shut) (B i)
/-- Bit i of a mask, as the laws read it. -/
abbrev bitU (m : Int) (i : Int) : Int := IntKind.i64.wrap (BitVec.ofInt IntKind.i64.bits (m.fdiv (2 ^ min (IntKind.u64.wrap i).toNat IntKind.i64.bits)) &&& BitVec.ofInt IntKind.i64.bits 1).toNat
theorem bitU_eq (m : Int) {i : Nat} (h : i < 7) : bitU m ((i : Nat) : Int) = bitX m i := by unfold bitU bitX; rw [u64_small h]
theorem tB_nat {n : Nat} (h : n < 128) (i : Nat) : tB ((n : Nat) : Int) i = n.testBit i := by
  unfold tB; rw [show (((n : Nat) : Int) % 18446744073709551616).toNat = n by omega]
theorem bit1 (m : Int) {i : Nat} (h : i < 7) : bitX m i = 1 ↔ tB m i = true := by
  rw [bitX_eq m h]; split <;> simp_all
theorem bit0 (m : Int) {i : Nat} (h : i < 7) : bitX m i = 0 ↔ tB m i = false := by
  rw [bitX_eq m h]; split <;> simp_all
theorem small_bit {a i : Nat} (h : a < 128) (hi : 7 ≤ i) : a.testBit i = false := Nat.testBit_lt_two_pow (Nat.lt_of_lt_of_le h (Nat.pow_le_pow_right (show 2 > 0 by decide) hi))
theorem and_disj {s : Nat} (hs : s < 128) (t : Int) (h : ∀ i, i < 7 → s.testBit i = true → tB t i = false) : andX ((s : Nat) : Int) t = 0 := by
  have e : (BitVec.ofInt 64 ((s : Nat) : Int) &&& BitVec.ofInt 64 t).toNat = 0 := by
    rw [BitVec.toNat_and, BitVec.ofInt_natCast, BitVec.toNat_ofNat, Nat.mod_eq_of_lt (by omega), BitVec.toNat_ofInt]
    refine Nat.eq_of_testBit_eq fun i => ?_
    rw [Nat.testBit_and, Nat.zero_testBit]
    rcases Nat.lt_or_ge i 7 with hi | hi
    · cases hb : s.testBit i with
      | false => rfl
      | true => rw [show ((t % ((2 ^ 64 : Nat) : Int)).toNat).testBit i = tB t i from rfl, h i hi hb]; rfl
    · rw [small_bit hs hi, Bool.false_and]
  show IntKind.i64.wrap (((BitVec.ofInt 64 ((s : Nat) : Int) &&& BitVec.ofInt 64 t).toNat : Nat) : Int) = 0
  rw [e]; rfl
theorem nAn_sub {a b : Nat} (ha : a < 128) (h : ∀ i, a.testBit i = true → b.testBit i = true) : nAn a b = 0 := by
  refine Nat.eq_of_testBit_eq fun i => ?_
  unfold nAn
  rw [Nat.testBit_and, Nat.testBit_xor, Nat.zero_testBit]
  rcases Nat.lt_or_ge i 7 with hi | hi
  · have e127 : (127 : Nat).testBit i = decide (i < 7) := Nat.testBit_two_pow_sub_one 7 i
    rw [e127, decide_eq_true hi]
    cases hb : a.testBit i with
    | false => rfl
    | true => rw [h i hb]; rfl
  · rw [small_bit ha hi]; rfl

set_option maxHeartbeats 8000000 in
theorem shed_Load {c : Cfg} {ob : AObj} {kf : Nat} {B : Nat → Nat} {W R : Nat → Int} (fr : Fr ob c.fdL B W R) (ha : 0 < c.fdL → c.fdA = some ⟨kf, 0, none⟩) (h7 : c.fdL ≤ 7) (hB : ∀ i, i < c.fdL → 4 ≤ B i ∧ B i < 7) (feed shut z : Int) : Ctr Tryd.prog 6 71 [.agg ⟨c.cells⟩, I64 feed, I64 shut, I64 z] [(5, .ro 0 tzv), (kf, ob)] (I64 (loadF (bitB feed) (fzF B shut) W z c.fdL)) [.ro 0 tzv, ob] := by
  refine Ctr.by layOk Tryd.func71 Tryd.ntmps71 rfl rfl rfl rfl rfl ?_
  repeat' (first
    | (((first | (with_reducible refine gQ0 ?_) | ((with_reducible refine gQ1 ?_ ?_); (focus (apply wg (r := true); (iterate 6 apply Eq.refl))))); (first | ((with_reducible apply q_move); apply Eq.refl) | ((with_reducible apply q_assign); apply Eq.refl) | ((with_reducible apply q_int); (iterate 3 apply Eq.refl)) | ((with_reducible apply q_fa layOk); (iterate 5 apply Eq.refl)) | ((with_reducible apply q_load layOk); (iterate 3 apply Eq.refl); (focus (repeat (with_reducible (first | apply lh | apply lt)))); apply Eq.refl) | ((with_reducible apply q_loadr layOk); (iterate 3 apply Eq.refl); (focus (repeat (with_reducible (first | apply lh | apply lt)))); apply Eq.refl) | ((with_reducible apply q_box (k := ks _)); apply Eq.refl; (focus (repeat (with_reducible (first | apply lh | apply lt)))); apply Eq.refl) | ((with_reducible apply q_alloc (k := ks _) layOk); apply Eq.refl; (focus (repeat (with_reducible (first | apply lh | apply lt)))); apply Eq.refl) | ((with_reducible apply q_pick_t); (iterate 2 apply Eq.refl)) | ((with_reducible apply q_pick_f); (iterate 2 apply Eq.refl)) | ((with_reducible apply q_len layOk); (iterate 4 apply Eq.refl)) | ((with_reducible apply q_shr); (iterate 2 apply Eq.refl); (focus (omega))) | ((with_reducible apply e_store layOk); (iterate 3 apply Eq.refl); (focus (repeat (with_reducible (first | apply lh | apply lt)))); (iterate 5 apply Eq.refl)))))
    | (((with_reducible refine gR ?_); (first | refine RK.peelN rfl ?_ | refine RK.donef rfl ⟨_, rfl, ?_⟩ | refine RK.donet rfl (by kernel_rfl) ⟨_, rfl, ?_⟩)))
    | ((first | (with_reducible refine gQv ?_ ?_) | (with_reducible refine gQe ?_ ?_)); (focus (first | (apply wg (r := false); (iterate 6 apply Eq.refl)) | (apply wz; (iterate 4 apply Eq.refl)))))
    | ((with_reducible refine gK ?_); ((first | (apply gsD; (iterate 4 apply Eq.refl)) | (apply RKo.gsplitE; (iterate 4 apply Eq.refl)) | (apply RKo.gsplitN; (iterate 4 apply Eq.refl)) | (apply RKo.gsplit; (iterate 4 apply Eq.refl))) <;> (intro hc; first | with_reducible exact ff hc | with_reducible exact ff' hc | skip)))
    | (((with_reducible refine gW ?_); (first | with_reducible refine WP.seq ?_ | refine WP.reg mixed (fun ks => _) (fun ks => rfl) (fun ks => ?_) | ((first | (apply cdD; apply Eq.refl) | (apply WP.condE; apply Eq.refl) | (apply WP.condN; apply Eq.refl) | (apply WP.condA; apply Eq.refl)) <;> (intro hc; first | with_reducible exact ff hc | with_reducible exact ff' hc | skip)) | refine WP.ret ?_ | refine WP.skip ?_ | refine WP.exit ?_ | refine WP.goto ?_ | refine WP.label ?_ | refine WP.block ?_)))
    | (with_reducible refine thn_n ?_)
    | (with_reducible refine thn_r ?_)
    | (with_reducible refine thn_e ?_)
    | (with_reducible refine thn_g ?_)
    | (with_reducible refine blk_n ?_)
    | (with_reducible refine blk_r ?_)
    | (with_reducible refine blk_e ?_)
    | (with_reducible refine blk_g ?_)
    | (((with_reducible refine blk_o ?_ ?_); first | exact rfl | skip))
    | (refine Endz.mk' (by first | exact Or.inl rfl | exact Or.inr rfl) (by repeat (first | exact RVs.nil | apply RVs.cons | exact RV1.tmp rfl | exact RV1.row rfl rfl rfl (by repeat (first | exact look_here | apply look_there)) (by exact rfl) | exact RV1.cell rfl rfl rfl (by repeat (first | exact look_here | apply look_there)) (by exact rfl))) (by rfl) (by repeat (first | exact List.nil_sublist _ | exact List.Sublist.refl _ | apply List.Sublist.cons_cons | apply List.Sublist.cons))))
  refine WP.loopI (n := 45) (α := Nat) (fun i => [(1, some (I64 feed)), (2, some (I64 shut)), (3, some (I64 z)), (9, some (I64 (loadF (bitB feed) (fzF B shut) W z i))), (14, some (.slice c.fdA c.fdL c.fdC)), (15, some (I64 (c.fdL : Int))), (16, some (I64 (i : Int)))]) (fun i => [(5, .ro 0 tzv), (kf, ob)]) (fun i => i ≤ c.fdL) (fun i => c.fdL - i) 0 (Wk.of ⟨rfl, rfl, rfl, rfl, rfl, rfl, rfl, trivial⟩ (by repeat (first | exact List.nil_sublist _ | exact List.Sublist.refl _ | apply List.Sublist.cons_cons | apply List.Sublist.cons))) (Nat.zero_le _) (fun i iy => ?_)
  have iy : i ≤ c.fdL := iy
  by_cases hi : i < c.fdL
  rotate_left
  · have hge : ¬ (i : Int) < (c.fdL : Int) := by omega
    obtain rfl : i = c.fdL := by omega
    repeat' (first
      | (((first | (with_reducible refine gQ0 ?_) | ((with_reducible refine gQ1 ?_ ?_); (focus (apply wg (r := true); (iterate 6 apply Eq.refl))))); (first | ((with_reducible apply q_move); apply Eq.refl) | ((with_reducible apply q_assign); apply Eq.refl) | ((with_reducible apply q_int); (iterate 3 apply Eq.refl)) | ((with_reducible apply q_fa layOk); (iterate 5 apply Eq.refl)) | ((with_reducible apply q_load layOk); (iterate 3 apply Eq.refl); (focus (repeat (with_reducible (first | apply lh | apply lt)))); apply Eq.refl) | ((with_reducible apply q_loadr layOk); (iterate 3 apply Eq.refl); (focus (repeat (with_reducible (first | apply lh | apply lt)))); apply Eq.refl) | ((with_reducible apply q_box (k := ks _)); apply Eq.refl; (focus (repeat (with_reducible (first | apply lh | apply lt)))); apply Eq.refl) | ((with_reducible apply q_alloc (k := ks _) layOk); apply Eq.refl; (focus (repeat (with_reducible (first | apply lh | apply lt)))); apply Eq.refl) | ((with_reducible apply q_pick_t); (iterate 2 apply Eq.refl)) | ((with_reducible apply q_pick_f); (iterate 2 apply Eq.refl)) | ((with_reducible apply q_len layOk); (iterate 4 apply Eq.refl)) | ((with_reducible apply q_shr); (iterate 2 apply Eq.refl); (focus (omega))) | ((with_reducible apply e_store layOk); (iterate 3 apply Eq.refl); (focus (repeat (with_reducible (first | apply lh | apply lt)))); (iterate 5 apply Eq.refl)))))
      | (((with_reducible refine gR ?_); (first | refine RK.peelN rfl ?_ | refine RK.donef rfl ⟨_, rfl, ?_⟩ | refine RK.donet rfl (by kernel_rfl) ⟨_, rfl, ?_⟩)))
      | ((first | (with_reducible refine gQv ?_ ?_) | (with_reducible refine gQe ?_ ?_)); (focus (first | (apply wg (r := false); (iterate 6 apply Eq.refl)) | (apply wz; (iterate 4 apply Eq.refl)))))
      | ((with_reducible refine gK ?_); ((first | (apply gsD; (iterate 4 apply Eq.refl)) | (apply RKo.gsplitE; (iterate 4 apply Eq.refl)) | (apply RKo.gsplitN; (iterate 4 apply Eq.refl)) | (apply RKo.gsplit; (iterate 4 apply Eq.refl))) <;> (intro hc; first | with_reducible exact ff hc | with_reducible exact ff' hc | with_reducible exact absurd hge hc | with_reducible exact absurd hc hge | skip)))
      | (((with_reducible refine gW ?_); (first | with_reducible refine WP.seq ?_ | refine WP.reg mixed (fun ks => _) (fun ks => rfl) (fun ks => ?_) | ((first | (apply cdD; apply Eq.refl) | (apply WP.condE; apply Eq.refl) | (apply WP.condN; apply Eq.refl) | (apply WP.condA; apply Eq.refl)) <;> (intro hc; first | with_reducible exact ff hc | with_reducible exact ff' hc | with_reducible exact absurd hge hc | with_reducible exact absurd hc hge | skip)) | refine WP.ret ?_ | refine WP.skip ?_ | refine WP.exit ?_ | refine WP.goto ?_ | refine WP.label ?_ | refine WP.block ?_)))
      | (with_reducible refine thn_n ?_)
      | (with_reducible refine thn_r ?_)
      | (with_reducible refine thn_e ?_)
      | (with_reducible refine thn_g ?_)
      | (with_reducible refine blk_n ?_)
      | (with_reducible refine blk_r ?_)
      | (with_reducible refine blk_e ?_)
      | (with_reducible refine blk_g ?_)
      | (((with_reducible refine blk_o ?_ ?_); first | exact rfl | skip))
      | (refine Endz.mk' (by first | exact Or.inl rfl | exact Or.inr rfl) (by repeat (first | exact RVs.nil | apply RVs.cons | exact RV1.tmp rfl | exact RV1.row rfl rfl rfl (by repeat (first | exact look_here | apply look_there)) (by exact rfl) | exact RV1.cell rfl rfl rfl (by repeat (first | exact look_here | apply look_there)) (by exact rfl))) (by rfl) (by repeat (first | exact List.nil_sublist _ | exact List.Sublist.refl _ | apply List.Sublist.cons_cons | apply List.Sublist.cons))))
  have hlt : (i : Int) < (c.fdL : Int) := by omega
  have hw : IntKind.i64.wrap ((i : Int) + 1) = ((i + 1 : Nat) : Int) := kp1 (by omega)
  obtain ⟨hb1, hb2⟩ := hB i hi
  have hfe := graph_Feeds shut (B i) hb1 hb2
  by_cases hx : bitX feed i = 1
  · have hx' : bitB feed i = true := decide_eq_true hx
    by_cases hz0 : feedN (bitB shut) (B i) ≥ 0
    · by_cases hz : feedN (bitB shut) (B i) = z
      · have e := loadF_yes (bit := bitB feed) (fz := fzF B shut) (W := W) (z := z) (i := i) ⟨hx', hz0, hz⟩
        repeat' (first
          | (((first | (with_reducible refine gQ0 ?_) | ((with_reducible refine gQ1 ?_ ?_); (focus (apply wg (r := true); (iterate 6 apply Eq.refl))))); (first | ((with_reducible apply q_loadr layOk); (iterate 3 apply Eq.refl); (focus (repeat (with_reducible (first | apply lh | apply lt)))); exact (fr.seg i hi)) | ((with_reducible apply q_idxN (m := i) layOk); (iterate 4 apply Eq.refl); exact ha; apply Eq.refl; exact hi) | ((with_reducible apply q_alloc (k := ks _) layOk); apply Eq.refl; (focus (repeat (with_reducible (first | apply lh | apply lt)))); apply Eq.refl) | ((with_reducible apply q_move); apply Eq.refl) | ((with_reducible apply q_assign); apply Eq.refl) | ((with_reducible apply q_int); (iterate 3 apply Eq.refl)) | ((with_reducible apply q_fa layOk); (iterate 5 apply Eq.refl)) | ((with_reducible apply q_load layOk); (iterate 3 apply Eq.refl); (focus (repeat (with_reducible (first | apply lh | apply lt)))); apply Eq.refl) | ((with_reducible apply q_loadr layOk); (iterate 3 apply Eq.refl); (focus (repeat (with_reducible (first | apply lh | apply lt)))); apply Eq.refl) | ((with_reducible apply q_box (k := ks _)); apply Eq.refl; (focus (repeat (with_reducible (first | apply lh | apply lt)))); apply Eq.refl) | ((with_reducible apply q_alloc (k := ks _) layOk); apply Eq.refl; (focus (repeat (with_reducible (first | apply lh | apply lt)))); apply Eq.refl) | ((with_reducible apply q_pick_t); (iterate 2 apply Eq.refl)) | ((with_reducible apply q_pick_f); (iterate 2 apply Eq.refl)) | ((with_reducible apply q_len layOk); (iterate 4 apply Eq.refl)) | ((with_reducible apply q_shr); (iterate 2 apply Eq.refl); (focus (omega))) | (refine q_call1r rfl hfe (by first | (focus ((repeat (with_reducible (first | apply lh | apply lt))); done)) | (focus (apply lx; (focus (repeat (with_reducible (first | apply lh | apply lt)))); exact rfl))) ?_) | ((with_reducible apply isF (f := 116)); (refine q_call0 rfl (fixed_Add _ _) ?_)) | ((with_reducible apply e_store layOk); (iterate 3 apply Eq.refl); (focus (repeat (with_reducible (first | apply lh | apply lt)))); (iterate 5 apply Eq.refl)))))
          | (((with_reducible refine gR ?_); (first | refine RK.peelN rfl ?_ | refine RK.donef rfl ⟨_, rfl, ?_⟩ | refine RK.donet rfl (by kernel_rfl) ⟨_, rfl, ?_⟩)))
          | ((first | (with_reducible refine gQv ?_ ?_) | (with_reducible refine gQe ?_ ?_)); (focus (first | (apply wg (r := false); (iterate 6 apply Eq.refl)) | (apply wz; (iterate 4 apply Eq.refl)))))
          | ((with_reducible refine gK ?_); ((first | (apply gsD; (iterate 4 apply Eq.refl)) | (apply RKo.gsplitE; (iterate 4 apply Eq.refl)) | (apply RKo.gsplitN; (iterate 4 apply Eq.refl)) | (apply RKo.gsplit; (iterate 4 apply Eq.refl))) <;> (intro hc; first | with_reducible exact ff hc | with_reducible exact ff' hc | exact absurd hc (by decide) | with_reducible exact absurd hlt hc | with_reducible exact absurd hx hc | with_reducible exact absurd hz0 hc | with_reducible exact absurd hz hc | with_reducible exact absurd hc hlt | with_reducible exact absurd hc hx | with_reducible exact absurd hc hz0 | with_reducible exact absurd hc hz | skip)))
          | (((with_reducible refine gW ?_); (first | with_reducible refine WP.seq ?_ | refine WP.reg mixed (fun ks => _) (fun ks => rfl) (fun ks => ?_) | ((first | (apply cdD; apply Eq.refl) | (apply WP.condE; apply Eq.refl) | (apply WP.condN; apply Eq.refl) | (apply WP.condA; apply Eq.refl)) <;> (intro hc; first | with_reducible exact ff hc | with_reducible exact ff' hc | exact absurd hc (by decide) | with_reducible exact absurd hlt hc | with_reducible exact absurd hx hc | with_reducible exact absurd hz0 hc | with_reducible exact absurd hz hc | with_reducible exact absurd hc hlt | with_reducible exact absurd hc hx | with_reducible exact absurd hc hz0 | with_reducible exact absurd hc hz | skip)) | refine WP.ret ?_ | refine WP.skip ?_ | refine WP.exit ?_ | refine WP.goto ?_ | refine WP.label ?_ | refine WP.block ?_)))
          | (with_reducible refine thn_n ?_)
          | (with_reducible refine thn_r ?_)
          | (with_reducible refine thn_e ?_)
          | (with_reducible refine thn_g ?_)
          | (with_reducible refine blk_n ?_)
          | (with_reducible refine blk_r ?_)
          | (with_reducible refine blk_e ?_)
          | (with_reducible refine blk_g ?_)
          | (((with_reducible refine blk_o ?_ ?_); first | exact rfl | skip))
          | (refine Endz.mk' (by first | exact Or.inl rfl | exact Or.inr rfl) (by repeat (first | exact RVs.nil | apply RVs.cons | exact RV1.tmp rfl | exact RV1.row rfl rfl rfl (by repeat (first | exact look_here | apply look_there)) (by exact rfl) | exact RV1.cell rfl rfl rfl (by repeat (first | exact look_here | apply look_there)) (by exact rfl))) (by rfl) (by repeat (first | exact List.nil_sublist _ | exact List.Sublist.refl _ | apply List.Sublist.cons_cons | apply List.Sublist.cons))))
        refine ⟨i + 1, hi, by show c.fdL - (i + 1) < c.fdL - i; omega, ?_⟩
        rw [e]
        exact Wk.of ⟨rfl, rfl, rfl, rfl, rfl, rfl, congrArg (fun x => some (I64 x)) hw, trivial⟩ (by repeat (first | exact List.nil_sublist _ | exact List.Sublist.refl _ | apply List.Sublist.cons_cons | apply List.Sublist.cons))
      · have e := loadF_no (bit := bitB feed) (fz := fzF B shut) (W := W) (z := z) (i := i) (fun h => hz h.2.2)
        repeat' (first
          | (((first | (with_reducible refine gQ0 ?_) | ((with_reducible refine gQ1 ?_ ?_); (focus (apply wg (r := true); (iterate 6 apply Eq.refl))))); (first | ((with_reducible apply q_loadr layOk); (iterate 3 apply Eq.refl); (focus (repeat (with_reducible (first | apply lh | apply lt)))); exact (fr.seg i hi)) | ((with_reducible apply q_idxN (m := i) layOk); (iterate 4 apply Eq.refl); exact ha; apply Eq.refl; exact hi) | ((with_reducible apply q_alloc (k := ks _) layOk); apply Eq.refl; (focus (repeat (with_reducible (first | apply lh | apply lt)))); apply Eq.refl) | ((with_reducible apply q_move); apply Eq.refl) | ((with_reducible apply q_assign); apply Eq.refl) | ((with_reducible apply q_int); (iterate 3 apply Eq.refl)) | ((with_reducible apply q_fa layOk); (iterate 5 apply Eq.refl)) | ((with_reducible apply q_load layOk); (iterate 3 apply Eq.refl); (focus (repeat (with_reducible (first | apply lh | apply lt)))); apply Eq.refl) | ((with_reducible apply q_loadr layOk); (iterate 3 apply Eq.refl); (focus (repeat (with_reducible (first | apply lh | apply lt)))); apply Eq.refl) | ((with_reducible apply q_box (k := ks _)); apply Eq.refl; (focus (repeat (with_reducible (first | apply lh | apply lt)))); apply Eq.refl) | ((with_reducible apply q_alloc (k := ks _) layOk); apply Eq.refl; (focus (repeat (with_reducible (first | apply lh | apply lt)))); apply Eq.refl) | ((with_reducible apply q_pick_t); (iterate 2 apply Eq.refl)) | ((with_reducible apply q_pick_f); (iterate 2 apply Eq.refl)) | ((with_reducible apply q_len layOk); (iterate 4 apply Eq.refl)) | ((with_reducible apply q_shr); (iterate 2 apply Eq.refl); (focus (omega))) | (refine q_call1r rfl hfe (by first | (focus ((repeat (with_reducible (first | apply lh | apply lt))); done)) | (focus (apply lx; (focus (repeat (with_reducible (first | apply lh | apply lt)))); exact rfl))) ?_) | ((with_reducible apply isF (f := 116)); (refine q_call0 rfl (fixed_Add _ _) ?_)) | ((with_reducible apply e_store layOk); (iterate 3 apply Eq.refl); (focus (repeat (with_reducible (first | apply lh | apply lt)))); (iterate 5 apply Eq.refl)))))
          | (((with_reducible refine gR ?_); (first | refine RK.peelN rfl ?_ | refine RK.donef rfl ⟨_, rfl, ?_⟩ | refine RK.donet rfl (by kernel_rfl) ⟨_, rfl, ?_⟩)))
          | ((first | (with_reducible refine gQv ?_ ?_) | (with_reducible refine gQe ?_ ?_)); (focus (first | (apply wg (r := false); (iterate 6 apply Eq.refl)) | (apply wz; (iterate 4 apply Eq.refl)))))
          | ((with_reducible refine gK ?_); ((first | (apply gsD; (iterate 4 apply Eq.refl)) | (apply RKo.gsplitE; (iterate 4 apply Eq.refl)) | (apply RKo.gsplitN; (iterate 4 apply Eq.refl)) | (apply RKo.gsplit; (iterate 4 apply Eq.refl))) <;> (intro hc; first | with_reducible exact ff hc | with_reducible exact ff' hc | exact absurd hc (by decide) | with_reducible exact absurd hlt hc | with_reducible exact absurd hx hc | with_reducible exact absurd hz0 hc | with_reducible exact absurd hz hc | with_reducible exact absurd hc hlt | with_reducible exact absurd hc hx | with_reducible exact absurd hc hz0 | with_reducible exact absurd hc hz | skip)))
          | (((with_reducible refine gW ?_); (first | with_reducible refine WP.seq ?_ | refine WP.reg mixed (fun ks => _) (fun ks => rfl) (fun ks => ?_) | ((first | (apply cdD; apply Eq.refl) | (apply WP.condE; apply Eq.refl) | (apply WP.condN; apply Eq.refl) | (apply WP.condA; apply Eq.refl)) <;> (intro hc; first | with_reducible exact ff hc | with_reducible exact ff' hc | exact absurd hc (by decide) | with_reducible exact absurd hlt hc | with_reducible exact absurd hx hc | with_reducible exact absurd hz0 hc | with_reducible exact absurd hz hc | with_reducible exact absurd hc hlt | with_reducible exact absurd hc hx | with_reducible exact absurd hc hz0 | with_reducible exact absurd hc hz | skip)) | refine WP.ret ?_ | refine WP.skip ?_ | refine WP.exit ?_ | refine WP.goto ?_ | refine WP.label ?_ | refine WP.block ?_)))
          | (with_reducible refine thn_n ?_)
          | (with_reducible refine thn_r ?_)
          | (with_reducible refine thn_e ?_)
          | (with_reducible refine thn_g ?_)
          | (with_reducible refine blk_n ?_)
          | (with_reducible refine blk_r ?_)
          | (with_reducible refine blk_e ?_)
          | (with_reducible refine blk_g ?_)
          | (((with_reducible refine blk_o ?_ ?_); first | exact rfl | skip))
          | (refine Endz.mk' (by first | exact Or.inl rfl | exact Or.inr rfl) (by repeat (first | exact RVs.nil | apply RVs.cons | exact RV1.tmp rfl | exact RV1.row rfl rfl rfl (by repeat (first | exact look_here | apply look_there)) (by exact rfl) | exact RV1.cell rfl rfl rfl (by repeat (first | exact look_here | apply look_there)) (by exact rfl))) (by rfl) (by repeat (first | exact List.nil_sublist _ | exact List.Sublist.refl _ | apply List.Sublist.cons_cons | apply List.Sublist.cons))))
        refine ⟨i + 1, hi, by show c.fdL - (i + 1) < c.fdL - i; omega, ?_⟩
        rw [e]
        exact Wk.of ⟨rfl, rfl, rfl, rfl, rfl, rfl, congrArg (fun x => some (I64 x)) hw, trivial⟩ (by repeat (first | exact List.nil_sublist _ | exact List.Sublist.refl _ | apply List.Sublist.cons_cons | apply List.Sublist.cons))
    · have e := loadF_no (bit := bitB feed) (fz := fzF B shut) (W := W) (z := z) (i := i) (fun h => hz0 h.2.1)
      repeat' (first
        | (((first | (with_reducible refine gQ0 ?_) | ((with_reducible refine gQ1 ?_ ?_); (focus (apply wg (r := true); (iterate 6 apply Eq.refl))))); (first | ((with_reducible apply q_loadr layOk); (iterate 3 apply Eq.refl); (focus (repeat (with_reducible (first | apply lh | apply lt)))); exact (fr.seg i hi)) | ((with_reducible apply q_idxN (m := i) layOk); (iterate 4 apply Eq.refl); exact ha; apply Eq.refl; exact hi) | ((with_reducible apply q_alloc (k := ks _) layOk); apply Eq.refl; (focus (repeat (with_reducible (first | apply lh | apply lt)))); apply Eq.refl) | ((with_reducible apply q_move); apply Eq.refl) | ((with_reducible apply q_assign); apply Eq.refl) | ((with_reducible apply q_int); (iterate 3 apply Eq.refl)) | ((with_reducible apply q_fa layOk); (iterate 5 apply Eq.refl)) | ((with_reducible apply q_load layOk); (iterate 3 apply Eq.refl); (focus (repeat (with_reducible (first | apply lh | apply lt)))); apply Eq.refl) | ((with_reducible apply q_loadr layOk); (iterate 3 apply Eq.refl); (focus (repeat (with_reducible (first | apply lh | apply lt)))); apply Eq.refl) | ((with_reducible apply q_box (k := ks _)); apply Eq.refl; (focus (repeat (with_reducible (first | apply lh | apply lt)))); apply Eq.refl) | ((with_reducible apply q_alloc (k := ks _) layOk); apply Eq.refl; (focus (repeat (with_reducible (first | apply lh | apply lt)))); apply Eq.refl) | ((with_reducible apply q_pick_t); (iterate 2 apply Eq.refl)) | ((with_reducible apply q_pick_f); (iterate 2 apply Eq.refl)) | ((with_reducible apply q_len layOk); (iterate 4 apply Eq.refl)) | ((with_reducible apply q_shr); (iterate 2 apply Eq.refl); (focus (omega))) | (refine q_call1r rfl hfe (by first | (focus ((repeat (with_reducible (first | apply lh | apply lt))); done)) | (focus (apply lx; (focus (repeat (with_reducible (first | apply lh | apply lt)))); exact rfl))) ?_) | ((with_reducible apply isF (f := 116)); (refine q_call0 rfl (fixed_Add _ _) ?_)) | ((with_reducible apply e_store layOk); (iterate 3 apply Eq.refl); (focus (repeat (with_reducible (first | apply lh | apply lt)))); (iterate 5 apply Eq.refl)))))
        | (((with_reducible refine gR ?_); (first | refine RK.peelN rfl ?_ | refine RK.donef rfl ⟨_, rfl, ?_⟩ | refine RK.donet rfl (by kernel_rfl) ⟨_, rfl, ?_⟩)))
        | ((first | (with_reducible refine gQv ?_ ?_) | (with_reducible refine gQe ?_ ?_)); (focus (first | (apply wg (r := false); (iterate 6 apply Eq.refl)) | (apply wz; (iterate 4 apply Eq.refl)))))
        | ((with_reducible refine gK ?_); ((first | (apply gsD; (iterate 4 apply Eq.refl)) | (apply RKo.gsplitE; (iterate 4 apply Eq.refl)) | (apply RKo.gsplitN; (iterate 4 apply Eq.refl)) | (apply RKo.gsplit; (iterate 4 apply Eq.refl))) <;> (intro hc; first | with_reducible exact ff hc | with_reducible exact ff' hc | exact absurd hc (by decide) | with_reducible exact absurd hlt hc | with_reducible exact absurd hx hc | with_reducible exact absurd hz0 hc | with_reducible exact absurd hc hlt | with_reducible exact absurd hc hx | with_reducible exact absurd hc hz0 | skip)))
        | (((with_reducible refine gW ?_); (first | with_reducible refine WP.seq ?_ | refine WP.reg mixed (fun ks => _) (fun ks => rfl) (fun ks => ?_) | ((first | (apply cdD; apply Eq.refl) | (apply WP.condE; apply Eq.refl) | (apply WP.condN; apply Eq.refl) | (apply WP.condA; apply Eq.refl)) <;> (intro hc; first | with_reducible exact ff hc | with_reducible exact ff' hc | exact absurd hc (by decide) | with_reducible exact absurd hlt hc | with_reducible exact absurd hx hc | with_reducible exact absurd hz0 hc | with_reducible exact absurd hc hlt | with_reducible exact absurd hc hx | with_reducible exact absurd hc hz0 | skip)) | refine WP.ret ?_ | refine WP.skip ?_ | refine WP.exit ?_ | refine WP.goto ?_ | refine WP.label ?_ | refine WP.block ?_)))
        | (with_reducible refine thn_n ?_)
        | (with_reducible refine thn_r ?_)
        | (with_reducible refine thn_e ?_)
        | (with_reducible refine thn_g ?_)
        | (with_reducible refine blk_n ?_)
        | (with_reducible refine blk_r ?_)
        | (with_reducible refine blk_e ?_)
        | (with_reducible refine blk_g ?_)
        | (((with_reducible refine blk_o ?_ ?_); first | exact rfl | skip))
        | (refine Endz.mk' (by first | exact Or.inl rfl | exact Or.inr rfl) (by repeat (first | exact RVs.nil | apply RVs.cons | exact RV1.tmp rfl | exact RV1.row rfl rfl rfl (by repeat (first | exact look_here | apply look_there)) (by exact rfl) | exact RV1.cell rfl rfl rfl (by repeat (first | exact look_here | apply look_there)) (by exact rfl))) (by rfl) (by repeat (first | exact List.nil_sublist _ | exact List.Sublist.refl _ | apply List.Sublist.cons_cons | apply List.Sublist.cons))))
      refine ⟨i + 1, hi, by show c.fdL - (i + 1) < c.fdL - i; omega, ?_⟩
      rw [e]
      exact Wk.of ⟨rfl, rfl, rfl, rfl, rfl, rfl, congrArg (fun x => some (I64 x)) hw, trivial⟩ (by repeat (first | exact List.nil_sublist _ | exact List.Sublist.refl _ | apply List.Sublist.cons_cons | apply List.Sublist.cons))
  · have e := loadF_no (bit := bitB feed) (fz := fzF B shut) (W := W) (z := z) (i := i) (fun h => hx (of_decide_eq_true h.1))
    repeat' (first
      | (((first | (with_reducible refine gQ0 ?_) | ((with_reducible refine gQ1 ?_ ?_); (focus (apply wg (r := true); (iterate 6 apply Eq.refl))))); (first | ((with_reducible apply q_loadr layOk); (iterate 3 apply Eq.refl); (focus (repeat (with_reducible (first | apply lh | apply lt)))); exact (fr.seg i hi)) | ((with_reducible apply q_idxN (m := i) layOk); (iterate 4 apply Eq.refl); exact ha; apply Eq.refl; exact hi) | ((with_reducible apply q_alloc (k := ks _) layOk); apply Eq.refl; (focus (repeat (with_reducible (first | apply lh | apply lt)))); apply Eq.refl) | ((with_reducible apply q_move); apply Eq.refl) | ((with_reducible apply q_assign); apply Eq.refl) | ((with_reducible apply q_int); (iterate 3 apply Eq.refl)) | ((with_reducible apply q_fa layOk); (iterate 5 apply Eq.refl)) | ((with_reducible apply q_load layOk); (iterate 3 apply Eq.refl); (focus (repeat (with_reducible (first | apply lh | apply lt)))); apply Eq.refl) | ((with_reducible apply q_loadr layOk); (iterate 3 apply Eq.refl); (focus (repeat (with_reducible (first | apply lh | apply lt)))); apply Eq.refl) | ((with_reducible apply q_box (k := ks _)); apply Eq.refl; (focus (repeat (with_reducible (first | apply lh | apply lt)))); apply Eq.refl) | ((with_reducible apply q_alloc (k := ks _) layOk); apply Eq.refl; (focus (repeat (with_reducible (first | apply lh | apply lt)))); apply Eq.refl) | ((with_reducible apply q_pick_t); (iterate 2 apply Eq.refl)) | ((with_reducible apply q_pick_f); (iterate 2 apply Eq.refl)) | ((with_reducible apply q_len layOk); (iterate 4 apply Eq.refl)) | ((with_reducible apply q_shr); (iterate 2 apply Eq.refl); (focus (omega))) | (refine q_call1r rfl hfe (by first | (focus ((repeat (with_reducible (first | apply lh | apply lt))); done)) | (focus (apply lx; (focus (repeat (with_reducible (first | apply lh | apply lt)))); exact rfl))) ?_) | ((with_reducible apply isF (f := 116)); (refine q_call0 rfl (fixed_Add _ _) ?_)) | ((with_reducible apply e_store layOk); (iterate 3 apply Eq.refl); (focus (repeat (with_reducible (first | apply lh | apply lt)))); (iterate 5 apply Eq.refl)))))
      | (((with_reducible refine gR ?_); (first | refine RK.peelN rfl ?_ | refine RK.donef rfl ⟨_, rfl, ?_⟩ | refine RK.donet rfl (by kernel_rfl) ⟨_, rfl, ?_⟩)))
      | ((first | (with_reducible refine gQv ?_ ?_) | (with_reducible refine gQe ?_ ?_)); (focus (first | (apply wg (r := false); (iterate 6 apply Eq.refl)) | (apply wz; (iterate 4 apply Eq.refl)))))
      | ((with_reducible refine gK ?_); ((first | (apply gsD; (iterate 4 apply Eq.refl)) | (apply RKo.gsplitE; (iterate 4 apply Eq.refl)) | (apply RKo.gsplitN; (iterate 4 apply Eq.refl)) | (apply RKo.gsplit; (iterate 4 apply Eq.refl))) <;> (intro hc; first | with_reducible exact ff hc | with_reducible exact ff' hc | exact absurd hc (by decide) | with_reducible exact absurd hlt hc | with_reducible exact absurd hx hc | with_reducible exact absurd hc hlt | with_reducible exact absurd hc hx | skip)))
      | (((with_reducible refine gW ?_); (first | with_reducible refine WP.seq ?_ | refine WP.reg mixed (fun ks => _) (fun ks => rfl) (fun ks => ?_) | ((first | (apply cdD; apply Eq.refl) | (apply WP.condE; apply Eq.refl) | (apply WP.condN; apply Eq.refl) | (apply WP.condA; apply Eq.refl)) <;> (intro hc; first | with_reducible exact ff hc | with_reducible exact ff' hc | exact absurd hc (by decide) | with_reducible exact absurd hlt hc | with_reducible exact absurd hx hc | with_reducible exact absurd hc hlt | with_reducible exact absurd hc hx | skip)) | refine WP.ret ?_ | refine WP.skip ?_ | refine WP.exit ?_ | refine WP.goto ?_ | refine WP.label ?_ | refine WP.block ?_)))
      | (with_reducible refine thn_n ?_)
      | (with_reducible refine thn_r ?_)
      | (with_reducible refine thn_e ?_)
      | (with_reducible refine thn_g ?_)
      | (with_reducible refine blk_n ?_)
      | (with_reducible refine blk_r ?_)
      | (with_reducible refine blk_e ?_)
      | (with_reducible refine blk_g ?_)
      | (((with_reducible refine blk_o ?_ ?_); first | exact rfl | skip))
      | (refine Endz.mk' (by first | exact Or.inl rfl | exact Or.inr rfl) (by repeat (first | exact RVs.nil | apply RVs.cons | exact RV1.tmp rfl | exact RV1.row rfl rfl rfl (by repeat (first | exact look_here | apply look_there)) (by exact rfl) | exact RV1.cell rfl rfl rfl (by repeat (first | exact look_here | apply look_there)) (by exact rfl))) (by rfl) (by repeat (first | exact List.nil_sublist _ | exact List.Sublist.refl _ | apply List.Sublist.cons_cons | apply List.Sublist.cons))))
    refine ⟨i + 1, hi, by show c.fdL - (i + 1) < c.fdL - i; omega, ?_⟩
    rw [e]
    exact Wk.of ⟨rfl, rfl, rfl, rfl, rfl, rfl, congrArg (fun x => some (I64 x)) hw, trivial⟩ (by repeat (first | exact List.nil_sublist _ | exact List.Sublist.refl _ | apply List.Sublist.cons_cons | apply List.Sublist.cons))
end Go.Proofs.YtlhhcongoplfpaaDoor
