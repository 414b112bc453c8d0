/- What functions of this program do, each as a contract that its callers use, and what follows of it in plain numbers.
   By an AI agent. -/
import Derived.Test.YtekcchmnncefhaaGreatDoorAB
import Derived.Test.YtekcchmnncefhaaGreatDoorG2
import Derived.Test.YtekcchmnncefhaaGreatDoorG3
import Derived.Test.YtekcchmnncefhaaGreatDoorG6
namespace Go.Proofs.YtekcchmnncefhaaGreatDoor
open Go Go.Proofs.YtekcchmnncefhaaGreatDoorAB
set_option linter.unusedSimpArgs false
set_option linter.unusedVariables false
set_option maxRecDepth 20000
theorem wk_P18_0 {p : Prop} (h : p := by
  repeat' (first
    | ((first | (with_reducible apply gQ0) | ((with_reducible apply gQ1); exact wt_)); (first | (apply q_load layOk; (iterate 3 apply Eq.refl); exact lk_; exact (fv_at c x hx)) | (apply q_idxN (m := x) layOk; (iterate 4 apply Eq.refl); exact (fun _ => rfl); apply Eq.refl; exact hx) | (apply q_load layOk; (iterate 3 apply Eq.refl); exact lk_; exact (v_at c x hx)) | (apply q_load layOk; (iterate 3 apply Eq.refl); exact lk_; exact (lo_at c x hx)) | (apply q_load layOk; (iterate 3 apply Eq.refl); exact lk_; exact (hi_at c x hx)) | (apply q_idxN (m := 0) layOk; (iterate 4 apply Eq.refl); exact ha; apply Eq.refl; exact h0) | (apply q_load layOk; (iterate 3 apply Eq.refl); exact lk_; exact (tb.ax 0 h0)) | (apply q_idxN (m := c.ocL - 1) layOk; (iterate 4 apply Eq.refl); exact ha; exact hw1; exact h1) | (apply q_load layOk; (iterate 3 apply Eq.refl); exact lk_; exact (tb.ax _ h1)) | (apply q_load layOk; (iterate 3 apply Eq.refl); exact lk_; exact (w_at c x hx)) | (apply q_loadr (ty := 57) layOk; (iterate 3 apply Eq.refl); exact lk_; exact (br.s x hx)) | (apply q_idxN (m := x) layOk; (iterate 4 apply Eq.refl); exact hf; apply Eq.refl; exact hx) | (apply q_alloc (k := ks _) layOk; apply Eq.refl; exact lk_; apply Eq.refl) | (apply q_move; apply Eq.refl) | (apply q_assign; apply Eq.refl) | (apply q_int; (iterate 3 apply Eq.refl)) | (apply q_fa layOk; (iterate 5 apply Eq.refl)) | (apply q_load layOk; (iterate 3 apply Eq.refl); exact lk_; apply Eq.refl) | (apply q_not; apply Eq.refl) | (apply q_pick_t; apply Eq.refl; apply Eq.refl) | (apply q_pick_f; apply Eq.refl; apply Eq.refl) | (apply q_len layOk; (iterate 4 apply Eq.refl)) | (apply q_fieldc layOk; apply Eq.refl; exact Tryz.underlying41; (iterate 4 apply Eq.refl)) | (apply isF (f := 73); (refine q_call0 rfl (ref_bound_t _ _ _ g1 g2) ?_)) | (apply isF (f := 73); (refine q_call0 rfl (ref_bound_f _ _ _ hb) ?_)) | (apply isF (f := 74); (refine q_callR rfl (ref_CheckS tb ha hn) rfl fd_ (by decide) ?_)) | (apply isF (f := 74); (refine q_callR rfl (ref_CheckL tb ha hn) rfl fd_ (by decide) ?_)) | (apply isF (f := 74); (refine q_callR rfl (ref_CheckA tb ha g m h) rfl fd_ (by decide) ?_)) | (apply isF (f := 74); (refine q_callR rfl (ref_CheckN tb ha Chk.fine tok) rfl fd_ (by decide) ?_)) | (apply isF (f := 73); (refine q_call0 rfl (ref_bound_f _ _ _ hb') ?_)) | (apply isF (f := 73); (refine q_call0 rfl (ref_bound_t _ _ _ i1 i2) ?_)) | (apply isF (f := 73); (refine q_call0 rfl (ref_bound_t _ _ _ g3 g4) ?_)) | (apply isF (f := 73); (refine q_call0 rfl (ref_bound_f _ _ _ q) ?_)) | (apply e_store layOk; (iterate 3 apply Eq.refl); exact lk_; (iterate 5 apply Eq.refl))))
    | ((with_reducible apply gR); (first | refine RK.peelN rfl ?_ | refine RK.donef rfl ⟨_, rfl, ?_⟩ | refine RK.donet rfl (by kernel_rfl) ⟨_, rfl, ?_⟩))
    | ((with_reducible apply gQv); focus exact wf_)
    | ((with_reducible apply gK); (fail_if_success ((apply gM); (iterate 3 apply Eq.refl))); ((first | (apply gsD; (iterate 4 apply Eq.refl)) | (apply RKo.gsplitN; (iterate 4 apply Eq.refl)) | (apply RKo.gsplit; (iterate 4 apply Eq.refl))) <;> (intro hc; (first | with_reducible exact absurd hc u1 | with_reducible exact absurd hc u2 | with_reducible exact absurd hlt hc | exact absurd hc (by decide) | with_reducible exact absurd u1 hc | with_reducible exact absurd u2 hc | with_reducible exact absurd hc nt1 | with_reducible exact absurd hc nt2 | with_reducible exact absurd hc hge | with_reducible exact absurd hc (hcd _) | with_reducible exact absurd hc hx0 | with_reducible exact absurd hc hxl | with_reducible exact absurd hx0 hc | with_reducible exact absurd hgt hc | with_reducible exact absurd hc g1 | with_reducible exact absurd hc g2 | with_reducible exact absurd hc g5 | with_reducible exact absurd hc g6 | with_reducible exact absurd q hc | skip))))
    | ((with_reducible apply gW); (first | with_reducible apply WP.seq | refine WP.reg mixed (fun ks => _) (fun ks => rfl) (fun ks => ?_) | ((first | (apply cdD; apply Eq.refl) | (apply WP.condN; apply Eq.refl) | (apply WP.condA; apply Eq.refl)) <;> (intro hc; (first | with_reducible exact absurd hc u1 | with_reducible exact absurd hc u2 | with_reducible exact absurd hlt hc | exact absurd hc (by decide) | with_reducible exact absurd u1 hc | with_reducible exact absurd u2 hc | with_reducible exact absurd hc nt1 | with_reducible exact absurd hc nt2 | with_reducible exact absurd hc hge | with_reducible exact absurd hc (hcd _) | with_reducible exact absurd hc hx0 | with_reducible exact absurd hc hxl | with_reducible exact absurd hx0 hc | with_reducible exact absurd hgt hc | with_reducible exact absurd hc g1 | with_reducible exact absurd hc g2 | with_reducible exact absurd hc g5 | with_reducible exact absurd hc g6 | with_reducible exact absurd q hc | skip))) | apply WP.ret | apply WP.skip | apply WP.exit | apply WP.block))
    | (first | with_reducible apply thn_n | with_reducible apply thn_r | with_reducible apply thn_e | with_reducible apply blk_n | with_reducible apply blk_r | with_reducible apply blk_e)
    | (refine Endz.mk' en_ rv_ (by first | with_reducible rfl | exact hv6 | rfl) sb_)
    | (exact ⟨x + 1, hm1, by show m - (x + 1) < m - x; omega, Wk.of ⟨rfl, rfl, rfl, congrArg (fun x => some (I64 x)) hw, trivial⟩ sb_⟩)
    | (exact ⟨x + 1, hm1, by show 5 - (x + 1) < 5 - x; omega, Wk.of ⟨rfl, rfl, rfl, congrArg (fun x => some (I64 x)) hw, trivial⟩ sb_⟩)
    | (exact ⟨x + 1, hm1, by show (m - 5) - (x + 1) < (m - 5) - x; omega, Wk.of ⟨rfl, rfl, rfl, rfl, rfl, congrArg (fun x => some (I64 x)) hw, trivial⟩ sb_⟩)
    | (exact ⟨x + 1, hm1, by show 15 - (x + 1) < 15 - x; omega, Wk.of ⟨rfl, rfl, rfl, rfl, rfl, congrArg (fun x => some (I64 x)) hw, trivial⟩ sb_⟩)
    | (exact ⟨x + 1, hm1, by show 4 - (x + 1) < 4 - x; omega, Wk.of ⟨rfl, rfl, rfl, congrArg (fun x => some (I64 x)) hw, trivial⟩ sb_⟩)
    | (exact ⟨x + 1, hm1, by show m - (x + 1) < m - x; omega, Wk.of ⟨rfl, rfl, congrArg (fun x => some (I64 x)) hw, trivial⟩ sb_⟩)
    | (exact ⟨x + 1, hm1, by show c.fdL - (x + 1) < c.fdL - x; omega, Wk.of ⟨rfl, rfl, congrArg (fun x => some (I64 x)) hw, trivial⟩ sb_⟩))) : p := h
def fvO (c : Cfg) : AObj := .cells (I64 (c.D) :: I64 (c.B) :: I64 (c.S) :: I64 (c.P) :: I64 (c.H) ::  [])  3
def vO (c : Cfg) : AObj := .cells (I64 (c.Cap) :: I64 (c.Qmin) :: I64 (c.Imax) :: I64 (c.Trip) :: I64 (c.Vmin) :: I64 (c.Vdark) :: I64 (c.CellMin) :: I64 (c.CellMax) :: I64 (c.CellGap) :: I64 (c.TempMax) :: I64 (c.Coil) :: I64 (c.Ohm) :: I64 (c.SagErr) :: I64 (c.AmpErr) :: I64 (c.Drift) ::  [])  2
def loO (c : Cfg) : AObj := .cells (I64 (1) :: I64 (0) :: I64 (1) :: I64 (1) :: I64 (1) :: I64 (1) :: I64 (0) :: I64 (c.CellMin) :: I64 (0) :: I64 (-500) :: I64 (1) :: I64 (0) :: I64 (0) :: I64 (0) :: I64 (0) ::  [])  2
def hiO (c : Cfg) : AObj := .cells (I64 (1073741824) :: I64 (c.Cap) :: I64 (500000) :: I64 (500000) :: I64 (60000) :: I64 (60000) :: I64 (6000) :: I64 (6000) :: I64 (6000) :: I64 (1500) :: I64 (30000) :: I64 (100000) :: I64 (60000) :: I64 (500000) :: I64 (1073741824) ::  [])  2
def wO (c : Cfg) : AObj := .cells (I64 (c.GenMax) :: I64 (c.BatMax) :: I64 (c.ExtMax) :: I64 (c.Eland) ::  [])  2
theorem fv_at (c : Cfg) (i : Nat) (h : i < 5) : (fvO c).at (0 + i * 1) = some (I64 (cbN c (i + 0))) := by
  match i, h with
  | 0, _ => rfl
  | 1, _ => rfl
  | 2, _ => rfl
  | 3, _ => rfl
  | 4, _ => rfl
  | i + 5, h => exact absurd h (by omega)
theorem v_at (c : Cfg) (i : Nat) (h : i < 15) : (vO c).at (0 + i * 1) = some (I64 (cbN c (i + 5))) := by
  match i, h with
  | 0, _ => rfl
  | 1, _ => rfl
  | 2, _ => rfl
  | 3, _ => rfl
  | 4, _ => rfl
  | 5, _ => rfl
  | 6, _ => rfl
  | 7, _ => rfl
  | 8, _ => rfl
  | 9, _ => rfl
  | 10, _ => rfl
  | 11, _ => rfl
  | 12, _ => rfl
  | 13, _ => rfl
  | 14, _ => rfl
  | i + 15, h => exact absurd h (by omega)
theorem lo_at (c : Cfg) (i : Nat) (h : i < 15) : (loO c).at (0 + i * 1) = some (I64 (cbA c (i + 5))) := by
  match i, h with
  | 0, _ => rfl
  | 1, _ => rfl
  | 2, _ => rfl
  | 3, _ => rfl
  | 4, _ => rfl
  | 5, _ => rfl
  | 6, _ => rfl
  | 7, _ => rfl
  | 8, _ => rfl
  | 9, _ => rfl
  | 10, _ => rfl
  | 11, _ => rfl
  | 12, _ => rfl
  | 13, _ => rfl
  | 14, _ => rfl
  | i + 15, h => exact absurd h (by omega)
theorem hi_at (c : Cfg) (i : Nat) (h : i < 15) : (hiO c).at (0 + i * 1) = some (I64 (cbB c (i + 5))) := by
  match i, h with
  | 0, _ => rfl
  | 1, _ => rfl
  | 2, _ => rfl
  | 3, _ => rfl
  | 4, _ => rfl
  | 5, _ => rfl
  | 6, _ => rfl
  | 7, _ => rfl
  | 8, _ => rfl
  | 9, _ => rfl
  | 10, _ => rfl
  | 11, _ => rfl
  | 12, _ => rfl
  | 13, _ => rfl
  | 14, _ => rfl
  | i + 15, h => exact absurd h (by omega)
theorem w_at (c : Cfg) (i : Nat) (h : i < 4) : (wO c).at (0 + i * 1) = some (I64 (ceN c (i + 0))) := by
  match i, h with
  | 0, _ => rfl
  | 1, _ => rfl
  | 2, _ => rfl
  | 3, _ => rfl
  | i + 4, h => exact absurd h (by omega)
theorem cb5 (c : Cfg) (i : Nat) (h : i < 5) : cbA c i = 1 ∧ cbB c i = 100 := by
  match i, h with
  | 0, _ => exact ⟨rfl, rfl⟩
  | 1, _ => exact ⟨rfl, rfl⟩
  | 2, _ => exact ⟨rfl, rfl⟩
  | 3, _ => exact ⟨rfl, rfl⟩
  | 4, _ => exact ⟨rfl, rfl⟩
  | i + 5, h => exact absurd h (by omega)
theorem ce4 (c : Cfg) (i : Nat) (h : i < 4) : ceA c i = 0 ∧ ceB c i = 1073741824 := by
  match i, h with
  | 0, _ => exact ⟨rfl, rfl⟩
  | 1, _ => exact ⟨rfl, rfl⟩
  | 2, _ => exact ⟨rfl, rfl⟩
  | 3, _ => exact ⟨rfl, rfl⟩
  | i + 4, h => exact absurd h (by omega)

set_option maxHeartbeats 8000000 in
theorem cc_b5 {oc fd : AObj} {ko fo kf ff : Nat} {X Y U W V : Nat → Int} {c : Cfg} (tb : Tb oc fo c.ocL X Y) (ha : 0 < c.ocL → c.ocA = some ⟨ko, fo, none⟩) (br : Br fd ff c.fdL U W V) (hf : 0 < c.fdL → c.fdA = some ⟨kf, ff, none⟩) (hfn : c.fdL ≤ 1000000) (m : Nat) (hm5 : m < 5) (hg : ∀ i, i < m → cbA c i ≤ cbN c i ∧ cbN c i ≤ cbB c i) (hb : ¬ (cbA c m ≤ cbN c m ∧ cbN c m ≤ cbB c m)) : Ctr Tryz.prog 7 33 [.agg ⟨c.cells⟩] [(ko, oc), (kf, fd)] (I64 (IntKind.i64.wrap ((m : Int) + 1))) [oc, fd] := by
  have hcd : ∀ g : Nat, ¬ cdG g = 0 := fun g => by unfold cdG; split <;> decide
  have nt1 : ¬ (!true) = true := by decide
  have nt2 : ¬ (!false) = false := by decide
  refine Ctr.by layOk Tryz.func33 Tryz.ntmps33 rfl rfl rfl rfl rfl ?_
  repeat' (first
    | ((with_reducible apply gQ0); (first | (apply q_buildS (k := ks _) layOk; (iterate 8 apply Eq.refl); exact lk_; apply Eq.refl) | (apply q_box (k := ks _); apply Eq.refl; exact lk_; apply Eq.refl) | (apply q_assign; apply Eq.refl) | (apply q_fa layOk; (iterate 5 apply Eq.refl)) | (apply q_load layOk; (iterate 3 apply Eq.refl); exact lk_; apply Eq.refl) | (apply q_box (k := ks _); apply Eq.refl; exact lk_; apply Eq.refl)))
    | ((with_reducible apply gR); (first | refine RK.peelN rfl ?_ | refine RK.donef rfl ⟨_, rfl, ?_⟩))
    | ((with_reducible apply gW); (first | with_reducible apply WP.seq | refine WP.reg mixed (fun ks => _) (fun ks => rfl) (fun ks => ?_) | apply WP.block))
    | (with_reducible apply thn_n))
  rename_i a0 a1 b0
  refine WP.loopI (n := 203) (α := Nat) (fun x => [(1, some (pP (a0 0))), (3, some (I64 1073741824)), (4, some (.slice (some ⟨b0 0, 0, none⟩) 5 5)), (5, some (I64 (x : Int)))]) (fun x => [(ko, oc), (kf, fd), (a0 0, .cells c.cells 25), (b0 0, fvO c)]) (fun x => x ≤ m) (fun x => m - x) 0 (Wk.of ⟨rfl, rfl, rfl, rfl, trivial⟩ sb_) (Nat.zero_le _) (fun x ix => ?_)
  have ix : x ≤ m := ix
  by_cases hm1 : x < m
  · have hw := kpB (x := x) (by omega)
    have hx : x < 5 := by omega
    obtain ⟨g1, g2⟩ := hg x hm1
    have h51 := (cb5 c x hx).1
    have h52 := (cb5 c x hx).2
    have hlt : (x : Int) < 5 := by omega
    have u1 : ¬ cbN c (x + 0) < 1 := by show ¬ cbN c x < 1; omega
    have u2 : ¬ cbN c (x + 0) > 100 := by show ¬ cbN c x > 100; omega
    exact wk_P18_0
  · have hxe : x = m := by omega
    obtain rfl := hxe
    have hx : x < 5 := hm5
    have h51 := (cb5 c x hx).1
    have h52 := (cb5 c x hx).2
    have hlt : (x : Int) < 5 := by omega
    by_cases u1 : cbN c (x + 0) < 1
    · skip
      exact wk_P18_0
    · have u2 : cbN c (x + 0) > 100 := by
        have u1' : ¬ cbN c x < 1 := u1
        show cbN c x > 100
        omega
      exact wk_P18_0
  

set_option maxHeartbeats 8000000 in
theorem cc_b20 {oc fd : AObj} {ko fo kf ff : Nat} {X Y U W V : Nat → Int} {c : Cfg} (tb : Tb oc fo c.ocL X Y) (ha : 0 < c.ocL → c.ocA = some ⟨ko, fo, none⟩) (br : Br fd ff c.fdL U W V) (hf : 0 < c.fdL → c.fdA = some ⟨kf, ff, none⟩) (hfn : c.fdL ≤ 1000000) (m : Nat) (hm5 : 5 ≤ m) (hm : m < 20) (hg : ∀ i, i < m → cbA c i ≤ cbN c i ∧ cbN c i ≤ cbB c i) (hb : ¬ (cbA c m ≤ cbN c m ∧ cbN c m ≤ cbB c m)) : Ctr Tryz.prog 7 33 [.agg ⟨c.cells⟩] [(ko, oc), (kf, fd)] (I64 (IntKind.i64.wrap (1 + (m : Int)))) [oc, fd] := by
  have hcd : ∀ g : Nat, ¬ cdG g = 0 := fun g => by unfold cdG; split <;> decide
  have nt1 : ¬ (!true) = true := by decide
  have nt2 : ¬ (!false) = false := by decide
  refine Ctr.by layOk Tryz.func33 Tryz.ntmps33 rfl rfl rfl rfl rfl ?_
  repeat' (first
    | ((with_reducible apply gQ0); (first | (apply q_buildS (k := ks _) layOk; (iterate 8 apply Eq.refl); exact lk_; apply Eq.refl) | (apply q_box (k := ks _); apply Eq.refl; exact lk_; apply Eq.refl) | (apply q_assign; apply Eq.refl) | (apply q_fa layOk; (iterate 5 apply Eq.refl)) | (apply q_load layOk; (iterate 3 apply Eq.refl); exact lk_; apply Eq.refl) | (apply q_box (k := ks _); apply Eq.refl; exact lk_; apply Eq.refl)))
    | ((with_reducible apply gR); (first | refine RK.peelN rfl ?_ | refine RK.donef rfl ⟨_, rfl, ?_⟩))
    | ((with_reducible apply gW); (first | with_reducible apply WP.seq | refine WP.reg mixed (fun ks => _) (fun ks => rfl) (fun ks => ?_) | apply WP.block))
    | (with_reducible apply thn_n))
  rename_i a0 a1 b0
  refine WP.loopI (n := 203) (α := Nat) (fun x => [(1, some (pP (a0 0))), (3, some (I64 1073741824)), (4, some (.slice (some ⟨b0 0, 0, none⟩) 5 5)), (5, some (I64 (x : Int)))]) (fun x => [(ko, oc), (kf, fd), (a0 0, .cells c.cells 25), (b0 0, fvO c)]) (fun x => x ≤ 5) (fun x => 5 - x) 0 (Wk.of ⟨rfl, rfl, rfl, rfl, trivial⟩ sb_) (Nat.zero_le _) (fun x ix => ?_)
  have ix : x ≤ 5 := ix
  by_cases hm1 : x < 5
  · have hw := kpB (x := x) (by omega)
    have hx : x < 5 := by omega
    obtain ⟨g1, g2⟩ := hg x (by omega)
    have h51 := (cb5 c x hx).1
    have h52 := (cb5 c x hx).2
    have hlt : (x : Int) < 5 := by omega
    have u1 : ¬ cbN c (x + 0) < 1 := by show ¬ cbN c x < 1; omega
    have u2 : ¬ cbN c (x + 0) > 100 := by show ¬ cbN c x > 100; omega
    exact wk_P18_0
  · have hxe : x = 5 := by omega
    have hge : ¬ (x : Int) < 5 := by omega
    repeat' (first
      | ((with_reducible apply gQ0); (first | (apply q_buildS (k := ks _) layOk; (iterate 8 apply Eq.refl); exact lk_; apply Eq.refl) | (apply q_move; apply Eq.refl) | (apply q_assign; apply Eq.refl) | (apply q_int; (iterate 3 apply Eq.refl)) | (apply q_fa layOk; (iterate 5 apply Eq.refl)) | (apply q_load layOk; (iterate 3 apply Eq.refl); exact lk_; apply Eq.refl)))
      | ((with_reducible apply gR); (first | refine RK.peelN rfl ?_ | refine RK.donef rfl ⟨_, rfl, ?_⟩))
      | ((with_reducible apply gW); (first | with_reducible apply WP.seq | refine WP.reg mixed (fun ks => _) (fun ks => rfl) (fun ks => ?_) | ((apply cdD; apply Eq.refl) <;> (intro hc; (first | with_reducible exact absurd hc hge | skip))) | apply WP.exit | apply WP.block))
      | (first | with_reducible apply thn_n | with_reducible apply thn_e | with_reducible apply blk_e))
    rename_i b1 b2 b3
    refine WP.loopI (n := 203) (α := Nat) (fun x => [(1, some (pP (a0 0))), (3, some (I64 1073741824)), (6, some (.slice (some ⟨b1 0, 0, none⟩) 15 15)), (7, some (.slice (some ⟨b2 0, 0, none⟩) 15 15)), (8, some (.slice (some ⟨b3 0, 0, none⟩) 15 15)), (9, some (I64 (x : Int)))]) (fun x => [(ko, oc), (kf, fd), (a0 0, .cells c.cells 25), (b1 0, vO c), (b2 0, loO c), (b3 0, hiO c)]) (fun x => x ≤ (m - 5)) (fun x => (m - 5) - x) 0 (Wk.of ⟨rfl, rfl, rfl, rfl, rfl, rfl, trivial⟩ sb_) (Nat.zero_le _) (fun x ix => ?_)
    have ix : x ≤ (m - 5) := ix
    by_cases hm1 : x < (m - 5)
    · have hw := kpB (x := x) (by omega)
      have hx : x < 15 := by omega
      obtain ⟨g1, g2⟩ := hg (x + 5) (by omega)
      have hlt : (x : Int) < ((15 : Nat) : Int) := by omega
      exact wk_P18_0
    · have hxe : x = (m - 5) := by omega
      have hx : x < 15 := by omega
      have hlt : (x : Int) < ((15 : Nat) : Int) := by omega
      obtain rfl : m = x + 5 := by omega
      have hv6 : I64 (IntKind.i64.wrap ((x : Int) + 6)) = I64 (IntKind.i64.wrap (1 + ((x + 5 : Nat) : Int))) := congrArg (fun y => I64 (IntKind.i64.wrap y)) (by omega)
      exact wk_P18_0
    
  

set_option maxHeartbeats 8000000 in
theorem cc_ts {oc fd : AObj} {ko fo kf ff : Nat} {X Y U W V : Nat → Int} {c : Cfg} (tb : Tb oc fo c.ocL X Y) (ha : 0 < c.ocL → c.ocA = some ⟨ko, fo, none⟩) (br : Br fd ff c.fdL U W V) (hf : 0 < c.fdL → c.fdA = some ⟨kf, ff, none⟩) (hfn : c.fdL ≤ 1000000) (hcb : ∀ i, i < 20 → cbA c i ≤ cbN c i ∧ cbN c i ≤ cbB c i) (hn : c.ocL < 2) : Ctr Tryz.prog 7 33 [.agg ⟨c.cells⟩] [(ko, oc), (kf, fd)] (I64 21) [oc, fd] := by
  have hcd : ∀ g : Nat, ¬ cdG g = 0 := fun g => by unfold cdG; split <;> decide
  have nt1 : ¬ (!true) = true := by decide
  have nt2 : ¬ (!false) = false := by decide
  refine Ctr.by layOk Tryz.func33 Tryz.ntmps33 rfl rfl rfl rfl rfl ?_
  repeat' (first
    | ((with_reducible apply gQ0); (first | (apply q_buildS (k := ks _) layOk; (iterate 8 apply Eq.refl); exact lk_; apply Eq.refl) | (apply q_box (k := ks _); apply Eq.refl; exact lk_; apply Eq.refl) | (apply q_assign; apply Eq.refl) | (apply q_fa layOk; (iterate 5 apply Eq.refl)) | (apply q_load layOk; (iterate 3 apply Eq.refl); exact lk_; apply Eq.refl) | (apply q_box (k := ks _); apply Eq.refl; exact lk_; apply Eq.refl)))
    | ((with_reducible apply gR); (first | refine RK.peelN rfl ?_ | refine RK.donef rfl ⟨_, rfl, ?_⟩))
    | ((with_reducible apply gW); (first | with_reducible apply WP.seq | refine WP.reg mixed (fun ks => _) (fun ks => rfl) (fun ks => ?_) | apply WP.block))
    | (with_reducible apply thn_n))
  rename_i a0 a1 b0
  refine WP.loopI (n := 203) (α := Nat) (fun x => [(1, some (pP (a0 0))), (3, some (I64 1073741824)), (4, some (.slice (some ⟨b0 0, 0, none⟩) 5 5)), (5, some (I64 (x : Int)))]) (fun x => [(ko, oc), (kf, fd), (a0 0, .cells c.cells 25), (b0 0, fvO c)]) (fun x => x ≤ 5) (fun x => 5 - x) 0 (Wk.of ⟨rfl, rfl, rfl, rfl, trivial⟩ sb_) (Nat.zero_le _) (fun x ix => ?_)
  have ix : x ≤ 5 := ix
  by_cases hm1 : x < 5
  · have hw := kpB (x := x) (by omega)
    have hx : x < 5 := by omega
    obtain ⟨g1, g2⟩ := hcb x (by omega)
    have h51 := (cb5 c x hx).1
    have h52 := (cb5 c x hx).2
    have hlt : (x : Int) < 5 := by omega
    have u1 : ¬ cbN c (x + 0) < 1 := by show ¬ cbN c x < 1; omega
    have u2 : ¬ cbN c (x + 0) > 100 := by show ¬ cbN c x > 100; omega
    exact wk_P18_0
  · have hxe : x = 5 := by omega
    have hge : ¬ (x : Int) < 5 := by omega
    repeat' (first
      | ((with_reducible apply gQ0); (first | (apply q_buildS (k := ks _) layOk; (iterate 8 apply Eq.refl); exact lk_; apply Eq.refl) | (apply q_move; apply Eq.refl) | (apply q_assign; apply Eq.refl) | (apply q_int; (iterate 3 apply Eq.refl)) | (apply q_fa layOk; (iterate 5 apply Eq.refl)) | (apply q_load layOk; (iterate 3 apply Eq.refl); exact lk_; apply Eq.refl)))
      | ((with_reducible apply gR); (first | refine RK.peelN rfl ?_ | refine RK.donef rfl ⟨_, rfl, ?_⟩))
      | ((with_reducible apply gW); (first | with_reducible apply WP.seq | refine WP.reg mixed (fun ks => _) (fun ks => rfl) (fun ks => ?_) | ((apply cdD; apply Eq.refl) <;> (intro hc; (first | with_reducible exact absurd hc hge | skip))) | apply WP.exit | apply WP.block))
      | (first | with_reducible apply thn_n | with_reducible apply thn_e | with_reducible apply blk_e))
    rename_i b1 b2 b3
    refine WP.loopI (n := 203) (α := Nat) (fun x => [(1, some (pP (a0 0))), (3, some (I64 1073741824)), (6, some (.slice (some ⟨b1 0, 0, none⟩) 15 15)), (7, some (.slice (some ⟨b2 0, 0, none⟩) 15 15)), (8, some (.slice (some ⟨b3 0, 0, none⟩) 15 15)), (9, some (I64 (x : Int)))]) (fun x => [(ko, oc), (kf, fd), (a0 0, .cells c.cells 25), (b1 0, vO c), (b2 0, loO c), (b3 0, hiO c)]) (fun x => x ≤ 15) (fun x => 15 - x) 0 (Wk.of ⟨rfl, rfl, rfl, rfl, rfl, rfl, trivial⟩ sb_) (Nat.zero_le _) (fun x ix => ?_)
    have ix : x ≤ 15 := ix
    by_cases hm1 : x < 15
    · have hw := kpB (x := x) (by omega)
      have hx : x < 15 := by omega
      obtain ⟨g1, g2⟩ := hcb (x + 5) (by omega)
      have hlt : (x : Int) < ((15 : Nat) : Int) := by omega
      exact wk_P18_0
    · have hxe : x = 15 := by omega
      have hge : ¬ (x : Int) < ((15 : Nat) : Int) := by omega
      exact wk_P18_0
    
  

set_option maxHeartbeats 8000000 in
theorem cc_tl {oc fd : AObj} {ko fo kf ff : Nat} {X Y U W V : Nat → Int} {c : Cfg} (tb : Tb oc fo c.ocL X Y) (ha : 0 < c.ocL → c.ocA = some ⟨ko, fo, none⟩) (br : Br fd ff c.fdL U W V) (hf : 0 < c.fdL → c.fdA = some ⟨kf, ff, none⟩) (hfn : c.fdL ≤ 1000000) (hcb : ∀ i, i < 20 → cbA c i ≤ cbN c i ∧ cbN c i ≤ cbB c i) (hn : 64 < c.ocL) : Ctr Tryz.prog 7 33 [.agg ⟨c.cells⟩] [(ko, oc), (kf, fd)] (I64 21) [oc, fd] := by
  have hcd : ∀ g : Nat, ¬ cdG g = 0 := fun g => by unfold cdG; split <;> decide
  have nt1 : ¬ (!true) = true := by decide
  have nt2 : ¬ (!false) = false := by decide
  refine Ctr.by layOk Tryz.func33 Tryz.ntmps33 rfl rfl rfl rfl rfl ?_
  repeat' (first
    | ((with_reducible apply gQ0); (first | (apply q_buildS (k := ks _) layOk; (iterate 8 apply Eq.refl); exact lk_; apply Eq.refl) | (apply q_box (k := ks _); apply Eq.refl; exact lk_; apply Eq.refl) | (apply q_assign; apply Eq.refl) | (apply q_fa layOk; (iterate 5 apply Eq.refl)) | (apply q_load layOk; (iterate 3 apply Eq.refl); exact lk_; apply Eq.refl) | (apply q_box (k := ks _); apply Eq.refl; exact lk_; apply Eq.refl)))
    | ((with_reducible apply gR); (first | refine RK.peelN rfl ?_ | refine RK.donef rfl ⟨_, rfl, ?_⟩))
    | ((with_reducible apply gW); (first | with_reducible apply WP.seq | refine WP.reg mixed (fun ks => _) (fun ks => rfl) (fun ks => ?_) | apply WP.block))
    | (with_reducible apply thn_n))
  rename_i a0 a1 b0
  refine WP.loopI (n := 203) (α := Nat) (fun x => [(1, some (pP (a0 0))), (3, some (I64 1073741824)), (4, some (.slice (some ⟨b0 0, 0, none⟩) 5 5)), (5, some (I64 (x : Int)))]) (fun x => [(ko, oc), (kf, fd), (a0 0, .cells c.cells 25), (b0 0, fvO c)]) (fun x => x ≤ 5) (fun x => 5 - x) 0 (Wk.of ⟨rfl, rfl, rfl, rfl, trivial⟩ sb_) (Nat.zero_le _) (fun x ix => ?_)
  have ix : x ≤ 5 := ix
  by_cases hm1 : x < 5
  · have hw := kpB (x := x) (by omega)
    have hx : x < 5 := by omega
    obtain ⟨g1, g2⟩ := hcb x (by omega)
    have h51 := (cb5 c x hx).1
    have h52 := (cb5 c x hx).2
    have hlt : (x : Int) < 5 := by omega
    have u1 : ¬ cbN c (x + 0) < 1 := by show ¬ cbN c x < 1; omega
    have u2 : ¬ cbN c (x + 0) > 100 := by show ¬ cbN c x > 100; omega
    exact wk_P18_0
  · have hxe : x = 5 := by omega
    have hge : ¬ (x : Int) < 5 := by omega
    repeat' (first
      | ((with_reducible apply gQ0); (first | (apply q_buildS (k := ks _) layOk; (iterate 8 apply Eq.refl); exact lk_; apply Eq.refl) | (apply q_move; apply Eq.refl) | (apply q_assign; apply Eq.refl) | (apply q_int; (iterate 3 apply Eq.refl)) | (apply q_fa layOk; (iterate 5 apply Eq.refl)) | (apply q_load layOk; (iterate 3 apply Eq.refl); exact lk_; apply Eq.refl)))
      | ((with_reducible apply gR); (first | refine RK.peelN rfl ?_ | refine RK.donef rfl ⟨_, rfl, ?_⟩))
      | ((with_reducible apply gW); (first | with_reducible apply WP.seq | refine WP.reg mixed (fun ks => _) (fun ks => rfl) (fun ks => ?_) | ((apply cdD; apply Eq.refl) <;> (intro hc; (first | with_reducible exact absurd hc hge | skip))) | apply WP.exit | apply WP.block))
      | (first | with_reducible apply thn_n | with_reducible apply thn_e | with_reducible apply blk_e))
    rename_i b1 b2 b3
    refine WP.loopI (n := 203) (α := Nat) (fun x => [(1, some (pP (a0 0))), (3, some (I64 1073741824)), (6, some (.slice (some ⟨b1 0, 0, none⟩) 15 15)), (7, some (.slice (some ⟨b2 0, 0, none⟩) 15 15)), (8, some (.slice (some ⟨b3 0, 0, none⟩) 15 15)), (9, some (I64 (x : Int)))]) (fun x => [(ko, oc), (kf, fd), (a0 0, .cells c.cells 25), (b1 0, vO c), (b2 0, loO c), (b3 0, hiO c)]) (fun x => x ≤ 15) (fun x => 15 - x) 0 (Wk.of ⟨rfl, rfl, rfl, rfl, rfl, rfl, trivial⟩ sb_) (Nat.zero_le _) (fun x ix => ?_)
    have ix : x ≤ 15 := ix
    by_cases hm1 : x < 15
    · have hw := kpB (x := x) (by omega)
      have hx : x < 15 := by omega
      obtain ⟨g1, g2⟩ := hcb (x + 5) (by omega)
      have hlt : (x : Int) < ((15 : Nat) : Int) := by omega
      exact wk_P18_0
    · have hxe : x = 15 := by omega
      have hge : ¬ (x : Int) < ((15 : Nat) : Int) := by omega
      exact wk_P18_0
    
  

set_option maxHeartbeats 8000000 in
theorem cc_ta {oc fd : AObj} {ko fo kf ff : Nat} {X Y U W V : Nat → Int} {c : Cfg} (tb : Tb oc fo c.ocL X Y) (ha : 0 < c.ocL → c.ocA = some ⟨ko, fo, none⟩) (br : Br fd ff c.fdL U W V) (hf : 0 < c.fdL → c.fdA = some ⟨kf, ff, none⟩) (hfn : c.fdL ≤ 1000000) (hcb : ∀ i, i < 20 → cbA c i ≤ cbN c i ∧ cbN c i ≤ cbB c i) (g m : Nat) (h : IsA c.ocL X Y g m) : Ctr Tryz.prog 7 33 [.agg ⟨c.cells⟩] [(ko, oc), (kf, fd)] (I64 21) [oc, fd] := by
  have hcd : ∀ g : Nat, ¬ cdG g = 0 := fun g => by unfold cdG; split <;> decide
  have nt1 : ¬ (!true) = true := by decide
  have nt2 : ¬ (!false) = false := by decide
  refine Ctr.by layOk Tryz.func33 Tryz.ntmps33 rfl rfl rfl rfl rfl ?_
  repeat' (first
    | ((with_reducible apply gQ0); (first | (apply q_buildS (k := ks _) layOk; (iterate 8 apply Eq.refl); exact lk_; apply Eq.refl) | (apply q_box (k := ks _); apply Eq.refl; exact lk_; apply Eq.refl) | (apply q_assign; apply Eq.refl) | (apply q_fa layOk; (iterate 5 apply Eq.refl)) | (apply q_load layOk; (iterate 3 apply Eq.refl); exact lk_; apply Eq.refl) | (apply q_box (k := ks _); apply Eq.refl; exact lk_; apply Eq.refl)))
    | ((with_reducible apply gR); (first | refine RK.peelN rfl ?_ | refine RK.donef rfl ⟨_, rfl, ?_⟩))
    | ((with_reducible apply gW); (first | with_reducible apply WP.seq | refine WP.reg mixed (fun ks => _) (fun ks => rfl) (fun ks => ?_) | apply WP.block))
    | (with_reducible apply thn_n))
  rename_i a0 a1 b0
  refine WP.loopI (n := 203) (α := Nat) (fun x => [(1, some (pP (a0 0))), (3, some (I64 1073741824)), (4, some (.slice (some ⟨b0 0, 0, none⟩) 5 5)), (5, some (I64 (x : Int)))]) (fun x => [(ko, oc), (kf, fd), (a0 0, .cells c.cells 25), (b0 0, fvO c)]) (fun x => x ≤ 5) (fun x => 5 - x) 0 (Wk.of ⟨rfl, rfl, rfl, rfl, trivial⟩ sb_) (Nat.zero_le _) (fun x ix => ?_)
  have ix : x ≤ 5 := ix
  by_cases hm1 : x < 5
  · have hw := kpB (x := x) (by omega)
    have hx : x < 5 := by omega
    obtain ⟨g1, g2⟩ := hcb x (by omega)
    have h51 := (cb5 c x hx).1
    have h52 := (cb5 c x hx).2
    have hlt : (x : Int) < 5 := by omega
    have u1 : ¬ cbN c (x + 0) < 1 := by show ¬ cbN c x < 1; omega
    have u2 : ¬ cbN c (x + 0) > 100 := by show ¬ cbN c x > 100; omega
    exact wk_P18_0
  · have hxe : x = 5 := by omega
    have hge : ¬ (x : Int) < 5 := by omega
    repeat' (first
      | ((with_reducible apply gQ0); (first | (apply q_buildS (k := ks _) layOk; (iterate 8 apply Eq.refl); exact lk_; apply Eq.refl) | (apply q_move; apply Eq.refl) | (apply q_assign; apply Eq.refl) | (apply q_int; (iterate 3 apply Eq.refl)) | (apply q_fa layOk; (iterate 5 apply Eq.refl)) | (apply q_load layOk; (iterate 3 apply Eq.refl); exact lk_; apply Eq.refl)))
      | ((with_reducible apply gR); (first | refine RK.peelN rfl ?_ | refine RK.donef rfl ⟨_, rfl, ?_⟩))
      | ((with_reducible apply gW); (first | with_reducible apply WP.seq | refine WP.reg mixed (fun ks => _) (fun ks => rfl) (fun ks => ?_) | ((apply cdD; apply Eq.refl) <;> (intro hc; (first | with_reducible exact absurd hc hge | skip))) | apply WP.exit | apply WP.block))
      | (first | with_reducible apply thn_n | with_reducible apply thn_e | with_reducible apply blk_e))
    rename_i b1 b2 b3
    refine WP.loopI (n := 203) (α := Nat) (fun x => [(1, some (pP (a0 0))), (3, some (I64 1073741824)), (6, some (.slice (some ⟨b1 0, 0, none⟩) 15 15)), (7, some (.slice (some ⟨b2 0, 0, none⟩) 15 15)), (8, some (.slice (some ⟨b3 0, 0, none⟩) 15 15)), (9, some (I64 (x : Int)))]) (fun x => [(ko, oc), (kf, fd), (a0 0, .cells c.cells 25), (b1 0, vO c), (b2 0, loO c), (b3 0, hiO c)]) (fun x => x ≤ 15) (fun x => 15 - x) 0 (Wk.of ⟨rfl, rfl, rfl, rfl, rfl, rfl, trivial⟩ sb_) (Nat.zero_le _) (fun x ix => ?_)
    have ix : x ≤ 15 := ix
    by_cases hm1 : x < 15
    · have hw := kpB (x := x) (by omega)
      have hx : x < 15 := by omega
      obtain ⟨g1, g2⟩ := hcb (x + 5) (by omega)
      have hlt : (x : Int) < ((15 : Nat) : Int) := by omega
      exact wk_P18_0
    · have hxe : x = 15 := by omega
      have hge : ¬ (x : Int) < ((15 : Nat) : Int) := by omega
      exact wk_P18_0
    
  

set_option maxHeartbeats 8000000 in
theorem cc_x0 {oc fd : AObj} {ko fo kf ff : Nat} {X Y U W V : Nat → Int} {c : Cfg} (tb : Tb oc fo c.ocL X Y) (ha : 0 < c.ocL → c.ocA = some ⟨ko, fo, none⟩) (br : Br fd ff c.fdL U W V) (hf : 0 < c.fdL → c.fdA = some ⟨kf, ff, none⟩) (hfn : c.fdL ≤ 1000000) (hcb : ∀ i, i < 20 → cbA c i ≤ cbN c i ∧ cbN c i ≤ cbB c i) (tok : TOk c.ocL X Y) (hx0 : ¬ X 0 = 0) : Ctr Tryz.prog 7 33 [.agg ⟨c.cells⟩] [(ko, oc), (kf, fd)] (I64 21) [oc, fd] := by
  have hcd : ∀ g : Nat, ¬ cdG g = 0 := fun g => by unfold cdG; split <;> decide
  have nt1 : ¬ (!true) = true := by decide
  have nt2 : ¬ (!false) = false := by decide
  have hn2 := tok.n2
  have hn64 := tok.n64
  have h0 : 0 < c.ocL := by omega
  have h1 : c.ocL - 1 < c.ocL := by omega
  have hw1 := km1 h0 hn64
  refine Ctr.by layOk Tryz.func33 Tryz.ntmps33 rfl rfl rfl rfl rfl ?_
  repeat' (first
    | ((with_reducible apply gQ0); (first | (apply q_buildS (k := ks _) layOk; (iterate 8 apply Eq.refl); exact lk_; apply Eq.refl) | (apply q_box (k := ks _); apply Eq.refl; exact lk_; apply Eq.refl) | (apply q_assign; apply Eq.refl) | (apply q_fa layOk; (iterate 5 apply Eq.refl)) | (apply q_load layOk; (iterate 3 apply Eq.refl); exact lk_; apply Eq.refl) | (apply q_box (k := ks _); apply Eq.refl; exact lk_; apply Eq.refl)))
    | ((with_reducible apply gR); (first | refine RK.peelN rfl ?_ | refine RK.donef rfl ⟨_, rfl, ?_⟩))
    | ((with_reducible apply gW); (first | with_reducible apply WP.seq | refine WP.reg mixed (fun ks => _) (fun ks => rfl) (fun ks => ?_) | apply WP.block))
    | (with_reducible apply thn_n))
  rename_i a0 a1 b0
  refine WP.loopI (n := 203) (α := Nat) (fun x => [(1, some (pP (a0 0))), (3, some (I64 1073741824)), (4, some (.slice (some ⟨b0 0, 0, none⟩) 5 5)), (5, some (I64 (x : Int)))]) (fun x => [(ko, oc), (kf, fd), (a0 0, .cells c.cells 25), (b0 0, fvO c)]) (fun x => x ≤ 5) (fun x => 5 - x) 0 (Wk.of ⟨rfl, rfl, rfl, rfl, trivial⟩ sb_) (Nat.zero_le _) (fun x ix => ?_)
  have ix : x ≤ 5 := ix
  by_cases hm1 : x < 5
  · have hw := kpB (x := x) (by omega)
    have hx : x < 5 := by omega
    obtain ⟨g1, g2⟩ := hcb x (by omega)
    have h51 := (cb5 c x hx).1
    have h52 := (cb5 c x hx).2
    have hlt : (x : Int) < 5 := by omega
    have u1 : ¬ cbN c (x + 0) < 1 := by show ¬ cbN c x < 1; omega
    have u2 : ¬ cbN c (x + 0) > 100 := by show ¬ cbN c x > 100; omega
    exact wk_P18_0
  · have hxe : x = 5 := by omega
    have hge : ¬ (x : Int) < 5 := by omega
    repeat' (first
      | ((with_reducible apply gQ0); (first | (apply q_buildS (k := ks _) layOk; (iterate 8 apply Eq.refl); exact lk_; apply Eq.refl) | (apply q_move; apply Eq.refl) | (apply q_assign; apply Eq.refl) | (apply q_int; (iterate 3 apply Eq.refl)) | (apply q_fa layOk; (iterate 5 apply Eq.refl)) | (apply q_load layOk; (iterate 3 apply Eq.refl); exact lk_; apply Eq.refl)))
      | ((with_reducible apply gR); (first | refine RK.peelN rfl ?_ | refine RK.donef rfl ⟨_, rfl, ?_⟩))
      | ((with_reducible apply gW); (first | with_reducible apply WP.seq | refine WP.reg mixed (fun ks => _) (fun ks => rfl) (fun ks => ?_) | ((apply cdD; apply Eq.refl) <;> (intro hc; (first | with_reducible exact absurd hc hge | skip))) | apply WP.exit | apply WP.block))
      | (first | with_reducible apply thn_n | with_reducible apply thn_e | with_reducible apply blk_e))
    rename_i b1 b2 b3
    refine WP.loopI (n := 203) (α := Nat) (fun x => [(1, some (pP (a0 0))), (3, some (I64 1073741824)), (6, some (.slice (some ⟨b1 0, 0, none⟩) 15 15)), (7, some (.slice (some ⟨b2 0, 0, none⟩) 15 15)), (8, some (.slice (some ⟨b3 0, 0, none⟩) 15 15)), (9, some (I64 (x : Int)))]) (fun x => [(ko, oc), (kf, fd), (a0 0, .cells c.cells 25), (b1 0, vO c), (b2 0, loO c), (b3 0, hiO c)]) (fun x => x ≤ 15) (fun x => 15 - x) 0 (Wk.of ⟨rfl, rfl, rfl, rfl, rfl, rfl, trivial⟩ sb_) (Nat.zero_le _) (fun x ix => ?_)
    have ix : x ≤ 15 := ix
    by_cases hm1 : x < 15
    · have hw := kpB (x := x) (by omega)
      have hx : x < 15 := by omega
      obtain ⟨g1, g2⟩ := hcb (x + 5) (by omega)
      have hlt : (x : Int) < ((15 : Nat) : Int) := by omega
      exact wk_P18_0
    · have hxe : x = 15 := by omega
      have hge : ¬ (x : Int) < ((15 : Nat) : Int) := by omega
      exact wk_P18_0
    
  

set_option maxHeartbeats 8000000 in
theorem cc_xl {oc fd : AObj} {ko fo kf ff : Nat} {X Y U W V : Nat → Int} {c : Cfg} (tb : Tb oc fo c.ocL X Y) (ha : 0 < c.ocL → c.ocA = some ⟨ko, fo, none⟩) (br : Br fd ff c.fdL U W V) (hf : 0 < c.fdL → c.fdA = some ⟨kf, ff, none⟩) (hfn : c.fdL ≤ 1000000) (hcb : ∀ i, i < 20 → cbA c i ≤ cbN c i ∧ cbN c i ≤ cbB c i) (tok : TOk c.ocL X Y) (hx0 : X 0 = 0) (hxl : ¬ X (c.ocL - 1) = c.Cap) : Ctr Tryz.prog 7 33 [.agg ⟨c.cells⟩] [(ko, oc), (kf, fd)] (I64 21) [oc, fd] := by
  have hcd : ∀ g : Nat, ¬ cdG g = 0 := fun g => by unfold cdG; split <;> decide
  have nt1 : ¬ (!true) = true := by decide
  have nt2 : ¬ (!false) = false := by decide
  have hn2 := tok.n2
  have hn64 := tok.n64
  have h0 : 0 < c.ocL := by omega
  have h1 : c.ocL - 1 < c.ocL := by omega
  have hw1 := km1 h0 hn64
  refine Ctr.by layOk Tryz.func33 Tryz.ntmps33 rfl rfl rfl rfl rfl ?_
  repeat' (first
    | ((with_reducible apply gQ0); (first | (apply q_buildS (k := ks _) layOk; (iterate 8 apply Eq.refl); exact lk_; apply Eq.refl) | (apply q_box (k := ks _); apply Eq.refl; exact lk_; apply Eq.refl) | (apply q_assign; apply Eq.refl) | (apply q_fa layOk; (iterate 5 apply Eq.refl)) | (apply q_load layOk; (iterate 3 apply Eq.refl); exact lk_; apply Eq.refl) | (apply q_box (k := ks _); apply Eq.refl; exact lk_; apply Eq.refl)))
    | ((with_reducible apply gR); (first | refine RK.peelN rfl ?_ | refine RK.donef rfl ⟨_, rfl, ?_⟩))
    | ((with_reducible apply gW); (first | with_reducible apply WP.seq | refine WP.reg mixed (fun ks => _) (fun ks => rfl) (fun ks => ?_) | apply WP.block))
    | (with_reducible apply thn_n))
  rename_i a0 a1 b0
  refine WP.loopI (n := 203) (α := Nat) (fun x => [(1, some (pP (a0 0))), (3, some (I64 1073741824)), (4, some (.slice (some ⟨b0 0, 0, none⟩) 5 5)), (5, some (I64 (x : Int)))]) (fun x => [(ko, oc), (kf, fd), (a0 0, .cells c.cells 25), (b0 0, fvO c)]) (fun x => x ≤ 5) (fun x => 5 - x) 0 (Wk.of ⟨rfl, rfl, rfl, rfl, trivial⟩ sb_) (Nat.zero_le _) (fun x ix => ?_)
  have ix : x ≤ 5 := ix
  by_cases hm1 : x < 5
  · have hw := kpB (x := x) (by omega)
    have hx : x < 5 := by omega
    obtain ⟨g1, g2⟩ := hcb x (by omega)
    have h51 := (cb5 c x hx).1
    have h52 := (cb5 c x hx).2
    have hlt : (x : Int) < 5 := by omega
    have u1 : ¬ cbN c (x + 0) < 1 := by show ¬ cbN c x < 1; omega
    have u2 : ¬ cbN c (x + 0) > 100 := by show ¬ cbN c x > 100; omega
    exact wk_P18_0
  · have hxe : x = 5 := by omega
    have hge : ¬ (x : Int) < 5 := by omega
    repeat' (first
      | ((with_reducible apply gQ0); (first | (apply q_buildS (k := ks _) layOk; (iterate 8 apply Eq.refl); exact lk_; apply Eq.refl) | (apply q_move; apply Eq.refl) | (apply q_assign; apply Eq.refl) | (apply q_int; (iterate 3 apply Eq.refl)) | (apply q_fa layOk; (iterate 5 apply Eq.refl)) | (apply q_load layOk; (iterate 3 apply Eq.refl); exact lk_; apply Eq.refl)))
      | ((with_reducible apply gR); (first | refine RK.peelN rfl ?_ | refine RK.donef rfl ⟨_, rfl, ?_⟩))
      | ((with_reducible apply gW); (first | with_reducible apply WP.seq | refine WP.reg mixed (fun ks => _) (fun ks => rfl) (fun ks => ?_) | ((apply cdD; apply Eq.refl) <;> (intro hc; (first | with_reducible exact absurd hc hge | skip))) | apply WP.exit | apply WP.block))
      | (first | with_reducible apply thn_n | with_reducible apply thn_e | with_reducible apply blk_e))
    rename_i b1 b2 b3
    refine WP.loopI (n := 203) (α := Nat) (fun x => [(1, some (pP (a0 0))), (3, some (I64 1073741824)), (6, some (.slice (some ⟨b1 0, 0, none⟩) 15 15)), (7, some (.slice (some ⟨b2 0, 0, none⟩) 15 15)), (8, some (.slice (some ⟨b3 0, 0, none⟩) 15 15)), (9, some (I64 (x : Int)))]) (fun x => [(ko, oc), (kf, fd), (a0 0, .cells c.cells 25), (b1 0, vO c), (b2 0, loO c), (b3 0, hiO c)]) (fun x => x ≤ 15) (fun x => 15 - x) 0 (Wk.of ⟨rfl, rfl, rfl, rfl, rfl, rfl, trivial⟩ sb_) (Nat.zero_le _) (fun x ix => ?_)
    have ix : x ≤ 15 := ix
    by_cases hm1 : x < 15
    · have hw := kpB (x := x) (by omega)
      have hx : x < 15 := by omega
      obtain ⟨g1, g2⟩ := hcb (x + 5) (by omega)
      have hlt : (x : Int) < ((15 : Nat) : Int) := by omega
      exact wk_P18_0
    · have hxe : x = 15 := by omega
      have hge : ¬ (x : Int) < ((15 : Nat) : Int) := by omega
      exact wk_P18_0
    
  

set_option maxHeartbeats 8000000 in
theorem cc_e4 {oc fd : AObj} {ko fo kf ff : Nat} {X Y U W V : Nat → Int} {c : Cfg} (tb : Tb oc fo c.ocL X Y) (ha : 0 < c.ocL → c.ocA = some ⟨ko, fo, none⟩) (br : Br fd ff c.fdL U W V) (hf : 0 < c.fdL → c.fdA = some ⟨kf, ff, none⟩) (hfn : c.fdL ≤ 1000000) (hcb : ∀ i, i < 20 → cbA c i ≤ cbN c i ∧ cbN c i ≤ cbB c i) (tok : TOk c.ocL X Y) (hx0 : X 0 = 0) (hxl : X (c.ocL - 1) = c.Cap) (m : Nat) (hm4 : m < 4) (hg : ∀ i, i < m → ceA c i ≤ ceN c i ∧ ceN c i ≤ ceB c i) (hb : ¬ (ceA c m ≤ ceN c m ∧ ceN c m ≤ ceB c m)) : Ctr Tryz.prog 7 33 [.agg ⟨c.cells⟩] [(ko, oc), (kf, fd)] (I64 (IntKind.i64.wrap (22 + (m : Int)))) [oc, fd] := by
  have hcd : ∀ g : Nat, ¬ cdG g = 0 := fun g => by unfold cdG; split <;> decide
  have nt1 : ¬ (!true) = true := by decide
  have nt2 : ¬ (!false) = false := by decide
  have hn2 := tok.n2
  have hn64 := tok.n64
  have h0 : 0 < c.ocL := by omega
  have h1 : c.ocL - 1 < c.ocL := by omega
  have hw1 := km1 h0 hn64
  refine Ctr.by layOk Tryz.func33 Tryz.ntmps33 rfl rfl rfl rfl rfl ?_
  repeat' (first
    | ((with_reducible apply gQ0); (first | (apply q_buildS (k := ks _) layOk; (iterate 8 apply Eq.refl); exact lk_; apply Eq.refl) | (apply q_box (k := ks _); apply Eq.refl; exact lk_; apply Eq.refl) | (apply q_assign; apply Eq.refl) | (apply q_fa layOk; (iterate 5 apply Eq.refl)) | (apply q_load layOk; (iterate 3 apply Eq.refl); exact lk_; apply Eq.refl) | (apply q_box (k := ks _); apply Eq.refl; exact lk_; apply Eq.refl)))
    | ((with_reducible apply gR); (first | refine RK.peelN rfl ?_ | refine RK.donef rfl ⟨_, rfl, ?_⟩))
    | ((with_reducible apply gW); (first | with_reducible apply WP.seq | refine WP.reg mixed (fun ks => _) (fun ks => rfl) (fun ks => ?_) | apply WP.block))
    | (with_reducible apply thn_n))
  rename_i a0 a1 b0
  refine WP.loopI (n := 203) (α := Nat) (fun x => [(1, some (pP (a0 0))), (3, some (I64 1073741824)), (4, some (.slice (some ⟨b0 0, 0, none⟩) 5 5)), (5, some (I64 (x : Int)))]) (fun x => [(ko, oc), (kf, fd), (a0 0, .cells c.cells 25), (b0 0, fvO c)]) (fun x => x ≤ 5) (fun x => 5 - x) 0 (Wk.of ⟨rfl, rfl, rfl, rfl, trivial⟩ sb_) (Nat.zero_le _) (fun x ix => ?_)
  have ix : x ≤ 5 := ix
  by_cases hm1 : x < 5
  · have hw := kpB (x := x) (by omega)
    have hx : x < 5 := by omega
    obtain ⟨g1, g2⟩ := hcb x (by omega)
    have h51 := (cb5 c x hx).1
    have h52 := (cb5 c x hx).2
    have hlt : (x : Int) < 5 := by omega
    have u1 : ¬ cbN c (x + 0) < 1 := by show ¬ cbN c x < 1; omega
    have u2 : ¬ cbN c (x + 0) > 100 := by show ¬ cbN c x > 100; omega
    exact wk_P18_0
  · have hxe : x = 5 := by omega
    have hge : ¬ (x : Int) < 5 := by omega
    repeat' (first
      | ((with_reducible apply gQ0); (first | (apply q_buildS (k := ks _) layOk; (iterate 8 apply Eq.refl); exact lk_; apply Eq.refl) | (apply q_move; apply Eq.refl) | (apply q_assign; apply Eq.refl) | (apply q_int; (iterate 3 apply Eq.refl)) | (apply q_fa layOk; (iterate 5 apply Eq.refl)) | (apply q_load layOk; (iterate 3 apply Eq.refl); exact lk_; apply Eq.refl)))
      | ((with_reducible apply gR); (first | refine RK.peelN rfl ?_ | refine RK.donef rfl ⟨_, rfl, ?_⟩))
      | ((with_reducible apply gW); (first | with_reducible apply WP.seq | refine WP.reg mixed (fun ks => _) (fun ks => rfl) (fun ks => ?_) | ((apply cdD; apply Eq.refl) <;> (intro hc; (first | with_reducible exact absurd hc hge | skip))) | apply WP.exit | apply WP.block))
      | (first | with_reducible apply thn_n | with_reducible apply thn_e | with_reducible apply blk_e))
    rename_i b1 b2 b3
    refine WP.loopI (n := 203) (α := Nat) (fun x => [(1, some (pP (a0 0))), (3, some (I64 1073741824)), (6, some (.slice (some ⟨b1 0, 0, none⟩) 15 15)), (7, some (.slice (some ⟨b2 0, 0, none⟩) 15 15)), (8, some (.slice (some ⟨b3 0, 0, none⟩) 15 15)), (9, some (I64 (x : Int)))]) (fun x => [(ko, oc), (kf, fd), (a0 0, .cells c.cells 25), (b1 0, vO c), (b2 0, loO c), (b3 0, hiO c)]) (fun x => x ≤ 15) (fun x => 15 - x) 0 (Wk.of ⟨rfl, rfl, rfl, rfl, rfl, rfl, trivial⟩ sb_) (Nat.zero_le _) (fun x ix => ?_)
    have ix : x ≤ 15 := ix
    by_cases hm1 : x < 15
    · have hw := kpB (x := x) (by omega)
      have hx : x < 15 := by omega
      obtain ⟨g1, g2⟩ := hcb (x + 5) (by omega)
      have hlt : (x : Int) < ((15 : Nat) : Int) := by omega
      exact wk_P18_0
    · have hxe : x = 15 := by omega
      have hge : ¬ (x : Int) < ((15 : Nat) : Int) := by omega
      repeat' (first
        | ((first | (with_reducible apply gQ0) | ((with_reducible apply gQ1); exact wt_)); (first | (apply q_buildS (k := ks _) layOk; (iterate 8 apply Eq.refl); exact lk_; apply Eq.refl) | (apply q_idxN (m := 0) layOk; (iterate 4 apply Eq.refl); exact ha; apply Eq.refl; exact h0) | (apply q_idxN (m := c.ocL - 1) layOk; (iterate 4 apply Eq.refl); exact ha; exact hw1; exact h1) | (apply q_load layOk; (iterate 3 apply Eq.refl); exact lk_; exact (tb.ax 0 h0)) | (apply q_load layOk; (iterate 3 apply Eq.refl); exact lk_; exact (tb.ax _ h1)) | (apply q_move; apply Eq.refl) | (apply q_assign; apply Eq.refl) | (apply q_int; (iterate 3 apply Eq.refl)) | (apply q_fa layOk; (iterate 5 apply Eq.refl)) | (apply q_load layOk; (iterate 3 apply Eq.refl); exact lk_; apply Eq.refl) | (apply q_pick_f; apply Eq.refl; apply Eq.refl) | (apply q_len layOk; (iterate 4 apply Eq.refl)) | (apply q_fieldc layOk; apply Eq.refl; exact Tryz.underlying41; (iterate 4 apply Eq.refl)) | (apply isF (f := 74); (refine q_callR rfl (ref_CheckN tb ha Chk.fine tok) rfl fd_ (by decide) ?_))))
        | ((with_reducible apply gR); (first | refine RK.peelN rfl ?_ | refine RK.donef rfl ⟨_, rfl, ?_⟩ | refine RK.donet rfl (by kernel_rfl) ⟨_, rfl, ?_⟩))
        | ((with_reducible apply gQv); focus exact wf_)
        | ((with_reducible apply gK); (fail_if_success ((apply gM); (iterate 3 apply Eq.refl))); ((apply RKo.gsplitN; (iterate 4 apply Eq.refl)) <;> (intro hc; (first | exact absurd hc (by decide) | with_reducible exact absurd hc hge | with_reducible exact absurd hx0 hc | with_reducible exact absurd hxl hc | exact absurd hc (by decide) | skip))))
        | ((with_reducible apply gW); (first | with_reducible apply WP.seq | refine WP.reg mixed (fun ks => _) (fun ks => rfl) (fun ks => ?_) | ((first | (apply cdD; apply Eq.refl) | (apply WP.condN; apply Eq.refl)) <;> (intro hc; (first | exact absurd hc (by decide) | with_reducible exact absurd hc hge | with_reducible exact absurd hx0 hc | with_reducible exact absurd hxl hc | exact absurd hc (by decide) | skip))) | apply WP.skip | apply WP.exit | apply WP.block))
        | (first | with_reducible apply thn_n | with_reducible apply thn_e | with_reducible apply blk_e))
      rename_i b4
      refine WP.loopI (n := 203) (α := Nat) (fun x => [(1, some (pP (a0 0))), (3, some (I64 1073741824)), (10, some (.slice (some ⟨b4 0, 0, none⟩) 4 4)), (11, some (I64 (x : Int)))]) (fun x => [(ko, oc), (kf, fd), (a0 0, .cells c.cells 25), (b4 0, wO c)]) (fun x => x ≤ m) (fun x => m - x) 0 (Wk.of ⟨rfl, rfl, rfl, rfl, trivial⟩ sb_) (Nat.zero_le _) (fun x ix => ?_)
      have ix : x ≤ m := ix
      by_cases hm1 : x < m
      · have hw := kpB (x := x) (by omega)
        have hx : x < 4 := by omega
        obtain ⟨g1, g2⟩ := hg x hm1
        rw [(ce4 c x hx).1] at g1
        rw [(ce4 c x hx).2] at g2
        have hlt : (x : Int) < ((4 : Nat) : Int) := by omega
        exact wk_P18_0
      · have hxe : x = m := by omega
        obtain rfl := hxe
        have hx : x < 4 := hm4
        have hlt : (x : Int) < ((4 : Nat) : Int) := by omega
        rw [(ce4 c x hx).1, (ce4 c x hx).2] at hb
        have hv6 : I64 (IntKind.i64.wrap ((x : Int) + 22)) = I64 (IntKind.i64.wrap (22 + (x : Int))) := congrArg (fun y => I64 (IntKind.i64.wrap y)) (by omega)
        exact wk_P18_0
      
    
  

set_option maxHeartbeats 8000000 in
theorem cc_e5 {oc fd : AObj} {ko fo kf ff : Nat} {X Y U W V : Nat → Int} {c : Cfg} (tb : Tb oc fo c.ocL X Y) (ha : 0 < c.ocL → c.ocA = some ⟨ko, fo, none⟩) (br : Br fd ff c.fdL U W V) (hf : 0 < c.fdL → c.fdA = some ⟨kf, ff, none⟩) (hfn : c.fdL ≤ 1000000) (hcb : ∀ i, i < 20 → cbA c i ≤ cbN c i ∧ cbN c i ≤ cbB c i) (tok : TOk c.ocL X Y) (hx0 : X 0 = 0) (hxl : X (c.ocL - 1) = c.Cap) (m : Nat) (hm4 : m = 4) (hg : ∀ i, i < 4 → ceA c i ≤ ceN c i ∧ ceN c i ≤ ceB c i) (hb : ¬ (ceA c 4 ≤ ceN c 4 ∧ ceN c 4 ≤ ceB c 4)) : Ctr Tryz.prog 7 33 [.agg ⟨c.cells⟩] [(ko, oc), (kf, fd)] (I64 26) [oc, fd] := by
  have hcd : ∀ g : Nat, ¬ cdG g = 0 := fun g => by unfold cdG; split <;> decide
  have nt1 : ¬ (!true) = true := by decide
  have nt2 : ¬ (!false) = false := by decide
  have hn2 := tok.n2
  have hn64 := tok.n64
  have h0 : 0 < c.ocL := by omega
  have h1 : c.ocL - 1 < c.ocL := by omega
  have hw1 := km1 h0 hn64
  refine Ctr.by layOk Tryz.func33 Tryz.ntmps33 rfl rfl rfl rfl rfl ?_
  repeat' (first
    | ((with_reducible apply gQ0); (first | (apply q_buildS (k := ks _) layOk; (iterate 8 apply Eq.refl); exact lk_; apply Eq.refl) | (apply q_box (k := ks _); apply Eq.refl; exact lk_; apply Eq.refl) | (apply q_assign; apply Eq.refl) | (apply q_fa layOk; (iterate 5 apply Eq.refl)) | (apply q_load layOk; (iterate 3 apply Eq.refl); exact lk_; apply Eq.refl) | (apply q_box (k := ks _); apply Eq.refl; exact lk_; apply Eq.refl)))
    | ((with_reducible apply gR); (first | refine RK.peelN rfl ?_ | refine RK.donef rfl ⟨_, rfl, ?_⟩))
    | ((with_reducible apply gW); (first | with_reducible apply WP.seq | refine WP.reg mixed (fun ks => _) (fun ks => rfl) (fun ks => ?_) | apply WP.block))
    | (with_reducible apply thn_n))
  rename_i a0 a1 b0
  refine WP.loopI (n := 203) (α := Nat) (fun x => [(1, some (pP (a0 0))), (3, some (I64 1073741824)), (4, some (.slice (some ⟨b0 0, 0, none⟩) 5 5)), (5, some (I64 (x : Int)))]) (fun x => [(ko, oc), (kf, fd), (a0 0, .cells c.cells 25), (b0 0, fvO c)]) (fun x => x ≤ 5) (fun x => 5 - x) 0 (Wk.of ⟨rfl, rfl, rfl, rfl, trivial⟩ sb_) (Nat.zero_le _) (fun x ix => ?_)
  have ix : x ≤ 5 := ix
  by_cases hm1 : x < 5
  · have hw := kpB (x := x) (by omega)
    have hx : x < 5 := by omega
    obtain ⟨g1, g2⟩ := hcb x (by omega)
    have h51 := (cb5 c x hx).1
    have h52 := (cb5 c x hx).2
    have hlt : (x : Int) < 5 := by omega
    have u1 : ¬ cbN c (x + 0) < 1 := by show ¬ cbN c x < 1; omega
    have u2 : ¬ cbN c (x + 0) > 100 := by show ¬ cbN c x > 100; omega
    exact wk_P18_0
  · have hxe : x = 5 := by omega
    have hge : ¬ (x : Int) < 5 := by omega
    repeat' (first
      | ((with_reducible apply gQ0); (first | (apply q_buildS (k := ks _) layOk; (iterate 8 apply Eq.refl); exact lk_; apply Eq.refl) | (apply q_move; apply Eq.refl) | (apply q_assign; apply Eq.refl) | (apply q_int; (iterate 3 apply Eq.refl)) | (apply q_fa layOk; (iterate 5 apply Eq.refl)) | (apply q_load layOk; (iterate 3 apply Eq.refl); exact lk_; apply Eq.refl)))
      | ((with_reducible apply gR); (first | refine RK.peelN rfl ?_ | refine RK.donef rfl ⟨_, rfl, ?_⟩))
      | ((with_reducible apply gW); (first | with_reducible apply WP.seq | refine WP.reg mixed (fun ks => _) (fun ks => rfl) (fun ks => ?_) | ((apply cdD; apply Eq.refl) <;> (intro hc; (first | with_reducible exact absurd hc hge | skip))) | apply WP.exit | apply WP.block))
      | (first | with_reducible apply thn_n | with_reducible apply thn_e | with_reducible apply blk_e))
    rename_i b1 b2 b3
    refine WP.loopI (n := 203) (α := Nat) (fun x => [(1, some (pP (a0 0))), (3, some (I64 1073741824)), (6, some (.slice (some ⟨b1 0, 0, none⟩) 15 15)), (7, some (.slice (some ⟨b2 0, 0, none⟩) 15 15)), (8, some (.slice (some ⟨b3 0, 0, none⟩) 15 15)), (9, some (I64 (x : Int)))]) (fun x => [(ko, oc), (kf, fd), (a0 0, .cells c.cells 25), (b1 0, vO c), (b2 0, loO c), (b3 0, hiO c)]) (fun x => x ≤ 15) (fun x => 15 - x) 0 (Wk.of ⟨rfl, rfl, rfl, rfl, rfl, rfl, trivial⟩ sb_) (Nat.zero_le _) (fun x ix => ?_)
    have ix : x ≤ 15 := ix
    by_cases hm1 : x < 15
    · have hw := kpB (x := x) (by omega)
      have hx : x < 15 := by omega
      obtain ⟨g1, g2⟩ := hcb (x + 5) (by omega)
      have hlt : (x : Int) < ((15 : Nat) : Int) := by omega
      exact wk_P18_0
    · have hxe : x = 15 := by omega
      have hge : ¬ (x : Int) < ((15 : Nat) : Int) := by omega
      repeat' (first
        | ((first | (with_reducible apply gQ0) | ((with_reducible apply gQ1); exact wt_)); (first | (apply q_buildS (k := ks _) layOk; (iterate 8 apply Eq.refl); exact lk_; apply Eq.refl) | (apply q_idxN (m := 0) layOk; (iterate 4 apply Eq.refl); exact ha; apply Eq.refl; exact h0) | (apply q_idxN (m := c.ocL - 1) layOk; (iterate 4 apply Eq.refl); exact ha; exact hw1; exact h1) | (apply q_load layOk; (iterate 3 apply Eq.refl); exact lk_; exact (tb.ax 0 h0)) | (apply q_load layOk; (iterate 3 apply Eq.refl); exact lk_; exact (tb.ax _ h1)) | (apply q_move; apply Eq.refl) | (apply q_assign; apply Eq.refl) | (apply q_int; (iterate 3 apply Eq.refl)) | (apply q_fa layOk; (iterate 5 apply Eq.refl)) | (apply q_load layOk; (iterate 3 apply Eq.refl); exact lk_; apply Eq.refl) | (apply q_pick_f; apply Eq.refl; apply Eq.refl) | (apply q_len layOk; (iterate 4 apply Eq.refl)) | (apply q_fieldc layOk; apply Eq.refl; exact Tryz.underlying41; (iterate 4 apply Eq.refl)) | (apply isF (f := 74); (refine q_callR rfl (ref_CheckN tb ha Chk.fine tok) rfl fd_ (by decide) ?_))))
        | ((with_reducible apply gR); (first | refine RK.peelN rfl ?_ | refine RK.donef rfl ⟨_, rfl, ?_⟩ | refine RK.donet rfl (by kernel_rfl) ⟨_, rfl, ?_⟩))
        | ((with_reducible apply gQv); focus exact wf_)
        | ((with_reducible apply gK); (fail_if_success ((apply gM); (iterate 3 apply Eq.refl))); ((apply RKo.gsplitN; (iterate 4 apply Eq.refl)) <;> (intro hc; (first | exact absurd hc (by decide) | with_reducible exact absurd hc hge | with_reducible exact absurd hx0 hc | with_reducible exact absurd hxl hc | exact absurd hc (by decide) | skip))))
        | ((with_reducible apply gW); (first | with_reducible apply WP.seq | refine WP.reg mixed (fun ks => _) (fun ks => rfl) (fun ks => ?_) | ((first | (apply cdD; apply Eq.refl) | (apply WP.condN; apply Eq.refl)) <;> (intro hc; (first | exact absurd hc (by decide) | with_reducible exact absurd hc hge | with_reducible exact absurd hx0 hc | with_reducible exact absurd hxl hc | exact absurd hc (by decide) | skip))) | apply WP.skip | apply WP.exit | apply WP.block))
        | (first | with_reducible apply thn_n | with_reducible apply thn_e | with_reducible apply blk_e))
      rename_i b4
      refine WP.loopI (n := 203) (α := Nat) (fun x => [(1, some (pP (a0 0))), (3, some (I64 1073741824)), (10, some (.slice (some ⟨b4 0, 0, none⟩) 4 4)), (11, some (I64 (x : Int)))]) (fun x => [(ko, oc), (kf, fd), (a0 0, .cells c.cells 25), (b4 0, wO c)]) (fun x => x ≤ 4) (fun x => 4 - x) 0 (Wk.of ⟨rfl, rfl, rfl, rfl, trivial⟩ sb_) (Nat.zero_le _) (fun x ix => ?_)
      have ix : x ≤ 4 := ix
      by_cases hm1 : x < 4
      · have hw := kpB (x := x) (by omega)
        have hx : x < 4 := by omega
        obtain ⟨g1, g2⟩ := hg x (by omega)
        rw [(ce4 c x hx).1] at g1
        rw [(ce4 c x hx).2] at g2
        have hlt : (x : Int) < ((4 : Nat) : Int) := by omega
        exact wk_P18_0
      · have hxe : x = 4 := by omega
        have hge : ¬ (x : Int) < ((4 : Nat) : Int) := by omega
        have hb' : ¬ (c.Imax ≤ c.Margin ∧ c.Margin ≤ 1073741824) := hb
        exact wk_P18_0
      
    
  

set_option maxHeartbeats 8000000 in
theorem cc_fl {oc fd : AObj} {ko fo kf ff : Nat} {X Y U W V : Nat → Int} {c : Cfg} (tb : Tb oc fo c.ocL X Y) (ha : 0 < c.ocL → c.ocA = some ⟨ko, fo, none⟩) (br : Br fd ff c.fdL U W V) (hf : 0 < c.fdL → c.fdA = some ⟨kf, ff, none⟩) (hfn : c.fdL ≤ 1000000) (hcb : ∀ i, i < 20 → cbA c i ≤ cbN c i ∧ cbN c i ≤ cbB c i) (tok : TOk c.ocL X Y) (hx0 : X 0 = 0) (hxl : X (c.ocL - 1) = c.Cap) (hce : ∀ i, i < 5 → ceA c i ≤ ceN c i ∧ ceN c i ≤ ceB c i) (h16 : 16 < c.fdL) : Ctr Tryz.prog 7 33 [.agg ⟨c.cells⟩] [(ko, oc), (kf, fd)] (I64 27) [oc, fd] := by
  have hcd : ∀ g : Nat, ¬ cdG g = 0 := fun g => by unfold cdG; split <;> decide
  have nt1 : ¬ (!true) = true := by decide
  have nt2 : ¬ (!false) = false := by decide
  have hn2 := tok.n2
  have hn64 := tok.n64
  have h0 : 0 < c.ocL := by omega
  have h1 : c.ocL - 1 < c.ocL := by omega
  have hw1 := km1 h0 hn64
  refine Ctr.by layOk Tryz.func33 Tryz.ntmps33 rfl rfl rfl rfl rfl ?_
  repeat' (first
    | ((with_reducible apply gQ0); (first | (apply q_buildS (k := ks _) layOk; (iterate 8 apply Eq.refl); exact lk_; apply Eq.refl) | (apply q_box (k := ks _); apply Eq.refl; exact lk_; apply Eq.refl) | (apply q_assign; apply Eq.refl) | (apply q_fa layOk; (iterate 5 apply Eq.refl)) | (apply q_load layOk; (iterate 3 apply Eq.refl); exact lk_; apply Eq.refl) | (apply q_box (k := ks _); apply Eq.refl; exact lk_; apply Eq.refl)))
    | ((with_reducible apply gR); (first | refine RK.peelN rfl ?_ | refine RK.donef rfl ⟨_, rfl, ?_⟩))
    | ((with_reducible apply gW); (first | with_reducible apply WP.seq | refine WP.reg mixed (fun ks => _) (fun ks => rfl) (fun ks => ?_) | apply WP.block))
    | (with_reducible apply thn_n))
  rename_i a0 a1 b0
  refine WP.loopI (n := 203) (α := Nat) (fun x => [(1, some (pP (a0 0))), (3, some (I64 1073741824)), (4, some (.slice (some ⟨b0 0, 0, none⟩) 5 5)), (5, some (I64 (x : Int)))]) (fun x => [(ko, oc), (kf, fd), (a0 0, .cells c.cells 25), (b0 0, fvO c)]) (fun x => x ≤ 5) (fun x => 5 - x) 0 (Wk.of ⟨rfl, rfl, rfl, rfl, trivial⟩ sb_) (Nat.zero_le _) (fun x ix => ?_)
  have ix : x ≤ 5 := ix
  by_cases hm1 : x < 5
  · have hw := kpB (x := x) (by omega)
    have hx : x < 5 := by omega
    obtain ⟨g1, g2⟩ := hcb x (by omega)
    have h51 := (cb5 c x hx).1
    have h52 := (cb5 c x hx).2
    have hlt : (x : Int) < 5 := by omega
    have u1 : ¬ cbN c (x + 0) < 1 := by show ¬ cbN c x < 1; omega
    have u2 : ¬ cbN c (x + 0) > 100 := by show ¬ cbN c x > 100; omega
    exact wk_P18_0
  · have hxe : x = 5 := by omega
    have hge : ¬ (x : Int) < 5 := by omega
    repeat' (first
      | ((with_reducible apply gQ0); (first | (apply q_buildS (k := ks _) layOk; (iterate 8 apply Eq.refl); exact lk_; apply Eq.refl) | (apply q_move; apply Eq.refl) | (apply q_assign; apply Eq.refl) | (apply q_int; (iterate 3 apply Eq.refl)) | (apply q_fa layOk; (iterate 5 apply Eq.refl)) | (apply q_load layOk; (iterate 3 apply Eq.refl); exact lk_; apply Eq.refl)))
      | ((with_reducible apply gR); (first | refine RK.peelN rfl ?_ | refine RK.donef rfl ⟨_, rfl, ?_⟩))
      | ((with_reducible apply gW); (first | with_reducible apply WP.seq | refine WP.reg mixed (fun ks => _) (fun ks => rfl) (fun ks => ?_) | ((apply cdD; apply Eq.refl) <;> (intro hc; (first | with_reducible exact absurd hc hge | skip))) | apply WP.exit | apply WP.block))
      | (first | with_reducible apply thn_n | with_reducible apply thn_e | with_reducible apply blk_e))
    rename_i b1 b2 b3
    refine WP.loopI (n := 203) (α := Nat) (fun x => [(1, some (pP (a0 0))), (3, some (I64 1073741824)), (6, some (.slice (some ⟨b1 0, 0, none⟩) 15 15)), (7, some (.slice (some ⟨b2 0, 0, none⟩) 15 15)), (8, some (.slice (some ⟨b3 0, 0, none⟩) 15 15)), (9, some (I64 (x : Int)))]) (fun x => [(ko, oc), (kf, fd), (a0 0, .cells c.cells 25), (b1 0, vO c), (b2 0, loO c), (b3 0, hiO c)]) (fun x => x ≤ 15) (fun x => 15 - x) 0 (Wk.of ⟨rfl, rfl, rfl, rfl, rfl, rfl, trivial⟩ sb_) (Nat.zero_le _) (fun x ix => ?_)
    have ix : x ≤ 15 := ix
    by_cases hm1 : x < 15
    · have hw := kpB (x := x) (by omega)
      have hx : x < 15 := by omega
      obtain ⟨g1, g2⟩ := hcb (x + 5) (by omega)
      have hlt : (x : Int) < ((15 : Nat) : Int) := by omega
      exact wk_P18_0
    · have hxe : x = 15 := by omega
      have hge : ¬ (x : Int) < ((15 : Nat) : Int) := by omega
      repeat' (first
        | ((first | (with_reducible apply gQ0) | ((with_reducible apply gQ1); exact wt_)); (first | (apply q_buildS (k := ks _) layOk; (iterate 8 apply Eq.refl); exact lk_; apply Eq.refl) | (apply q_idxN (m := 0) layOk; (iterate 4 apply Eq.refl); exact ha; apply Eq.refl; exact h0) | (apply q_idxN (m := c.ocL - 1) layOk; (iterate 4 apply Eq.refl); exact ha; exact hw1; exact h1) | (apply q_load layOk; (iterate 3 apply Eq.refl); exact lk_; exact (tb.ax 0 h0)) | (apply q_load layOk; (iterate 3 apply Eq.refl); exact lk_; exact (tb.ax _ h1)) | (apply q_move; apply Eq.refl) | (apply q_assign; apply Eq.refl) | (apply q_int; (iterate 3 apply Eq.refl)) | (apply q_fa layOk; (iterate 5 apply Eq.refl)) | (apply q_load layOk; (iterate 3 apply Eq.refl); exact lk_; apply Eq.refl) | (apply q_pick_f; apply Eq.refl; apply Eq.refl) | (apply q_len layOk; (iterate 4 apply Eq.refl)) | (apply q_fieldc layOk; apply Eq.refl; exact Tryz.underlying41; (iterate 4 apply Eq.refl)) | (apply isF (f := 74); (refine q_callR rfl (ref_CheckN tb ha Chk.fine tok) rfl fd_ (by decide) ?_))))
        | ((with_reducible apply gR); (first | refine RK.peelN rfl ?_ | refine RK.donef rfl ⟨_, rfl, ?_⟩ | refine RK.donet rfl (by kernel_rfl) ⟨_, rfl, ?_⟩))
        | ((with_reducible apply gQv); focus exact wf_)
        | ((with_reducible apply gK); (fail_if_success ((apply gM); (iterate 3 apply Eq.refl))); ((apply RKo.gsplitN; (iterate 4 apply Eq.refl)) <;> (intro hc; (first | exact absurd hc (by decide) | with_reducible exact absurd hc hge | with_reducible exact absurd hx0 hc | with_reducible exact absurd hxl hc | exact absurd hc (by decide) | skip))))
        | ((with_reducible apply gW); (first | with_reducible apply WP.seq | refine WP.reg mixed (fun ks => _) (fun ks => rfl) (fun ks => ?_) | ((first | (apply cdD; apply Eq.refl) | (apply WP.condN; apply Eq.refl)) <;> (intro hc; (first | exact absurd hc (by decide) | with_reducible exact absurd hc hge | with_reducible exact absurd hx0 hc | with_reducible exact absurd hxl hc | exact absurd hc (by decide) | skip))) | apply WP.skip | apply WP.exit | apply WP.block))
        | (first | with_reducible apply thn_n | with_reducible apply thn_e | with_reducible apply blk_e))
      rename_i b4
      refine WP.loopI (n := 203) (α := Nat) (fun x => [(1, some (pP (a0 0))), (3, some (I64 1073741824)), (10, some (.slice (some ⟨b4 0, 0, none⟩) 4 4)), (11, some (I64 (x : Int)))]) (fun x => [(ko, oc), (kf, fd), (a0 0, .cells c.cells 25), (b4 0, wO c)]) (fun x => x ≤ 4) (fun x => 4 - x) 0 (Wk.of ⟨rfl, rfl, rfl, rfl, trivial⟩ sb_) (Nat.zero_le _) (fun x ix => ?_)
      have ix : x ≤ 4 := ix
      by_cases hm1 : x < 4
      · have hw := kpB (x := x) (by omega)
        have hx : x < 4 := by omega
        obtain ⟨g1, g2⟩ := hce x (by omega)
        rw [(ce4 c x hx).1] at g1
        rw [(ce4 c x hx).2] at g2
        have hlt : (x : Int) < ((4 : Nat) : Int) := by omega
        exact wk_P18_0
      · have hxe : x = 4 := by omega
        have hge : ¬ (x : Int) < ((4 : Nat) : Int) := by omega
        have hgt : (c.fdL : Int) > 16 := by omega
        obtain ⟨i1, i2⟩ : c.Imax ≤ c.Margin ∧ c.Margin ≤ 1073741824 := hce 4 (by decide)
        exact wk_P18_0
      
    
  

set_option maxHeartbeats 8000000 in
theorem cc_fb {oc fd : AObj} {ko fo kf ff : Nat} {X Y U W V : Nat → Int} {c : Cfg} (tb : Tb oc fo c.ocL X Y) (ha : 0 < c.ocL → c.ocA = some ⟨ko, fo, none⟩) (br : Br fd ff c.fdL U W V) (hf : 0 < c.fdL → c.fdA = some ⟨kf, ff, none⟩) (hfn : c.fdL ≤ 1000000) (hcb : ∀ i, i < 20 → cbA c i ≤ cbN c i ∧ cbN c i ≤ cbB c i) (tok : TOk c.ocL X Y) (hx0 : X 0 = 0) (hxl : X (c.ocL - 1) = c.Cap) (hce : ∀ i, i < 5 → ceA c i ≤ ceN c i ∧ ceN c i ≤ ceB c i) (h16 : c.fdL ≤ 16) (m : Nat) (hmn : m < c.fdL) (hfd : ∀ i, i < m → fdOK U W V i) (hfb : ¬ fdOK U W V m) : Ctr Tryz.prog 7 33 [.agg ⟨c.cells⟩] [(ko, oc), (kf, fd)] (I64 27) [oc, fd] := by
  have hcd : ∀ g : Nat, ¬ cdG g = 0 := fun g => by unfold cdG; split <;> decide
  have nt1 : ¬ (!true) = true := by decide
  have nt2 : ¬ (!false) = false := by decide
  have hn2 := tok.n2
  have hn64 := tok.n64
  have h0 : 0 < c.ocL := by omega
  have h1 : c.ocL - 1 < c.ocL := by omega
  have hw1 := km1 h0 hn64
  refine Ctr.by layOk Tryz.func33 Tryz.ntmps33 rfl rfl rfl rfl rfl ?_
  repeat' (first
    | ((with_reducible apply gQ0); (first | (apply q_buildS (k := ks _) layOk; (iterate 8 apply Eq.refl); exact lk_; apply Eq.refl) | (apply q_box (k := ks _); apply Eq.refl; exact lk_; apply Eq.refl) | (apply q_assign; apply Eq.refl) | (apply q_fa layOk; (iterate 5 apply Eq.refl)) | (apply q_load layOk; (iterate 3 apply Eq.refl); exact lk_; apply Eq.refl) | (apply q_box (k := ks _); apply Eq.refl; exact lk_; apply Eq.refl)))
    | ((with_reducible apply gR); (first | refine RK.peelN rfl ?_ | refine RK.donef rfl ⟨_, rfl, ?_⟩))
    | ((with_reducible apply gW); (first | with_reducible apply WP.seq | refine WP.reg mixed (fun ks => _) (fun ks => rfl) (fun ks => ?_) | apply WP.block))
    | (with_reducible apply thn_n))
  rename_i a0 a1 b0
  refine WP.loopI (n := 203) (α := Nat) (fun x => [(1, some (pP (a0 0))), (3, some (I64 1073741824)), (4, some (.slice (some ⟨b0 0, 0, none⟩) 5 5)), (5, some (I64 (x : Int)))]) (fun x => [(ko, oc), (kf, fd), (a0 0, .cells c.cells 25), (b0 0, fvO c)]) (fun x => x ≤ 5) (fun x => 5 - x) 0 (Wk.of ⟨rfl, rfl, rfl, rfl, trivial⟩ sb_) (Nat.zero_le _) (fun x ix => ?_)
  have ix : x ≤ 5 := ix
  by_cases hm1 : x < 5
  · have hw := kpB (x := x) (by omega)
    have hx : x < 5 := by omega
    obtain ⟨g1, g2⟩ := hcb x (by omega)
    have h51 := (cb5 c x hx).1
    have h52 := (cb5 c x hx).2
    have hlt : (x : Int) < 5 := by omega
    have u1 : ¬ cbN c (x + 0) < 1 := by show ¬ cbN c x < 1; omega
    have u2 : ¬ cbN c (x + 0) > 100 := by show ¬ cbN c x > 100; omega
    exact wk_P18_0
  · have hxe : x = 5 := by omega
    have hge : ¬ (x : Int) < 5 := by omega
    repeat' (first
      | ((with_reducible apply gQ0); (first | (apply q_buildS (k := ks _) layOk; (iterate 8 apply Eq.refl); exact lk_; apply Eq.refl) | (apply q_move; apply Eq.refl) | (apply q_assign; apply Eq.refl) | (apply q_int; (iterate 3 apply Eq.refl)) | (apply q_fa layOk; (iterate 5 apply Eq.refl)) | (apply q_load layOk; (iterate 3 apply Eq.refl); exact lk_; apply Eq.refl)))
      | ((with_reducible apply gR); (first | refine RK.peelN rfl ?_ | refine RK.donef rfl ⟨_, rfl, ?_⟩))
      | ((with_reducible apply gW); (first | with_reducible apply WP.seq | refine WP.reg mixed (fun ks => _) (fun ks => rfl) (fun ks => ?_) | ((apply cdD; apply Eq.refl) <;> (intro hc; (first | with_reducible exact absurd hc hge | skip))) | apply WP.exit | apply WP.block))
      | (first | with_reducible apply thn_n | with_reducible apply thn_e | with_reducible apply blk_e))
    rename_i b1 b2 b3
    refine WP.loopI (n := 203) (α := Nat) (fun x => [(1, some (pP (a0 0))), (3, some (I64 1073741824)), (6, some (.slice (some ⟨b1 0, 0, none⟩) 15 15)), (7, some (.slice (some ⟨b2 0, 0, none⟩) 15 15)), (8, some (.slice (some ⟨b3 0, 0, none⟩) 15 15)), (9, some (I64 (x : Int)))]) (fun x => [(ko, oc), (kf, fd), (a0 0, .cells c.cells 25), (b1 0, vO c), (b2 0, loO c), (b3 0, hiO c)]) (fun x => x ≤ 15) (fun x => 15 - x) 0 (Wk.of ⟨rfl, rfl, rfl, rfl, rfl, rfl, trivial⟩ sb_) (Nat.zero_le _) (fun x ix => ?_)
    have ix : x ≤ 15 := ix
    by_cases hm1 : x < 15
    · have hw := kpB (x := x) (by omega)
      have hx : x < 15 := by omega
      obtain ⟨g1, g2⟩ := hcb (x + 5) (by omega)
      have hlt : (x : Int) < ((15 : Nat) : Int) := by omega
      exact wk_P18_0
    · have hxe : x = 15 := by omega
      have hge : ¬ (x : Int) < ((15 : Nat) : Int) := by omega
      repeat' (first
        | ((first | (with_reducible apply gQ0) | ((with_reducible apply gQ1); exact wt_)); (first | (apply q_buildS (k := ks _) layOk; (iterate 8 apply Eq.refl); exact lk_; apply Eq.refl) | (apply q_idxN (m := 0) layOk; (iterate 4 apply Eq.refl); exact ha; apply Eq.refl; exact h0) | (apply q_idxN (m := c.ocL - 1) layOk; (iterate 4 apply Eq.refl); exact ha; exact hw1; exact h1) | (apply q_load layOk; (iterate 3 apply Eq.refl); exact lk_; exact (tb.ax 0 h0)) | (apply q_load layOk; (iterate 3 apply Eq.refl); exact lk_; exact (tb.ax _ h1)) | (apply q_move; apply Eq.refl) | (apply q_assign; apply Eq.refl) | (apply q_int; (iterate 3 apply Eq.refl)) | (apply q_fa layOk; (iterate 5 apply Eq.refl)) | (apply q_load layOk; (iterate 3 apply Eq.refl); exact lk_; apply Eq.refl) | (apply q_pick_f; apply Eq.refl; apply Eq.refl) | (apply q_len layOk; (iterate 4 apply Eq.refl)) | (apply q_fieldc layOk; apply Eq.refl; exact Tryz.underlying41; (iterate 4 apply Eq.refl)) | (apply isF (f := 74); (refine q_callR rfl (ref_CheckN tb ha Chk.fine tok) rfl fd_ (by decide) ?_))))
        | ((with_reducible apply gR); (first | refine RK.peelN rfl ?_ | refine RK.donef rfl ⟨_, rfl, ?_⟩ | refine RK.donet rfl (by kernel_rfl) ⟨_, rfl, ?_⟩))
        | ((with_reducible apply gQv); focus exact wf_)
        | ((with_reducible apply gK); (fail_if_success ((apply gM); (iterate 3 apply Eq.refl))); ((apply RKo.gsplitN; (iterate 4 apply Eq.refl)) <;> (intro hc; (first | exact absurd hc (by decide) | with_reducible exact absurd hc hge | with_reducible exact absurd hx0 hc | with_reducible exact absurd hxl hc | exact absurd hc (by decide) | skip))))
        | ((with_reducible apply gW); (first | with_reducible apply WP.seq | refine WP.reg mixed (fun ks => _) (fun ks => rfl) (fun ks => ?_) | ((first | (apply cdD; apply Eq.refl) | (apply WP.condN; apply Eq.refl)) <;> (intro hc; (first | exact absurd hc (by decide) | with_reducible exact absurd hc hge | with_reducible exact absurd hx0 hc | with_reducible exact absurd hxl hc | exact absurd hc (by decide) | skip))) | apply WP.skip | apply WP.exit | apply WP.block))
        | (first | with_reducible apply thn_n | with_reducible apply thn_e | with_reducible apply blk_e))
      rename_i b4
      refine WP.loopI (n := 203) (α := Nat) (fun x => [(1, some (pP (a0 0))), (3, some (I64 1073741824)), (10, some (.slice (some ⟨b4 0, 0, none⟩) 4 4)), (11, some (I64 (x : Int)))]) (fun x => [(ko, oc), (kf, fd), (a0 0, .cells c.cells 25), (b4 0, wO c)]) (fun x => x ≤ 4) (fun x => 4 - x) 0 (Wk.of ⟨rfl, rfl, rfl, rfl, trivial⟩ sb_) (Nat.zero_le _) (fun x ix => ?_)
      have ix : x ≤ 4 := ix
      by_cases hm1 : x < 4
      · have hw := kpB (x := x) (by omega)
        have hx : x < 4 := by omega
        obtain ⟨g1, g2⟩ := hce x (by omega)
        rw [(ce4 c x hx).1] at g1
        rw [(ce4 c x hx).2] at g2
        have hlt : (x : Int) < ((4 : Nat) : Int) := by omega
        exact wk_P18_0
      · have hxe : x = 4 := by omega
        have hge : ¬ (x : Int) < ((4 : Nat) : Int) := by omega
        have hgt : ¬ (c.fdL : Int) > 16 := by omega
        obtain ⟨i1, i2⟩ : c.Imax ≤ c.Margin ∧ c.Margin ≤ 1073741824 := hce 4 (by decide)
        repeat' (first
          | ((with_reducible apply gQ0); (first | (apply q_move; apply Eq.refl) | (apply q_assign; apply Eq.refl) | (apply q_int; (iterate 3 apply Eq.refl)) | (apply q_fa layOk; (iterate 5 apply Eq.refl)) | (apply q_load layOk; (iterate 3 apply Eq.refl); exact lk_; apply Eq.refl) | (apply q_not; apply Eq.refl) | (apply q_len layOk; (iterate 4 apply Eq.refl)) | (apply isF (f := 73); (refine q_call0 rfl (ref_bound_t _ _ _ i1 i2) ?_))))
          | ((with_reducible apply gR); (first | refine RK.peelN rfl ?_ | refine RK.donef rfl ⟨_, rfl, ?_⟩))
          | ((with_reducible apply gW); (first | with_reducible apply WP.seq | refine WP.reg mixed (fun ks => _) (fun ks => rfl) (fun ks => ?_) | ((first | (apply cdD; apply Eq.refl) | (apply WP.condA; apply Eq.refl)) <;> (intro hc; (first | with_reducible exact absurd hc nt1 | with_reducible exact absurd hc hge | with_reducible exact absurd hc hgt | skip))) | apply WP.skip | apply WP.exit | apply WP.block))
          | (first | with_reducible apply thn_n | with_reducible apply thn_e | with_reducible apply blk_e))
        refine WP.loopI (n := 203) (α := Nat) (fun x => [(1, some (pP (a0 0))), (3, some (I64 1073741824)), (12, some (I64 (x : Int)))]) (fun x => [(ko, oc), (kf, fd), (a0 0, .cells c.cells 25)]) (fun x => x ≤ m) (fun x => m - x) 0 (Wk.of ⟨rfl, rfl, rfl, trivial⟩ sb_) (Nat.zero_le _) (fun x ix => ?_)
        have ix : x ≤ m := ix
        by_cases hm1 : x < m
        · have hw := kpB (x := x) (by omega)
          have hx : x < c.fdL := by omega
          have hlt : (x : Int) < (c.fdL : Int) := by omega
          obtain ⟨g1, g2, ⟨g3, g4⟩, g5, g6⟩ := hfd x hm1
          exact wk_P18_0
        · have hxe : x = m := by omega
          obtain rfl := hxe
          have hx : x < c.fdL := hmn
          have hlt : (x : Int) < (c.fdL : Int) := by omega
          rcases fd_or hfb with q | ⟨g1, q⟩ | ⟨g1, g2, q⟩ | ⟨g1, g2, ⟨g3, g4⟩, q⟩ | ⟨g1, g2, ⟨g3, g4⟩, g5, q⟩
          · skip
            exact wk_P18_0
          · skip
            exact wk_P18_0
          · skip
            exact wk_P18_0
          · skip
            exact wk_P18_0
          · skip
            exact wk_P18_0
          
        
      
    
  

set_option maxHeartbeats 8000000 in
theorem cc_ok {oc fd : AObj} {ko fo kf ff : Nat} {X Y U W V : Nat → Int} {c : Cfg} (tb : Tb oc fo c.ocL X Y) (ha : 0 < c.ocL → c.ocA = some ⟨ko, fo, none⟩) (br : Br fd ff c.fdL U W V) (hf : 0 < c.fdL → c.fdA = some ⟨kf, ff, none⟩) (hfn : c.fdL ≤ 1000000) (hcb : ∀ i, i < 20 → cbA c i ≤ cbN c i ∧ cbN c i ≤ cbB c i) (tok : TOk c.ocL X Y) (hx0 : X 0 = 0) (hxl : X (c.ocL - 1) = c.Cap) (hce : ∀ i, i < 5 → ceA c i ≤ ceN c i ∧ ceN c i ≤ ceB c i) (hfd : ∀ i, i < c.fdL → fdOK U W V i) (h16 : c.fdL ≤ 16) : Ctr Tryz.prog 7 33 [.agg ⟨c.cells⟩] [(ko, oc), (kf, fd)] (I64 0) [oc, fd] := by
  have hcd : ∀ g : Nat, ¬ cdG g = 0 := fun g => by unfold cdG; split <;> decide
  have nt1 : ¬ (!true) = true := by decide
  have nt2 : ¬ (!false) = false := by decide
  have hn2 := tok.n2
  have hn64 := tok.n64
  have h0 : 0 < c.ocL := by omega
  have h1 : c.ocL - 1 < c.ocL := by omega
  have hw1 := km1 h0 hn64
  refine Ctr.by layOk Tryz.func33 Tryz.ntmps33 rfl rfl rfl rfl rfl ?_
  repeat' (first
    | ((with_reducible apply gQ0); (first | (apply q_buildS (k := ks _) layOk; (iterate 8 apply Eq.refl); exact lk_; apply Eq.refl) | (apply q_box (k := ks _); apply Eq.refl; exact lk_; apply Eq.refl) | (apply q_assign; apply Eq.refl) | (apply q_fa layOk; (iterate 5 apply Eq.refl)) | (apply q_load layOk; (iterate 3 apply Eq.refl); exact lk_; apply Eq.refl) | (apply q_box (k := ks _); apply Eq.refl; exact lk_; apply Eq.refl)))
    | ((with_reducible apply gR); (first | refine RK.peelN rfl ?_ | refine RK.donef rfl ⟨_, rfl, ?_⟩))
    | ((with_reducible apply gW); (first | with_reducible apply WP.seq | refine WP.reg mixed (fun ks => _) (fun ks => rfl) (fun ks => ?_) | apply WP.block))
    | (with_reducible apply thn_n))
  rename_i a0 a1 b0
  refine WP.loopI (n := 203) (α := Nat) (fun x => [(1, some (pP (a0 0))), (3, some (I64 1073741824)), (4, some (.slice (some ⟨b0 0, 0, none⟩) 5 5)), (5, some (I64 (x : Int)))]) (fun x => [(ko, oc), (kf, fd), (a0 0, .cells c.cells 25), (b0 0, fvO c)]) (fun x => x ≤ 5) (fun x => 5 - x) 0 (Wk.of ⟨rfl, rfl, rfl, rfl, trivial⟩ sb_) (Nat.zero_le _) (fun x ix => ?_)
  have ix : x ≤ 5 := ix
  by_cases hm1 : x < 5
  · have hw := kpB (x := x) (by omega)
    have hx : x < 5 := by omega
    obtain ⟨g1, g2⟩ := hcb x (by omega)
    have h51 := (cb5 c x hx).1
    have h52 := (cb5 c x hx).2
    have hlt : (x : Int) < 5 := by omega
    have u1 : ¬ cbN c (x + 0) < 1 := by show ¬ cbN c x < 1; omega
    have u2 : ¬ cbN c (x + 0) > 100 := by show ¬ cbN c x > 100; omega
    exact wk_P18_0
  · have hxe : x = 5 := by omega
    have hge : ¬ (x : Int) < 5 := by omega
    repeat' (first
      | ((with_reducible apply gQ0); (first | (apply q_buildS (k := ks _) layOk; (iterate 8 apply Eq.refl); exact lk_; apply Eq.refl) | (apply q_move; apply Eq.refl) | (apply q_assign; apply Eq.refl) | (apply q_int; (iterate 3 apply Eq.refl)) | (apply q_fa layOk; (iterate 5 apply Eq.refl)) | (apply q_load layOk; (iterate 3 apply Eq.refl); exact lk_; apply Eq.refl)))
      | ((with_reducible apply gR); (first | refine RK.peelN rfl ?_ | refine RK.donef rfl ⟨_, rfl, ?_⟩))
      | ((with_reducible apply gW); (first | with_reducible apply WP.seq | refine WP.reg mixed (fun ks => _) (fun ks => rfl) (fun ks => ?_) | ((apply cdD; apply Eq.refl) <;> (intro hc; (first | with_reducible exact absurd hc hge | skip))) | apply WP.exit | apply WP.block))
      | (first | with_reducible apply thn_n | with_reducible apply thn_e | with_reducible apply blk_e))
    rename_i b1 b2 b3
    refine WP.loopI (n := 203) (α := Nat) (fun x => [(1, some (pP (a0 0))), (3, some (I64 1073741824)), (6, some (.slice (some ⟨b1 0, 0, none⟩) 15 15)), (7, some (.slice (some ⟨b2 0, 0, none⟩) 15 15)), (8, some (.slice (some ⟨b3 0, 0, none⟩) 15 15)), (9, some (I64 (x : Int)))]) (fun x => [(ko, oc), (kf, fd), (a0 0, .cells c.cells 25), (b1 0, vO c), (b2 0, loO c), (b3 0, hiO c)]) (fun x => x ≤ 15) (fun x => 15 - x) 0 (Wk.of ⟨rfl, rfl, rfl, rfl, rfl, rfl, trivial⟩ sb_) (Nat.zero_le _) (fun x ix => ?_)
    have ix : x ≤ 15 := ix
    by_cases hm1 : x < 15
    · have hw := kpB (x := x) (by omega)
      have hx : x < 15 := by omega
      obtain ⟨g1, g2⟩ := hcb (x + 5) (by omega)
      have hlt : (x : Int) < ((15 : Nat) : Int) := by omega
      exact wk_P18_0
    · have hxe : x = 15 := by omega
      have hge : ¬ (x : Int) < ((15 : Nat) : Int) := by omega
      repeat' (first
        | ((first | (with_reducible apply gQ0) | ((with_reducible apply gQ1); exact wt_)); (first | (apply q_buildS (k := ks _) layOk; (iterate 8 apply Eq.refl); exact lk_; apply Eq.refl) | (apply q_idxN (m := 0) layOk; (iterate 4 apply Eq.refl); exact ha; apply Eq.refl; exact h0) | (apply q_idxN (m := c.ocL - 1) layOk; (iterate 4 apply Eq.refl); exact ha; exact hw1; exact h1) | (apply q_load layOk; (iterate 3 apply Eq.refl); exact lk_; exact (tb.ax 0 h0)) | (apply q_load layOk; (iterate 3 apply Eq.refl); exact lk_; exact (tb.ax _ h1)) | (apply q_move; apply Eq.refl) | (apply q_assign; apply Eq.refl) | (apply q_int; (iterate 3 apply Eq.refl)) | (apply q_fa layOk; (iterate 5 apply Eq.refl)) | (apply q_load layOk; (iterate 3 apply Eq.refl); exact lk_; apply Eq.refl) | (apply q_pick_f; apply Eq.refl; apply Eq.refl) | (apply q_len layOk; (iterate 4 apply Eq.refl)) | (apply q_fieldc layOk; apply Eq.refl; exact Tryz.underlying41; (iterate 4 apply Eq.refl)) | (apply isF (f := 74); (refine q_callR rfl (ref_CheckN tb ha Chk.fine tok) rfl fd_ (by decide) ?_))))
        | ((with_reducible apply gR); (first | refine RK.peelN rfl ?_ | refine RK.donef rfl ⟨_, rfl, ?_⟩ | refine RK.donet rfl (by kernel_rfl) ⟨_, rfl, ?_⟩))
        | ((with_reducible apply gQv); focus exact wf_)
        | ((with_reducible apply gK); (fail_if_success ((apply gM); (iterate 3 apply Eq.refl))); ((apply RKo.gsplitN; (iterate 4 apply Eq.refl)) <;> (intro hc; (first | exact absurd hc (by decide) | with_reducible exact absurd hc hge | with_reducible exact absurd hx0 hc | with_reducible exact absurd hxl hc | exact absurd hc (by decide) | skip))))
        | ((with_reducible apply gW); (first | with_reducible apply WP.seq | refine WP.reg mixed (fun ks => _) (fun ks => rfl) (fun ks => ?_) | ((first | (apply cdD; apply Eq.refl) | (apply WP.condN; apply Eq.refl)) <;> (intro hc; (first | exact absurd hc (by decide) | with_reducible exact absurd hc hge | with_reducible exact absurd hx0 hc | with_reducible exact absurd hxl hc | exact absurd hc (by decide) | skip))) | apply WP.skip | apply WP.exit | apply WP.block))
        | (first | with_reducible apply thn_n | with_reducible apply thn_e | with_reducible apply blk_e))
      rename_i b4
      refine WP.loopI (n := 203) (α := Nat) (fun x => [(1, some (pP (a0 0))), (3, some (I64 1073741824)), (10, some (.slice (some ⟨b4 0, 0, none⟩) 4 4)), (11, some (I64 (x : Int)))]) (fun x => [(ko, oc), (kf, fd), (a0 0, .cells c.cells 25), (b4 0, wO c)]) (fun x => x ≤ 4) (fun x => 4 - x) 0 (Wk.of ⟨rfl, rfl, rfl, rfl, trivial⟩ sb_) (Nat.zero_le _) (fun x ix => ?_)
      have ix : x ≤ 4 := ix
      by_cases hm1 : x < 4
      · have hw := kpB (x := x) (by omega)
        have hx : x < 4 := by omega
        obtain ⟨g1, g2⟩ := hce x (by omega)
        rw [(ce4 c x hx).1] at g1
        rw [(ce4 c x hx).2] at g2
        have hlt : (x : Int) < ((4 : Nat) : Int) := by omega
        exact wk_P18_0
      · have hxe : x = 4 := by omega
        have hge : ¬ (x : Int) < ((4 : Nat) : Int) := by omega
        have hgt : ¬ (c.fdL : Int) > 16 := by omega
        obtain ⟨i1, i2⟩ : c.Imax ≤ c.Margin ∧ c.Margin ≤ 1073741824 := hce 4 (by decide)
        repeat' (first
          | ((with_reducible apply gQ0); (first | (apply q_move; apply Eq.refl) | (apply q_assign; apply Eq.refl) | (apply q_int; (iterate 3 apply Eq.refl)) | (apply q_fa layOk; (iterate 5 apply Eq.refl)) | (apply q_load layOk; (iterate 3 apply Eq.refl); exact lk_; apply Eq.refl) | (apply q_not; apply Eq.refl) | (apply q_len layOk; (iterate 4 apply Eq.refl)) | (apply isF (f := 73); (refine q_call0 rfl (ref_bound_t _ _ _ i1 i2) ?_))))
          | ((with_reducible apply gR); (first | refine RK.peelN rfl ?_ | refine RK.donef rfl ⟨_, rfl, ?_⟩))
          | ((with_reducible apply gW); (first | with_reducible apply WP.seq | refine WP.reg mixed (fun ks => _) (fun ks => rfl) (fun ks => ?_) | ((first | (apply cdD; apply Eq.refl) | (apply WP.condA; apply Eq.refl)) <;> (intro hc; (first | with_reducible exact absurd hc nt1 | with_reducible exact absurd hc hge | with_reducible exact absurd hc hgt | skip))) | apply WP.skip | apply WP.exit | apply WP.block))
          | (first | with_reducible apply thn_n | with_reducible apply thn_e | with_reducible apply blk_e))
        refine WP.loopI (n := 203) (α := Nat) (fun x => [(1, some (pP (a0 0))), (3, some (I64 1073741824)), (12, some (I64 (x : Int)))]) (fun x => [(ko, oc), (kf, fd), (a0 0, .cells c.cells 25)]) (fun x => x ≤ c.fdL) (fun x => c.fdL - x) 0 (Wk.of ⟨rfl, rfl, rfl, trivial⟩ sb_) (Nat.zero_le _) (fun x ix => ?_)
        have ix : x ≤ c.fdL := ix
        by_cases hm1 : x < c.fdL
        · have hw := kpB (x := x) (by omega)
          have hx : x < c.fdL := by omega
          have hlt : (x : Int) < (c.fdL : Int) := by omega
          obtain ⟨g1, g2, ⟨g3, g4⟩, g5, g6⟩ := hfd x hm1
          exact wk_P18_0
        · have hxe : x = c.fdL := by omega
          have hge : ¬ (x : Int) < (c.fdL : Int) := by omega
          exact wk_P18_0
        
      
    
  
end Go.Proofs.YtekcchmnncefhaaGreatDoor
namespace Go.Proofs.YtekcchmnncefhaaGreatDoor
open Go Go.Proofs.YtekcchmnncefhaaGreatDoorAB
set_option linter.unusedSimpArgs false
set_option linter.unusedVariables false
set_option maxRecDepth 20000
theorem scanP (p : Nat → Prop) : ∀ n : Nat, (∀ i, i < n → p i) ∨ ∃ m, m < n ∧ (∀ j, j < m → p j) ∧ ¬ p m
  | 0 => .inl fun i h => absurd h (Nat.not_lt_zero i)
  | n + 1 => by
    rcases scanP p n with h | ⟨m, h1, h2, h3⟩
    · by_cases g : p n
      · refine .inl fun i hi => ?_
        by_cases e : i = n
        · subst e; exact g
        · exact h i (by omega)
      · exact .inr ⟨n, by omega, h, g⟩
    · exact .inr ⟨m, by omega, h2, h3⟩
theorem w_pos (a : Int) (m : Nat) (h0 : 0 < a) (h1 : a ≤ 100) (h : m < 100) : IntKind.i64.wrap (a + (m : Int)) > 0 := by
  rw [wrap_in (by omega) (by omega)]; omega

theorem cfg_cases (E O B : Nat → Nat) {oc fd : AObj} {ko fo kf ff : Nat} {X Y U W V : Nat → Int} {c : Cfg} (tb : Tb oc fo c.ocL X Y) (ha : 0 < c.ocL → c.ocA = some ⟨ko, fo, none⟩) (br : Br fd ff c.fdL U W V) (hf : 0 < c.fdL → c.fdA = some ⟨kf, ff, none⟩) (hfn : c.fdL ≤ 1000000) : ∃ (v : Int) (o1 o2 o3 : AObj), (v = 0 ∧ 0 < c.ocL ∨ v > 0) ∧ (∀ kb ke kn : Nat, Ctr Tryz.prog 7 59 [.agg ⟨c.cells⟩] [(ko, oc), (kf, fd), (0, .ro 0 [(errG E O 0)]), (1, .ro 0 [(errG E O 1)]), (4, .ro 0 [(errG E O 4)]), (5, .ro 0 [(errG E O 5)]), (kb, .gone), (ke, .gone), (kn, .gone)] (I64 v) [oc, fd, .ro 0 [(errG E O 0)], .ro 0 [(errG E O 1)], .ro 0 [(errG E O 4)], .ro 0 [(errG E O 5)], o1, o2, o3]) ∧ Ctr Tryz.prog 7 33 [.agg ⟨c.cells⟩] [(ko, oc), (kf, fd)] (I64 v) [oc, fd] := by
  rcases scanP (fun i => cbA c i ≤ cbN c i ∧ cbN c i ≤ cbB c i) 20 with hcb | ⟨m, hm, hg, hb⟩
  rotate_left
  · refine ⟨_, _, _, _, .inr (w_pos 1 m (by decide) (by decide) (by omega)), fun kb ke kn => amiss_b E O B tb ha br hf hfn kb ke kn m hm hg hb, ?_⟩
    by_cases h5 : m < 5
    · rw [Int.add_comm]; exact cc_b5 tb ha br hf hfn m h5 hg hb
    · exact cc_b20 tb ha br hf hfn m (by omega) hm hg hb
  rcases chk_ex c.ocL X Y with ⟨k, hk⟩ | ⟨g, m, h⟩
  rotate_left
  · exact ⟨_, _, _, _, .inr (by decide), fun kb ke kn => amiss_ta E O B tb ha br hf hfn kb ke kn hcb g m h, cc_ta tb ha br hf hfn hcb g m h⟩
  cases k with
  | short => exact ⟨_, _, _, _, .inr (by decide), fun kb ke kn => amiss_ts E O B tb ha br hf hfn kb ke kn hcb hk, cc_ts tb ha br hf hfn hcb hk⟩
  | long => exact ⟨_, _, _, _, .inr (by decide), fun kb ke kn => amiss_tl E O B tb ha br hf hfn kb ke kn hcb hk, cc_tl tb ha br hf hfn hcb hk⟩
  | fine =>
  have tok : TOk c.ocL X Y := hk
  by_cases hx : X 0 = 0
  rotate_left
  · exact ⟨_, _, _, _, .inr (by decide), fun kb ke kn => amiss_x0 E O B tb ha br hf hfn kb ke kn hcb tok hx, cc_x0 tb ha br hf hfn hcb tok hx⟩
  by_cases hl : X (c.ocL - 1) = c.Cap
  rotate_left
  · exact ⟨_, _, _, _, .inr (by decide), fun kb ke kn => amiss_xl E O B tb ha br hf hfn kb ke kn hcb tok hx hl, cc_xl tb ha br hf hfn hcb tok hx hl⟩
  rcases scanP (fun i => ceA c i ≤ ceN c i ∧ ceN c i ≤ ceB c i) 5 with hce | ⟨m, hm, hg, hb⟩
  rotate_left
  · refine ⟨_, _, _, _, .inr (w_pos 22 m (by decide) (by decide) (by omega)), fun kb ke kn => amiss_e E O B tb ha br hf hfn kb ke kn hcb tok hx hl m hm hg hb, ?_⟩
    by_cases h4 : m < 4
    · exact cc_e4 tb ha br hf hfn hcb tok hx hl m h4 hg hb
    · obtain rfl : m = 4 := by omega
      exact cc_e5 tb ha br hf hfn hcb tok hx hl 4 rfl hg hb
  by_cases h16 : c.fdL ≤ 16
  · rcases scanP (fdOK U W V) c.fdL with hfd | ⟨m, hmn, hfd, hfb⟩
    · exact ⟨_, _, _, _, .inl ⟨rfl, by have := tok.n2; omega⟩, fun kb ke kn => amiss_ok E O B tb ha br hf hfn kb ke kn hcb tok hx hl hce hfd h16, cc_ok tb ha br hf hfn hcb tok hx hl hce hfd h16⟩
    · exact ⟨_, _, _, _, .inr (by decide), fun kb ke kn => amiss_fb E O B tb ha br hf hfn kb ke kn hcb tok hx hl hce m hmn hfd hfb, cc_fb tb ha br hf hfn hcb tok hx hl hce h16 m hmn hfd hfb⟩
  · rcases scanP (fdOK U W V) c.fdL with hfd | ⟨m, hmn, hfd, hfb⟩
    · exact ⟨_, _, _, _, .inr (by decide), fun kb ke kn => amiss_fl E O B tb ha br hf hfn kb ke kn hcb tok hx hl hce hfd (by omega), cc_fl tb ha br hf hfn hcb tok hx hl hce (by omega)⟩
    · exact ⟨_, _, _, _, .inr (by decide), fun kb ke kn => amiss_fb E O B tb ha br hf hfn kb ke kn hcb tok hx hl hce m hmn hfd hfb, cc_fl tb ha br hf hfn hcb tok hx hl hce (by omega)⟩
end Go.Proofs.YtekcchmnncefhaaGreatDoor
namespace Go.Proofs.YtekcchmnncefhaaGreatDoor
open Go Go.Proofs.YtekcchmnncefhaaGreatDoorAB
set_option linter.unusedSimpArgs false
set_option linter.unusedVariables false
set_option maxRecDepth 20000
theorem wk_P21_0 {p : Prop} (h : p := by
  repeat' (first
    | ((with_reducible apply gQ0); (first | (apply q_slnt layOk; (iterate 3 apply Eq.refl)) | (apply q_slnd layOk; (iterate 3 apply Eq.refl)) | (apply q_appDd layOk; (iterate 5 apply Eq.refl)) | (apply q_slnf layOk; (iterate 3 apply Eq.refl)) | (apply q_appDz layOk; (iterate 5 apply Eq.refl)) | (apply q_buildZ (k := ks _) layOk; (iterate 4 apply Eq.refl); exact lk_; apply Eq.refl) | (apply q_move; apply Eq.refl) | (apply q_assign; apply Eq.refl)))
    | ((with_reducible apply gR); (first | refine RK.peelN rfl ?_ | refine RK.donef rfl ⟨_, rfl, ?_⟩))
    | ((with_reducible apply gW); (first | with_reducible apply WP.seq | refine WP.reg mixed (fun ks => _) (fun ks => rfl) (fun ks => ?_) | ((apply WP.condA; apply Eq.refl) <;> (intro hc; (first | with_reducible exact ff hc | with_reducible exact ff' hc | skip))) | apply WP.ret | apply WP.skip))
    | (first | with_reducible apply thn_n | with_reducible apply thn_r)
    | (refine Endz.mk' en_ rv_ (by rfl) sb_))) : p := h

set_option maxHeartbeats 4000000 in
theorem clone_pts {ob : AObj} {vs : List Value} {k f n cap : Nat} (kn : Nat) (h1 : 1 ≤ n) (h2 : n ≤ 100000) (hv : ob.seg f (n * 2) = some vs) : Ctr Tryz.prog 7 19 [.slice (some ⟨k, f, none⟩) n cap] [(k, ob), (kn, .gone)] (.slice (some ⟨kn, 0, none⟩) n grown) [ob, .row vs 55 2] := by
  refine Ctr.by layOk Tryz.func19 Tryz.ntmps19 rfl rfl rfl rfl rfl ?_
  repeat' (first
    | (((first | (with_reducible refine gQ0 ?_) | ((with_reducible refine gQ1 ?_ ?_); (focus (apply wg (r := true); (iterate 6 apply Eq.refl))))); (first | ((with_reducible apply q_slnt layOk); (iterate 3 apply Eq.refl)) | ((with_reducible apply q_slnf layOk); (iterate 3 apply Eq.refl)) | ((with_reducible apply q_slnd layOk); (iterate 3 apply Eq.refl)) | ((with_reducible apply q_buildZ (k := ks _) layOk); (iterate 4 apply Eq.refl); (focus (repeat (with_reducible (first | apply lh | apply lt)))); apply Eq.refl) | ((with_reducible apply q_appD (kn := kn) layOk); (iterate 7 apply Eq.refl); exact h1; (focus (show n * 16 ≤ 1099511627776; omega)); (focus (omega)); (focus (repeat (with_reducible (first | apply lh | apply lt)))); (focus (repeat (with_reducible (first | apply lh | apply lt)))); exact hv; apply Eq.refl) | ((with_reducible apply q_move); apply Eq.refl) | ((with_reducible apply q_assign); apply Eq.refl) | ((with_reducible apply q_int); (iterate 3 apply Eq.refl)))))
    | (((with_reducible refine gR ?_); (first | refine RK.peelN rfl ?_ | refine RK.donef rfl ⟨_, rfl, ?_⟩ | refine RK.donet rfl (by kernel_rfl) ⟨_, rfl, ?_⟩)))
    | ((first | (with_reducible refine gQv ?_ ?_) | (with_reducible refine gQe ?_ ?_)); (focus (first | (apply wg (r := false); (iterate 6 apply Eq.refl)) | (apply wz; (iterate 4 apply Eq.refl)))))
    | ((with_reducible refine gK ?_); (fail_if_success ((apply gM); (iterate 3 apply Eq.refl))); ((first | (apply gsD; (iterate 4 apply Eq.refl)) | (apply RKo.gsplitE; (iterate 4 apply Eq.refl)) | (apply RKo.gsplitN; (iterate 4 apply Eq.refl)) | (apply RKo.gsplit; (iterate 4 apply Eq.refl))) <;> (intro hc; first | with_reducible exact ff hc | with_reducible exact ff' hc | exact absurd hc (by decide) | exact absurd rfl hc | skip)))
    | (((with_reducible refine gW ?_); (first | with_reducible refine WP.seq ?_ | refine WP.reg mixed (fun ks => _) (fun ks => rfl) (fun ks => ?_) | ((first | (apply cdD; apply Eq.refl) | (apply WP.condE; apply Eq.refl) | (apply WP.condN; apply Eq.refl) | (apply WP.condA; apply Eq.refl)) <;> (intro hc; first | with_reducible exact ff hc | with_reducible exact ff' hc | exact absurd hc (by decide) | exact absurd rfl hc | skip)) | refine WP.ret ?_ | refine WP.skip ?_ | refine WP.exit ?_ | refine WP.goto ?_ | refine WP.label ?_ | refine WP.block ?_)))
    | (with_reducible refine thn_n ?_)
    | (with_reducible refine thn_r ?_)
    | (with_reducible refine thn_e ?_)
    | (with_reducible refine thn_g ?_)
    | (with_reducible refine blk_n ?_)
    | (with_reducible refine blk_r ?_)
    | (with_reducible refine blk_e ?_)
    | (with_reducible refine blk_g ?_)
    | (((with_reducible refine blk_o ?_ ?_); first | exact rfl | skip))
    | (refine Endz.mk' (by first | exact Or.inl rfl | exact Or.inr rfl) (by repeat (first | apply RVs.nil | apply RVs.cons | (apply RV1.tmp; apply Eq.refl) | (apply RV1.row; (iterate 3 apply Eq.refl); (focus (first | (focus ((repeat (with_reducible (first | apply lh | apply lt))); done)) | (focus (apply lx; (focus (repeat (with_reducible (first | apply lh | apply lt)))); exact rfl)))); exact rfl) | (apply RV1.cell; (iterate 3 apply Eq.refl); (focus (first | (focus ((repeat (with_reducible (first | apply lh | apply lt))); done)) | (focus (apply lx; (focus (repeat (with_reducible (first | apply lh | apply lt)))); exact rfl)))); exact rfl))) (by rfl) sb_))

set_option maxHeartbeats 4000000 in
theorem clone_fds_nil (u : Unit) : Ctr Tryz.prog 7 20 [.slice none 0 0] [] (.slice none 0 0) [] := by
  refine Ctr.by layOk Tryz.func20 Tryz.ntmps20 rfl rfl rfl rfl rfl ?_
  exact wk_P21_0

set_option maxHeartbeats 4000000 in
theorem clone_fds_dead (u : Unit) : Ctr Tryz.prog 7 20 [.slice (some ⟨0, 0, some 0⟩) 0 0] [] (.slice (some ⟨0, 0, some 0⟩) 0 0) [] := by
  refine Ctr.by layOk Tryz.func20 Tryz.ntmps20 rfl rfl rfl rfl rfl ?_
  exact wk_P21_0

set_option maxHeartbeats 4000000 in
theorem clone_fds_zero (k f cap : Nat) : Ctr Tryz.prog 7 20 [.slice (some ⟨k, f, none⟩) 0 cap] [] (.slice (some ⟨0, 0, some 0⟩) 0 0) [] := by
  refine Ctr.by layOk Tryz.func20 Tryz.ntmps20 rfl rfl rfl rfl rfl ?_
  exact wk_P21_0

set_option maxHeartbeats 4000000 in
theorem clone_fds {ob : AObj} {vs : List Value} {k f n cap : Nat} (kn : Nat) (h1 : 1 ≤ n) (h2 : n ≤ 100000) (hv : ob.seg f (n * 3) = some vs) : Ctr Tryz.prog 7 20 [.slice (some ⟨k, f, none⟩) n cap] [(k, ob), (kn, .gone)] (.slice (some ⟨kn, 0, none⟩) n grown) [ob, .row vs 57 3] := by
  refine Ctr.by layOk Tryz.func20 Tryz.ntmps20 rfl rfl rfl rfl rfl ?_
  repeat' (first
    | (((first | (with_reducible refine gQ0 ?_) | ((with_reducible refine gQ1 ?_ ?_); (focus (apply wg (r := true); (iterate 6 apply Eq.refl))))); (first | ((with_reducible apply q_slnt layOk); (iterate 3 apply Eq.refl)) | ((with_reducible apply q_slnf layOk); (iterate 3 apply Eq.refl)) | ((with_reducible apply q_slnd layOk); (iterate 3 apply Eq.refl)) | ((with_reducible apply q_buildZ (k := ks _) layOk); (iterate 4 apply Eq.refl); (focus (repeat (with_reducible (first | apply lh | apply lt)))); apply Eq.refl) | ((with_reducible apply q_appD (kn := kn) layOk); (iterate 7 apply Eq.refl); exact h1; (focus (show n * 24 ≤ 1099511627776; omega)); (focus (omega)); (focus (repeat (with_reducible (first | apply lh | apply lt)))); (focus (repeat (with_reducible (first | apply lh | apply lt)))); exact hv; apply Eq.refl) | ((with_reducible apply q_move); apply Eq.refl) | ((with_reducible apply q_assign); apply Eq.refl) | ((with_reducible apply q_int); (iterate 3 apply Eq.refl)))))
    | (((with_reducible refine gR ?_); (first | refine RK.peelN rfl ?_ | refine RK.donef rfl ⟨_, rfl, ?_⟩ | refine RK.donet rfl (by kernel_rfl) ⟨_, rfl, ?_⟩)))
    | ((first | (with_reducible refine gQv ?_ ?_) | (with_reducible refine gQe ?_ ?_)); (focus (first | (apply wg (r := false); (iterate 6 apply Eq.refl)) | (apply wz; (iterate 4 apply Eq.refl)))))
    | ((with_reducible refine gK ?_); (fail_if_success ((apply gM); (iterate 3 apply Eq.refl))); ((first | (apply gsD; (iterate 4 apply Eq.refl)) | (apply RKo.gsplitE; (iterate 4 apply Eq.refl)) | (apply RKo.gsplitN; (iterate 4 apply Eq.refl)) | (apply RKo.gsplit; (iterate 4 apply Eq.refl))) <;> (intro hc; first | with_reducible exact ff hc | with_reducible exact ff' hc | exact absurd hc (by decide) | exact absurd rfl hc | skip)))
    | (((with_reducible refine gW ?_); (first | with_reducible refine WP.seq ?_ | refine WP.reg mixed (fun ks => _) (fun ks => rfl) (fun ks => ?_) | ((first | (apply cdD; apply Eq.refl) | (apply WP.condE; apply Eq.refl) | (apply WP.condN; apply Eq.refl) | (apply WP.condA; apply Eq.refl)) <;> (intro hc; first | with_reducible exact ff hc | with_reducible exact ff' hc | exact absurd hc (by decide) | exact absurd rfl hc | skip)) | refine WP.ret ?_ | refine WP.skip ?_ | refine WP.exit ?_ | refine WP.goto ?_ | refine WP.label ?_ | refine WP.block ?_)))
    | (with_reducible refine thn_n ?_)
    | (with_reducible refine thn_r ?_)
    | (with_reducible refine thn_e ?_)
    | (with_reducible refine thn_g ?_)
    | (with_reducible refine blk_n ?_)
    | (with_reducible refine blk_r ?_)
    | (with_reducible refine blk_e ?_)
    | (with_reducible refine blk_g ?_)
    | (((with_reducible refine blk_o ?_ ?_); first | exact rfl | skip))
    | (refine Endz.mk' (by first | exact Or.inl rfl | exact Or.inr rfl) (by repeat (first | apply RVs.nil | apply RVs.cons | (apply RV1.tmp; apply Eq.refl) | (apply RV1.row; (iterate 3 apply Eq.refl); (focus (first | (focus ((repeat (with_reducible (first | apply lh | apply lt))); done)) | (focus (apply lx; (focus (repeat (with_reducible (first | apply lh | apply lt)))); exact rfl)))); exact rfl) | (apply RV1.cell; (iterate 3 apply Eq.refl); (focus (first | (focus ((repeat (with_reducible (first | apply lh | apply lt))); done)) | (focus (apply lx; (focus (repeat (with_reducible (first | apply lh | apply lt)))); exact rfl)))); exact rfl))) (by rfl) sb_))

set_option maxHeartbeats 4000000 in
theorem clone_bts {ob : AObj} {vs : List Value} {k f n cap : Nat} (kn : Nat) (h1 : 1 ≤ n) (h2 : n ≤ 100000) (hv : ob.seg f (n * 1) = some vs) : Ctr Tryz.prog 7 21 [.slice (some ⟨k, f, none⟩) n cap] [(k, ob), (kn, .gone)] (.slice (some ⟨kn, 0, none⟩) n grown) [ob, .row vs 5 1] := by
  refine Ctr.by layOk Tryz.func21 Tryz.ntmps21 rfl rfl rfl rfl rfl ?_
  repeat' (first
    | (((first | (with_reducible refine gQ0 ?_) | ((with_reducible refine gQ1 ?_ ?_); (focus (apply wg (r := true); (iterate 6 apply Eq.refl))))); (first | ((with_reducible apply q_slnt layOk); (iterate 3 apply Eq.refl)) | ((with_reducible apply q_slnf layOk); (iterate 3 apply Eq.refl)) | ((with_reducible apply q_slnd layOk); (iterate 3 apply Eq.refl)) | ((with_reducible apply q_buildZ (k := ks _) layOk); (iterate 4 apply Eq.refl); (focus (repeat (with_reducible (first | apply lh | apply lt)))); apply Eq.refl) | ((with_reducible apply q_appD (kn := kn) layOk); (iterate 7 apply Eq.refl); exact h1; (focus (show n * 1 ≤ 1099511627776; omega)); (focus (omega)); (focus (repeat (with_reducible (first | apply lh | apply lt)))); (focus (repeat (with_reducible (first | apply lh | apply lt)))); exact hv; apply Eq.refl) | ((with_reducible apply q_move); apply Eq.refl) | ((with_reducible apply q_assign); apply Eq.refl) | ((with_reducible apply q_int); (iterate 3 apply Eq.refl)))))
    | (((with_reducible refine gR ?_); (first | refine RK.peelN rfl ?_ | refine RK.donef rfl ⟨_, rfl, ?_⟩ | refine RK.donet rfl (by kernel_rfl) ⟨_, rfl, ?_⟩)))
    | ((first | (with_reducible refine gQv ?_ ?_) | (with_reducible refine gQe ?_ ?_)); (focus (first | (apply wg (r := false); (iterate 6 apply Eq.refl)) | (apply wz; (iterate 4 apply Eq.refl)))))
    | ((with_reducible refine gK ?_); (fail_if_success ((apply gM); (iterate 3 apply Eq.refl))); ((first | (apply gsD; (iterate 4 apply Eq.refl)) | (apply RKo.gsplitE; (iterate 4 apply Eq.refl)) | (apply RKo.gsplitN; (iterate 4 apply Eq.refl)) | (apply RKo.gsplit; (iterate 4 apply Eq.refl))) <;> (intro hc; first | with_reducible exact ff hc | with_reducible exact ff' hc | exact absurd hc (by decide) | exact absurd rfl hc | skip)))
    | (((with_reducible refine gW ?_); (first | with_reducible refine WP.seq ?_ | refine WP.reg mixed (fun ks => _) (fun ks => rfl) (fun ks => ?_) | ((first | (apply cdD; apply Eq.refl) | (apply WP.condE; apply Eq.refl) | (apply WP.condN; apply Eq.refl) | (apply WP.condA; apply Eq.refl)) <;> (intro hc; first | with_reducible exact ff hc | with_reducible exact ff' hc | exact absurd hc (by decide) | exact absurd rfl hc | skip)) | refine WP.ret ?_ | refine WP.skip ?_ | refine WP.exit ?_ | refine WP.goto ?_ | refine WP.label ?_ | refine WP.block ?_)))
    | (with_reducible refine thn_n ?_)
    | (with_reducible refine thn_r ?_)
    | (with_reducible refine thn_e ?_)
    | (with_reducible refine thn_g ?_)
    | (with_reducible refine blk_n ?_)
    | (with_reducible refine blk_r ?_)
    | (with_reducible refine blk_e ?_)
    | (with_reducible refine blk_g ?_)
    | (((with_reducible refine blk_o ?_ ?_); first | exact rfl | skip))
    | (refine Endz.mk' (by first | exact Or.inl rfl | exact Or.inr rfl) (by repeat (first | apply RVs.nil | apply RVs.cons | (apply RV1.tmp; apply Eq.refl) | (apply RV1.row; (iterate 3 apply Eq.refl); (focus (first | (focus ((repeat (with_reducible (first | apply lh | apply lt))); done)) | (focus (apply lx; (focus (repeat (with_reducible (first | apply lh | apply lt)))); exact rfl)))); exact rfl) | (apply RV1.cell; (iterate 3 apply Eq.refl); (focus (first | (focus ((repeat (with_reducible (first | apply lh | apply lt))); done)) | (focus (apply lx; (focus (repeat (with_reducible (first | apply lh | apply lt)))); exact rfl)))); exact rfl))) (by rfl) sb_))
end Go.Proofs.YtekcchmnncefhaaGreatDoor
