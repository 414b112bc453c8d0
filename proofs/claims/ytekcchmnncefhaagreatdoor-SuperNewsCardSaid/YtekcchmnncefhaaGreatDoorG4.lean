/- What functions of this program do, each as a contract that its callers use, and what follows of it in plain numbers.
   By an AI agent. -/
import Derived.Test.YtekcchmnncefhaaGreatDoorAB
import Derived.Test.YtekcchmnncefhaaGreatDoorG2
import Derived.Test.YtekcchmnncefhaaGreatDoorG3
import Derived.Laws.Bits64
import Derived.Test.YtekcchmnncefhaaGreatDoorG1
namespace Go.Proofs.YtekcchmnncefhaaGreatDoor
open Go Go.Proofs.YtekcchmnncefhaaGreatDoorAB
variable {G : Nat}
set_option linter.unusedSimpArgs false
set_option linter.unusedVariables false
set_option maxRecDepth 20000

theorem wrap_in {x : Int} (h1 : -9223372036854775808 ≤ x) (h2 : x < 9223372036854775808) : IntKind.i64.wrap x = x := by
  rw [IntKind.wrap_i64]; omega
def n20 (n : Int) : Int := num n 1048576
def cnt (m : Int) : Int := (w64 ((n20 m).tdiv 20)).tmod 7
def feed (k : Int) (i : Int) : List Value := [I64 (w64 (4 + (w64 (i + w64 ((n20 k).tdiv 8))).tmod 3)), I64 (w64 (50 + w64 (60 * (w64 (w64 ((n20 k).tdiv 24) + i)).tmod 5))), I64 ((w64 (w64 ((n20 k).tdiv 120) + w64 (i * i))).tmod 4)]
def feeds (k : Int) : Nat → List Value
  | 0 => []
  | n + 1 => feeds k n ++ feed k n
theorem feeds_len (k : Int) (n : Nat) : (feeds k n).length = n * 3 := by
  induction n with
  | zero => rfl
  | succ n ih => simp [feeds, ih, feed]; omega
def cfgOf (n m k : Int) (oc : Option Addr) (fa : Option Addr) (fl fc : Nat) : Cfg where
  D := w64 (1 + (n20 n).tmod 4)
  B := w64 (1 + (w64 ((n20 n).tdiv 4)).tmod 3)
  S := w64 (1 + (w64 ((n20 n).tdiv 12)).tmod 4)
  P := w64 (1 + (w64 ((n20 n).tdiv 48)).tmod 9)
  H := w64 (1 + (w64 ((n20 n).tdiv 432)).tmod 5)
  Cap := 100000
  Qmin := 0
  Imax := 500
  Trip := 20000
  Vmin := 10000
  Vdark := 12000
  CellMin := 3000
  CellMax := 4200
  CellGap := 300
  TempMax := 600
  Coil := 1000
  Ohm := 20
  SagErr := 100
  AmpErr := (n20 m).tmod 5
  Drift := 50
  ocA := oc
  ocL := 4
  ocC := 4
  GenMax := 3000
  BatMax := 500
  ExtMax := 3000
  Eland := w64 (1000 * (n20 k).tmod 8)
  Margin := w64 (500 + w64 ((w64 ((n20 m).tdiv 5)).tmod 4 * 500))
  fdA := fa
  fdL := fl
  fdC := fc
def ocv : List Value := [I64 0, I64 20000, I64 20000, I64 23000, I64 80000, I64 25000, I64 100000, I64 28000]
def zcfg : List Value := [I64 0, I64 0, I64 0, I64 0, I64 0, I64 0, I64 0, I64 0, I64 0, I64 0, I64 0, I64 0, I64 0, I64 0, I64 0, I64 0, I64 0, I64 0, I64 0, I64 0, .slice none 0 0, I64 0, I64 0, I64 0, I64 0, I64 0, .slice none 0 0]
set_option maxHeartbeats 4000000 in
theorem make_Config0 (n m k : Int) (k1 : Nat) (hno : ¬ ((0 : Int) < cnt m)) : Ctr Tryz.prog G 5 [I64 n, I64 m, I64 k] [(k1, .gone)] (.agg ⟨(cfgOf n m k (some ⟨k1, 0, none⟩) none 0 0).cells⟩) [.cells ocv 55] := by
  refine Ctr.by layOk Tryz.func5 Tryz.ntmps5 rfl rfl rfl rfl rfl ?_
  repeat' (first
    | ((with_reducible apply gQ0); (first | (apply q_move; apply Eq.refl) | (apply q_assign; apply Eq.refl) | (apply q_int; (iterate 3 apply Eq.refl)) | (apply q_fa layOk; (iterate 5 apply Eq.refl)) | (apply q_build layOk; (iterate 4 apply Eq.refl)) | (apply q_alloc (k := ks _) layOk; apply Eq.refl; exact lk_; apply Eq.refl) | (apply q_rem; apply Eq.refl; apply Eq.refl; (focus (decide))) | (apply q_quo; apply Eq.refl; apply Eq.refl; (focus (decide))) | (apply q_buildS (k := k1) layOk; (iterate 8 apply Eq.refl); exact lk_; apply Eq.refl) | (apply isF (f := 15); (refine q_call0 rfl (world_Number _ _ (by decide)) ?_)) | (apply e_store layOk; (iterate 3 apply Eq.refl); exact lk_; (iterate 5 apply Eq.refl))))
    | ((with_reducible apply gR); (first | refine RK.peelN rfl ?_ | refine RK.donef rfl ⟨_, rfl, ?_⟩))
    | ((with_reducible apply gW); (first | with_reducible apply WP.seq | refine WP.reg mixed (fun ks => _) (fun ks => rfl) (fun ks => ?_) | apply WP.block))
    | (with_reducible apply thn_n))
  rename_i a0 a1 a2 a3 a4 a5
  refine WP.loopI (α := Unit) (fun _ => [(1, some (I64 (n20 m))), (2, some (I64 (n20 k))), (6, some (pP (a0 0))), (7, some (pP (a4 0))), (8, some (I64 0))])
    (fun _ => [(k1, .cells ocv 55), (a0 0, .cells zcfg 25), (a4 0, .cells (cfgOf n m k (some ⟨k1, 0, none⟩) none 0 0).cells 25)]) (fun _ => True) (fun _ => 0) () (Wk.of ⟨rfl, rfl, rfl, rfl, rfl, trivial⟩ (by repeat (first | exact List.nil_sublist _ | exact List.Sublist.refl _ | apply List.Sublist.cons_cons | apply List.Sublist.cons))) trivial (fun x ix => ?_)
  repeat' (first
    | ((with_reducible apply gQ0); (first | (apply q_move; apply Eq.refl) | (apply q_int; (iterate 3 apply Eq.refl)) | (apply q_loadr layOk; (iterate 3 apply Eq.refl); exact lk_; apply Eq.refl) | (apply q_rem; apply Eq.refl; apply Eq.refl; (focus (decide))) | (apply q_quo; apply Eq.refl; apply Eq.refl; (focus (decide))) | (apply e_store layOk; (iterate 3 apply Eq.refl); exact lk_; (iterate 5 apply Eq.refl))))
    | ((with_reducible apply gR); (first | refine RK.peelN rfl ?_ | refine RK.donef rfl ⟨_, rfl, ?_⟩))
    | ((with_reducible apply gW); (first | with_reducible apply WP.seq | refine WP.reg mixed (fun ks => _) (fun ks => rfl) (fun ks => ?_) | ((apply cdD; apply Eq.refl) <;> (intro hc; (first | exact absurd hc hno | skip))) | apply WP.ret | apply WP.exit))
    | (first | with_reducible apply thn_n | with_reducible apply thn_e | with_reducible apply blk_e)
    | (refine Endz.mk' en_ rv_ (by rfl) sb_))

set_option maxHeartbeats 8000000 in
theorem make_Config1 (n m k : Int) (k1 k2 : Nat) (hpos : (0 : Int) < cnt m) : Ctr Tryz.prog G 5 [I64 n, I64 m, I64 k] ([(k1, .gone)] ++ [(k2, .gone)]) (.agg ⟨(cfgOf n m k (some ⟨k1, 0, none⟩) (some ⟨k2, 0, none⟩) (cnt m).toNat grown).cells⟩) ([.cells ocv 55] ++ [.row (feeds k (cnt m).toNat) 57 3]) := by
  have hc7 : cnt m < 7 := by unfold cnt; exact Int.tmod_lt_of_pos _ (by decide)
  refine Ctr.ren layOk Tryz.func5 Tryz.ntmps5 rfl rfl rfl rfl rfl ?_
  repeat' (first
    | ((with_reducible apply gQ0); (first | (apply q_move; apply Eq.refl) | (apply q_assign; apply Eq.refl) | (apply q_int; (iterate 3 apply Eq.refl)) | (apply q_fa layOk; (iterate 5 apply Eq.refl)) | (apply q_build layOk; (iterate 4 apply Eq.refl)) | (apply q_alloc (k := ks _) layOk; apply Eq.refl; exact lk_; apply Eq.refl) | (apply q_rem; apply Eq.refl; apply Eq.refl; (focus (decide))) | (apply q_quo; apply Eq.refl; apply Eq.refl; (focus (decide))) | (apply q_buildS (k := k1) layOk; (iterate 8 apply Eq.refl); exact lk_; apply Eq.refl) | (apply isF (f := 15); (refine q_call0 rfl (world_Number _ _ (by decide)) ?_)) | (apply e_store layOk; (iterate 3 apply Eq.refl); exact lk_; (iterate 5 apply Eq.refl))))
    | ((with_reducible apply gR); (first | refine RK.peelN rfl ?_ | refine RK.donef rfl ⟨_, rfl, ?_⟩))
    | ((with_reducible apply gW); (first | with_reducible apply WP.seq | refine WP.reg mixed (fun ks => _) (fun ks => rfl) (fun ks => ?_) | apply WP.block))
    | (with_reducible apply thn_n))
  rename_i a0 a1 a2 a3 a4 a5
  refine WP.loopI (α := Option (Nat × Nat)) (fun x => match x with
    | none => [(1, some (I64 (n20 m))), (2, some (I64 (n20 k))), (6, some (pP (a0 0))), (7, some (pP (a4 0))), (8, some (I64 0))]
    | some (i, _) => [(1, some (I64 (n20 m))), (2, some (I64 (n20 k))), (6, some (pP (a0 0))), (7, some (pP (a4 0))), (8, some (I64 ((i + 1 : Nat) : Int)))])
    (fun x => match x with
    | none => [(k1, .cells ocv 55), (k2, .gone), (a0 0, .cells zcfg 25), (a4 0, .cells (cfgOf n m k (some ⟨k1, 0, none⟩) none 0 0).cells 25)]
    | some (i, kf) => [(k1, .cells ocv 55), (k2, .gone), (a0 0, .cells zcfg 25), (a4 0, .cells (cfgOf n m k (some ⟨k1, 0, none⟩) (some ⟨kf, 0, none⟩) (i + 1) grown).cells 25), (kf, .row (feeds k (i + 1)) 57 3)])
    (fun x => match x with
    | none => True
    | some (i, _) => ((i + 1 : Nat) : Int) ≤ cnt m) (fun x => match x with
    | none => 8
    | some (i, _) => 7 - i) none (Wk.of ⟨rfl, rfl, rfl, rfl, rfl, trivial⟩ (by repeat (first | exact List.nil_sublist _ | exact List.Sublist.refl _ | apply List.Sublist.cons_cons | apply List.Sublist.cons))) trivial (fun x ix => ?_)
  rcases x with _ | ⟨i, kf⟩
  · dsimp only
    repeat' (first
      | ((with_reducible apply gQ0); (first | (apply q_move; apply Eq.refl) | (apply q_assign; apply Eq.refl) | (apply q_int; (iterate 3 apply Eq.refl)) | (apply q_fa layOk; (iterate 5 apply Eq.refl)) | (apply q_load layOk; (iterate 3 apply Eq.refl); exact lk_; apply Eq.refl) | (apply q_build layOk; (iterate 4 apply Eq.refl)) | (apply q_rem; apply Eq.refl; apply Eq.refl; (focus (decide))) | (apply q_quo; apply Eq.refl; apply Eq.refl; (focus (decide))) | (apply q_buildS (k := ks _) layOk; (iterate 8 apply Eq.refl); exact lk_; apply Eq.refl) | (apply q_app0 (kn := ks _) layOk; (iterate 10 apply Eq.refl); exact lk_; exact lk_; apply Eq.refl; apply Eq.refl) | (apply e_store layOk; (iterate 3 apply Eq.refl); exact lk_; (iterate 5 apply Eq.refl))))
      | ((with_reducible apply gR); (first | refine RK.peelN rfl ?_ | refine RK.donef rfl ⟨_, rfl, ?_⟩))
      | ((with_reducible apply gW); (first | with_reducible apply WP.seq | refine WP.reg mixed (fun ks => _) (fun ks => rfl) (fun ks => ?_) | ((apply cdD; apply Eq.refl) <;> (intro hc; (first | exact absurd hpos hc | skip))) | apply WP.skip | apply WP.block))
      | (first | with_reducible apply thn_n | with_reducible apply blk_n))
    refine ⟨some (0, _), by show ((0 + 1 : Nat) : Int) ≤ cnt m; omega, by show 7 - 0 < 8; omega, Wk.of ⟨rfl, rfl, rfl, rfl, rfl, trivial⟩ (by repeat (first | exact List.nil_sublist _ | exact List.Sublist.refl _ | apply List.Sublist.cons_cons | apply List.Sublist.cons))⟩
  · have ix : ((i + 1 : Nat) : Int) ≤ cnt m := ix
    try dsimp only
    repeat' (first
      | ((with_reducible apply gQ0); (first | (apply q_move; apply Eq.refl) | (apply q_assign; apply Eq.refl) | (apply q_int; (iterate 3 apply Eq.refl)) | (apply q_fa layOk; (iterate 5 apply Eq.refl)) | (apply q_load layOk; (iterate 3 apply Eq.refl); exact lk_; apply Eq.refl) | (apply q_loadr layOk; (iterate 3 apply Eq.refl); exact lk_; apply Eq.refl) | (apply q_build layOk; (iterate 4 apply Eq.refl)) | (apply q_rem; apply Eq.refl; apply Eq.refl; (focus (decide))) | (apply q_quo; apply Eq.refl; apply Eq.refl; (focus (decide))) | (apply q_buildS (k := ks _) layOk; (iterate 8 apply Eq.refl); exact lk_; apply Eq.refl) | (apply q_app1 (kn := ks _) layOk; (iterate 9 apply Eq.refl); exact lk_; exact lk_; exact lk_; (focus (decide)); (focus (show (i + 1 + 1) * 24 ≤ 1099511627776; omega)); (focus (show i + 1 + 1 ≤ 1099511627776; omega)); (focus (exact feeds_len _ _)); (iterate 3 apply Eq.refl)) | (apply e_store layOk; (iterate 3 apply Eq.refl); exact lk_; (iterate 5 apply Eq.refl))))
      | ((with_reducible apply gR); (first | refine RK.peelN rfl ?_ | refine RK.donef rfl ⟨_, rfl, ?_⟩))
      | ((with_reducible apply gW); (first | with_reducible apply WP.seq | refine WP.reg mixed (fun ks => _) (fun ks => rfl) (fun ks => ?_) | ((apply cdD; apply Eq.refl) <;> intro hc) | apply WP.ret | apply WP.skip | apply WP.exit | apply WP.block))
      | (first | with_reducible apply thn_n | with_reducible apply thn_e | with_reducible apply blk_n | with_reducible apply blk_e))
    · have hlt : ((i + 1 : Nat) : Int) < cnt m := hc
      refine ⟨some (i + 1, _), by show ((i + 1 + 1 : Nat) : Int) ≤ cnt m; omega, by show 7 - (i + 1) < 7 - i; omega, Wk.of ⟨rfl, rfl, rfl, rfl, ?_, trivial⟩ (by repeat (first | exact List.nil_sublist _ | exact List.Sublist.refl _ | apply List.Sublist.cons_cons | apply List.Sublist.cons))⟩
      exact congrArg (fun x => some (I64 x)) ((wrap_in (by omega) (by omega)).trans (by omega))
    · have hge : ¬ ((i + 1 : Nat) : Int) < cnt m := hc
      have e : (cnt m).toNat = i + 1 := by omega
      rw [e]
      have hend : ∀ {x : Value} {s : As} {h' : H} (hx : RVs lay 85 s h' [.cell 6 25] [x]) (hr : RN kf k2 x (.agg ⟨(cfgOf n m k (some ⟨k1, 0, none⟩) (some ⟨k2, 0, none⟩) (i + 1) grown).cells⟩)) (hs : List.Sublist ([(k1, AObj.cells ocv 55)] ++ [(k2, .gone), (kf, .row (feeds k (i + 1)) 57 3)]) h'),
          (Exit.ret = Exit.normal ∨ Exit.ret = Exit.ret) ∧ ∃ s1 vs p, mkT 85 s = mkT 85 s1 ∧ RVs lay 85 s1 h' [.cell 6 25] vs ∧ RN p k2 (tup vs) (.agg ⟨(cfgOf n m k (some ⟨k1, 0, none⟩) (some ⟨k2, 0, none⟩) (i + 1) grown).cells⟩) ∧ (AObj.row (feeds k (i + 1)) 57 3).wr = true ∧ List.Sublist ([(k1, AObj.cells ocv 55)] ++ [(k2, .gone), (p, .row (feeds k (i + 1)) 57 3)]) h' :=
        fun hx hr hs => ⟨Or.inr rfl, _, _, kf, rfl, hx, hr, rfl, hs⟩
      refine hend (by repeat (first | exact RVs.nil | apply RVs.cons | exact RV1.tmp rfl | exact RV1.row rfl rfl rfl (by repeat (first | exact look_here | apply look_there)) (by exact rfl) | exact RV1.cell rfl rfl rfl (by repeat (first | exact look_here | apply look_there)) (by exact rfl))) ?_ (by repeat (first | exact List.nil_sublist _ | exact List.Sublist.refl _ | apply List.Sublist.cons_cons | apply List.Sublist.cons))
      exact RN.agg (by repeat (first | exact RNL.nil | refine RNL.cons (RN.refl _) ?_ | refine RNL.cons (RN.slice _ _ _) ?_))

end Go.Proofs.YtekcchmnncefhaaGreatDoor
namespace Go.Proofs.YtekcchmnncefhaaGreatDoor
open Go Go.Proofs.YtekcchmnncefhaaGreatDoorAB
set_option linter.unusedSimpArgs false
set_option linter.unusedVariables false
set_option maxRecDepth 20000
abbrev obp30 (x0 : Cfg) := (.cells [I64 (cutR x0.B), I64 (0), .bool false] 231 : AObj)
theorem wk_P3_0 {p : Prop} (h : p := by
  repeat' (first
    | ((with_reducible apply gQ0); (first | (apply q_makeMap (k := km); exact lk_; apply Eq.refl) | (apply q_box (ty := 151) (k := kb); apply Eq.refl; exact lk_; apply Eq.refl) | (apply q_box (ty := 231) (k := k); apply Eq.refl; exact lk_; apply Eq.refl) | (apply q_box (ty := 120) (k := k); apply Eq.refl; exact lk_; apply Eq.refl) | (apply q_box (ty := 123) (k := kb); apply Eq.refl; exact lk_; apply Eq.refl) | (apply q_box (k := ks _); apply Eq.refl; exact lk_; apply Eq.refl) | (apply q_move; apply Eq.refl) | (apply q_assign; apply Eq.refl) | (apply q_nilCheck; apply Eq.refl) | (apply q_fa layOk; (iterate 5 apply Eq.refl)) | (apply q_load layOk; (iterate 3 apply Eq.refl); exact lk_; apply Eq.refl) | (apply q_loadr layOk; (iterate 3 apply Eq.refl); exact lk_; apply Eq.refl) | (apply q_build layOk; (iterate 4 apply Eq.refl)) | (apply q_min; apply Eq.refl) | (apply q_max; apply Eq.refl) | (apply q_pick_f; apply Eq.refl; apply Eq.refl) | (apply isF (f := 64); (refine q_call0 rfl (fixed_Clamp _ _ _) ?_)) | (apply isF (f := 76); (refine q_call1 rfl (ref_NewFilter f0 _) lc_ rfl ?_)) | (apply isF (f := 76); (refine q_call1 rfl (ref_NewFilter f1 _) lc_ rfl ?_)) | (apply isF (f := 76); (refine q_call1 rfl (ref_NewFilter f2 _) lc_ rfl ?_))))
    | ((with_reducible apply gR); (first | refine RK.peelN rfl ?_ | refine RK.donef rfl ⟨_, rfl, ?_⟩ | refine RK.donet rfl (by kernel_rfl) ⟨_, rfl, ?_⟩))
    | ((with_reducible apply gQv); focus exact wf_)
    | ((with_reducible apply gK); (fail_if_success ((apply gM); (iterate 3 apply Eq.refl))); ((apply RKo.gsplit; (iterate 4 apply Eq.refl)) <;> (intro hc; (first | with_reducible exact ff' hc | skip))))
    | ((with_reducible apply gW); (first | with_reducible apply WP.seq | refine WP.reg mixed (fun ks => _) (fun ks => rfl) (fun ks => ?_) | apply WP.ret))
    | (with_reducible apply thn_n)
    | (refine Endz.mk' en_ rv_ (by rfl) sb_))) : p := h

set_option maxHeartbeats 4000000 in
theorem fresh_New (kb km : Nat) (n : Int) : Ctr Tryz.prog 7 22 [I64 n] [(kb, .gone), (km, .gone)] (pP kb) [.cells [I64 (mx (mn n 1000) 0), .map (some km)] 151, .obj (.map #[] 0)] := by
  refine Ctr.by layOk Tryz.func22 Tryz.ntmps22 rfl rfl rfl rfl rfl ?_
  exact wk_P3_0

set_option maxHeartbeats 4000000 in
theorem ref_NewFilter (k : Nat) (n : Int) : Ctr Tryz.prog 7 76 [I64 n] [(k, .gone)] (pP k) [.cells [I64 (cutR n), I64 (0), .bool false] 231] := by
  refine Ctr.by layOk Tryz.func76 Tryz.ntmps76 rfl rfl rfl rfl rfl ?_
  exact wk_P3_0

set_option maxHeartbeats 4000000 in
theorem ref_NewContact (k : Nat) (d b : Int) : Ctr Tryz.prog 7 38 [I64 d, I64 b] [(k, .gone)] (pP k) [.cells [I64 (cutR d), I64 (cutR b), .bool false, I64 (-2), I64 (0), .bool false, .bool false, .bool false, .bool false, .bool false] 120] := by
  refine Ctr.by layOk Tryz.func38 Tryz.ntmps38 rfl rfl rfl rfl rfl ?_
  exact wk_P3_0

set_option maxHeartbeats 4000000 in
theorem ref_NewSource (kb f0 f1 f2 : Nat) (c : Cfg) : Ctr Tryz.prog 7 39 [.agg ⟨c.cells⟩] [(kb, .gone), (f0, .gone), (f1, .gone), (f2, .gone)] (pP kb) [.cells (c.cells ++ [pP f0, pP f1, pP f2, .bool false, .bool false]) 123, obp30 c, obp30 c, obp30 c] := by
  refine Ctr.by layOk Tryz.func39 Tryz.ntmps39 rfl rfl rfl rfl rfl ?_
  exact wk_P3_0

set_option maxHeartbeats 4000000 in
theorem contact_Open0 (k : Nat) (d b : Int) (p q : Bool) (hd : 1 ≤ d) : Ctr Tryz.prog 7 58 [pP k] [(k, .cells [I64 (d), I64 (b), .bool false, I64 (-2), I64 (0), I64 (0), .bool false, .bool p, .bool q] 164)] (.bool false) [.cells [I64 (d), I64 (b), .bool false, I64 (-2), I64 (0), I64 (0), .bool false, .bool p, .bool q] 164] := by
  have h2 : ¬ (-2 : Int) ≥ d := by omega
  refine Ctr.by layOk Tryz.func58 Tryz.ntmps58 rfl rfl rfl rfl rfl ?_
  repeat' (first
    | ((first | (with_reducible apply gQ0) | ((with_reducible apply gQ1); exact wt_)); (first | (apply q_move; apply Eq.refl) | (apply q_assign; apply Eq.refl) | (apply q_int; (iterate 3 apply Eq.refl)) | (apply q_nilCheck; apply Eq.refl) | (apply q_fa layOk; (iterate 5 apply Eq.refl)) | (apply q_load layOk; (iterate 3 apply Eq.refl); exact lk_; apply Eq.refl) | (apply q_not; apply Eq.refl) | (apply q_pick_t; apply Eq.refl; apply Eq.refl) | (apply q_pick_f; apply Eq.refl; apply Eq.refl)))
    | ((with_reducible apply gR); (first | refine RK.peelN rfl ?_ | refine RK.donef rfl ⟨_, rfl, ?_⟩ | refine RK.donet rfl (by kernel_rfl) ⟨_, rfl, ?_⟩))
    | ((with_reducible apply gQv); focus exact wf_)
    | ((with_reducible apply gK); (fail_if_success ((apply gM); (iterate 3 apply Eq.refl))); ((first | (apply gsD; (iterate 4 apply Eq.refl)) | (apply RKo.gsplit; (iterate 4 apply Eq.refl))) <;> (intro hc; (first | with_reducible exact ff' hc | with_reducible exact absurd hc h2 | exact absurd hc (by decide) | skip))))
    | ((with_reducible apply gW); (first | with_reducible apply WP.seq | refine WP.reg mixed (fun ks => _) (fun ks => rfl) (fun ks => ?_) | apply WP.ret))
    | (with_reducible apply thn_n)
    | (refine Endz.mk' en_ rv_ (by first | rfl | exact congrArg Value.bool (decide_eq_false h2)) sb_))

set_option maxHeartbeats 4000000 in
theorem ref_Open0 (k : Nat) (d b : Int) (p q : Bool) : Ctr Tryz.prog 7 81 [pP k] [(k, .cells [I64 (d), I64 (b), .bool false, I64 (-2), I64 (0), .bool false, .bool false, .bool false, .bool p, .bool q] 120)] (.bool false) [.cells [I64 (d), I64 (b), .bool false, I64 (-2), I64 (0), .bool false, .bool false, .bool false, .bool p, .bool q] 120] := by
  refine Ctr.by layOk Tryz.func81 Tryz.ntmps81 rfl rfl rfl rfl rfl ?_
  exact wk_P3_0
end Go.Proofs.YtekcchmnncefhaaGreatDoor
namespace Go.Proofs.YtekcchmnncefhaaGreatDoor
open Go Go.Proofs.YtekcchmnncefhaaGreatDoorAB
set_option linter.unusedSimpArgs false
set_option linter.unusedVariables false
set_option maxRecDepth 20000
theorem wk_P4_0 {p : Prop} (h : p := by
  repeat' (first
    | ((with_reducible apply gQ0); (first | (apply q_move; apply Eq.refl) | (apply q_assign; apply Eq.refl) | (apply q_int; (iterate 3 apply Eq.refl)) | (apply q_len layOk; (iterate 4 apply Eq.refl)) | (apply isF (f := 119); (refine q_call1r rfl (crc_More bt ha hn _) lc_ ?_)) | (apply isF (f := 111); (refine q_call1r rfl (ref_More bt ha hn _) lc_ ?_))))
    | ((with_reducible apply gR); (first | refine RK.peelN rfl ?_ | refine RK.donef rfl ⟨_, rfl, ?_⟩))
    | ((with_reducible apply gW); (first | with_reducible apply WP.seq | refine WP.reg mixed (fun ks => _) (fun ks => rfl) (fun ks => ?_) | ((apply cdD; apply Eq.refl) <;> (intro hc; (first | with_reducible exact absurd hc hge | skip))) | apply WP.ret | apply WP.exit))
    | (first | with_reducible apply thn_n | with_reducible apply thn_e | with_reducible apply blk_n | with_reducible apply blk_e)
    | (refine Endz.mk' en_ rv_ (by rfl) sb_)
    | (exact ⟨x + 1, hx, by show n - (x + 1) < n - x; omega, Wk.of ⟨rfl, rfl, rfl, congrArg (fun x => some (I64 x)) hw, trivial⟩ sb_⟩)
    | (exact ⟨x + 1, hx, by show n - (x + 1) < n - x; omega, Wk.of ⟨rfl, rfl, congrArg (fun x => some (I64 x)) hw, trivial⟩ sb_⟩))) : p := h

/-- Bytes that can be read. -/
structure Bt (ob : AObj) (f n : Nat) (B : Nat → Int) : Prop where
  a : ∀ i, i < n → ob.at (f + i * 1) = some (.int .u8 (B i))
abbrev sh16 (s k : Int) : Int := IntKind.u16.wrap (s * 2 ^ min k.toNat IntKind.u16.bits)
abbrev and16 (a b : Int) : Int := IntKind.u16.wrap (BitVec.ofInt IntKind.u16.bits a &&& BitVec.ofInt IntKind.u16.bits b).toNat
abbrev xor16 (a b : Int) : Int := IntKind.u16.wrap (BitVec.ofInt IntKind.u16.bits a ^^^ BitVec.ofInt IntKind.u16.bits b).toNat
def bitC (s : Int) : Int := if and16 s 32768 ≠ 0 then xor16 (sh16 s 1) 4129 else sh16 s 1
def byteC (s b : Int) : Int := xor16 s (sh16 (IntKind.u16.wrap b) 8)
def eightC : Nat → Int → Int
  | 0, s => s
  | k + 1, s => bitC (eightC k s)
/-- The sum of so many bytes. -/
def crcN (B : Nat → Int) (s : Int) : Nat → Int
  | 0 => s
  | i + 1 => eightC 8 (byteC (crcN B s i) (B i))
abbrev sh64 (s k : Int) : Int := IntKind.u64.wrap (s * 2 ^ min k.toNat IntKind.u64.bits)
abbrev or64 (a b : Int) : Int := IntKind.u64.wrap (BitVec.ofInt IntKind.u64.bits a ||| BitVec.ofInt IntKind.u64.bits b).toNat
/-- The number of so many bytes. -/
def numN (B : Nat → Int) : Nat → Int
  | 0 => 0
  | i + 1 => or64 (sh64 (numN B i) 8) (IntKind.u64.wrap (B i))
theorem wrapP {x : Int} (h1 : -9223372036854775808 ≤ x) (h2 : x < 9223372036854775808) : IntKind.i64.wrap x = x := by
  rw [IntKind.wrap_i64]; omega
theorem kpB {x : Nat} (h : x ≤ 1000000) : IntKind.i64.wrap ((x : Int) + 1) = ((x + 1 : Nat) : Int) := by
  rw [wrapP (by omega) (by omega)]; omega

set_option maxHeartbeats 4000000 in
theorem crc_More {ob : AObj} {k f n cap : Nat} {a : Option Addr} {B : Nat → Int} (bt : Bt ob f n B) (ha : 0 < n → a = some ⟨k, f, none⟩) (hn : n ≤ 1000000) (s : Int) : Ctr Tryz.prog 7 119 [.int .u16 s, .slice a n cap] [(k, ob)] (.int .u16 (crcN B s n)) [ob] := by
  refine Ctr.by layOk Tryz.func119 Tryz.ntmps119 rfl rfl rfl rfl rfl ?_
  repeat' (first
    | ((with_reducible apply gQ0); (first | (apply q_move; apply Eq.refl) | (apply q_assign; apply Eq.refl) | (apply q_len layOk; (iterate 4 apply Eq.refl))))
    | ((with_reducible apply gR); (first | refine RK.peelN rfl ?_ | refine RK.donef rfl ⟨_, rfl, ?_⟩))
    | ((with_reducible apply gW); (first | with_reducible apply WP.seq | refine WP.reg mixed (fun ks => _) (fun ks => rfl) (fun ks => ?_) | apply WP.block))
    | (with_reducible apply thn_n))
  refine WP.loopI (n := 32) (α := Nat) (fun x => [(0, some (.int .u16 (crcN B s x))), (8, some (.slice a n cap)), (9, some (I64 (n : Int))), (10, some (I64 (x : Int)))]) (fun x => [(k, ob)]) (fun x => x ≤ n) (fun x => n - x) 0 (Wk.of ⟨rfl, rfl, rfl, rfl, trivial⟩ sb_) (Nat.zero_le _) (fun x ix => ?_)
  have ix : x ≤ n := ix
  by_cases hx : x < n
  rotate_left
  · have hge : ¬ (x : Int) < (n : Int) := by omega
    obtain rfl : x = n := by omega
    exact wk_P4_0
  have hlt : (x : Int) < (n : Int) := by omega
  have hw := kpB (x := x) (by omega)
  repeat' (first
    | ((with_reducible apply gQ0); (first | (apply q_load layOk; (iterate 3 apply Eq.refl); exact lk_; exact (bt.a x hx)) | (apply q_idxN (m := x) layOk; (iterate 4 apply Eq.refl); exact ha; apply Eq.refl; exact hx) | (apply q_move; apply Eq.refl) | (apply q_assign; apply Eq.refl) | (apply q_int; (iterate 3 apply Eq.refl)) | (apply q_conv; apply Eq.refl; exact Tryz.underlying5; exact Tryz.underlying205) | (apply q_shl; apply Eq.refl; apply Eq.refl; (focus (decide)))))
    | ((with_reducible apply gR); (first | refine RK.peelN rfl ?_ | refine RK.donef rfl ⟨_, rfl, ?_⟩))
    | ((with_reducible apply gW); (first | with_reducible apply WP.seq | refine WP.reg mixed (fun ks => _) (fun ks => rfl) (fun ks => ?_) | ((apply cdD; apply Eq.refl) <;> (intro hc; (first | with_reducible exact absurd hlt hc | skip))) | apply WP.skip | apply WP.block))
    | (with_reducible apply thn_n))
  refine WP.loopI (n := 32) (α := Nat) (fun j => [(0, some (.int .u16 (eightC j (byteC (crcN B s x) (B x))))), (8, some (.slice a n cap)), (9, some (I64 (n : Int))), (10, some (I64 (x : Int))), (19, some (I64 (j : Int)))]) (fun j => [(k, ob)]) (fun j => j ≤ 8) (fun j => 8 - j) 0 (Wk.of ⟨rfl, rfl, rfl, rfl, rfl, trivial⟩ sb_) (Nat.zero_le _) (fun j ij => ?_)
  have ij : j ≤ 8 := ij
  by_cases hj : j < 8
  rotate_left
  · have hge : ¬ (j : Int) < 8 := by omega
    obtain rfl : j = 8 := by omega
    exact wk_P4_0
  have hjl : (j : Int) < 8 := by omega
  have hwj := kpB (x := j) (by omega)
  by_cases hb : and16 (eightC j (byteC (crcN B s x) (B x))) 32768 ≠ 0
  · have e : eightC (j + 1) (byteC (crcN B s x) (B x)) = xor16 (sh16 (eightC j (byteC (crcN B s x) (B x))) 1) 4129 := if_pos hb
    repeat' (first
      | ((with_reducible apply gQ0); (first | (apply q_move; apply Eq.refl) | (apply q_assign; apply Eq.refl) | (apply q_int; (iterate 3 apply Eq.refl)) | (apply q_shl; apply Eq.refl; apply Eq.refl; (focus (decide)))))
      | ((with_reducible apply gR); (first | refine RK.peelN rfl ?_ | refine RK.donef rfl ⟨_, rfl, ?_⟩))
      | ((with_reducible apply gW); (first | with_reducible apply WP.seq | refine WP.reg mixed (fun ks => _) (fun ks => rfl) (fun ks => ?_) | ((first | (apply cdD; apply Eq.refl) | (apply WP.condN; apply Eq.refl)) <;> (intro hc; (first | with_reducible exact absurd hc hb | with_reducible exact absurd hjl hc | skip))) | apply WP.skip | apply WP.block))
      | (first | with_reducible apply thn_n | with_reducible apply blk_n))
    refine ⟨j + 1, hj, by show 8 - (j + 1) < 8 - j; omega, ?_⟩
    rw [e]
    exact Wk.of ⟨rfl, rfl, rfl, rfl, congrArg (fun x => some (I64 x)) hwj, trivial⟩ sb_
  · have e : eightC (j + 1) (byteC (crcN B s x) (B x)) = sh16 (eightC j (byteC (crcN B s x) (B x))) 1 := if_neg hb
    have hb0 := Classical.not_not.1 hb
    repeat' (first
      | ((with_reducible apply gQ0); (first | (apply q_move; apply Eq.refl) | (apply q_assign; apply Eq.refl) | (apply q_int; (iterate 3 apply Eq.refl)) | (apply q_shl; apply Eq.refl; apply Eq.refl; (focus (decide)))))
      | ((with_reducible apply gR); (first | refine RK.peelN rfl ?_ | refine RK.donef rfl ⟨_, rfl, ?_⟩))
      | ((with_reducible apply gW); (first | with_reducible apply WP.seq | refine WP.reg mixed (fun ks => _) (fun ks => rfl) (fun ks => ?_) | ((first | (apply cdD; apply Eq.refl) | (apply WP.condN; apply Eq.refl)) <;> (intro hc; (first | with_reducible exact absurd hc hb | with_reducible exact absurd hjl hc | skip))) | apply WP.skip | apply WP.block))
      | (first | with_reducible apply thn_n | with_reducible apply blk_n))
    refine ⟨j + 1, hj, by show 8 - (j + 1) < 8 - j; omega, ?_⟩
    rw [e]
    exact Wk.of ⟨rfl, rfl, rfl, rfl, congrArg (fun x => some (I64 x)) hwj, trivial⟩ sb_

set_option maxHeartbeats 4000000 in
theorem ref_More {ob : AObj} {k f n cap : Nat} {a : Option Addr} {B : Nat → Int} (bt : Bt ob f n B) (ha : 0 < n → a = some ⟨k, f, none⟩) (hn : n ≤ 1000000) (s : Int) : Ctr Tryz.prog 7 111 [.int .u16 s, .slice a n cap] [(k, ob)] (.int .u16 (crcN B s n)) [ob] := by
  refine Ctr.by layOk Tryz.func111 Tryz.ntmps111 rfl rfl rfl rfl rfl ?_
  repeat' (first
    | ((with_reducible apply gQ0); (apply q_assign; apply Eq.refl))
    | ((with_reducible apply gR); (first | refine RK.peelN rfl ?_ | refine RK.donef rfl ⟨_, rfl, ?_⟩))
    | ((with_reducible apply gW); (first | with_reducible apply WP.seq | refine WP.reg mixed (fun ks => _) (fun ks => rfl) (fun ks => ?_) | apply WP.block))
    | (with_reducible apply thn_n))
  refine WP.loopI (n := 34) (α := Nat) (fun x => [(0, some (.int .u16 (crcN B s x))), (1, some (.slice a n cap)), (5, some (I64 (x : Int)))]) (fun x => [(k, ob)]) (fun x => x ≤ n) (fun x => n - x) 0 (Wk.of ⟨rfl, rfl, rfl, trivial⟩ sb_) (Nat.zero_le _) (fun x ix => ?_)
  have ix : x ≤ n := ix
  by_cases hx : x < n
  rotate_left
  · have hge : ¬ (x : Int) < (n : Int) := by omega
    obtain rfl : x = n := by omega
    exact wk_P4_0
  have hlt : (x : Int) < (n : Int) := by omega
  have hw := kpB (x := x) (by omega)
  repeat' (first
    | ((with_reducible apply gQ0); (first | (apply q_load layOk; (iterate 3 apply Eq.refl); exact lk_; exact (bt.a x hx)) | (apply q_idxN (m := x) layOk; (iterate 4 apply Eq.refl); exact ha; apply Eq.refl; exact hx) | (apply q_move; apply Eq.refl) | (apply q_assign; apply Eq.refl) | (apply q_int; (iterate 3 apply Eq.refl)) | (apply q_conv; apply Eq.refl; exact Tryz.underlying5; exact Tryz.underlying205) | (apply q_shl; apply Eq.refl; apply Eq.refl; (focus (decide))) | (apply q_len layOk; (iterate 4 apply Eq.refl))))
    | ((with_reducible apply gR); (first | refine RK.peelN rfl ?_ | refine RK.donef rfl ⟨_, rfl, ?_⟩))
    | ((with_reducible apply gW); (first | with_reducible apply WP.seq | refine WP.reg mixed (fun ks => _) (fun ks => rfl) (fun ks => ?_) | ((apply cdD; apply Eq.refl) <;> (intro hc; (first | with_reducible exact absurd hlt hc | skip))) | apply WP.skip | apply WP.block))
    | (with_reducible apply thn_n))
  refine WP.loopI (n := 34) (α := Nat) (fun j => [(0, some (.int .u16 (eightC j (byteC (crcN B s x) (B x))))), (1, some (.slice a n cap)), (5, some (I64 (x : Int))), (6, some (I64 (j : Int)))]) (fun j => [(k, ob)]) (fun j => j ≤ 8) (fun j => 8 - j) 0 (Wk.of ⟨rfl, rfl, rfl, rfl, trivial⟩ sb_) (Nat.zero_le _) (fun j ij => ?_)
  have ij : j ≤ 8 := ij
  by_cases hj : j < 8
  rotate_left
  · have hge : ¬ (j : Int) < 8 := by omega
    obtain rfl : j = 8 := by omega
    exact wk_P4_0
  have hjl : (j : Int) < 8 := by omega
  have hwj := kpB (x := j) (by omega)
  by_cases hb : and16 (eightC j (byteC (crcN B s x) (B x))) 32768 ≠ 0
  · have e : eightC (j + 1) (byteC (crcN B s x) (B x)) = xor16 (sh16 (eightC j (byteC (crcN B s x) (B x))) 1) 4129 := if_pos hb
    repeat' (first
      | ((with_reducible apply gQ0); (first | (apply q_move; apply Eq.refl) | (apply q_assign; apply Eq.refl) | (apply q_int; (iterate 3 apply Eq.refl)) | (apply q_shl; apply Eq.refl; apply Eq.refl; (focus (decide)))))
      | ((with_reducible apply gR); (first | refine RK.peelN rfl ?_ | refine RK.donef rfl ⟨_, rfl, ?_⟩))
      | ((with_reducible apply gW); (first | with_reducible apply WP.seq | refine WP.reg mixed (fun ks => _) (fun ks => rfl) (fun ks => ?_) | ((first | (apply cdD; apply Eq.refl) | (apply WP.condN; apply Eq.refl)) <;> (intro hc; (first | with_reducible exact absurd hc hb | with_reducible exact absurd hjl hc | skip))) | apply WP.skip | apply WP.block))
      | (first | with_reducible apply thn_n | with_reducible apply blk_n))
    refine ⟨j + 1, hj, by show 8 - (j + 1) < 8 - j; omega, ?_⟩
    rw [e]
    exact Wk.of ⟨rfl, rfl, rfl, congrArg (fun x => some (I64 x)) hwj, trivial⟩ sb_
  · have e : eightC (j + 1) (byteC (crcN B s x) (B x)) = sh16 (eightC j (byteC (crcN B s x) (B x))) 1 := if_neg hb
    have hb0 := Classical.not_not.1 hb
    repeat' (first
      | ((with_reducible apply gQ0); (first | (apply q_move; apply Eq.refl) | (apply q_assign; apply Eq.refl) | (apply q_int; (iterate 3 apply Eq.refl)) | (apply q_shl; apply Eq.refl; apply Eq.refl; (focus (decide)))))
      | ((with_reducible apply gR); (first | refine RK.peelN rfl ?_ | refine RK.donef rfl ⟨_, rfl, ?_⟩))
      | ((with_reducible apply gW); (first | with_reducible apply WP.seq | refine WP.reg mixed (fun ks => _) (fun ks => rfl) (fun ks => ?_) | ((first | (apply cdD; apply Eq.refl) | (apply WP.condN; apply Eq.refl)) <;> (intro hc; (first | with_reducible exact absurd hc hb | with_reducible exact absurd hjl hc | skip))) | apply WP.skip | apply WP.block))
      | (first | with_reducible apply thn_n | with_reducible apply blk_n))
    refine ⟨j + 1, hj, by show 8 - (j + 1) < 8 - j; omega, ?_⟩
    rw [e]
    exact Wk.of ⟨rfl, rfl, rfl, congrArg (fun x => some (I64 x)) hwj, trivial⟩ sb_
set_option maxHeartbeats 4000000 in
theorem crc_Sum {ob : AObj} {k f n cap : Nat} {a : Option Addr} {B : Nat → Int} (bt : Bt ob f n B) (ha : 0 < n → a = some ⟨k, f, none⟩) (hn : n ≤ 1000000) : Ctr Tryz.prog 7 109 [.slice a n cap] [(k, ob)] (.int .u16 (crcN B 65535 n)) [ob] := by
  refine Ctr.by layOk Tryz.func109 Tryz.ntmps109 rfl rfl rfl rfl rfl ?_
  exact wk_P4_0
set_option maxHeartbeats 4000000 in
theorem ref_Sum {ob : AObj} {k f n cap : Nat} {a : Option Addr} {B : Nat → Int} (bt : Bt ob f n B) (ha : 0 < n → a = some ⟨k, f, none⟩) (hn : n ≤ 1000000) : Ctr Tryz.prog 7 94 [.slice a n cap] [(k, ob)] (.int .u16 (crcN B 65535 n)) [ob] := by
  refine Ctr.by layOk Tryz.func94 Tryz.ntmps94 rfl rfl rfl rfl rfl ?_
  exact wk_P4_0
end Go.Proofs.YtekcchmnncefhaaGreatDoor
namespace Go.Proofs.YtekcchmnncefhaaGreatDoor
open Go Go.Proofs.YtekcchmnncefhaaGreatDoorAB
set_option linter.unusedSimpArgs false
set_option linter.unusedVariables false
set_option maxRecDepth 20000
theorem wk_P5_0 {p : Prop} (h : p := by
  repeat' (first
    | ((with_reducible apply gQ0); (first | (apply q_load layOk; (iterate 3 apply Eq.refl); exact lk_; exact (bt.a x hxn)) | (apply q_idxN (m := x) layOk; (iterate 4 apply Eq.refl); exact (fun _ => rfl); apply Eq.refl; exact hx) | (apply q_move; apply Eq.refl) | (apply q_assign; apply Eq.refl) | (apply q_int; (iterate 3 apply Eq.refl)) | (apply q_conv; apply Eq.refl; exact Tryz.underlying5; exact Tryz.underlying204) | (apply q_shl; apply Eq.refl; apply Eq.refl; (focus (decide))) | (apply q_len layOk; (iterate 4 apply Eq.refl))))
    | ((with_reducible apply gR); (first | refine RK.peelN rfl ?_ | refine RK.donef rfl ⟨_, rfl, ?_⟩))
    | ((with_reducible apply gW); (first | with_reducible apply WP.seq | refine WP.reg mixed (fun ks => _) (fun ks => rfl) (fun ks => ?_) | ((apply cdD; apply Eq.refl) <;> (intro hc; (first | with_reducible exact absurd hlt hc | with_reducible exact absurd hc hge | skip))) | apply WP.ret | apply WP.skip | apply WP.exit | apply WP.block))
    | (first | with_reducible apply thn_n | with_reducible apply thn_e | with_reducible apply blk_n | with_reducible apply blk_e)
    | (refine Endz.mk' en_ rv_ (by rfl) sb_)
    | (exact ⟨x + 1, hx, by show m - (x + 1) < m - x; omega, Wk.of ⟨rfl, rfl, rfl, congrArg (fun x => some (I64 x)) hw, trivial⟩ sb_⟩)
    | (exact ⟨x + 1, hx, by show n - (x + 1) < n - x; omega, Wk.of ⟨rfl, rfl, congrArg (fun x => some (I64 x)) hw, trivial⟩ sb_⟩))) : p := h
theorem wk_P5_1 {p : Prop} (h : p := by
  repeat' (first
    | ((first | (with_reducible apply gQ0) | ((with_reducible apply gQ1); exact wt_)); (first | (apply q_move; apply Eq.refl) | (apply q_assign; apply Eq.refl) | (apply q_int; (iterate 3 apply Eq.refl)) | (apply q_fa layOk; (iterate 5 apply Eq.refl)) | (apply q_load layOk; (iterate 3 apply Eq.refl); exact lk_; apply Eq.refl) | (apply q_box (k := ks _); apply Eq.refl; exact lk_; apply Eq.refl) | (apply q_pick_t; apply Eq.refl; apply Eq.refl) | (apply q_pick_f; apply Eq.refl; apply Eq.refl)))
    | ((with_reducible apply gR); (first | refine RK.peelN rfl ?_ | refine RK.donef rfl ⟨_, rfl, ?_⟩))
    | ((with_reducible apply gQv); focus exact wf_)
    | ((with_reducible apply gK); (fail_if_success ((apply gM); (iterate 3 apply Eq.refl))); ((first | (apply gsD; (iterate 4 apply Eq.refl)) | (apply RKo.gsplit; (iterate 4 apply Eq.refl))) <;> (intro hc; (first | with_reducible exact ff' hc | skip))))
    | ((with_reducible apply gW); (first | with_reducible apply WP.seq | refine WP.reg mixed (fun ks => _) (fun ks => rfl) (fun ks => ?_) | apply WP.ret))
    | (with_reducible apply thn_n)
    | (refine Endz.mk' en_ rv_ (by first | rfl | (simp [tup, rightB, *]; done) | (simp [tup, rightB, *]; rfl) | (simp_all [tup, rightB]; done)) sb_))) : p := h

set_option maxHeartbeats 4000000 in
theorem slot_get {ob : AObj} {k f n cap : Nat} {B : Nat → Int} (bt : Bt ob f n B) {m : Nat} (hm : m ≤ n) (hc : n ≤ cap) (h6 : n ≤ 1000000) : Ctr Tryz.prog 7 114 [.slice (some ⟨k, f, none⟩) n cap, I64 (m : Int)] [(k, ob)] (.int .u64 (numN B m)) [ob] := by
  refine Ctr.by layOk Tryz.func114 Tryz.ntmps114 rfl rfl rfl rfl rfl ?_
  repeat' (first
    | ((with_reducible apply gQ0); (first | (apply q_sliceH (m := m) layOk; (iterate 5 apply Eq.refl); exact hm; exact hc) | (apply q_move; apply Eq.refl) | (apply q_assign; apply Eq.refl) | (apply q_len layOk; (iterate 4 apply Eq.refl))))
    | ((with_reducible apply gR); (first | refine RK.peelN rfl ?_ | refine RK.donef rfl ⟨_, rfl, ?_⟩))
    | ((with_reducible apply gW); (first | with_reducible apply WP.seq | refine WP.reg mixed (fun ks => _) (fun ks => rfl) (fun ks => ?_) | apply WP.block))
    | (with_reducible apply thn_n))
  refine WP.loopI (n := 23) (α := Nat) (fun x => [(5, some (.int .u64 (numN B x))), (10, some (.slice (some ⟨k, f, none⟩) m cap)), (11, some (I64 (m : Int))), (12, some (I64 (x : Int)))]) (fun x => [(k, ob)]) (fun x => x ≤ m) (fun x => m - x) 0 (Wk.of ⟨rfl, rfl, rfl, rfl, trivial⟩ sb_) (Nat.zero_le _) (fun x ix => ?_)
  have ix : x ≤ m := ix
  by_cases hx : x < m
  · have hlt : (x : Int) < (m : Int) := by omega
    have hw := kpB (x := x) (by omega)
    have hxn : x < n := by omega
    exact wk_P5_0
  · have hge : ¬ (x : Int) < (m : Int) := by omega
    obtain rfl : x = m := by omega
    exact wk_P5_0

set_option maxHeartbeats 4000000 in
theorem ref_number {ob : AObj} {k f n cap : Nat} {B : Nat → Int} (bt : Bt ob f n B) (h6 : n ≤ 1000000) : Ctr Tryz.prog 7 103 [.slice (some ⟨k, f, none⟩) n cap] [(k, ob)] (.int .u64 (numN B n)) [ob] := by
  refine Ctr.by layOk Tryz.func103 Tryz.ntmps103 rfl rfl rfl rfl rfl ?_
  repeat' (first
    | ((with_reducible apply gQ0); (apply q_assign; apply Eq.refl))
    | ((with_reducible apply gR); (first | refine RK.peelN rfl ?_ | refine RK.donef rfl ⟨_, rfl, ?_⟩))
    | ((with_reducible apply gW); (first | with_reducible apply WP.seq | refine WP.reg mixed (fun ks => _) (fun ks => rfl) (fun ks => ?_) | apply WP.block))
    | (with_reducible apply thn_n))
  refine WP.loopI (n := 20) (α := Nat) (fun x => [(0, some (.slice (some ⟨k, f, none⟩) n cap)), (3, some (.int .u64 (numN B x))), (4, some (I64 (x : Int)))]) (fun x => [(k, ob)]) (fun x => x ≤ n) (fun x => n - x) 0 (Wk.of ⟨rfl, rfl, rfl, trivial⟩ sb_) (Nat.zero_le _) (fun x ix => ?_)
  have ix : x ≤ n := ix
  by_cases hx : x < n
  · have hlt : (x : Int) < (n : Int) := by omega
    have hw := kpB (x := x) (by omega)
    have hxn : x < n := by omega
    exact wk_P5_0
  · have hge : ¬ (x : Int) < (n : Int) := by omega
    obtain rfl : x = n := by omega
    exact wk_P5_0
def rightB (lo hi : Int) : Bool := decide (0 ≤ lo ∧ lo ≤ hi ∧ hi ≤ 1073741824)
set_option maxHeartbeats 4000000 in
theorem slot_right (lo hi : Int) : Ctr Tryz.prog 7 120 [.agg #[I64 (lo), I64 (hi)]] [] (.bool (rightB lo hi)) [] := by
  refine Ctr.by layOk Tryz.func120 Tryz.ntmps120 rfl rfl rfl rfl rfl ?_
  exact wk_P5_1
set_option maxHeartbeats 4000000 in
theorem ref_goodSpan (lo hi : Int) : Ctr Tryz.prog 7 91 [.agg #[I64 (lo), I64 (hi)]] [] (.bool (rightB lo hi)) [] := by
  refine Ctr.by layOk Tryz.func91 Tryz.ntmps91 rfl rfl rfl rfl rfl ?_
  exact wk_P5_1
end Go.Proofs.YtekcchmnncefhaaGreatDoor
namespace Go.Proofs.YtekcchmnncefhaaGreatDoor
open Go Go.Proofs.YtekcchmnncefhaaGreatDoorAB
set_option linter.unusedSimpArgs false
set_option linter.unusedVariables false
set_option maxRecDepth 20000
theorem wk_P6_0 {p : Prop} (h : p := by
  repeat' (first
    | ((first | (with_reducible apply gQ0) | ((with_reducible apply gQ1); exact wt_)); (first | (apply q_box (k := ks _); apply Eq.refl; exact lk_; apply Eq.refl) | (apply q_move; apply Eq.refl) | (apply q_assign; apply Eq.refl) | (apply q_int; (iterate 3 apply Eq.refl)) | (apply q_fa layOk; (iterate 5 apply Eq.refl)) | (apply q_load layOk; (iterate 3 apply Eq.refl); exact lk_; apply Eq.refl) | (apply q_loadr layOk; (iterate 3 apply Eq.refl); exact lk_; apply Eq.refl) | (apply q_not; apply Eq.refl) | (apply q_pick_t; apply Eq.refl; apply Eq.refl) | (apply q_pick_f; apply Eq.refl; apply Eq.refl) | (apply isF (f := 120); (refine q_call0 rfl (slot_right_t g4) ?_)) | (apply isF (f := 120); (refine q_call0 rfl (slot_right_t g5) ?_)) | (apply isF (f := 120); (refine q_call0 rfl (slot_right_f g4) ?_)) | (apply isF (f := 120); (refine q_call0 rfl (slot_right_f g5) ?_)) | (apply isF (f := 91); (refine q_call0 rfl (ref_goodSpan_t g4) ?_)) | (apply isF (f := 91); (refine q_call0 rfl (ref_goodSpan_t g5) ?_))))
    | ((with_reducible apply gR); (first | refine RK.peelN rfl ?_ | refine RK.donef rfl ⟨_, rfl, ?_⟩))
    | ((with_reducible apply gQv); focus exact wf_)
    | ((with_reducible apply gK); (fail_if_success ((apply gM); (iterate 3 apply Eq.refl))); ((first | (apply gsD; (iterate 4 apply Eq.refl)) | (apply RKo.gsplit; (iterate 4 apply Eq.refl))) <;> (intro hc; (first | with_reducible exact absurd hc g1 | with_reducible exact absurd hc g2 | with_reducible exact absurd hc g3 | with_reducible exact absurd hc nt1 | with_reducible exact ff hc | with_reducible exact absurd m1 hc | with_reducible exact absurd hc m1 | with_reducible exact absurd m2 hc | with_reducible exact absurd hc m2 | with_reducible exact absurd m3 hc | with_reducible exact absurd hc m3 | with_reducible exact absurd hc nt2 | with_reducible exact absurd p1 hc | with_reducible exact absurd p2 hc | with_reducible exact absurd p3 hc | skip))))
    | ((with_reducible apply gW); (first | with_reducible apply WP.seq | refine WP.reg mixed (fun ks => _) (fun ks => rfl) (fun ks => ?_) | ((apply WP.condA; apply Eq.refl) <;> (intro hc; (first | with_reducible exact absurd hc g1 | with_reducible exact absurd hc g2 | with_reducible exact absurd hc g3 | with_reducible exact absurd hc nt1 | with_reducible exact ff hc | with_reducible exact absurd m1 hc | with_reducible exact absurd hc m1 | with_reducible exact absurd m2 hc | with_reducible exact absurd hc m2 | with_reducible exact absurd m3 hc | with_reducible exact absurd hc m3 | with_reducible exact absurd hc nt2 | with_reducible exact absurd p1 hc | with_reducible exact absurd p2 hc | with_reducible exact absurd p3 hc | skip))) | apply WP.ret | apply WP.skip))
    | (first | with_reducible apply thn_n | with_reducible apply thn_r)
    | (refine Endz.mk' en_ rv_ (by rfl) sb_))) : p := h
theorem wk_P6_1 {p : Prop} (h : p := by
  repeat' (first
    | ((first | (with_reducible apply gQ0) | ((with_reducible apply gQ1); exact wt_)); (first | (apply q_box (k := ks _); apply Eq.refl; exact lk_; apply Eq.refl) | (apply q_move; apply Eq.refl) | (apply q_assign; apply Eq.refl) | (apply q_int; (iterate 3 apply Eq.refl)) | (apply q_fa layOk; (iterate 5 apply Eq.refl)) | (apply q_load layOk; (iterate 3 apply Eq.refl); exact lk_; apply Eq.refl) | (apply q_loadr layOk; (iterate 3 apply Eq.refl); exact lk_; apply Eq.refl) | (apply q_pick_t; apply Eq.refl; apply Eq.refl) | (apply q_pick_f; apply Eq.refl; apply Eq.refl) | (apply isF (f := 91); (refine q_call0 rfl (ref_goodSpan_f g4) ?_)) | (apply isF (f := 91); (refine q_call0 rfl (ref_goodSpan_t g4) ?_)) | (apply isF (f := 91); (refine q_call0 rfl (ref_goodSpan_f g5) ?_))))
    | ((with_reducible apply gR); (first | refine RK.peelN rfl ?_ | refine RK.donef rfl ⟨_, rfl, ?_⟩))
    | ((with_reducible apply gQv); focus exact wf_)
    | ((with_reducible apply gK); (fail_if_success ((apply gM); (iterate 3 apply Eq.refl))); ((first | (apply gsD; (iterate 4 apply Eq.refl)) | (apply RKo.gsplit; (iterate 4 apply Eq.refl))) <;> (intro hc; (first | with_reducible exact ff' hc | with_reducible exact absurd hc p1 | with_reducible exact absurd hc p2 | with_reducible exact absurd p1 hc | with_reducible exact absurd hc p3 | with_reducible exact absurd p2 hc | with_reducible exact absurd p3 hc | with_reducible exact ff hc | skip))))
    | ((with_reducible apply gW); (first | with_reducible apply WP.seq | refine WP.reg mixed (fun ks => _) (fun ks => rfl) (fun ks => ?_) | apply WP.ret))
    | (with_reducible apply thn_n)
    | (refine Endz.mk' en_ rv_ (by first | rfl | (exact congrArg Value.bool (decide_eq_false (by assumption)))) sb_))) : p := h
def goodR (md lk a b c d : Int) : Bool := decide (1 ≤ md) && decide (md ≤ 5) && decide (lk < 2097152) && rightB a b && rightB c d
theorem good_of {md lk a b c d : Int} (h : goodR md lk a b c d = true) : ¬ md < 1 ∧ ¬ md > 5 ∧ ¬ lk ≥ 2097152 ∧ rightB a b = true ∧ rightB c d = true := by
  unfold goodR at h
  simp only [Bool.and_eq_true, decide_eq_true_eq] at h
  refine ⟨by omega, by omega, by omega, h.1.2, h.2⟩
theorem bad_of {md lk a b c d : Int} (h : goodR md lk a b c d = false) (h1 : ¬ md < 1) (h2 : ¬ md > 5) (h3 : ¬ lk ≥ 2097152) (h4 : rightB a b = true) : rightB c d = false := by
  cases h5 : rightB c d with
  | false => rfl
  | true =>
    unfold goodR at h
    rw [h4, h5, decide_eq_true (show 1 ≤ md by omega), decide_eq_true (show md ≤ 5 by omega), decide_eq_true (show lk < 2097152 by omega)] at h
    cases h
theorem slot_right_t {lo hi : Int} (h : rightB lo hi = true) : Ctr Tryz.prog 7 120 [.agg #[I64 (lo), I64 (hi)]] [] (.bool true) [] := by
  have e := slot_right lo hi
  rw [h] at e
  exact e
theorem slot_right_f {lo hi : Int} (h : rightB lo hi = false) : Ctr Tryz.prog 7 120 [.agg #[I64 (lo), I64 (hi)]] [] (.bool false) [] := by
  have e := slot_right lo hi
  rw [h] at e
  exact e
theorem ref_goodSpan_t {lo hi : Int} (h : rightB lo hi = true) : Ctr Tryz.prog 7 91 [.agg #[I64 (lo), I64 (hi)]] [] (.bool true) [] := by
  have e := ref_goodSpan lo hi
  rw [h] at e
  exact e
theorem ref_goodSpan_f {lo hi : Int} (h : rightB lo hi = false) : Ctr Tryz.prog 7 91 [.agg #[I64 (lo), I64 (hi)]] [] (.bool false) [] := by
  have e := ref_goodSpan lo hi
  rw [h] at e
  exact e

set_option maxHeartbeats 4000000 in
theorem slot_Check_ok (sq md lk a b c d : Int) (h : goodR md lk a b c d = true) : Ctr Tryz.prog 7 116 [.agg #[.int .u32 sq, I64 md, .int .u32 lk, I64 a, I64 b, I64 c, I64 d]] [] (.nilIface) [] := by
  have nt1 : ¬ (!true) = true := by decide
  have nt2 : ¬ (!false) = false := by decide
  obtain ⟨g1, g2, g3, g4, g5⟩ := good_of h
  refine Ctr.by layOk Tryz.func116 Tryz.ntmps116 rfl rfl rfl rfl rfl ?_
  exact wk_P6_0

set_option maxHeartbeats 8000000 in
theorem slot_Check_bad (E O : Nat → Nat) (sq md lk a b c d : Int) (h : goodR md lk a b c d = false) : Ctr Tryz.prog 7 116 [.agg #[.int .u32 sq, I64 md, .int .u32 lk, I64 a, I64 b, I64 c, I64 d]] [(4, .ro 0 [(.iface 245 (.pointer (some ⟨E 4, O 4, none⟩)))])] ((.iface 245 (.pointer (some ⟨E 4, O 4, none⟩)))) [.ro 0 [(.iface 245 (.pointer (some ⟨E 4, O 4, none⟩)))]] := by
  have nt1 : ¬ (!true) = true := by decide
  have nt2 : ¬ (!false) = false := by decide
  refine Ctr.by layOk Tryz.func116 Tryz.ntmps116 rfl rfl rfl rfl rfl ?_
  by_cases m1 : md < 1
  · skip
    exact wk_P6_0
  by_cases m2 : md > 5
  · skip
    exact wk_P6_0
  by_cases m3 : lk ≥ 2097152
  · skip
    exact wk_P6_0
  cases g4 : rightB a b with
  | false =>
    exact wk_P6_0
  | true =>
    have g5 := bad_of h m1 m2 m3 g4
    exact wk_P6_0

set_option maxHeartbeats 4000000 in
theorem ref_Good_ok (sq md lk a b c d : Int) (h : goodR md lk a b c d = true) : Ctr Tryz.prog 7 55 [.agg #[.int .u32 sq, I64 md, .int .u32 lk, I64 a, I64 b, I64 c, I64 d]] [] (.bool true) [] := by
  have nt1 : ¬ (!true) = true := by decide
  have nt2 : ¬ (!false) = false := by decide
  obtain ⟨g1, g2, g3, g4, g5⟩ := good_of h
  have p1 : md ≥ 1 := by omega
  have p2 : md ≤ 5 := by omega
  have p3 : lk < 2097152 := by omega
  refine Ctr.by layOk Tryz.func55 Tryz.ntmps55 rfl rfl rfl rfl rfl ?_
  exact wk_P6_0

set_option maxHeartbeats 8000000 in
theorem ref_Good_bad (sq md lk a b c d : Int) (h : goodR md lk a b c d = false) : Ctr Tryz.prog 7 55 [.agg #[.int .u32 sq, I64 md, .int .u32 lk, I64 a, I64 b, I64 c, I64 d]] [] (.bool false) [] := by
  refine Ctr.by layOk Tryz.func55 Tryz.ntmps55 rfl rfl rfl rfl rfl ?_
  by_cases p1 : md ≥ 1
  rotate_left
  · skip
    exact wk_P6_1
  by_cases p2 : md ≤ 5
  rotate_left
  · skip
    exact wk_P6_1
  by_cases p3 : lk < 2097152
  rotate_left
  · skip
    exact wk_P6_1
  cases g4 : rightB a b with
  | false =>
    exact wk_P6_1
  | true =>
    have g5 := bad_of h (by omega) (by omega) (by omega) g4
    exact wk_P6_1
end Go.Proofs.YtekcchmnncefhaaGreatDoor
namespace Go.Proofs.YtekcchmnncefhaaGreatDoor
open Go Go.Proofs.YtekcchmnncefhaaGreatDoorAB
set_option linter.unusedSimpArgs false
set_option linter.unusedVariables false
set_option maxRecDepth 20000
abbrev obp70 (x0 : Nat) (x1 : _) (x2 : _) := (.cells [.slice (some ⟨x0, x1, none⟩) 44 x2] 26 : AObj)
theorem wk_P7_0 {p : Prop} (h : p := by
  repeat' (first
    | ((with_reducible apply gQ0); (first | (apply q_sliceL (p := 10) layOk; (iterate 5 apply Eq.refl); (focus (decide)); exact h44; (focus (decide))) | (apply q_sliceL (p := 18) layOk; (iterate 5 apply Eq.refl); (focus (decide)); exact h44; (focus (decide))) | (apply q_sliceL (p := 26) layOk; (iterate 5 apply Eq.refl); (focus (decide)); exact h44; (focus (decide))) | (apply q_sliceL (p := 34) layOk; (iterate 5 apply Eq.refl); (focus (decide)); exact h44; (focus (decide))) | (apply q_idxN (m := 0) layOk; (iterate 4 apply Eq.refl); exact (fun _ => rfl); apply Eq.refl; (focus (decide))) | (apply q_load layOk; (iterate 3 apply Eq.refl); exact lk_; exact (bt.a 0 (by decide))) | (apply q_sliceL (p := 42) layOk; (iterate 5 apply Eq.refl); (focus (decide)); exact h44; (focus (decide))) | (apply q_sliceLH (p := 1) (q := 42) layOk; (iterate 7 apply Eq.refl); (focus (decide)); (focus (decide)); exact h44; (focus (decide))) | (apply q_sliceL (p := 1) layOk; (iterate 5 apply Eq.refl); (focus (decide)); exact h44; (focus (decide))) | (apply q_sliceL (p := 6) layOk; (iterate 5 apply Eq.refl); (focus (decide)); exact h44; (focus (decide))) | (apply q_mkFunc; apply Eq.refl; apply Eq.refl) | (apply q_idxN (m := 5) layOk; (iterate 4 apply Eq.refl); exact (fun _ => rfl); apply Eq.refl; (focus (decide))) | (apply q_load layOk; (iterate 3 apply Eq.refl); exact lk_; exact (bt.a 5 (by decide))) | (apply q_box (k := ks _); apply Eq.refl; exact lk_; apply Eq.refl) | (apply q_alloc (k := ks _) layOk; apply Eq.refl; exact lk_; apply Eq.refl) | (apply q_move; apply Eq.refl) | (apply q_assign; apply Eq.refl) | (apply q_int; (iterate 3 apply Eq.refl)) | (apply q_load layOk; (iterate 3 apply Eq.refl); exact lk_; apply Eq.refl) | (apply q_loadr layOk; (iterate 3 apply Eq.refl); exact lk_; apply Eq.refl) | (apply q_build layOk; (iterate 4 apply Eq.refl)) | (apply q_conv; apply Eq.refl; exact Tryz.underlying204; exact Tryz.underlying2) | (apply q_len layOk; (iterate 4 apply Eq.refl)) | (apply q_conv; apply Eq.refl; exact Tryz.underlying205; exact Tryz.underlying204) | (apply q_conv; apply Eq.refl; exact Tryz.underlying204; exact Tryz.underlying27) | (apply q_conv; apply Eq.refl; exact Tryz.underlying5; exact Tryz.underlying3) | (apply q_ifne; (focus (kernel_rfl)); apply Eq.refl) | (apply q_nilne; (focus (kernel_rfl)); apply Eq.refl) | (apply isF (f := 114); (refine q_call1r rfl (slot_get (m := 8) (cap := 34) (bt.sh 10 34 (by decide)) (by decide) (by decide) (by decide)) lc_ ?_)) | (apply isF (f := 114); (refine q_call1r rfl (slot_get (m := 8) (cap := 26) (bt.sh 18 26 (by decide)) (by decide) (by decide) (by decide)) lc_ ?_)) | (apply isF (f := 114); (refine q_call1r rfl (slot_get (m := 8) (cap := 18) (bt.sh 26 18 (by decide)) (by decide) (by decide) (by decide)) lc_ ?_)) | (apply isF (f := 114); (refine q_call1r rfl (slot_get (m := 8) (cap := 10) (bt.sh 34 10 (by decide)) (by decide) (by decide) (by decide)) lc_ ?_)) | (apply isF (f := 114); (refine q_call1r rfl (slot_get (m := 2) (cap := 2) (bt.sh 42 2 (by decide)) (by decide) (by decide) (by decide)) lc_ ?_)) | (apply isF (f := 109); (refine q_call1r rfl (crc_Sum (n := 41) (bt.sh 1 41 (by decide)) (fun _ => rfl) (by decide)) lc_ ?_)) | (apply isF (f := 116); (refine q_callR rfl (slot_Check_bad E O _ _ _ _ _ _ _ h2) rfl fd_ (by decide) ?_)) | (apply isF (f := 114); (refine q_call1r rfl (slot_get (m := 4) (cap := 43) (bt.sh 1 43 (by decide)) (by decide) (by decide) (by decide)) lc_ ?_)) | (apply isF (f := 114); (refine q_call1r rfl (slot_get (m := 4) (cap := 38) (bt.sh 6 38 (by decide)) (by decide) (by decide) (by decide)) lc_ ?_)) | (refine q_callRF rfl rfl (slot_q10 bt h44 _) rfl fd_ (by decide) ?_) | (refine q_callRF rfl rfl (slot_q18 bt h44 _) rfl fd_ (by decide) ?_) | (refine q_callRF rfl rfl (slot_q26 bt h44 _) rfl fd_ (by decide) ?_) | (refine q_callRF rfl rfl (slot_q34 bt h44 _) rfl fd_ (by decide) ?_) | (apply isF (f := 116); (refine q_call0 rfl (slot_Check_ok _ _ _ _ _ _ _ h2) ?_)) | (apply e_store layOk; (iterate 3 apply Eq.refl); exact lk_; (iterate 5 apply Eq.refl))))
    | ((with_reducible apply gR); (first | refine RK.peelN rfl ?_ | refine RK.donef rfl ⟨_, rfl, ?_⟩ | refine RK.donet rfl (by kernel_rfl) ⟨_, rfl, ?_⟩))
    | ((with_reducible apply gW); (first | with_reducible apply WP.seq | refine WP.reg mixed (fun ks => _) (fun ks => rfl) (fun ks => ?_) | ((first | (apply cdD; apply Eq.refl) | (apply WP.condN; apply Eq.refl) | (apply WP.condA; apply Eq.refl)) <;> (intro hc; (first | with_reducible exact absurd hc z1 | with_reducible exact absurd hc z2 | with_reducible exact absurd hc h0 | with_reducible exact absurd hc h1 | with_reducible exact absurd h0 hc | with_reducible exact ff hc | with_reducible exact absurd h1 hc | with_reducible exact ff' hc | skip))) | apply WP.ret | apply WP.skip | apply WP.block))
    | (first | with_reducible apply thn_n | with_reducible apply thn_r | with_reducible apply blk_n | with_reducible apply blk_r)
    | (refine Endz.mk' en_ rv_ (by rfl) sb_))) : p := h
theorem Bt.sh {ob : AObj} {f n : Nat} {B : Nat → Int} (bt : Bt ob f n B) (p : Nat) (m : Nat) (h : p + m ≤ n) : Bt ob (f + p * 1) m (fun i => B (p + i)) := by
  refine ⟨fun i hi => ?_⟩
  have := bt.a (p + i) (by omega)
  rw [show f + (p + i) * 1 = f + p * 1 + i * 1 by omega] at this
  exact this

set_option maxHeartbeats 4000000 in
theorem slot_q10 {ob : AObj} {k f cap : Nat} {B : Nat → Int} (bt : Bt ob f 44 B) (h44 : 44 ≤ cap) (kb : Nat) : Ctr Tryz.prog 7 115 [I64 10, pP kb] [(kb, obp70 k f cap), (k, ob)] (I64 (IntKind.i64.wrap (numN (fun i => B (10 + i)) 8))) [obp70 k f cap, ob] := by
  refine Ctr.by layOk Tryz.func115 Tryz.ntmps115 rfl rfl rfl rfl rfl ?_
  exact wk_P7_0

set_option maxHeartbeats 4000000 in
theorem slot_q18 {ob : AObj} {k f cap : Nat} {B : Nat → Int} (bt : Bt ob f 44 B) (h44 : 44 ≤ cap) (kb : Nat) : Ctr Tryz.prog 7 115 [I64 18, pP kb] [(kb, obp70 k f cap), (k, ob)] (I64 (IntKind.i64.wrap (numN (fun i => B (18 + i)) 8))) [obp70 k f cap, ob] := by
  refine Ctr.by layOk Tryz.func115 Tryz.ntmps115 rfl rfl rfl rfl rfl ?_
  exact wk_P7_0

set_option maxHeartbeats 4000000 in
theorem slot_q26 {ob : AObj} {k f cap : Nat} {B : Nat → Int} (bt : Bt ob f 44 B) (h44 : 44 ≤ cap) (kb : Nat) : Ctr Tryz.prog 7 115 [I64 26, pP kb] [(kb, obp70 k f cap), (k, ob)] (I64 (IntKind.i64.wrap (numN (fun i => B (26 + i)) 8))) [obp70 k f cap, ob] := by
  refine Ctr.by layOk Tryz.func115 Tryz.ntmps115 rfl rfl rfl rfl rfl ?_
  exact wk_P7_0

set_option maxHeartbeats 4000000 in
theorem slot_q34 {ob : AObj} {k f cap : Nat} {B : Nat → Int} (bt : Bt ob f 44 B) (h44 : 44 ≤ cap) (kb : Nat) : Ctr Tryz.prog 7 115 [I64 34, pP kb] [(kb, obp70 k f cap), (k, ob)] (I64 (IntKind.i64.wrap (numN (fun i => B (34 + i)) 8))) [obp70 k f cap, ob] := by
  refine Ctr.by layOk Tryz.func115 Tryz.ntmps115 rfl rfl rfl rfl rfl ?_
  exact wk_P7_0
def recOk (B : Nat → Int) : Bool := goodR (IntKind.i64.wrap (B 5)) (IntKind.u32.wrap (numN (fun i => B (6 + i)) 4)) (IntKind.i64.wrap (numN (fun i => B (10 + i)) 8)) (IntKind.i64.wrap (numN (fun i => B (18 + i)) 8)) (IntKind.i64.wrap (numN (fun i => B (26 + i)) 8)) (IntKind.i64.wrap (numN (fun i => B (34 + i)) 8))

set_option maxHeartbeats 4000000 in
theorem slot_Read_none (E O : Nat → Nat) {ob : AObj} {k f cap : Nat} {B : Nat → Int} (bt : Bt ob f 44 B) (h44 : 44 ≤ cap) (h0 : ¬ B 0 = 165) : Ctr Tryz.prog 7 100 [.slice (some ⟨k, f, none⟩) 44 cap] [(k, ob), (3, .ro 0 [(.iface 245 (.pointer (some ⟨E 3, O 3, none⟩)))]), (6, .ro 0 [(.iface 245 (.pointer (some ⟨E 6, O 6, none⟩)))]), (4, .ro 0 [(.iface 245 (.pointer (some ⟨E 4, O 4, none⟩)))])] (.tuple #[.agg #[.int .u32 0, I64 0, .int .u32 0, I64 0, I64 0, I64 0, I64 0], (.iface 245 (.pointer (some ⟨E 3, O 3, none⟩)))]) [ob, .ro 0 [(.iface 245 (.pointer (some ⟨E 3, O 3, none⟩)))], .ro 0 [(.iface 245 (.pointer (some ⟨E 6, O 6, none⟩)))], .ro 0 [(.iface 245 (.pointer (some ⟨E 4, O 4, none⟩)))]] := by
  have z1 : ¬ ((44 : Nat) : Int) < 44 := by decide
  have z2 : ¬ ((44 : Nat) : Int) > 44 := by decide
  have h0' : B 0 ≠ 165 := h0
  refine Ctr.by layOk Tryz.func100 Tryz.ntmps100 rfl rfl rfl rfl rfl ?_
  exact wk_P7_0

set_option maxHeartbeats 4000000 in
theorem slot_Read_sum (E O : Nat → Nat) {ob : AObj} {k f cap : Nat} {B : Nat → Int} (bt : Bt ob f 44 B) (h44 : 44 ≤ cap) (h0 : B 0 = 165) (h1 : ¬ IntKind.u64.wrap (crcN (fun i => B (1 + i)) 65535 41) = numN (fun i => B (42 + i)) 2) : Ctr Tryz.prog 7 100 [.slice (some ⟨k, f, none⟩) 44 cap] [(k, ob), (3, .ro 0 [(.iface 245 (.pointer (some ⟨E 3, O 3, none⟩)))]), (6, .ro 0 [(.iface 245 (.pointer (some ⟨E 6, O 6, none⟩)))]), (4, .ro 0 [(.iface 245 (.pointer (some ⟨E 4, O 4, none⟩)))])] (.tuple #[.agg #[.int .u32 0, I64 0, .int .u32 0, I64 0, I64 0, I64 0, I64 0], (.iface 245 (.pointer (some ⟨E 6, O 6, none⟩)))]) [ob, .ro 0 [(.iface 245 (.pointer (some ⟨E 3, O 3, none⟩)))], .ro 0 [(.iface 245 (.pointer (some ⟨E 6, O 6, none⟩)))], .ro 0 [(.iface 245 (.pointer (some ⟨E 4, O 4, none⟩)))]] := by
  have z1 : ¬ ((44 : Nat) : Int) < 44 := by decide
  have z2 : ¬ ((44 : Nat) : Int) > 44 := by decide
  refine Ctr.by layOk Tryz.func100 Tryz.ntmps100 rfl rfl rfl rfl rfl ?_
  exact wk_P7_0

set_option maxHeartbeats 4000000 in
theorem slot_Read_bad (E O : Nat → Nat) {ob : AObj} {k f cap : Nat} {B : Nat → Int} (bt : Bt ob f 44 B) (h44 : 44 ≤ cap) (h0 : B 0 = 165) (h1 : IntKind.u64.wrap (crcN (fun i => B (1 + i)) 65535 41) = numN (fun i => B (42 + i)) 2) (h2 : recOk B = false) : Ctr Tryz.prog 7 100 [.slice (some ⟨k, f, none⟩) 44 cap] [(k, ob), (3, .ro 0 [(.iface 245 (.pointer (some ⟨E 3, O 3, none⟩)))]), (6, .ro 0 [(.iface 245 (.pointer (some ⟨E 6, O 6, none⟩)))]), (4, .ro 0 [(.iface 245 (.pointer (some ⟨E 4, O 4, none⟩)))])] (.tuple #[.agg #[.int .u32 0, I64 0, .int .u32 0, I64 0, I64 0, I64 0, I64 0], (.iface 245 (.pointer (some ⟨E 4, O 4, none⟩)))]) [ob, .ro 0 [(.iface 245 (.pointer (some ⟨E 3, O 3, none⟩)))], .ro 0 [(.iface 245 (.pointer (some ⟨E 6, O 6, none⟩)))], .ro 0 [(.iface 245 (.pointer (some ⟨E 4, O 4, none⟩)))]] := by
  have z1 : ¬ ((44 : Nat) : Int) < 44 := by decide
  have z2 : ¬ ((44 : Nat) : Int) > 44 := by decide
  refine Ctr.by layOk Tryz.func100 Tryz.ntmps100 rfl rfl rfl rfl rfl ?_
  exact wk_P7_0

set_option maxHeartbeats 4000000 in
theorem slot_Read_ok (E O : Nat → Nat) {ob : AObj} {k f cap : Nat} {B : Nat → Int} (bt : Bt ob f 44 B) (h44 : 44 ≤ cap) (h0 : B 0 = 165) (h1 : IntKind.u64.wrap (crcN (fun i => B (1 + i)) 65535 41) = numN (fun i => B (42 + i)) 2) (h2 : recOk B = true) : Ctr Tryz.prog 7 100 [.slice (some ⟨k, f, none⟩) 44 cap] [(k, ob), (3, .ro 0 [(.iface 245 (.pointer (some ⟨E 3, O 3, none⟩)))]), (6, .ro 0 [(.iface 245 (.pointer (some ⟨E 6, O 6, none⟩)))]), (4, .ro 0 [(.iface 245 (.pointer (some ⟨E 4, O 4, none⟩)))])] (.tuple #[.agg #[.int .u32 (IntKind.u32.wrap (numN (fun i => B (1 + i)) 4)), I64 (IntKind.i64.wrap (B 5)), .int .u32 (IntKind.u32.wrap (numN (fun i => B (6 + i)) 4)), I64 (IntKind.i64.wrap (numN (fun i => B (10 + i)) 8)), I64 (IntKind.i64.wrap (numN (fun i => B (18 + i)) 8)), I64 (IntKind.i64.wrap (numN (fun i => B (26 + i)) 8)), I64 (IntKind.i64.wrap (numN (fun i => B (34 + i)) 8))], .nilIface]) [ob, .ro 0 [(.iface 245 (.pointer (some ⟨E 3, O 3, none⟩)))], .ro 0 [(.iface 245 (.pointer (some ⟨E 6, O 6, none⟩)))], .ro 0 [(.iface 245 (.pointer (some ⟨E 4, O 4, none⟩)))]] := by
  have z1 : ¬ ((44 : Nat) : Int) < 44 := by decide
  have z2 : ¬ ((44 : Nat) : Int) > 44 := by decide
  refine Ctr.by layOk Tryz.func100 Tryz.ntmps100 rfl rfl rfl rfl rfl ?_
  exact wk_P7_0
end Go.Proofs.YtekcchmnncefhaaGreatDoor
namespace Go.Proofs.YtekcchmnncefhaaGreatDoor
open Go Go.Proofs.YtekcchmnncefhaaGreatDoorAB
set_option linter.unusedSimpArgs false
set_option linter.unusedVariables false
set_option maxRecDepth 20000
theorem wk_P8_0 {p : Prop} (h : p := by
  repeat' (first
    | ((with_reducible apply gQ0); (first | (apply q_idxN (m := 0) layOk; (iterate 4 apply Eq.refl); exact (fun _ => rfl); apply Eq.refl; (focus (decide))) | (apply q_load layOk; (iterate 3 apply Eq.refl); exact lk_; exact (bt.a 0 (by decide))) | (apply q_sliceLH (p := 1) (q := 42) layOk; (iterate 7 apply Eq.refl); (focus (decide)); (focus (decide)); exact h44; (focus (decide))) | (apply q_sliceL (p := 42) layOk; (iterate 5 apply Eq.refl); (focus (decide)); exact h44; (focus (decide))) | (apply q_sliceLH (p := 1) (q := 5) layOk; (iterate 7 apply Eq.refl); (focus (decide)); (focus (decide)); exact h44; (focus (decide))) | (apply q_sliceLH (p := 6) (q := 10) layOk; (iterate 7 apply Eq.refl); (focus (decide)); (focus (decide)); exact h44; (focus (decide))) | (apply q_sliceLH (p := 10) (q := 18) layOk; (iterate 7 apply Eq.refl); (focus (decide)); (focus (decide)); exact h44; (focus (decide))) | (apply q_sliceLH (p := 18) (q := 26) layOk; (iterate 7 apply Eq.refl); (focus (decide)); (focus (decide)); exact h44; (focus (decide))) | (apply q_sliceLH (p := 26) (q := 34) layOk; (iterate 7 apply Eq.refl); (focus (decide)); (focus (decide)); exact h44; (focus (decide))) | (apply q_sliceLH (p := 34) (q := 42) layOk; (iterate 7 apply Eq.refl); (focus (decide)); (focus (decide)); exact h44; (focus (decide))) | (apply q_idxN (m := 5) layOk; (iterate 4 apply Eq.refl); exact (fun _ => rfl); apply Eq.refl; (focus (decide))) | (apply q_load layOk; (iterate 3 apply Eq.refl); exact lk_; exact (bt.a 5 (by decide))) | (apply q_alloc (k := ks _) layOk; apply Eq.refl; exact lk_; apply Eq.refl) | (apply q_move; apply Eq.refl) | (apply q_assign; apply Eq.refl) | (apply q_int; (iterate 3 apply Eq.refl)) | (apply q_loadr layOk; (iterate 3 apply Eq.refl); exact lk_; apply Eq.refl) | (apply q_build layOk; (iterate 4 apply Eq.refl)) | (apply q_not; apply Eq.refl) | (apply q_len layOk; (iterate 4 apply Eq.refl)) | (apply q_conv; apply Eq.refl; exact Tryz.underlying205; exact Tryz.underlying204) | (apply q_conv; apply Eq.refl; exact Tryz.underlying204; exact Tryz.underlying2) | (apply q_conv; apply Eq.refl; exact Tryz.underlying204; exact Tryz.underlying27) | (apply q_conv; apply Eq.refl; exact Tryz.underlying5; exact Tryz.underlying3) | (apply isF (f := 103); (refine q_call1r rfl (ref_number (n := 2) (cap := 2) (bt.sh 42 2 (by decide)) (by decide)) lc_ ?_)) | (apply isF (f := 94); (refine q_call1r rfl (ref_Sum (n := 41) (bt.sh 1 41 (by decide)) (fun _ => rfl) (by decide)) lc_ ?_)) | (apply isF (f := 55); (refine q_call0 rfl (ref_Good_bad _ _ _ _ _ _ _ h2) ?_)) | (apply isF (f := 103); (refine q_call1r rfl (ref_number (n := 4) (cap := 4) (bt.sh 1 4 (by decide)) (by decide)) lc_ ?_)) | (apply isF (f := 103); (refine q_call1r rfl (ref_number (n := 4) (cap := 4) (bt.sh 6 4 (by decide)) (by decide)) lc_ ?_)) | (apply isF (f := 103); (refine q_call1r rfl (ref_number (n := 8) (cap := 8) (bt.sh 10 8 (by decide)) (by decide)) lc_ ?_)) | (apply isF (f := 103); (refine q_call1r rfl (ref_number (n := 8) (cap := 8) (bt.sh 18 8 (by decide)) (by decide)) lc_ ?_)) | (apply isF (f := 103); (refine q_call1r rfl (ref_number (n := 8) (cap := 8) (bt.sh 26 8 (by decide)) (by decide)) lc_ ?_)) | (apply isF (f := 103); (refine q_call1r rfl (ref_number (n := 8) (cap := 8) (bt.sh 34 8 (by decide)) (by decide)) lc_ ?_)) | (apply isF (f := 55); (refine q_call0 rfl (ref_Good_ok _ _ _ _ _ _ _ h2) ?_)) | (apply e_store layOk; (iterate 3 apply Eq.refl); exact lk_; (iterate 5 apply Eq.refl))))
    | ((with_reducible apply gR); (first | refine RK.peelN rfl ?_ | refine RK.donef rfl ⟨_, rfl, ?_⟩ | refine RK.donet rfl (by kernel_rfl) ⟨_, rfl, ?_⟩))
    | ((with_reducible apply gW); (first | with_reducible apply WP.seq | refine WP.reg mixed (fun ks => _) (fun ks => rfl) (fun ks => ?_) | ((first | (apply cdD; apply Eq.refl) | (apply WP.condN; apply Eq.refl) | (apply WP.condA; apply Eq.refl)) <;> (intro hc; (first | with_reducible exact absurd hc z1 | with_reducible exact absurd hc z2 | with_reducible exact absurd hc h0 | with_reducible exact absurd hc h1 | with_reducible exact absurd h0 hc | with_reducible exact absurd h1 hc | exact absurd hc (by decide) | skip))) | apply WP.ret | apply WP.skip | apply WP.block))
    | (first | with_reducible apply thn_n | with_reducible apply thn_r | with_reducible apply blk_n | with_reducible apply blk_r)
    | (refine Endz.mk' en_ rv_ (by rfl) sb_))) : p := h

set_option maxHeartbeats 4000000 in
theorem ref_Read_none {ob : AObj} {k f cap : Nat} {B : Nat → Int} (bt : Bt ob f 44 B) (h44 : 44 ≤ cap) (h0 : ¬ B 0 = 165) : Ctr Tryz.prog 7 75 [.slice (some ⟨k, f, none⟩) 44 cap] [(k, ob)] (.tuple #[.agg #[.int .u32 0, I64 0, .int .u32 0, I64 0, I64 0, I64 0, I64 0], I64 107]) [ob] := by
  have z1 : ¬ ((44 : Nat) : Int) < 44 := by decide
  have z2 : ¬ ((44 : Nat) : Int) > 44 := by decide
  refine Ctr.by layOk Tryz.func75 Tryz.ntmps75 rfl rfl rfl rfl rfl ?_
  exact wk_P8_0

set_option maxHeartbeats 4000000 in
theorem ref_Read_sum {ob : AObj} {k f cap : Nat} {B : Nat → Int} (bt : Bt ob f 44 B) (h44 : 44 ≤ cap) (h0 : B 0 = 165) (h1 : ¬ IntKind.u64.wrap (crcN (fun i => B (1 + i)) 65535 41) = numN (fun i => B (42 + i)) 2) : Ctr Tryz.prog 7 75 [.slice (some ⟨k, f, none⟩) 44 cap] [(k, ob)] (.tuple #[.agg #[.int .u32 0, I64 0, .int .u32 0, I64 0, I64 0, I64 0, I64 0], I64 104]) [ob] := by
  have z1 : ¬ ((44 : Nat) : Int) < 44 := by decide
  have z2 : ¬ ((44 : Nat) : Int) > 44 := by decide
  refine Ctr.by layOk Tryz.func75 Tryz.ntmps75 rfl rfl rfl rfl rfl ?_
  exact wk_P8_0

set_option maxHeartbeats 4000000 in
theorem ref_Read_bad {ob : AObj} {k f cap : Nat} {B : Nat → Int} (bt : Bt ob f 44 B) (h44 : 44 ≤ cap) (h0 : B 0 = 165) (h1 : IntKind.u64.wrap (crcN (fun i => B (1 + i)) 65535 41) = numN (fun i => B (42 + i)) 2) (h2 : recOk B = false) : Ctr Tryz.prog 7 75 [.slice (some ⟨k, f, none⟩) 44 cap] [(k, ob)] (.tuple #[.agg #[.int .u32 0, I64 0, .int .u32 0, I64 0, I64 0, I64 0, I64 0], I64 101]) [ob] := by
  have z1 : ¬ ((44 : Nat) : Int) < 44 := by decide
  have z2 : ¬ ((44 : Nat) : Int) > 44 := by decide
  refine Ctr.by layOk Tryz.func75 Tryz.ntmps75 rfl rfl rfl rfl rfl ?_
  exact wk_P8_0

set_option maxHeartbeats 4000000 in
theorem ref_Read_ok {ob : AObj} {k f cap : Nat} {B : Nat → Int} (bt : Bt ob f 44 B) (h44 : 44 ≤ cap) (h0 : B 0 = 165) (h1 : IntKind.u64.wrap (crcN (fun i => B (1 + i)) 65535 41) = numN (fun i => B (42 + i)) 2) (h2 : recOk B = true) : Ctr Tryz.prog 7 75 [.slice (some ⟨k, f, none⟩) 44 cap] [(k, ob)] (.tuple #[.agg #[.int .u32 (IntKind.u32.wrap (numN (fun i => B (1 + i)) 4)), I64 (IntKind.i64.wrap (B 5)), .int .u32 (IntKind.u32.wrap (numN (fun i => B (6 + i)) 4)), I64 (IntKind.i64.wrap (numN (fun i => B (10 + i)) 8)), I64 (IntKind.i64.wrap (numN (fun i => B (18 + i)) 8)), I64 (IntKind.i64.wrap (numN (fun i => B (26 + i)) 8)), I64 (IntKind.i64.wrap (numN (fun i => B (34 + i)) 8))], I64 0]) [ob] := by
  have z1 : ¬ ((44 : Nat) : Int) < 44 := by decide
  have z2 : ¬ ((44 : Nat) : Int) > 44 := by decide
  refine Ctr.by layOk Tryz.func75 Tryz.ntmps75 rfl rfl rfl rfl rfl ?_
  exact wk_P8_0
end Go.Proofs.YtekcchmnncefhaaGreatDoor
namespace Go.Proofs.YtekcchmnncefhaaGreatDoor
open Go Go.Proofs.YtekcchmnncefhaaGreatDoorAB
set_option linter.unusedSimpArgs false
set_option linter.unusedVariables false
set_option maxRecDepth 20000
theorem wk_P9_0 {p : Prop} (h : p := by
  repeat' (first
    | ((first | (with_reducible apply gQ0) | ((with_reducible apply gQ1); exact wt_)); (first | (apply q_move; apply Eq.refl) | (apply q_assign; apply Eq.refl) | (apply q_int; (iterate 3 apply Eq.refl)) | (apply q_pick_t; apply Eq.refl; apply Eq.refl) | (apply q_pick_f; apply Eq.refl; apply Eq.refl)))
    | ((with_reducible apply gR); (first | refine RK.peelN rfl ?_ | refine RK.donef rfl ⟨_, rfl, ?_⟩))
    | ((with_reducible apply gQv); focus exact wf_)
    | ((with_reducible apply gK); (fail_if_success ((apply gM); (iterate 3 apply Eq.refl))); ((apply gsD; (iterate 4 apply Eq.refl)) <;> intro hc))
    | ((with_reducible apply gW); (first | with_reducible apply WP.seq | refine WP.reg mixed (fun ks => _) (fun ks => rfl) (fun ks => ?_) | apply WP.ret))
    | (with_reducible apply thn_n)
    | (refine Endz.mk' en_ rv_ (by first | rfl | (simp [tup, laterB, *]; done) | (simp [tup, laterB, *]; rfl) | (simp_all [tup, laterB]; done)) sb_))) : p := h
theorem wk_P9_1 {p : Prop} (h : p := by
  repeat' (first
    | ((with_reducible apply gQ0); (first | (apply q_move; apply Eq.refl) | (apply q_assign; apply Eq.refl) | (apply q_int; (iterate 3 apply Eq.refl)) | (apply q_load layOk; (iterate 3 apply Eq.refl); exact lk_; apply Eq.refl) | (apply q_len layOk; (iterate 4 apply Eq.refl))))
    | ((with_reducible apply gR); (first | refine RK.peelN rfl ?_ | refine RK.donef rfl ⟨_, rfl, ?_⟩))
    | ((with_reducible apply gW); (first | with_reducible apply WP.seq | refine WP.reg mixed (fun ks => _) (fun ks => rfl) (fun ks => ?_) | ((apply cdD; apply Eq.refl) <;> (intro hc; (first | with_reducible exact absurd hc z1 | with_reducible exact absurd hc z2 | with_reducible exact absurd z1 hc | with_reducible exact absurd z2 hc | skip))) | apply WP.ret | apply WP.skip | apply WP.block))
    | (first | with_reducible apply thn_n | with_reducible apply thn_r | with_reducible apply blk_n | with_reducible apply blk_r)
    | (refine Endz.mk' en_ rv_ (by rfl) sb_))) : p := h
def laterB (a b : Int) : Bool := decide (IntKind.u32.wrap (a - b) ≥ 1 ∧ IntKind.u32.wrap (a - b) ≤ 2147483647)
set_option maxHeartbeats 4000000 in
theorem journal_Later (a b : Int) : Ctr Tryz.prog 7 101 [.int .u32 a, .int .u32 b] [] (.bool (laterB a b)) [] := by
  refine Ctr.by layOk Tryz.func101 Tryz.ntmps101 rfl rfl rfl rfl rfl ?_
  exact wk_P9_0
set_option maxHeartbeats 4000000 in
theorem ref_Later (a b : Int) : Ctr Tryz.prog 7 92 [.int .u32 a, .int .u32 b] [] (.bool (laterB a b)) [] := by
  refine Ctr.by layOk Tryz.func92 Tryz.ntmps92 rfl rfl rfl rfl rfl ?_
  exact wk_P9_0

set_option maxHeartbeats 4000000 in
theorem journal_len_ok (E O : Nat → Nat) {n cap : Nat} {a : Option Addr} (hn : n = 88) : Ctr Tryz.prog 7 60 [.slice a n cap] [(0, .ro 0 [(.iface 245 (.pointer (some ⟨E 0, O 0, none⟩)))]), (1, .ro 0 [(.iface 245 (.pointer (some ⟨E 1, O 1, none⟩)))])] (.nilIface) [.ro 0 [(.iface 245 (.pointer (some ⟨E 0, O 0, none⟩)))], .ro 0 [(.iface 245 (.pointer (some ⟨E 1, O 1, none⟩)))]] := by
  have z1 : ¬ (n : Int) < 88 := by omega
  have z2 : ¬ (n : Int) > 88 := by omega
  refine Ctr.by layOk Tryz.func60 Tryz.ntmps60 rfl rfl rfl rfl rfl ?_
  exact wk_P9_1

set_option maxHeartbeats 4000000 in
theorem ref_len_ok {n cap : Nat} {a : Option Addr} (hn : n = 88) : Ctr Tryz.prog 7 54 [.slice a n cap] [] (I64 0) [] := by
  have z1 : ¬ (n : Int) < 88 := by omega
  have z2 : ¬ (n : Int) > 88 := by omega
  refine Ctr.by layOk Tryz.func54 Tryz.ntmps54 rfl rfl rfl rfl rfl ?_
  exact wk_P9_1

set_option maxHeartbeats 4000000 in
theorem journal_len_short (E O : Nat → Nat) {n cap : Nat} {a : Option Addr} (hn : n < 88) : Ctr Tryz.prog 7 60 [.slice a n cap] [(0, .ro 0 [(.iface 245 (.pointer (some ⟨E 0, O 0, none⟩)))]), (1, .ro 0 [(.iface 245 (.pointer (some ⟨E 1, O 1, none⟩)))])] ((.iface 245 (.pointer (some ⟨E 0, O 0, none⟩)))) [.ro 0 [(.iface 245 (.pointer (some ⟨E 0, O 0, none⟩)))], .ro 0 [(.iface 245 (.pointer (some ⟨E 1, O 1, none⟩)))]] := by
  have z1 : (n : Int) < 88 := by omega
  refine Ctr.by layOk Tryz.func60 Tryz.ntmps60 rfl rfl rfl rfl rfl ?_
  exact wk_P9_1

set_option maxHeartbeats 4000000 in
theorem ref_len_short {n cap : Nat} {a : Option Addr} (hn : n < 88) : Ctr Tryz.prog 7 54 [.slice a n cap] [] (I64 103) [] := by
  have z1 : (n : Int) < 88 := by omega
  refine Ctr.by layOk Tryz.func54 Tryz.ntmps54 rfl rfl rfl rfl rfl ?_
  exact wk_P9_1

set_option maxHeartbeats 4000000 in
theorem journal_len_long (E O : Nat → Nat) {n cap : Nat} {a : Option Addr} (hn : 88 < n) : Ctr Tryz.prog 7 60 [.slice a n cap] [(0, .ro 0 [(.iface 245 (.pointer (some ⟨E 0, O 0, none⟩)))]), (1, .ro 0 [(.iface 245 (.pointer (some ⟨E 1, O 1, none⟩)))])] ((.iface 245 (.pointer (some ⟨E 1, O 1, none⟩)))) [.ro 0 [(.iface 245 (.pointer (some ⟨E 0, O 0, none⟩)))], .ro 0 [(.iface 245 (.pointer (some ⟨E 1, O 1, none⟩)))]] := by
  have z1 : ¬ (n : Int) < 88 := by omega
  have z2 : (n : Int) > 88 := by omega
  refine Ctr.by layOk Tryz.func60 Tryz.ntmps60 rfl rfl rfl rfl rfl ?_
  exact wk_P9_1

set_option maxHeartbeats 4000000 in
theorem ref_len_long {n cap : Nat} {a : Option Addr} (hn : 88 < n) : Ctr Tryz.prog 7 54 [.slice a n cap] [] (I64 102) [] := by
  have z1 : ¬ (n : Int) < 88 := by omega
  have z2 : (n : Int) > 88 := by omega
  refine Ctr.by layOk Tryz.func54 Tryz.ntmps54 rfl rfl rfl rfl rfl ?_
  exact wk_P9_1

/-- Is it a record? -/
def isRec (B : Nat → Int) : Prop := B 0 = 165 ∧ IntKind.u64.wrap (crcN (fun i => B (1 + i)) 65535 41) = numN (fun i => B (42 + i)) 2 ∧ recOk B = true
theorem slot_Read_no (E O : Nat → Nat) {ob : AObj} {k f cap : Nat} {B : Nat → Int} (bt : Bt ob f 44 B) (h44 : 44 ≤ cap) (h : ¬ isRec B) : ∃ g, Ctr Tryz.prog 7 100 [.slice (some ⟨k, f, none⟩) 44 cap] [(k, ob), (3, .ro 0 [(.iface 245 (.pointer (some ⟨E 3, O 3, none⟩)))]), (6, .ro 0 [(.iface 245 (.pointer (some ⟨E 6, O 6, none⟩)))]), (4, .ro 0 [(.iface 245 (.pointer (some ⟨E 4, O 4, none⟩)))])] (.tuple #[.agg #[.int .u32 0, I64 0, .int .u32 0, I64 0, I64 0, I64 0, I64 0], (.iface 245 (.pointer (some ⟨E g, O g, none⟩)))]) [ob, .ro 0 [(.iface 245 (.pointer (some ⟨E 3, O 3, none⟩)))], .ro 0 [(.iface 245 (.pointer (some ⟨E 6, O 6, none⟩)))], .ro 0 [(.iface 245 (.pointer (some ⟨E 4, O 4, none⟩)))]] := by
  by_cases h0 : B 0 = 165
  · by_cases h1 : IntKind.u64.wrap (crcN (fun i => B (1 + i)) 65535 41) = numN (fun i => B (42 + i)) 2
    · cases h2 : recOk B with
      | true => exact absurd ⟨h0, h1, h2⟩ h
      | false => exact ⟨_, slot_Read_bad E O bt h44 h0 h1 h2⟩
    · exact ⟨_, slot_Read_sum E O bt h44 h0 h1⟩
  · exact ⟨_, slot_Read_none E O bt h44 h0⟩
theorem ref_Read_no {ob : AObj} {k f cap : Nat} {B : Nat → Int} (bt : Bt ob f 44 B) (h44 : 44 ≤ cap) (h : ¬ isRec B) : ∃ c : Int, c ≠ 0 ∧ c ≠ 103 ∧ c ≠ 102 ∧ Ctr Tryz.prog 7 75 [.slice (some ⟨k, f, none⟩) 44 cap] [(k, ob)] (.tuple #[.agg #[.int .u32 0, I64 0, .int .u32 0, I64 0, I64 0, I64 0, I64 0], I64 c]) [ob] := by
  by_cases h0 : B 0 = 165
  · by_cases h1 : IntKind.u64.wrap (crcN (fun i => B (1 + i)) 65535 41) = numN (fun i => B (42 + i)) 2
    · cases h2 : recOk B with
      | true => exact absurd ⟨h0, h1, h2⟩ h
      | false => exact ⟨_, by decide, by decide, by decide, ref_Read_bad bt h44 h0 h1 h2⟩
    · exact ⟨_, by decide, by decide, by decide, ref_Read_sum bt h44 h0 h1⟩
  · exact ⟨_, by decide, by decide, by decide, ref_Read_none bt h44 h0⟩
end Go.Proofs.YtekcchmnncefhaaGreatDoor
namespace Go.Proofs.YtekcchmnncefhaaGreatDoor
open Go Go.Proofs.YtekcchmnncefhaaGreatDoorAB
set_option linter.unusedSimpArgs false
set_option linter.unusedVariables false
set_option maxRecDepth 20000

set_option maxHeartbeats 4000000 in
theorem newest_nn (E O : Nat → Nat) {ob : AObj} {k f cap : Nat} {B : Nat → Int} (bt : Bt ob f 88 B) (h88 : 88 ≤ cap) (i1 : ¬ isRec B) (i2 : ¬ isRec (fun i => B (44 + i))) : Ctr Tryz.prog 7 61 [.slice (some ⟨k, f, none⟩) 88 cap] [(k, ob), (3, .ro 0 [(.iface 245 (.pointer (some ⟨E 3, O 3, none⟩)))]), (6, .ro 0 [(.iface 245 (.pointer (some ⟨E 6, O 6, none⟩)))]), (4, .ro 0 [(.iface 245 (.pointer (some ⟨E 4, O 4, none⟩)))]), (0, .ro 0 [(.iface 245 (.pointer (some ⟨E 0, O 0, none⟩)))]), (1, .ro 0 [(.iface 245 (.pointer (some ⟨E 1, O 1, none⟩)))])] (.tuple #[I64 (-1), .agg #[.int .u32 0, I64 0, .int .u32 0, I64 0, I64 0, I64 0, I64 0]]) [ob, .ro 0 [(.iface 245 (.pointer (some ⟨E 3, O 3, none⟩)))], .ro 0 [(.iface 245 (.pointer (some ⟨E 6, O 6, none⟩)))], .ro 0 [(.iface 245 (.pointer (some ⟨E 4, O 4, none⟩)))], .ro 0 [(.iface 245 (.pointer (some ⟨E 0, O 0, none⟩)))], .ro 0 [(.iface 245 (.pointer (some ⟨E 1, O 1, none⟩)))]] := by
  have bt1 : Bt ob f 44 B := ⟨fun i hi => bt.a i (by omega)⟩
  have bt2 : Bt ob (f + 44 * 1) 44 (fun i => B (44 + i)) := bt.sh 44 44 (by decide)
  have hc1 : 44 ≤ cap := by omega
  obtain ⟨g1, r1⟩ := slot_Read_no E O bt1 hc1 i1
  obtain ⟨g2, r2⟩ := slot_Read_no E O (cap := 44) bt2 (by decide) i2
  refine Ctr.by layOk Tryz.func61 Tryz.ntmps61 rfl rfl rfl rfl rfl ?_
  repeat' (first
    | ((first | (with_reducible apply gQ0) | ((with_reducible apply gQ1); exact wt_)); (first | (apply q_sliceH (m := 44) layOk; (iterate 5 apply Eq.refl); (focus (decide)); exact h88) | (apply q_sliceL (p := 44) layOk; (iterate 5 apply Eq.refl); (focus (decide)); exact h88; (focus (decide))) | (apply q_alloc (k := ks _) layOk; apply Eq.refl; exact lk_; apply Eq.refl) | (apply q_move; apply Eq.refl) | (apply q_assign; apply Eq.refl) | (apply q_build layOk; (iterate 4 apply Eq.refl)) | (apply q_alloc (k := ks _) layOk; apply Eq.refl; exact lk_; apply Eq.refl) | (apply q_pick_t; apply Eq.refl; apply Eq.refl) | (apply q_ifne; (focus (kernel_rfl)); apply Eq.refl) | (apply q_nilne; (focus (kernel_rfl)); apply Eq.refl) | (apply q_extract; apply Eq.refl; apply Eq.refl) | (apply isF (f := 60); (refine q_callR rfl (journal_len_ok E O rfl) rfl fd_ (by decide) ?_)) | (refine q_callR rfl r1 rfl fd_ (by decide) ?_) | (refine q_callR rfl r2 rfl fd_ (by decide) ?_) | (apply e_store layOk; (iterate 3 apply Eq.refl); exact lk_; (iterate 5 apply Eq.refl))))
    | ((with_reducible apply gR); (first | refine RK.peelN rfl ?_ | refine RK.donef rfl ⟨_, rfl, ?_⟩))
    | ((with_reducible apply gQv); focus exact wf_)
    | ((with_reducible apply gK); (fail_if_success ((apply gM); (iterate 3 apply Eq.refl))); ((apply RKo.gsplit; (iterate 4 apply Eq.refl)) <;> (intro hc; (first | with_reducible exact ff hc | with_reducible exact ff' hc | skip))))
    | ((with_reducible apply gW); (first | with_reducible apply WP.seq | refine WP.reg mixed (fun ks => _) (fun ks => rfl) (fun ks => ?_) | ((apply WP.condA; apply Eq.refl) <;> (intro hc; (first | with_reducible exact ff hc | with_reducible exact ff' hc | skip))) | apply WP.ret | apply WP.skip | apply WP.block))
    | (first | with_reducible apply thn_n | with_reducible apply thn_r | with_reducible apply blk_r)
    | (refine Endz.mk' en_ rv_ (by rfl) sb_))

set_option maxHeartbeats 4000000 in
theorem newest_no (E O : Nat → Nat) {ob : AObj} {k f cap : Nat} {B : Nat → Int} (bt : Bt ob f 88 B) (h88 : 88 ≤ cap) (i1 : ¬ isRec B) (i2 : isRec (fun i => B (44 + i))) : Ctr Tryz.prog 7 61 [.slice (some ⟨k, f, none⟩) 88 cap] [(k, ob), (3, .ro 0 [(.iface 245 (.pointer (some ⟨E 3, O 3, none⟩)))]), (6, .ro 0 [(.iface 245 (.pointer (some ⟨E 6, O 6, none⟩)))]), (4, .ro 0 [(.iface 245 (.pointer (some ⟨E 4, O 4, none⟩)))]), (0, .ro 0 [(.iface 245 (.pointer (some ⟨E 0, O 0, none⟩)))]), (1, .ro 0 [(.iface 245 (.pointer (some ⟨E 1, O 1, none⟩)))])] (.tuple #[I64 1, .agg #[.int .u32 (IntKind.u32.wrap (numN (fun i => (fun i => B (44 + i)) (1 + i)) 4)), I64 (IntKind.i64.wrap ((fun i => B (44 + i)) 5)), .int .u32 (IntKind.u32.wrap (numN (fun i => (fun i => B (44 + i)) (6 + i)) 4)), I64 (IntKind.i64.wrap (numN (fun i => (fun i => B (44 + i)) (10 + i)) 8)), I64 (IntKind.i64.wrap (numN (fun i => (fun i => B (44 + i)) (18 + i)) 8)), I64 (IntKind.i64.wrap (numN (fun i => (fun i => B (44 + i)) (26 + i)) 8)), I64 (IntKind.i64.wrap (numN (fun i => (fun i => B (44 + i)) (34 + i)) 8))]]) [ob, .ro 0 [(.iface 245 (.pointer (some ⟨E 3, O 3, none⟩)))], .ro 0 [(.iface 245 (.pointer (some ⟨E 6, O 6, none⟩)))], .ro 0 [(.iface 245 (.pointer (some ⟨E 4, O 4, none⟩)))], .ro 0 [(.iface 245 (.pointer (some ⟨E 0, O 0, none⟩)))], .ro 0 [(.iface 245 (.pointer (some ⟨E 1, O 1, none⟩)))]] := by
  have bt1 : Bt ob f 44 B := ⟨fun i hi => bt.a i (by omega)⟩
  have bt2 : Bt ob (f + 44 * 1) 44 (fun i => B (44 + i)) := bt.sh 44 44 (by decide)
  have hc1 : 44 ≤ cap := by omega
  obtain ⟨g1, r1⟩ := slot_Read_no E O bt1 hc1 i1
  refine Ctr.by layOk Tryz.func61 Tryz.ntmps61 rfl rfl rfl rfl rfl ?_
  repeat' (first
    | ((first | (with_reducible apply gQ0) | ((with_reducible apply gQ1); exact wt_)); (first | (apply q_sliceH (m := 44) layOk; (iterate 5 apply Eq.refl); (focus (decide)); exact h88) | (apply q_sliceL (p := 44) layOk; (iterate 5 apply Eq.refl); (focus (decide)); exact h88; (focus (decide))) | (apply q_alloc (k := ks _) layOk; apply Eq.refl; exact lk_; apply Eq.refl) | (apply q_move; apply Eq.refl) | (apply q_assign; apply Eq.refl) | (apply q_loadr layOk; (iterate 3 apply Eq.refl); exact lk_; apply Eq.refl) | (apply q_alloc (k := ks _) layOk; apply Eq.refl; exact lk_; apply Eq.refl) | (apply q_pick_t; apply Eq.refl; apply Eq.refl) | (apply q_ifne; (focus (kernel_rfl)); apply Eq.refl) | (apply q_nilne; (focus (kernel_rfl)); apply Eq.refl) | (apply q_extract; apply Eq.refl; apply Eq.refl) | (apply isF (f := 60); (refine q_callR rfl (journal_len_ok E O rfl) rfl fd_ (by decide) ?_)) | (refine q_callR rfl r1 rfl fd_ (by decide) ?_) | (apply isF (f := 100); (refine q_callR rfl (slot_Read_ok E O bt2 (by decide) i2.1 i2.2.1 i2.2.2) rfl fd_ (by decide) ?_)) | (apply e_store layOk; (iterate 3 apply Eq.refl); exact lk_; (iterate 5 apply Eq.refl))))
    | ((with_reducible apply gR); (first | refine RK.peelN rfl ?_ | refine RK.donef rfl ⟨_, rfl, ?_⟩ | refine RK.donet rfl (by kernel_rfl) ⟨_, rfl, ?_⟩))
    | ((with_reducible apply gQv); focus exact wf_)
    | ((with_reducible apply gK); (fail_if_success ((apply gM); (iterate 3 apply Eq.refl))); ((apply RKo.gsplit; (iterate 4 apply Eq.refl)) <;> (intro hc; (first | with_reducible exact ff hc | with_reducible exact ff' hc | skip))))
    | ((with_reducible apply gW); (first | with_reducible apply WP.seq | refine WP.reg mixed (fun ks => _) (fun ks => rfl) (fun ks => ?_) | ((apply WP.condA; apply Eq.refl) <;> (intro hc; (first | with_reducible exact ff hc | with_reducible exact ff' hc | skip))) | apply WP.ret | apply WP.skip | apply WP.block))
    | (first | with_reducible apply thn_n | with_reducible apply thn_r | with_reducible apply blk_r)
    | (refine Endz.mk' en_ rv_ (by rfl) sb_))

set_option maxHeartbeats 4000000 in
theorem newest_on (E O : Nat → Nat) {ob : AObj} {k f cap : Nat} {B : Nat → Int} (bt : Bt ob f 88 B) (h88 : 88 ≤ cap) (i1 : isRec B) (i2 : ¬ isRec (fun i => B (44 + i))) : Ctr Tryz.prog 7 61 [.slice (some ⟨k, f, none⟩) 88 cap] [(k, ob), (3, .ro 0 [(.iface 245 (.pointer (some ⟨E 3, O 3, none⟩)))]), (6, .ro 0 [(.iface 245 (.pointer (some ⟨E 6, O 6, none⟩)))]), (4, .ro 0 [(.iface 245 (.pointer (some ⟨E 4, O 4, none⟩)))]), (0, .ro 0 [(.iface 245 (.pointer (some ⟨E 0, O 0, none⟩)))]), (1, .ro 0 [(.iface 245 (.pointer (some ⟨E 1, O 1, none⟩)))])] (.tuple #[I64 0, .agg #[.int .u32 (IntKind.u32.wrap (numN (fun i => B (1 + i)) 4)), I64 (IntKind.i64.wrap (B 5)), .int .u32 (IntKind.u32.wrap (numN (fun i => B (6 + i)) 4)), I64 (IntKind.i64.wrap (numN (fun i => B (10 + i)) 8)), I64 (IntKind.i64.wrap (numN (fun i => B (18 + i)) 8)), I64 (IntKind.i64.wrap (numN (fun i => B (26 + i)) 8)), I64 (IntKind.i64.wrap (numN (fun i => B (34 + i)) 8))]]) [ob, .ro 0 [(.iface 245 (.pointer (some ⟨E 3, O 3, none⟩)))], .ro 0 [(.iface 245 (.pointer (some ⟨E 6, O 6, none⟩)))], .ro 0 [(.iface 245 (.pointer (some ⟨E 4, O 4, none⟩)))], .ro 0 [(.iface 245 (.pointer (some ⟨E 0, O 0, none⟩)))], .ro 0 [(.iface 245 (.pointer (some ⟨E 1, O 1, none⟩)))]] := by
  have bt1 : Bt ob f 44 B := ⟨fun i hi => bt.a i (by omega)⟩
  have bt2 : Bt ob (f + 44 * 1) 44 (fun i => B (44 + i)) := bt.sh 44 44 (by decide)
  have hc1 : 44 ≤ cap := by omega
  obtain ⟨g2, r2⟩ := slot_Read_no E O (cap := 44) bt2 (by decide) i2
  refine Ctr.by layOk Tryz.func61 Tryz.ntmps61 rfl rfl rfl rfl rfl ?_
  repeat' (first
    | ((first | (with_reducible apply gQ0) | ((with_reducible apply gQ1); exact wt_)); (first | (apply q_sliceH (m := 44) layOk; (iterate 5 apply Eq.refl); (focus (decide)); exact h88) | (apply q_sliceL (p := 44) layOk; (iterate 5 apply Eq.refl); (focus (decide)); exact h88; (focus (decide))) | (apply q_alloc (k := ks _) layOk; apply Eq.refl; exact lk_; apply Eq.refl) | (apply q_move; apply Eq.refl) | (apply q_assign; apply Eq.refl) | (apply q_loadr layOk; (iterate 3 apply Eq.refl); exact lk_; apply Eq.refl) | (apply q_alloc (k := ks _) layOk; apply Eq.refl; exact lk_; apply Eq.refl) | (apply q_pick_f; apply Eq.refl; apply Eq.refl) | (apply q_ifeq; (focus (kernel_rfl)); apply Eq.refl) | (apply q_nilne; (focus (kernel_rfl)); apply Eq.refl) | (apply q_extract; apply Eq.refl; apply Eq.refl) | (apply isF (f := 60); (refine q_callR rfl (journal_len_ok E O rfl) rfl fd_ (by decide) ?_)) | (apply isF (f := 100); (refine q_callR rfl (slot_Read_ok E O bt1 hc1 i1.1 i1.2.1 i1.2.2) rfl fd_ (by decide) ?_)) | (refine q_callR rfl r2 rfl fd_ (by decide) ?_) | (apply e_store layOk; (iterate 3 apply Eq.refl); exact lk_; (iterate 5 apply Eq.refl))))
    | ((with_reducible apply gR); (first | refine RK.peelN rfl ?_ | refine RK.donef rfl ⟨_, rfl, ?_⟩ | refine RK.donet rfl (by kernel_rfl) ⟨_, rfl, ?_⟩))
    | ((with_reducible apply gQv); focus exact wf_)
    | ((with_reducible apply gK); (fail_if_success ((apply gM); (iterate 3 apply Eq.refl))); ((apply RKo.gsplit; (iterate 4 apply Eq.refl)) <;> (intro hc; (first | with_reducible exact ff' hc | skip))))
    | ((with_reducible apply gW); (first | with_reducible apply WP.seq | refine WP.reg mixed (fun ks => _) (fun ks => rfl) (fun ks => ?_) | ((apply WP.condA; apply Eq.refl) <;> (intro hc; (first | with_reducible exact ff' hc | skip))) | apply WP.ret | apply WP.skip | apply WP.block))
    | (first | with_reducible apply thn_n | with_reducible apply blk_n)
    | (refine Endz.mk' en_ rv_ (by rfl) sb_))

set_option maxHeartbeats 4000000 in
theorem newest_oo_t (E O : Nat → Nat) {ob : AObj} {k f cap : Nat} {B : Nat → Int} (bt : Bt ob f 88 B) (h88 : 88 ≤ cap) (i1 : isRec B) (i2 : isRec (fun i => B (44 + i))) (hl : laterB (IntKind.u32.wrap (numN (fun i => (fun i => B (44 + i)) (1 + i)) 4)) (IntKind.u32.wrap (numN (fun i => B (1 + i)) 4)) = true) : Ctr Tryz.prog 7 61 [.slice (some ⟨k, f, none⟩) 88 cap] [(k, ob), (3, .ro 0 [(.iface 245 (.pointer (some ⟨E 3, O 3, none⟩)))]), (6, .ro 0 [(.iface 245 (.pointer (some ⟨E 6, O 6, none⟩)))]), (4, .ro 0 [(.iface 245 (.pointer (some ⟨E 4, O 4, none⟩)))]), (0, .ro 0 [(.iface 245 (.pointer (some ⟨E 0, O 0, none⟩)))]), (1, .ro 0 [(.iface 245 (.pointer (some ⟨E 1, O 1, none⟩)))])] (.tuple #[I64 1, .agg #[.int .u32 (IntKind.u32.wrap (numN (fun i => (fun i => B (44 + i)) (1 + i)) 4)), I64 (IntKind.i64.wrap ((fun i => B (44 + i)) 5)), .int .u32 (IntKind.u32.wrap (numN (fun i => (fun i => B (44 + i)) (6 + i)) 4)), I64 (IntKind.i64.wrap (numN (fun i => (fun i => B (44 + i)) (10 + i)) 8)), I64 (IntKind.i64.wrap (numN (fun i => (fun i => B (44 + i)) (18 + i)) 8)), I64 (IntKind.i64.wrap (numN (fun i => (fun i => B (44 + i)) (26 + i)) 8)), I64 (IntKind.i64.wrap (numN (fun i => (fun i => B (44 + i)) (34 + i)) 8))]]) [ob, .ro 0 [(.iface 245 (.pointer (some ⟨E 3, O 3, none⟩)))], .ro 0 [(.iface 245 (.pointer (some ⟨E 6, O 6, none⟩)))], .ro 0 [(.iface 245 (.pointer (some ⟨E 4, O 4, none⟩)))], .ro 0 [(.iface 245 (.pointer (some ⟨E 0, O 0, none⟩)))], .ro 0 [(.iface 245 (.pointer (some ⟨E 1, O 1, none⟩)))]] := by
  have bt1 : Bt ob f 44 B := ⟨fun i hi => bt.a i (by omega)⟩
  have bt2 : Bt ob (f + 44 * 1) 44 (fun i => B (44 + i)) := bt.sh 44 44 (by decide)
  have hc1 : 44 ≤ cap := by omega
  have hl2 : ¬ laterB (IntKind.u32.wrap (numN (fun i => (fun i => B (44 + i)) (1 + i)) 4)) (IntKind.u32.wrap (numN (fun i => B (1 + i)) 4)) = false := by rw [hl]; decide
  have hl3 := of_decide_eq_true hl
  refine Ctr.by layOk Tryz.func61 Tryz.ntmps61 rfl rfl rfl rfl rfl ?_
  repeat' (first
    | ((first | (with_reducible apply gQ0) | ((with_reducible apply gQ1); exact wt_)); (first | (apply q_sliceH (m := 44) layOk; (iterate 5 apply Eq.refl); (focus (decide)); exact h88) | (apply q_sliceL (p := 44) layOk; (iterate 5 apply Eq.refl); (focus (decide)); exact h88; (focus (decide))) | (apply q_alloc (k := ks _) layOk; apply Eq.refl; exact lk_; apply Eq.refl) | (apply q_move; apply Eq.refl) | (apply q_assign; apply Eq.refl) | (apply q_fa layOk; (iterate 5 apply Eq.refl)) | (apply q_load layOk; (iterate 3 apply Eq.refl); exact lk_; apply Eq.refl) | (apply q_loadr layOk; (iterate 3 apply Eq.refl); exact lk_; apply Eq.refl) | (apply q_alloc (k := ks _) layOk; apply Eq.refl; exact lk_; apply Eq.refl) | (apply q_pick_t; apply Eq.refl; apply Eq.refl) | (apply q_pick_f; apply Eq.refl; apply Eq.refl) | (apply q_nileq; (focus (kernel_rfl)); apply Eq.refl) | (apply q_nilne; (focus (kernel_rfl)); apply Eq.refl) | (apply q_extract; apply Eq.refl; apply Eq.refl) | (apply isF (f := 60); (refine q_callR rfl (journal_len_ok E O rfl) rfl fd_ (by decide) ?_)) | (apply isF (f := 101); (refine q_call0 rfl (journal_Later _ _) ?_)) | (apply isF (f := 100); (refine q_callR rfl (slot_Read_ok E O bt1 hc1 i1.1 i1.2.1 i1.2.2) rfl fd_ (by decide) ?_)) | (apply isF (f := 100); (refine q_callR rfl (slot_Read_ok E O bt2 (by decide) i2.1 i2.2.1 i2.2.2) rfl fd_ (by decide) ?_)) | (apply e_store layOk; (iterate 3 apply Eq.refl); exact lk_; (iterate 5 apply Eq.refl))))
    | ((with_reducible apply gR); (first | refine RK.peelN rfl ?_ | refine RK.donef rfl ⟨_, rfl, ?_⟩ | refine RK.donet rfl (by kernel_rfl) ⟨_, rfl, ?_⟩))
    | ((with_reducible apply gQv); focus exact wf_)
    | ((with_reducible apply gK); (fail_if_success ((apply gM); (iterate 3 apply Eq.refl))); ((apply RKo.gsplit; (iterate 4 apply Eq.refl)) <;> (intro hc; (first | with_reducible exact ff hc | with_reducible exact ff' hc | with_reducible exact absurd hl3 hc | skip))))
    | ((with_reducible apply gW); (first | with_reducible apply WP.seq | refine WP.reg mixed (fun ks => _) (fun ks => rfl) (fun ks => ?_) | ((first | (apply cdD; apply Eq.refl) | (apply WP.condA; apply Eq.refl)) <;> (intro hc; (first | with_reducible exact ff hc | with_reducible exact ff' hc | with_reducible exact absurd hl3 hc | skip))) | apply WP.ret | apply WP.skip | apply WP.block))
    | (first | with_reducible apply thn_n | with_reducible apply thn_r | with_reducible apply blk_r)
    | (refine Endz.mk' en_ rv_ (by rfl) sb_))

set_option maxHeartbeats 4000000 in
theorem newest_oo_f (E O : Nat → Nat) {ob : AObj} {k f cap : Nat} {B : Nat → Int} (bt : Bt ob f 88 B) (h88 : 88 ≤ cap) (i1 : isRec B) (i2 : isRec (fun i => B (44 + i))) (hl : laterB (IntKind.u32.wrap (numN (fun i => (fun i => B (44 + i)) (1 + i)) 4)) (IntKind.u32.wrap (numN (fun i => B (1 + i)) 4)) = false) : Ctr Tryz.prog 7 61 [.slice (some ⟨k, f, none⟩) 88 cap] [(k, ob), (3, .ro 0 [(.iface 245 (.pointer (some ⟨E 3, O 3, none⟩)))]), (6, .ro 0 [(.iface 245 (.pointer (some ⟨E 6, O 6, none⟩)))]), (4, .ro 0 [(.iface 245 (.pointer (some ⟨E 4, O 4, none⟩)))]), (0, .ro 0 [(.iface 245 (.pointer (some ⟨E 0, O 0, none⟩)))]), (1, .ro 0 [(.iface 245 (.pointer (some ⟨E 1, O 1, none⟩)))])] (.tuple #[I64 0, .agg #[.int .u32 (IntKind.u32.wrap (numN (fun i => B (1 + i)) 4)), I64 (IntKind.i64.wrap (B 5)), .int .u32 (IntKind.u32.wrap (numN (fun i => B (6 + i)) 4)), I64 (IntKind.i64.wrap (numN (fun i => B (10 + i)) 8)), I64 (IntKind.i64.wrap (numN (fun i => B (18 + i)) 8)), I64 (IntKind.i64.wrap (numN (fun i => B (26 + i)) 8)), I64 (IntKind.i64.wrap (numN (fun i => B (34 + i)) 8))]]) [ob, .ro 0 [(.iface 245 (.pointer (some ⟨E 3, O 3, none⟩)))], .ro 0 [(.iface 245 (.pointer (some ⟨E 6, O 6, none⟩)))], .ro 0 [(.iface 245 (.pointer (some ⟨E 4, O 4, none⟩)))], .ro 0 [(.iface 245 (.pointer (some ⟨E 0, O 0, none⟩)))], .ro 0 [(.iface 245 (.pointer (some ⟨E 1, O 1, none⟩)))]] := by
  have bt1 : Bt ob f 44 B := ⟨fun i hi => bt.a i (by omega)⟩
  have bt2 : Bt ob (f + 44 * 1) 44 (fun i => B (44 + i)) := bt.sh 44 44 (by decide)
  have hc1 : 44 ≤ cap := by omega
  have hl2 : ¬ laterB (IntKind.u32.wrap (numN (fun i => (fun i => B (44 + i)) (1 + i)) 4)) (IntKind.u32.wrap (numN (fun i => B (1 + i)) 4)) = true := by rw [hl]; decide
  have hl3 := of_decide_eq_false hl
  refine Ctr.by layOk Tryz.func61 Tryz.ntmps61 rfl rfl rfl rfl rfl ?_
  repeat' (first
    | ((first | (with_reducible apply gQ0) | ((with_reducible apply gQ1); exact wt_)); (first | (apply q_sliceH (m := 44) layOk; (iterate 5 apply Eq.refl); (focus (decide)); exact h88) | (apply q_sliceL (p := 44) layOk; (iterate 5 apply Eq.refl); (focus (decide)); exact h88; (focus (decide))) | (apply q_alloc (k := ks _) layOk; apply Eq.refl; exact lk_; apply Eq.refl) | (apply q_move; apply Eq.refl) | (apply q_assign; apply Eq.refl) | (apply q_fa layOk; (iterate 5 apply Eq.refl)) | (apply q_load layOk; (iterate 3 apply Eq.refl); exact lk_; apply Eq.refl) | (apply q_loadr layOk; (iterate 3 apply Eq.refl); exact lk_; apply Eq.refl) | (apply q_alloc (k := ks _) layOk; apply Eq.refl; exact lk_; apply Eq.refl) | (apply q_pick_t; apply Eq.refl; apply Eq.refl) | (apply q_pick_f; apply Eq.refl; apply Eq.refl) | (apply q_nileq; (focus (kernel_rfl)); apply Eq.refl) | (apply q_nilne; (focus (kernel_rfl)); apply Eq.refl) | (apply q_extract; apply Eq.refl; apply Eq.refl) | (apply isF (f := 60); (refine q_callR rfl (journal_len_ok E O rfl) rfl fd_ (by decide) ?_)) | (apply isF (f := 101); (refine q_call0 rfl (journal_Later _ _) ?_)) | (apply isF (f := 100); (refine q_callR rfl (slot_Read_ok E O bt1 hc1 i1.1 i1.2.1 i1.2.2) rfl fd_ (by decide) ?_)) | (apply isF (f := 100); (refine q_callR rfl (slot_Read_ok E O bt2 (by decide) i2.1 i2.2.1 i2.2.2) rfl fd_ (by decide) ?_)) | (apply e_store layOk; (iterate 3 apply Eq.refl); exact lk_; (iterate 5 apply Eq.refl))))
    | ((with_reducible apply gR); (first | refine RK.peelN rfl ?_ | refine RK.donef rfl ⟨_, rfl, ?_⟩ | refine RK.donet rfl (by kernel_rfl) ⟨_, rfl, ?_⟩))
    | ((with_reducible apply gQv); focus exact wf_)
    | ((with_reducible apply gK); (fail_if_success ((apply gM); (iterate 3 apply Eq.refl))); ((apply RKo.gsplit; (iterate 4 apply Eq.refl)) <;> (intro hc; (first | with_reducible exact ff hc | with_reducible exact ff' hc | with_reducible exact absurd hc hl3 | skip))))
    | ((with_reducible apply gW); (first | with_reducible apply WP.seq | refine WP.reg mixed (fun ks => _) (fun ks => rfl) (fun ks => ?_) | ((first | (apply cdD; apply Eq.refl) | (apply WP.condA; apply Eq.refl)) <;> (intro hc; (first | with_reducible exact ff hc | with_reducible exact ff' hc | with_reducible exact absurd hc hl3 | skip))) | apply WP.ret | apply WP.skip | apply WP.block))
    | (first | with_reducible apply thn_n | with_reducible apply blk_n)
    | (refine Endz.mk' en_ rv_ (by rfl) sb_))
end Go.Proofs.YtekcchmnncefhaaGreatDoor
namespace Go.Proofs.YtekcchmnncefhaaGreatDoor
open Go Go.Proofs.YtekcchmnncefhaaGreatDoorAB
set_option linter.unusedSimpArgs false
set_option linter.unusedVariables false
set_option maxRecDepth 20000
theorem wk_P11_0 {p : Prop} (h : p := by
  repeat' (first
    | ((with_reducible apply gQ0); (first | (apply q_alloc (k := ks _) layOk; apply Eq.refl; exact lk_; apply Eq.refl) | (apply q_move; apply Eq.refl) | (apply q_assign; apply Eq.refl) | (apply q_int; (iterate 3 apply Eq.refl)) | (apply q_load layOk; (iterate 3 apply Eq.refl); exact lk_; apply Eq.refl) | (apply q_loadr layOk; (iterate 3 apply Eq.refl); exact lk_; apply Eq.refl) | (apply q_build layOk; (iterate 4 apply Eq.refl)) | (apply q_nilne; (focus (kernel_rfl)); apply Eq.refl) | (apply q_extract; apply Eq.refl; apply Eq.refl) | (apply q_ifne; (focus (kernel_rfl)); apply Eq.refl) | (apply isF (f := 60); (refine q_callR rfl (journal_len_ok E O rfl) rfl fd_ (by decide) ?_)) | (apply isF (f := 61); (refine q_callR rfl (newest_nn E O bt h88 i1 i2) rfl fd_ (by decide) ?_)) | (apply isF (f := 61); (refine q_callR rfl (newest_no E O bt h88 i1 i2) rfl fd_ (by decide) ?_)) | (apply isF (f := 61); (refine q_callR rfl (newest_on E O bt h88 i1 i2) rfl fd_ (by decide) ?_)) | (apply isF (f := 61); (refine q_callR rfl (newest_oo_t E O bt h88 i1 i2 hl) rfl fd_ (by decide) ?_)) | (apply isF (f := 61); (refine q_callR rfl (newest_oo_f E O bt h88 i1 i2 hl) rfl fd_ (by decide) ?_)) | (apply isF (f := 60); (refine q_callR rfl (journal_len_short E O hn) rfl fd_ (by decide) ?_)) | (apply isF (f := 60); (refine q_callR rfl (journal_len_long E O hn) rfl fd_ (by decide) ?_)) | (apply e_store layOk; (iterate 3 apply Eq.refl); exact lk_; (iterate 5 apply Eq.refl))))
    | ((with_reducible apply gR); (first | refine RK.peelN rfl ?_ | refine RK.donef rfl ⟨_, rfl, ?_⟩ | refine RK.donet rfl (by kernel_rfl) ⟨_, rfl, ?_⟩))
    | ((with_reducible apply gW); (first | with_reducible apply WP.seq | refine WP.reg mixed (fun ks => _) (fun ks => rfl) (fun ks => ?_) | ((first | (apply cdD; apply Eq.refl) | (apply WP.condA; apply Eq.refl)) <;> (intro hc; (first | with_reducible exact ff' hc | exact absurd hc (by decide) | with_reducible exact ff hc | skip))) | apply WP.ret | apply WP.skip))
    | (first | with_reducible apply thn_n | with_reducible apply thn_r)
    | (refine Endz.mk' en_ rv_ (by rfl) sb_))) : p := h

set_option maxHeartbeats 4000000 in
theorem recover_nn (E O : Nat → Nat) {ob : AObj} {k f cap : Nat} {B : Nat → Int} (bt : Bt ob f 88 B) (h88 : 88 ≤ cap) (i1 : ¬ isRec B) (i2 : ¬ isRec (fun i => B (44 + i))) : Ctr Tryz.prog 7 17 [.slice (some ⟨k, f, none⟩) 88 cap] [(k, ob), (3, .ro 0 [(.iface 245 (.pointer (some ⟨E 3, O 3, none⟩)))]), (6, .ro 0 [(.iface 245 (.pointer (some ⟨E 6, O 6, none⟩)))]), (4, .ro 0 [(.iface 245 (.pointer (some ⟨E 4, O 4, none⟩)))]), (0, .ro 0 [(.iface 245 (.pointer (some ⟨E 0, O 0, none⟩)))]), (1, .ro 0 [(.iface 245 (.pointer (some ⟨E 1, O 1, none⟩)))])] (.tuple #[.agg #[.int .u32 0, I64 0, .int .u32 0, I64 0, I64 0, I64 0, I64 0], (.iface 245 (.pointer (some ⟨E 3, O 3, none⟩)))]) [ob, .ro 0 [(.iface 245 (.pointer (some ⟨E 3, O 3, none⟩)))], .ro 0 [(.iface 245 (.pointer (some ⟨E 6, O 6, none⟩)))], .ro 0 [(.iface 245 (.pointer (some ⟨E 4, O 4, none⟩)))], .ro 0 [(.iface 245 (.pointer (some ⟨E 0, O 0, none⟩)))], .ro 0 [(.iface 245 (.pointer (some ⟨E 1, O 1, none⟩)))]] := by
  refine Ctr.by layOk Tryz.func17 Tryz.ntmps17 rfl rfl rfl rfl rfl ?_
  exact wk_P11_0

set_option maxHeartbeats 4000000 in
theorem recover_no (E O : Nat → Nat) {ob : AObj} {k f cap : Nat} {B : Nat → Int} (bt : Bt ob f 88 B) (h88 : 88 ≤ cap) (i1 : ¬ isRec B) (i2 : isRec (fun i => B (44 + i))) : Ctr Tryz.prog 7 17 [.slice (some ⟨k, f, none⟩) 88 cap] [(k, ob), (3, .ro 0 [(.iface 245 (.pointer (some ⟨E 3, O 3, none⟩)))]), (6, .ro 0 [(.iface 245 (.pointer (some ⟨E 6, O 6, none⟩)))]), (4, .ro 0 [(.iface 245 (.pointer (some ⟨E 4, O 4, none⟩)))]), (0, .ro 0 [(.iface 245 (.pointer (some ⟨E 0, O 0, none⟩)))]), (1, .ro 0 [(.iface 245 (.pointer (some ⟨E 1, O 1, none⟩)))])] (.tuple #[.agg #[.int .u32 (IntKind.u32.wrap (numN (fun i => (fun i => B (44 + i)) (1 + i)) 4)), I64 (IntKind.i64.wrap ((fun i => B (44 + i)) 5)), .int .u32 (IntKind.u32.wrap (numN (fun i => (fun i => B (44 + i)) (6 + i)) 4)), I64 (IntKind.i64.wrap (numN (fun i => (fun i => B (44 + i)) (10 + i)) 8)), I64 (IntKind.i64.wrap (numN (fun i => (fun i => B (44 + i)) (18 + i)) 8)), I64 (IntKind.i64.wrap (numN (fun i => (fun i => B (44 + i)) (26 + i)) 8)), I64 (IntKind.i64.wrap (numN (fun i => (fun i => B (44 + i)) (34 + i)) 8))], .nilIface]) [ob, .ro 0 [(.iface 245 (.pointer (some ⟨E 3, O 3, none⟩)))], .ro 0 [(.iface 245 (.pointer (some ⟨E 6, O 6, none⟩)))], .ro 0 [(.iface 245 (.pointer (some ⟨E 4, O 4, none⟩)))], .ro 0 [(.iface 245 (.pointer (some ⟨E 0, O 0, none⟩)))], .ro 0 [(.iface 245 (.pointer (some ⟨E 1, O 1, none⟩)))]] := by
  refine Ctr.by layOk Tryz.func17 Tryz.ntmps17 rfl rfl rfl rfl rfl ?_
  exact wk_P11_0

set_option maxHeartbeats 4000000 in
theorem recover_on (E O : Nat → Nat) {ob : AObj} {k f cap : Nat} {B : Nat → Int} (bt : Bt ob f 88 B) (h88 : 88 ≤ cap) (i1 : isRec B) (i2 : ¬ isRec (fun i => B (44 + i))) : Ctr Tryz.prog 7 17 [.slice (some ⟨k, f, none⟩) 88 cap] [(k, ob), (3, .ro 0 [(.iface 245 (.pointer (some ⟨E 3, O 3, none⟩)))]), (6, .ro 0 [(.iface 245 (.pointer (some ⟨E 6, O 6, none⟩)))]), (4, .ro 0 [(.iface 245 (.pointer (some ⟨E 4, O 4, none⟩)))]), (0, .ro 0 [(.iface 245 (.pointer (some ⟨E 0, O 0, none⟩)))]), (1, .ro 0 [(.iface 245 (.pointer (some ⟨E 1, O 1, none⟩)))])] (.tuple #[.agg #[.int .u32 (IntKind.u32.wrap (numN (fun i => B (1 + i)) 4)), I64 (IntKind.i64.wrap (B 5)), .int .u32 (IntKind.u32.wrap (numN (fun i => B (6 + i)) 4)), I64 (IntKind.i64.wrap (numN (fun i => B (10 + i)) 8)), I64 (IntKind.i64.wrap (numN (fun i => B (18 + i)) 8)), I64 (IntKind.i64.wrap (numN (fun i => B (26 + i)) 8)), I64 (IntKind.i64.wrap (numN (fun i => B (34 + i)) 8))], .nilIface]) [ob, .ro 0 [(.iface 245 (.pointer (some ⟨E 3, O 3, none⟩)))], .ro 0 [(.iface 245 (.pointer (some ⟨E 6, O 6, none⟩)))], .ro 0 [(.iface 245 (.pointer (some ⟨E 4, O 4, none⟩)))], .ro 0 [(.iface 245 (.pointer (some ⟨E 0, O 0, none⟩)))], .ro 0 [(.iface 245 (.pointer (some ⟨E 1, O 1, none⟩)))]] := by
  refine Ctr.by layOk Tryz.func17 Tryz.ntmps17 rfl rfl rfl rfl rfl ?_
  exact wk_P11_0

set_option maxHeartbeats 4000000 in
theorem recover_oo_t (E O : Nat → Nat) {ob : AObj} {k f cap : Nat} {B : Nat → Int} (bt : Bt ob f 88 B) (h88 : 88 ≤ cap) (i1 : isRec B) (i2 : isRec (fun i => B (44 + i))) (hl : laterB (IntKind.u32.wrap (numN (fun i => (fun i => B (44 + i)) (1 + i)) 4)) (IntKind.u32.wrap (numN (fun i => B (1 + i)) 4)) = true) : Ctr Tryz.prog 7 17 [.slice (some ⟨k, f, none⟩) 88 cap] [(k, ob), (3, .ro 0 [(.iface 245 (.pointer (some ⟨E 3, O 3, none⟩)))]), (6, .ro 0 [(.iface 245 (.pointer (some ⟨E 6, O 6, none⟩)))]), (4, .ro 0 [(.iface 245 (.pointer (some ⟨E 4, O 4, none⟩)))]), (0, .ro 0 [(.iface 245 (.pointer (some ⟨E 0, O 0, none⟩)))]), (1, .ro 0 [(.iface 245 (.pointer (some ⟨E 1, O 1, none⟩)))])] (.tuple #[.agg #[.int .u32 (IntKind.u32.wrap (numN (fun i => (fun i => B (44 + i)) (1 + i)) 4)), I64 (IntKind.i64.wrap ((fun i => B (44 + i)) 5)), .int .u32 (IntKind.u32.wrap (numN (fun i => (fun i => B (44 + i)) (6 + i)) 4)), I64 (IntKind.i64.wrap (numN (fun i => (fun i => B (44 + i)) (10 + i)) 8)), I64 (IntKind.i64.wrap (numN (fun i => (fun i => B (44 + i)) (18 + i)) 8)), I64 (IntKind.i64.wrap (numN (fun i => (fun i => B (44 + i)) (26 + i)) 8)), I64 (IntKind.i64.wrap (numN (fun i => (fun i => B (44 + i)) (34 + i)) 8))], .nilIface]) [ob, .ro 0 [(.iface 245 (.pointer (some ⟨E 3, O 3, none⟩)))], .ro 0 [(.iface 245 (.pointer (some ⟨E 6, O 6, none⟩)))], .ro 0 [(.iface 245 (.pointer (some ⟨E 4, O 4, none⟩)))], .ro 0 [(.iface 245 (.pointer (some ⟨E 0, O 0, none⟩)))], .ro 0 [(.iface 245 (.pointer (some ⟨E 1, O 1, none⟩)))]] := by
  refine Ctr.by layOk Tryz.func17 Tryz.ntmps17 rfl rfl rfl rfl rfl ?_
  exact wk_P11_0

set_option maxHeartbeats 4000000 in
theorem recover_oo_f (E O : Nat → Nat) {ob : AObj} {k f cap : Nat} {B : Nat → Int} (bt : Bt ob f 88 B) (h88 : 88 ≤ cap) (i1 : isRec B) (i2 : isRec (fun i => B (44 + i))) (hl : laterB (IntKind.u32.wrap (numN (fun i => (fun i => B (44 + i)) (1 + i)) 4)) (IntKind.u32.wrap (numN (fun i => B (1 + i)) 4)) = false) : Ctr Tryz.prog 7 17 [.slice (some ⟨k, f, none⟩) 88 cap] [(k, ob), (3, .ro 0 [(.iface 245 (.pointer (some ⟨E 3, O 3, none⟩)))]), (6, .ro 0 [(.iface 245 (.pointer (some ⟨E 6, O 6, none⟩)))]), (4, .ro 0 [(.iface 245 (.pointer (some ⟨E 4, O 4, none⟩)))]), (0, .ro 0 [(.iface 245 (.pointer (some ⟨E 0, O 0, none⟩)))]), (1, .ro 0 [(.iface 245 (.pointer (some ⟨E 1, O 1, none⟩)))])] (.tuple #[.agg #[.int .u32 (IntKind.u32.wrap (numN (fun i => B (1 + i)) 4)), I64 (IntKind.i64.wrap (B 5)), .int .u32 (IntKind.u32.wrap (numN (fun i => B (6 + i)) 4)), I64 (IntKind.i64.wrap (numN (fun i => B (10 + i)) 8)), I64 (IntKind.i64.wrap (numN (fun i => B (18 + i)) 8)), I64 (IntKind.i64.wrap (numN (fun i => B (26 + i)) 8)), I64 (IntKind.i64.wrap (numN (fun i => B (34 + i)) 8))], .nilIface]) [ob, .ro 0 [(.iface 245 (.pointer (some ⟨E 3, O 3, none⟩)))], .ro 0 [(.iface 245 (.pointer (some ⟨E 6, O 6, none⟩)))], .ro 0 [(.iface 245 (.pointer (some ⟨E 4, O 4, none⟩)))], .ro 0 [(.iface 245 (.pointer (some ⟨E 0, O 0, none⟩)))], .ro 0 [(.iface 245 (.pointer (some ⟨E 1, O 1, none⟩)))]] := by
  refine Ctr.by layOk Tryz.func17 Tryz.ntmps17 rfl rfl rfl rfl rfl ?_
  exact wk_P11_0

set_option maxHeartbeats 4000000 in
theorem recover_short (E O : Nat → Nat) {n cap : Nat} {a : Option Addr} (hn : n < 88) : Ctr Tryz.prog 7 17 [.slice a n cap] [(0, .ro 0 [(.iface 245 (.pointer (some ⟨E 0, O 0, none⟩)))]), (1, .ro 0 [(.iface 245 (.pointer (some ⟨E 1, O 1, none⟩)))])] (.tuple #[.agg #[.int .u32 0, I64 0, .int .u32 0, I64 0, I64 0, I64 0, I64 0], (.iface 245 (.pointer (some ⟨E 0, O 0, none⟩)))]) [.ro 0 [(.iface 245 (.pointer (some ⟨E 0, O 0, none⟩)))], .ro 0 [(.iface 245 (.pointer (some ⟨E 1, O 1, none⟩)))]] := by
  refine Ctr.by layOk Tryz.func17 Tryz.ntmps17 rfl rfl rfl rfl rfl ?_
  exact wk_P11_0

set_option maxHeartbeats 4000000 in
theorem recover_long (E O : Nat → Nat) {n cap : Nat} {a : Option Addr} (hn : 88 < n) : Ctr Tryz.prog 7 17 [.slice a n cap] [(0, .ro 0 [(.iface 245 (.pointer (some ⟨E 0, O 0, none⟩)))]), (1, .ro 0 [(.iface 245 (.pointer (some ⟨E 1, O 1, none⟩)))])] (.tuple #[.agg #[.int .u32 0, I64 0, .int .u32 0, I64 0, I64 0, I64 0, I64 0], (.iface 245 (.pointer (some ⟨E 1, O 1, none⟩)))]) [.ro 0 [(.iface 245 (.pointer (some ⟨E 0, O 0, none⟩)))], .ro 0 [(.iface 245 (.pointer (some ⟨E 1, O 1, none⟩)))]] := by
  refine Ctr.by layOk Tryz.func17 Tryz.ntmps17 rfl rfl rfl rfl rfl ?_
  exact wk_P11_0
end Go.Proofs.YtekcchmnncefhaaGreatDoor
