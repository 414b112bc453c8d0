/- What functions of this program do, each as a contract that its callers use.
   By an AI agent. -/
import Derived.Test.YtlhhcongoplfpaaDoorAB
import Derived.Test.YtlhhcongoplfpaaDoorLayD
import Derived.Test.YtlhhcongoplfpaaDoorD5
namespace Go.Proofs.YtlhhcongoplfpaaDoor
open Go Go.Proofs.YtlhhcongoplfpaaDoorAB
variable {G : Nat}
set_option linter.unusedSimpArgs false
set_option linter.unusedVariables false

theorem wrap_in {x : Int} (h1 : -9223372036854775808 ≤ x) (h2 : x < 9223372036854775808) : IntKind.i64.wrap x = x := by
  rw [IntKind.wrap_i64]; omega
def n20 (n : Int) : Int := num n 1048576
def cnt (m : Int) : Int := (w64 ((n20 m).tdiv 20)).tmod 7
def feed (k : Int) (i : Int) : List Value := [I64 (w64 (4 + (w64 (i + w64 ((n20 k).tdiv 8))).tmod 3)), I64 (w64 (50 + w64 (60 * (w64 (w64 ((n20 k).tdiv 24) + i)).tmod 5))), I64 ((w64 (w64 ((n20 k).tdiv 120) + w64 (i * i))).tmod 4)]
def feeds (k : Int) : Nat → List Value
  | 0 => []
  | n + 1 => feeds k n ++ feed k n
theorem feeds_len (k : Int) (n : Nat) : (feeds k n).length = n * 3 := by
  induction n with
  | zero => rfl
  | succ n ih => simp [feeds, ih, feed]; omega
def cfgOf (n m k : Int) (oc : Option Addr) (fa : Option Addr) (fl fc : Nat) : Cfg where
  D := w64 (1 + (n20 n).tmod 4)
  B := w64 (1 + (w64 ((n20 n).tdiv 4)).tmod 3)
  S := w64 (1 + (w64 ((n20 n).tdiv 12)).tmod 4)
  P := w64 (1 + (w64 ((n20 n).tdiv 48)).tmod 9)
  H := w64 (1 + (w64 ((n20 n).tdiv 432)).tmod 5)
  Cap := 100000
  Qmin := 0
  Imax := 500
  Trip := 20000
  Vmin := 10000
  Vdark := 12000
  CellMin := 3000
  CellMax := 4200
  CellGap := 300
  TempMax := 600
  Coil := 1000
  Ohm := 20
  SagErr := 100
  AmpErr := (n20 m).tmod 5
  Drift := 50
  ocA := oc
  ocL := 4
  ocC := 4
  GenMax := 3000
  BatMax := 500
  ExtMax := 3000
  Eland := w64 (1000 * (n20 k).tmod 8)
  Margin := w64 (500 + w64 ((w64 ((n20 m).tdiv 5)).tmod 4 * 500))
  fdA := fa
  fdL := fl
  fdC := fc
def ocv : List Value := [I64 0, I64 20000, I64 20000, I64 23000, I64 80000, I64 25000, I64 100000, I64 28000]
def zcfg : List Value := [I64 0, I64 0, I64 0, I64 0, I64 0, I64 0, I64 0, I64 0, I64 0, I64 0, I64 0, I64 0, I64 0, I64 0, I64 0, I64 0, I64 0, I64 0, I64 0, I64 0, .slice none 0 0, I64 0, I64 0, I64 0, I64 0, I64 0, .slice none 0 0]
set_option maxHeartbeats 4000000 in
theorem make_Config0 (n m k : Int) (k1 : Nat) (hno : ¬ ((0 : Int) < cnt m)) : Ctr Tryd.prog G 41 [I64 n, I64 m, I64 k] [(k1, .gone)] (.agg ⟨(cfgOf n m k (some ⟨k1, 0, none⟩) none 0 0).cells⟩) [.cells ocv 27] := by
  refine Ctr.by layOk Tryd.func41 Tryd.ntmps41 rfl rfl rfl rfl rfl ?_
  repeat' (first
    | (((with_reducible refine gQ0 ?_); (first | ((with_reducible apply q_move); exact rfl) | ((with_reducible apply q_assign); exact rfl) | ((with_reducible apply q_int); exact rfl; exact rfl; exact rfl) | ((with_reducible apply q_nilCheck); exact rfl) | ((with_reducible apply q_fa layOk); exact rfl; exact rfl; exact rfl; exact rfl; exact rfl) | ((with_reducible apply q_load layOk); exact rfl; exact rfl; exact rfl; (focus (repeat (first | with_reducible apply lh | with_reducible apply lt))); (focus (exact rfl))) | ((with_reducible apply q_loadr layOk); exact rfl; exact rfl; exact rfl; (focus (repeat (first | with_reducible apply lh | with_reducible apply lt))); (focus (exact rfl))) | ((with_reducible apply q_build layOk); exact rfl; exact rfl; exact rfl; exact rfl) | ((with_reducible apply q_min); exact rfl) | ((with_reducible apply q_max); exact rfl) | ((with_reducible apply q_neg); exact rfl) | ((with_reducible apply q_not); exact rfl) | ((with_reducible apply q_box (k := ks _)); exact rfl; (focus (repeat (first | with_reducible apply lh | with_reducible apply lt))); exact rfl) | ((with_reducible apply q_alloc (k := ks _) layOk); exact rfl; (focus (repeat (first | with_reducible apply lh | with_reducible apply lt))); exact rfl) | ((with_reducible apply q_pick_t); exact rfl; exact rfl) | ((with_reducible apply q_pick_f); exact rfl; exact rfl) | ((with_reducible apply q_rem); exact rfl; exact rfl; (focus (decide))) | ((with_reducible apply q_quo); exact rfl; exact rfl; (focus (decide))) | ((with_reducible apply q_conv); exact rfl; exact Tryd.underlying3; exact Tryd.underlying2) | ((with_reducible apply q_buildS (k := k1) layOk); exact rfl; exact rfl; exact rfl; exact rfl; exact rfl; exact rfl; exact rfl; exact rfl; (focus (repeat (first | with_reducible apply lh | with_reducible apply lt))); exact rfl) | (refine q_call0 rfl (world_Number _ _ (by decide)) ?_) | ((with_reducible apply e_store layOk); exact rfl; exact rfl; exact rfl; (focus (repeat (first | with_reducible apply lh | with_reducible apply lt))); exact rfl; exact rfl; exact rfl; (focus (exact rfl)); exact rfl) | (refine e_call0 rfl (world_Number _ _ (by decide)) ?_))))
    | (((with_reducible refine gR ?_); (first | refine RK.peelN rfl ?_ | refine RK.donef rfl ⟨_, rfl, ?_⟩ | refine RK.donet rfl (by kernel_rfl) ⟨_, rfl, ?_⟩)))
    | (((with_reducible refine gW ?_); (first | with_reducible refine WP.seq ?_ | refine WP.reg mixed (fun ks => _) (fun ks => rfl) (fun ks => ?_) | ((first | refine WP.condD rfl (fun hc => ?_) (fun hc => ?_) | refine WP.condE rfl (fun hc => ?_) (fun hc => ?_) | refine WP.condN rfl (fun hc => ?_) (fun hc => ?_) | refine WP.condA rfl (fun hc => ?_) (fun hc => ?_)) <;> (first | with_reducible exact ff hc | with_reducible exact ff' hc | skip)) | refine WP.ret ?_ | refine WP.skip ?_ | refine WP.exit ?_ | refine WP.goto ?_ | refine WP.label ?_ | refine WP.block ?_)))
    | (with_reducible refine thn_n ?_)
    | (with_reducible refine thn_r ?_)
    | (with_reducible refine thn_e ?_)
    | (with_reducible refine thn_g ?_)
    | (with_reducible refine blk_n ?_)
    | (with_reducible refine blk_r ?_)
    | (with_reducible refine blk_e ?_)
    | (with_reducible refine blk_g ?_)
    | (((with_reducible refine blk_o ?_ ?_); first | exact rfl | skip))
    | (refine Endz.mk' (by first | exact Or.inl rfl | exact Or.inr rfl) (by repeat (first | exact RVs.nil | apply RVs.cons | exact RV1.tmp rfl | exact RV1.row rfl rfl rfl (by repeat (first | exact look_here | apply look_there)) (by exact rfl) | exact RV1.cell rfl rfl rfl (by repeat (first | exact look_here | apply look_there)) (by exact rfl))) (by rfl) (by repeat (first | exact List.nil_sublist _ | exact List.Sublist.refl _ | apply List.Sublist.cons_cons | apply List.Sublist.cons))))
  rename_i a0 a1 a2 a3 a4 a5
  refine WP.loopI (α := Unit) (fun _ => [(1, some (I64 (n20 m))), (2, some (I64 (n20 k))), (6, some (.pointer (some ⟨a0 0, 0, none⟩))), (7, some (.pointer (some ⟨a4 0, 0, none⟩))), (8, some (I64 0))])
    (fun _ => [(k1, .cells ocv 27), (a0 0, .cells zcfg 51), (a4 0, .cells (cfgOf n m k (some ⟨k1, 0, none⟩) none 0 0).cells 51)]) (fun _ => True) (fun _ => 0) () (Wk.of ⟨rfl, rfl, rfl, rfl, rfl, trivial⟩ (by repeat (first | exact List.nil_sublist _ | exact List.Sublist.refl _ | apply List.Sublist.cons_cons | apply List.Sublist.cons))) trivial (fun x ix => ?_)
  repeat' (first
    | (((with_reducible refine gQ0 ?_); (first | ((with_reducible apply q_move); exact rfl) | ((with_reducible apply q_assign); exact rfl) | ((with_reducible apply q_int); exact rfl; exact rfl; exact rfl) | ((with_reducible apply q_nilCheck); exact rfl) | ((with_reducible apply q_fa layOk); exact rfl; exact rfl; exact rfl; exact rfl; exact rfl) | ((with_reducible apply q_load layOk); exact rfl; exact rfl; exact rfl; (focus (repeat (first | with_reducible apply lh | with_reducible apply lt))); (focus (exact rfl))) | ((with_reducible apply q_loadr layOk); exact rfl; exact rfl; exact rfl; (focus (repeat (first | with_reducible apply lh | with_reducible apply lt))); (focus (exact rfl))) | ((with_reducible apply q_build layOk); exact rfl; exact rfl; exact rfl; exact rfl) | ((with_reducible apply q_min); exact rfl) | ((with_reducible apply q_max); exact rfl) | ((with_reducible apply q_neg); exact rfl) | ((with_reducible apply q_not); exact rfl) | ((with_reducible apply q_box (k := ks _)); exact rfl; (focus (repeat (first | with_reducible apply lh | with_reducible apply lt))); exact rfl) | ((with_reducible apply q_alloc (k := ks _) layOk); exact rfl; (focus (repeat (first | with_reducible apply lh | with_reducible apply lt))); exact rfl) | ((with_reducible apply q_pick_t); exact rfl; exact rfl) | ((with_reducible apply q_pick_f); exact rfl; exact rfl) | ((with_reducible apply q_rem); exact rfl; exact rfl; (focus (decide))) | ((with_reducible apply q_quo); exact rfl; exact rfl; (focus (decide))) | ((with_reducible apply q_conv); exact rfl; exact Tryd.underlying3; exact Tryd.underlying2) | ((with_reducible apply q_buildS (k := ks _) layOk); exact rfl; exact rfl; exact rfl; exact rfl; exact rfl; exact rfl; exact rfl; exact rfl; (focus (repeat (first | with_reducible apply lh | with_reducible apply lt))); exact rfl) | ((with_reducible apply q_app0 (kn := ks _) layOk); exact rfl; exact rfl; exact rfl; exact rfl; exact rfl; exact rfl; exact rfl; exact rfl; exact rfl; exact rfl; (focus (repeat (first | with_reducible apply lh | with_reducible apply lt))); (focus (repeat (first | with_reducible apply lh | with_reducible apply lt))); (focus (exact rfl)); exact rfl) | ((with_reducible apply q_app1 (kn := ks _) layOk); exact rfl; exact rfl; exact rfl; exact rfl; exact rfl; exact rfl; exact rfl; exact rfl; exact rfl; (focus (repeat (first | with_reducible apply lh | with_reducible apply lt))); (focus (repeat (first | with_reducible apply lh | with_reducible apply lt))); (focus (repeat (first | with_reducible apply lh | with_reducible apply lt))); (focus (decide)); (focus (show (i + 1 + 1) * 24 ≤ 1099511627776; omega)); (focus (show i + 1 + 1 ≤ 1099511627776; omega)); (focus (exact feeds_len _ _)); (focus (exact rfl)); (focus (exact rfl)); exact rfl) | (refine q_call0 rfl (world_Number _ _ (by decide)) ?_) | ((with_reducible apply e_store layOk); exact rfl; exact rfl; exact rfl; (focus (repeat (first | with_reducible apply lh | with_reducible apply lt))); exact rfl; exact rfl; exact rfl; (focus (exact rfl)); exact rfl) | (refine e_call0 rfl (world_Number _ _ (by decide)) ?_))))
    | (((with_reducible refine gR ?_); (first | refine RK.peelN rfl ?_ | refine RK.donef rfl ⟨_, rfl, ?_⟩ | refine RK.donet rfl (by kernel_rfl) ⟨_, rfl, ?_⟩)))
    | (((with_reducible refine gW ?_); (first | with_reducible refine WP.seq ?_ | refine WP.reg mixed (fun ks => _) (fun ks => rfl) (fun ks => ?_) | ((first | refine WP.condD rfl (fun hc => ?_) (fun hc => ?_) | refine WP.condE rfl (fun hc => ?_) (fun hc => ?_) | refine WP.condN rfl (fun hc => ?_) (fun hc => ?_) | refine WP.condA rfl (fun hc => ?_) (fun hc => ?_)) <;> (first | with_reducible exact ff hc | with_reducible exact ff' hc | exact absurd hc hno | skip)) | refine WP.ret ?_ | refine WP.skip ?_ | refine WP.exit ?_ | refine WP.goto ?_ | refine WP.label ?_ | refine WP.block ?_)))
    | (with_reducible refine thn_n ?_)
    | (with_reducible refine thn_r ?_)
    | (with_reducible refine thn_e ?_)
    | (with_reducible refine thn_g ?_)
    | (with_reducible refine blk_n ?_)
    | (with_reducible refine blk_r ?_)
    | (with_reducible refine blk_e ?_)
    | (with_reducible refine blk_g ?_)
    | (((with_reducible refine blk_o ?_ ?_); first | exact rfl | skip))
    | (refine Endz.mk' (by first | exact Or.inl rfl | exact Or.inr rfl) (by repeat (first | exact RVs.nil | apply RVs.cons | exact RV1.tmp rfl | exact RV1.row rfl rfl rfl (by repeat (first | exact look_here | apply look_there)) (by exact rfl) | exact RV1.cell rfl rfl rfl (by repeat (first | exact look_here | apply look_there)) (by exact rfl))) (by rfl) (by repeat (first | exact List.nil_sublist _ | exact List.Sublist.refl _ | apply List.Sublist.cons_cons | apply List.Sublist.cons))))

set_option maxHeartbeats 8000000 in
theorem make_Config1 (n m k : Int) (k1 k2 : Nat) (hpos : (0 : Int) < cnt m) : Ctr Tryd.prog G 41 [I64 n, I64 m, I64 k] ([(k1, .gone)] ++ [(k2, .gone)]) (.agg ⟨(cfgOf n m k (some ⟨k1, 0, none⟩) (some ⟨k2, 0, none⟩) (cnt m).toNat grown).cells⟩) ([.cells ocv 27] ++ [.row (feeds k (cnt m).toNat) 97 3]) := by
  have hc7 : cnt m < 7 := by unfold cnt; exact Int.tmod_lt_of_pos _ (by decide)
  refine Ctr.ren layOk Tryd.func41 Tryd.ntmps41 rfl rfl rfl rfl rfl ?_
  repeat' (first
    | (((with_reducible refine gQ0 ?_); (first | ((with_reducible apply q_move); exact rfl) | ((with_reducible apply q_assign); exact rfl) | ((with_reducible apply q_int); exact rfl; exact rfl; exact rfl) | ((with_reducible apply q_nilCheck); exact rfl) | ((with_reducible apply q_fa layOk); exact rfl; exact rfl; exact rfl; exact rfl; exact rfl) | ((with_reducible apply q_load layOk); exact rfl; exact rfl; exact rfl; (focus (repeat (first | with_reducible apply lh | with_reducible apply lt))); (focus (exact rfl))) | ((with_reducible apply q_loadr layOk); exact rfl; exact rfl; exact rfl; (focus (repeat (first | with_reducible apply lh | with_reducible apply lt))); (focus (exact rfl))) | ((with_reducible apply q_build layOk); exact rfl; exact rfl; exact rfl; exact rfl) | ((with_reducible apply q_min); exact rfl) | ((with_reducible apply q_max); exact rfl) | ((with_reducible apply q_neg); exact rfl) | ((with_reducible apply q_not); exact rfl) | ((with_reducible apply q_box (k := ks _)); exact rfl; (focus (repeat (first | with_reducible apply lh | with_reducible apply lt))); exact rfl) | ((with_reducible apply q_alloc (k := ks _) layOk); exact rfl; (focus (repeat (first | with_reducible apply lh | with_reducible apply lt))); exact rfl) | ((with_reducible apply q_pick_t); exact rfl; exact rfl) | ((with_reducible apply q_pick_f); exact rfl; exact rfl) | ((with_reducible apply q_rem); exact rfl; exact rfl; (focus (decide))) | ((with_reducible apply q_quo); exact rfl; exact rfl; (focus (decide))) | ((with_reducible apply q_conv); exact rfl; exact Tryd.underlying3; exact Tryd.underlying2) | ((with_reducible apply q_buildS (k := k1) layOk); exact rfl; exact rfl; exact rfl; exact rfl; exact rfl; exact rfl; exact rfl; exact rfl; (focus (repeat (first | with_reducible apply lh | with_reducible apply lt))); exact rfl) | (refine q_call0 rfl (world_Number _ _ (by decide)) ?_) | ((with_reducible apply e_store layOk); exact rfl; exact rfl; exact rfl; (focus (repeat (first | with_reducible apply lh | with_reducible apply lt))); exact rfl; exact rfl; exact rfl; (focus (exact rfl)); exact rfl) | (refine e_call0 rfl (world_Number _ _ (by decide)) ?_))))
    | (((with_reducible refine gR ?_); (first | refine RK.peelN rfl ?_ | refine RK.donef rfl ⟨_, rfl, ?_⟩ | refine RK.donet rfl (by kernel_rfl) ⟨_, rfl, ?_⟩)))
    | (((with_reducible refine gW ?_); (first | with_reducible refine WP.seq ?_ | refine WP.reg mixed (fun ks => _) (fun ks => rfl) (fun ks => ?_) | ((first | refine WP.condD rfl (fun hc => ?_) (fun hc => ?_) | refine WP.condE rfl (fun hc => ?_) (fun hc => ?_) | refine WP.condN rfl (fun hc => ?_) (fun hc => ?_) | refine WP.condA rfl (fun hc => ?_) (fun hc => ?_)) <;> (first | with_reducible exact ff hc | with_reducible exact ff' hc | skip)) | refine WP.ret ?_ | refine WP.skip ?_ | refine WP.exit ?_ | refine WP.goto ?_ | refine WP.label ?_ | refine WP.block ?_)))
    | (with_reducible refine thn_n ?_)
    | (with_reducible refine thn_r ?_)
    | (with_reducible refine thn_e ?_)
    | (with_reducible refine thn_g ?_)
    | (with_reducible refine blk_n ?_)
    | (with_reducible refine blk_r ?_)
    | (with_reducible refine blk_e ?_)
    | (with_reducible refine blk_g ?_)
    | (((with_reducible refine blk_o ?_ ?_); first | exact rfl | skip))
    | (refine Endz.mk' (by first | exact Or.inl rfl | exact Or.inr rfl) (by repeat (first | exact RVs.nil | apply RVs.cons | exact RV1.tmp rfl | exact RV1.row rfl rfl rfl (by repeat (first | exact look_here | apply look_there)) (by exact rfl) | exact RV1.cell rfl rfl rfl (by repeat (first | exact look_here | apply look_there)) (by exact rfl))) (by rfl) (by repeat (first | exact List.nil_sublist _ | exact List.Sublist.refl _ | apply List.Sublist.cons_cons | apply List.Sublist.cons))))
  rename_i a0 a1 a2 a3 a4 a5
  refine WP.loopI (α := Option (Nat × Nat)) (fun x => match x with
    | none => [(1, some (I64 (n20 m))), (2, some (I64 (n20 k))), (6, some (.pointer (some ⟨a0 0, 0, none⟩))), (7, some (.pointer (some ⟨a4 0, 0, none⟩))), (8, some (I64 0))]
    | some (i, _) => [(1, some (I64 (n20 m))), (2, some (I64 (n20 k))), (6, some (.pointer (some ⟨a0 0, 0, none⟩))), (7, some (.pointer (some ⟨a4 0, 0, none⟩))), (8, some (I64 ((i + 1 : Nat) : Int)))])
    (fun x => match x with
    | none => [(k1, .cells ocv 27), (k2, .gone), (a0 0, .cells zcfg 51), (a4 0, .cells (cfgOf n m k (some ⟨k1, 0, none⟩) none 0 0).cells 51)]
    | some (i, kf) => [(k1, .cells ocv 27), (k2, .gone), (a0 0, .cells zcfg 51), (a4 0, .cells (cfgOf n m k (some ⟨k1, 0, none⟩) (some ⟨kf, 0, none⟩) (i + 1) grown).cells 51), (kf, .row (feeds k (i + 1)) 97 3)])
    (fun x => match x with
    | none => True
    | some (i, _) => ((i + 1 : Nat) : Int) ≤ cnt m) (fun x => match x with
    | none => 8
    | some (i, _) => 7 - i) none (Wk.of ⟨rfl, rfl, rfl, rfl, rfl, trivial⟩ (by repeat (first | exact List.nil_sublist _ | exact List.Sublist.refl _ | apply List.Sublist.cons_cons | apply List.Sublist.cons))) trivial (fun x ix => ?_)
  rcases x with _ | ⟨i, kf⟩
  · dsimp only
    repeat' (first
      | (((with_reducible refine gQ0 ?_); (first | ((with_reducible apply q_move); exact rfl) | ((with_reducible apply q_assign); exact rfl) | ((with_reducible apply q_int); exact rfl; exact rfl; exact rfl) | ((with_reducible apply q_nilCheck); exact rfl) | ((with_reducible apply q_fa layOk); exact rfl; exact rfl; exact rfl; exact rfl; exact rfl) | ((with_reducible apply q_load layOk); exact rfl; exact rfl; exact rfl; (focus (repeat (first | with_reducible apply lh | with_reducible apply lt))); (focus (exact rfl))) | ((with_reducible apply q_loadr layOk); exact rfl; exact rfl; exact rfl; (focus (repeat (first | with_reducible apply lh | with_reducible apply lt))); (focus (exact rfl))) | ((with_reducible apply q_build layOk); exact rfl; exact rfl; exact rfl; exact rfl) | ((with_reducible apply q_min); exact rfl) | ((with_reducible apply q_max); exact rfl) | ((with_reducible apply q_neg); exact rfl) | ((with_reducible apply q_not); exact rfl) | ((with_reducible apply q_box (k := ks _)); exact rfl; (focus (repeat (first | with_reducible apply lh | with_reducible apply lt))); exact rfl) | ((with_reducible apply q_alloc (k := ks _) layOk); exact rfl; (focus (repeat (first | with_reducible apply lh | with_reducible apply lt))); exact rfl) | ((with_reducible apply q_pick_t); exact rfl; exact rfl) | ((with_reducible apply q_pick_f); exact rfl; exact rfl) | ((with_reducible apply q_rem); exact rfl; exact rfl; (focus (decide))) | ((with_reducible apply q_quo); exact rfl; exact rfl; (focus (decide))) | ((with_reducible apply q_conv); exact rfl; exact Tryd.underlying3; exact Tryd.underlying2) | ((with_reducible apply q_buildS (k := ks _) layOk); exact rfl; exact rfl; exact rfl; exact rfl; exact rfl; exact rfl; exact rfl; exact rfl; (focus (repeat (first | with_reducible apply lh | with_reducible apply lt))); exact rfl) | ((with_reducible apply q_app0 (kn := ks _) layOk); exact rfl; exact rfl; exact rfl; exact rfl; exact rfl; exact rfl; exact rfl; exact rfl; exact rfl; exact rfl; (focus (repeat (first | with_reducible apply lh | with_reducible apply lt))); (focus (repeat (first | with_reducible apply lh | with_reducible apply lt))); (focus (exact rfl)); exact rfl) | ((with_reducible apply q_app1 (kn := ks _) layOk); exact rfl; exact rfl; exact rfl; exact rfl; exact rfl; exact rfl; exact rfl; exact rfl; exact rfl; (focus (repeat (first | with_reducible apply lh | with_reducible apply lt))); (focus (repeat (first | with_reducible apply lh | with_reducible apply lt))); (focus (repeat (first | with_reducible apply lh | with_reducible apply lt))); (focus (decide)); (focus (show (i + 1 + 1) * 24 ≤ 1099511627776; omega)); (focus (show i + 1 + 1 ≤ 1099511627776; omega)); (focus (exact feeds_len _ _)); (focus (exact rfl)); (focus (exact rfl)); exact rfl) | (refine q_call0 rfl (world_Number _ _ (by decide)) ?_) | ((with_reducible apply e_store layOk); exact rfl; exact rfl; exact rfl; (focus (repeat (first | with_reducible apply lh | with_reducible apply lt))); exact rfl; exact rfl; exact rfl; (focus (exact rfl)); exact rfl) | (refine e_call0 rfl (world_Number _ _ (by decide)) ?_))))
      | (((with_reducible refine gR ?_); (first | refine RK.peelN rfl ?_ | refine RK.donef rfl ⟨_, rfl, ?_⟩ | refine RK.donet rfl (by kernel_rfl) ⟨_, rfl, ?_⟩)))
      | (((with_reducible refine gW ?_); (first | with_reducible refine WP.seq ?_ | refine WP.reg mixed (fun ks => _) (fun ks => rfl) (fun ks => ?_) | ((first | refine WP.condD rfl (fun hc => ?_) (fun hc => ?_) | refine WP.condE rfl (fun hc => ?_) (fun hc => ?_) | refine WP.condN rfl (fun hc => ?_) (fun hc => ?_) | refine WP.condA rfl (fun hc => ?_) (fun hc => ?_)) <;> (first | with_reducible exact ff hc | with_reducible exact ff' hc | exact absurd hpos hc | skip)) | refine WP.ret ?_ | refine WP.skip ?_ | refine WP.exit ?_ | refine WP.goto ?_ | refine WP.label ?_ | refine WP.block ?_)))
      | (with_reducible refine thn_n ?_)
      | (with_reducible refine thn_r ?_)
      | (with_reducible refine thn_e ?_)
      | (with_reducible refine thn_g ?_)
      | (with_reducible refine blk_n ?_)
      | (with_reducible refine blk_r ?_)
      | (with_reducible refine blk_e ?_)
      | (with_reducible refine blk_g ?_)
      | (((with_reducible refine blk_o ?_ ?_); first | exact rfl | skip))
      | (refine Endz.mk' (by first | exact Or.inl rfl | exact Or.inr rfl) (by repeat (first | exact RVs.nil | apply RVs.cons | exact RV1.tmp rfl | exact RV1.row rfl rfl rfl (by repeat (first | exact look_here | apply look_there)) (by exact rfl) | exact RV1.cell rfl rfl rfl (by repeat (first | exact look_here | apply look_there)) (by exact rfl))) (by rfl) (by repeat (first | exact List.nil_sublist _ | exact List.Sublist.refl _ | apply List.Sublist.cons_cons | apply List.Sublist.cons))))
    refine ⟨some (0, _), by show ((0 + 1 : Nat) : Int) ≤ cnt m; omega, by show 7 - 0 < 8; omega, Wk.of ⟨rfl, rfl, rfl, rfl, rfl, trivial⟩ (by repeat (first | exact List.nil_sublist _ | exact List.Sublist.refl _ | apply List.Sublist.cons_cons | apply List.Sublist.cons))⟩
  · have ix : ((i + 1 : Nat) : Int) ≤ cnt m := ix
    dsimp only
    repeat' (first
      | (((with_reducible refine gQ0 ?_); (first | ((with_reducible apply q_move); exact rfl) | ((with_reducible apply q_assign); exact rfl) | ((with_reducible apply q_int); exact rfl; exact rfl; exact rfl) | ((with_reducible apply q_nilCheck); exact rfl) | ((with_reducible apply q_fa layOk); exact rfl; exact rfl; exact rfl; exact rfl; exact rfl) | ((with_reducible apply q_load layOk); exact rfl; exact rfl; exact rfl; (focus (repeat (first | with_reducible apply lh | with_reducible apply lt))); (focus (exact rfl))) | ((with_reducible apply q_loadr layOk); exact rfl; exact rfl; exact rfl; (focus (repeat (first | with_reducible apply lh | with_reducible apply lt))); (focus (exact rfl))) | ((with_reducible apply q_build layOk); exact rfl; exact rfl; exact rfl; exact rfl) | ((with_reducible apply q_min); exact rfl) | ((with_reducible apply q_max); exact rfl) | ((with_reducible apply q_neg); exact rfl) | ((with_reducible apply q_not); exact rfl) | ((with_reducible apply q_box (k := ks _)); exact rfl; (focus (repeat (first | with_reducible apply lh | with_reducible apply lt))); exact rfl) | ((with_reducible apply q_alloc (k := ks _) layOk); exact rfl; (focus (repeat (first | with_reducible apply lh | with_reducible apply lt))); exact rfl) | ((with_reducible apply q_pick_t); exact rfl; exact rfl) | ((with_reducible apply q_pick_f); exact rfl; exact rfl) | ((with_reducible apply q_rem); exact rfl; exact rfl; (focus (decide))) | ((with_reducible apply q_quo); exact rfl; exact rfl; (focus (decide))) | ((with_reducible apply q_conv); exact rfl; exact Tryd.underlying3; exact Tryd.underlying2) | ((with_reducible apply q_buildS (k := ks _) layOk); exact rfl; exact rfl; exact rfl; exact rfl; exact rfl; exact rfl; exact rfl; exact rfl; (focus (repeat (first | with_reducible apply lh | with_reducible apply lt))); exact rfl) | ((with_reducible apply q_app0 (kn := ks _) layOk); exact rfl; exact rfl; exact rfl; exact rfl; exact rfl; exact rfl; exact rfl; exact rfl; exact rfl; exact rfl; (focus (repeat (first | with_reducible apply lh | with_reducible apply lt))); (focus (repeat (first | with_reducible apply lh | with_reducible apply lt))); (focus (exact rfl)); exact rfl) | ((with_reducible apply q_app1 (kn := ks _) layOk); exact rfl; exact rfl; exact rfl; exact rfl; exact rfl; exact rfl; exact rfl; exact rfl; exact rfl; (focus (repeat (first | with_reducible apply lh | with_reducible apply lt))); (focus (repeat (first | with_reducible apply lh | with_reducible apply lt))); (focus (repeat (first | with_reducible apply lh | with_reducible apply lt))); (focus (decide)); (focus (show (i + 1 + 1) * 24 ≤ 1099511627776; omega)); (focus (show i + 1 + 1 ≤ 1099511627776; omega)); (focus (exact feeds_len _ _)); (focus (exact rfl)); (focus (exact rfl)); exact rfl) | (refine q_call0 rfl (world_Number _ _ (by decide)) ?_) | ((with_reducible apply e_store layOk); exact rfl; exact rfl; exact rfl; (focus (repeat (first | with_reducible apply lh | with_reducible apply lt))); exact rfl; exact rfl; exact rfl; (focus (exact rfl)); exact rfl) | (refine e_call0 rfl (world_Number _ _ (by decide)) ?_))))
      | (((with_reducible refine gR ?_); (first | refine RK.peelN rfl ?_ | refine RK.donef rfl ⟨_, rfl, ?_⟩ | refine RK.donet rfl (by kernel_rfl) ⟨_, rfl, ?_⟩)))
      | (((with_reducible refine gW ?_); (first | with_reducible refine WP.seq ?_ | refine WP.reg mixed (fun ks => _) (fun ks => rfl) (fun ks => ?_) | ((first | refine WP.condD rfl (fun hc => ?_) (fun hc => ?_) | refine WP.condE rfl (fun hc => ?_) (fun hc => ?_) | refine WP.condN rfl (fun hc => ?_) (fun hc => ?_) | refine WP.condA rfl (fun hc => ?_) (fun hc => ?_)) <;> (first | with_reducible exact ff hc | with_reducible exact ff' hc | skip)) | refine WP.ret ?_ | refine WP.skip ?_ | refine WP.exit ?_ | refine WP.goto ?_ | refine WP.label ?_ | refine WP.block ?_)))
      | (with_reducible refine thn_n ?_)
      | (with_reducible refine thn_r ?_)
      | (with_reducible refine thn_e ?_)
      | (with_reducible refine thn_g ?_)
      | (with_reducible refine blk_n ?_)
      | (with_reducible refine blk_r ?_)
      | (with_reducible refine blk_e ?_)
      | (with_reducible refine blk_g ?_)
      | (((with_reducible refine blk_o ?_ ?_); first | exact rfl | skip))
      | (refine Endz.mk' (by first | exact Or.inl rfl | exact Or.inr rfl) (by repeat (first | exact RVs.nil | apply RVs.cons | exact RV1.tmp rfl | exact RV1.row rfl rfl rfl (by repeat (first | exact look_here | apply look_there)) (by exact rfl) | exact RV1.cell rfl rfl rfl (by repeat (first | exact look_here | apply look_there)) (by exact rfl))) (by rfl) (by repeat (first | exact List.nil_sublist _ | exact List.Sublist.refl _ | apply List.Sublist.cons_cons | apply List.Sublist.cons))))
    · have hlt : ((i + 1 : Nat) : Int) < cnt m := hc
      refine ⟨some (i + 1, _), by show ((i + 1 + 1 : Nat) : Int) ≤ cnt m; omega, by show 7 - (i + 1) < 7 - i; omega, Wk.of ⟨rfl, rfl, rfl, rfl, ?_, trivial⟩ (by repeat (first | exact List.nil_sublist _ | exact List.Sublist.refl _ | apply List.Sublist.cons_cons | apply List.Sublist.cons))⟩
      exact congrArg (fun x => some (I64 x)) ((wrap_in (by omega) (by omega)).trans (by omega))
    · have hge : ¬ ((i + 1 : Nat) : Int) < cnt m := hc
      have e : (cnt m).toNat = i + 1 := by omega
      rw [e]
      have hend : ∀ {x : Value} {s : As} {h' : H} (hx : RVs lay 85 s h' [.cell 6 51] [x]) (hr : RN kf k2 x (.agg ⟨(cfgOf n m k (some ⟨k1, 0, none⟩) (some ⟨k2, 0, none⟩) (i + 1) grown).cells⟩)) (hs : List.Sublist ([(k1, AObj.cells ocv 27)] ++ [(k2, .gone), (kf, .row (feeds k (i + 1)) 97 3)]) h'),
          (Exit.ret = Exit.normal ∨ Exit.ret = Exit.ret) ∧ ∃ s1 vs p, mkT 85 s = mkT 85 s1 ∧ RVs lay 85 s1 h' [.cell 6 51] vs ∧ RN p k2 (tup vs) (.agg ⟨(cfgOf n m k (some ⟨k1, 0, none⟩) (some ⟨k2, 0, none⟩) (i + 1) grown).cells⟩) ∧ (AObj.row (feeds k (i + 1)) 97 3).wr = true ∧ List.Sublist ([(k1, AObj.cells ocv 27)] ++ [(k2, .gone), (p, .row (feeds k (i + 1)) 97 3)]) h' :=
        fun hx hr hs => ⟨Or.inr rfl, _, _, kf, rfl, hx, hr, rfl, hs⟩
      refine hend (by repeat (first | exact RVs.nil | apply RVs.cons | exact RV1.tmp rfl | exact RV1.row rfl rfl rfl (by repeat (first | exact look_here | apply look_there)) (by exact rfl) | exact RV1.cell rfl rfl rfl (by repeat (first | exact look_here | apply look_there)) (by exact rfl))) ?_ (by repeat (first | exact List.nil_sublist _ | exact List.Sublist.refl _ | apply List.Sublist.cons_cons | apply List.Sublist.cons))
      exact RN.agg (by repeat (first | exact RNL.nil | refine RNL.cons (RN.refl _) ?_ | refine RNL.cons (RN.slice _ _ _) ?_))

/-- What the feeders' slice stands on. -/
theorem make_Config (n m k : Int) : ∃ (fa : Nat → Option Addr) (fl fc : Nat) (ob : AObj), ∀ k1 k2 : Nat, Ctr Tryd.prog G 41 [I64 n, I64 m, I64 k] [(k1, .gone), (k2, .gone)] (.agg ⟨(cfgOf n m k (some ⟨k1, 0, none⟩) (fa k2) fl fc).cells⟩) [.cells ocv 27, ob] := by
  by_cases h : (0 : Int) < cnt m
  · exact ⟨fun k2 => some ⟨k2, 0, none⟩, (cnt m).toNat, grown, .row (feeds k (cnt m).toNat) 97 3, fun k1 k2 => make_Config1 n m k k1 k2 h⟩
  · exact ⟨fun _ => none, 0, 0, .gone, fun k1 k2 => (make_Config0 n m k k1 h).more (k2, .gone)⟩
end Go.Proofs.YtlhhcongoplfpaaDoor
