/- What functions of this program do, each as a contract that its callers use, and what follows of it in plain numbers.
   By an AI agent. -/
import Derived.Test.YtekcchmnncefhaaGreatDoorAB
import Derived.Test.YtekcchmnncefhaaGreatDoorG2
import Derived.Test.YtekcchmnncefhaaGreatDoorG3
import Derived.Test.YtekcchmnncefhaaGreatDoorG7
import Derived.Laws.Bits64
namespace Go.Proofs.YtekcchmnncefhaaGreatDoor
open Go Go.Proofs.YtekcchmnncefhaaGreatDoorAB
set_option linter.unusedSimpArgs false
set_option linter.unusedVariables false
set_option maxRecDepth 20000
abbrev obp220 (x0 : Cfg) (x1 : _) (x2 : _) := (.cells (x0.cells ++ [I64 (mx (mn x1 x0.Cap) 0), I64 (mx (mn x2 x0.Cap) 0)]) 227 : AObj)
theorem wk_P22_0 {p : Prop} (h : p := by
  repeat' (first
    | ((with_reducible apply gQ0); (first | (apply q_box (ty := 227) (k := k); apply Eq.refl; exact lk_; apply Eq.refl) | (apply q_box (ty := 172) (k := kb); apply Eq.refl; exact lk_; apply Eq.refl) | (apply q_box (ty := 129) (k := kb); apply Eq.refl; exact lk_; apply Eq.refl) | (apply q_box (ty := 183) (k := k); apply Eq.refl; exact lk_; apply Eq.refl) | (apply q_box (ty := 159) (k := p); apply Eq.refl; exact lk_; apply Eq.refl) | (apply q_load layOk; (iterate 3 apply Eq.refl); exact lk_; exact (bt.a i hi)) | (apply q_idxN (m := i) layOk; (iterate 4 apply Eq.refl); exact ha; apply Eq.refl; exact hi) | (apply q_move; apply Eq.refl) | (apply q_assign; apply Eq.refl) | (apply q_int; (iterate 3 apply Eq.refl)) | (apply q_nilCheck; apply Eq.refl) | (apply q_fa layOk; (iterate 5 apply Eq.refl)) | (apply q_load layOk; (iterate 3 apply Eq.refl); exact lk_; apply Eq.refl) | (apply q_loadr layOk; (iterate 3 apply Eq.refl); exact lk_; apply Eq.refl) | (apply q_build layOk; (iterate 4 apply Eq.refl)) | (apply q_min; apply Eq.refl) | (apply q_max; apply Eq.refl) | (apply q_not; apply Eq.refl) | (apply q_box (k := ks _); apply Eq.refl; exact lk_; apply Eq.refl) | (apply q_alloc (k := ks _) layOk; apply Eq.refl; exact lk_; apply Eq.refl) | (apply q_len layOk; (iterate 4 apply Eq.refl)) | (apply q_makeS (m := c.fdL) (k := q) layOk; (iterate 8 apply Eq.refl); (focus (decide)); (focus (omega)); apply Eq.refl; exact lk_; apply Eq.refl) | (apply q_buildS (k := ks _) layOk; (iterate 8 apply Eq.refl); exact lk_; apply Eq.refl) | (apply q_app1 (kn := ks _) layOk; (iterate 9 apply Eq.refl); exact lk_; exact lk_; exact lk_; (focus (decide)); (focus (show (i + 1) * 1 ≤ 1099511627776; omega)); (focus (omega)); exact (bytesL_len _ _); (iterate 3 apply Eq.refl)) | (apply isF (f := 104); (refine q_call0 rfl (ref_Clamp _ _ _) ?_)) | (apply isF (f := 102); (refine q_call1 rfl (Counter_Set _ c _ _ _ _) lc_ rfl ?_)) | (apply isF (f := 69); (refine q_call1 rfl (Counter_New k1 c _ _) lc_ rfl ?_)) | (apply isF (f := 69); (refine q_call1 rfl (Counter_New k2 c _ _) lc_ rfl ?_)) | (apply isF (f := 70); (refine q_call1r rfl (Counter_Q k1 c _ _) lc_ ?_)) | (apply isF (f := 77); (refine q_call0 rfl (ref_ClampSpan _ _ _ _) ?_)) | (apply isF (f := 68); (refine q_call0 rfl (span_Of _ _) ?_)) | (apply e_store layOk; (iterate 3 apply Eq.refl); exact lk_; (iterate 5 apply Eq.refl))))
    | ((with_reducible apply gR); (first | refine RK.peelN rfl ?_ | refine RK.donef rfl ⟨_, rfl, ?_⟩ | refine RK.donet rfl (by kernel_rfl) ⟨_, rfl, ?_⟩))
    | ((with_reducible apply gW); (first | with_reducible apply WP.seq | refine WP.reg mixed (fun ks => _) (fun ks => rfl) (fun ks => ?_) | ((first | (apply cdD; apply Eq.refl) | (apply WP.condA; apply Eq.refl)) <;> (intro hc; (first | exact absurd hc (by decide) | with_reducible exact absurd hlt hc | skip))) | apply WP.ret | apply WP.skip | apply WP.block))
    | (first | with_reducible apply thn_n | with_reducible apply blk_n)
    | (refine Endz.mk' en_ rv_ (by rfl) sb_)
    | (exact ⟨(i + 1, _), hi, by show n - (i + 1) < n - i; omega, Wk.of ⟨rfl, rfl, congrArg (fun x => some (I64 x)) hw, trivial⟩ sb_⟩))) : p := h
def rAdd (a b : Int) : Int := if b > 0 ∧ a > IntKind.i64.wrap (9223372036854775807 - b) then 9223372036854775807 else if b < 0 ∧ a < IntKind.i64.wrap (-9223372036854775808 - b) then -9223372036854775808 else IntKind.i64.wrap (a + b)
def rSub (a b : Int) : Int := if b = -9223372036854775808 then (if a ≥ 0 then 9223372036854775807 else IntKind.i64.wrap (a - b)) else rAdd a (IntKind.i64.wrap (0 - b))
def wLo (a by_ : Int) : Int := if by_ < 0 then a else fSub a by_
def wHi (b by_ : Int) : Int := if by_ < 0 then b else fAdd b by_
def rwLo (a by_ : Int) : Int := if by_ < 0 then a else rSub a by_
def rwHi (b by_ : Int) : Int := if by_ < 0 then b else rAdd b by_
set_option maxHeartbeats 4000000 in
theorem ref_Add (a b : Int) : Ctr Tryz.prog 7 79 [I64 (a), I64 (b)] [] (I64 (rAdd a b)) [] := by
  refine Ctr.by layOk Tryz.func79 Tryz.ntmps79 rfl rfl rfl rfl rfl ?_
  repeat' (first
    | ((first | (with_reducible apply gQ0) | ((with_reducible apply gQ1); exact wt_)); (first | (apply q_move; apply Eq.refl) | (apply q_assign; apply Eq.refl) | (apply q_int; (iterate 3 apply Eq.refl)) | (apply q_pick_t; apply Eq.refl; apply Eq.refl) | (apply q_pick_f; apply Eq.refl; apply Eq.refl)))
    | ((with_reducible apply gR); (first | refine RK.peelN rfl ?_ | refine RK.donef rfl ⟨_, rfl, ?_⟩))
    | ((with_reducible apply gQv); focus exact wf_)
    | ((with_reducible apply gK); (fail_if_success ((apply gM); (iterate 3 apply Eq.refl))); ((apply gsD; (iterate 4 apply Eq.refl)) <;> (intro hc; (first | with_reducible exact ff' hc | skip))))
    | ((with_reducible apply gW); (first | with_reducible apply WP.seq | refine WP.reg mixed (fun ks => _) (fun ks => rfl) (fun ks => ?_) | ((first | (apply cdD; apply Eq.refl) | (apply WP.condA; apply Eq.refl)) <;> (intro hc; (first | with_reducible exact ff' hc | skip))) | apply WP.ret | apply WP.skip | apply WP.block))
    | (first | with_reducible apply thn_n | with_reducible apply thn_r | with_reducible apply blk_n | with_reducible apply blk_r)
    | (refine Endz.mk' en_ rv_ (by first | rfl | (simp [tup, rAdd, *]; done) | (simp_all [tup, rAdd]; done)) sb_))
set_option maxHeartbeats 4000000 in
theorem ref_Sub (a b : Int) : Ctr Tryz.prog 7 78 [I64 (a), I64 (b)] [] (I64 (rSub a b)) [] := by
  refine Ctr.by layOk Tryz.func78 Tryz.ntmps78 rfl rfl rfl rfl rfl ?_
  repeat' (first
    | ((with_reducible apply gQ0); (first | (apply q_move; apply Eq.refl) | (apply q_assign; apply Eq.refl) | (apply q_int; (iterate 3 apply Eq.refl)) | (apply q_neg; apply Eq.refl) | (apply isF (f := 79); (refine q_call0 rfl (ref_Add _ _) ?_))))
    | ((with_reducible apply gR); (first | refine RK.peelN rfl ?_ | refine RK.donef rfl ⟨_, rfl, ?_⟩))
    | ((with_reducible apply gW); (first | with_reducible apply WP.seq | refine WP.reg mixed (fun ks => _) (fun ks => rfl) (fun ks => ?_) | ((apply cdD; apply Eq.refl) <;> intro hc) | apply WP.ret | apply WP.skip))
    | (first | with_reducible apply thn_n | with_reducible apply thn_r)
    | (refine Endz.mk' en_ rv_ (by first | rfl | (simp [tup, rSub, *]; done) | (simp_all [tup, rSub]; done)) sb_))
set_option maxHeartbeats 4000000 in
theorem ref_ClampSpan (a b lo hi : Int) : Ctr Tryz.prog 7 77 [.agg #[I64 (a), I64 (b)], I64 lo, I64 hi] [] (.agg #[I64 (rClamp a lo hi), I64 (rClamp b lo hi)]) [] := by
  refine Ctr.by layOk Tryz.func77 Tryz.ntmps77 rfl rfl rfl rfl rfl ?_
  exact wk_P22_0
set_option maxHeartbeats 4000000 in
theorem span_Widen (a b e : Int) : Ctr Tryz.prog 7 32 [.agg #[I64 (a), I64 (b)], I64 e] [] (.agg #[I64 (wLo a e), I64 (wHi b e)]) [] := by
  refine Ctr.by layOk Tryz.func32 Tryz.ntmps32 rfl rfl rfl rfl rfl ?_
  repeat' (first
    | ((with_reducible apply gQ0); (first | (apply q_move; apply Eq.refl) | (apply q_int; (iterate 3 apply Eq.refl)) | (apply q_fa layOk; (iterate 5 apply Eq.refl)) | (apply q_load layOk; (iterate 3 apply Eq.refl); exact lk_; apply Eq.refl) | (apply q_loadr layOk; (iterate 3 apply Eq.refl); exact lk_; apply Eq.refl) | (apply q_build layOk; (iterate 4 apply Eq.refl)) | (apply q_box (k := ks _); apply Eq.refl; exact lk_; apply Eq.refl) | (apply q_alloc (k := ks _) layOk; apply Eq.refl; exact lk_; apply Eq.refl) | (apply isF (f := 71); (refine q_call0 rfl (fixed_Sub _ _) ?_)) | (apply isF (f := 72); (refine q_call0 rfl (fixed_Add _ _) ?_)) | (apply e_store layOk; (iterate 3 apply Eq.refl); exact lk_; (iterate 5 apply Eq.refl))))
    | ((with_reducible apply gR); (first | refine RK.peelN rfl ?_ | refine RK.donef rfl ⟨_, rfl, ?_⟩ | refine RK.donet rfl (by kernel_rfl) ⟨_, rfl, ?_⟩))
    | ((with_reducible apply gW); (first | with_reducible apply WP.seq | refine WP.reg mixed (fun ks => _) (fun ks => rfl) (fun ks => ?_) | ((apply cdD; apply Eq.refl) <;> intro hc) | apply WP.ret | apply WP.skip))
    | (first | with_reducible apply thn_n | with_reducible apply thn_r)
    | (refine Endz.mk' en_ rv_ (by first | rfl | (simp [tup, wLo, wHi, *]; done) | (simp_all [tup, wLo, wHi]; done)) sb_))
set_option maxHeartbeats 4000000 in
theorem ref_Widen (a b e : Int) : Ctr Tryz.prog 7 42 [.agg #[I64 (a), I64 (b)], I64 e] [] (.agg #[I64 (rwLo a e), I64 (rwHi b e)]) [] := by
  refine Ctr.by layOk Tryz.func42 Tryz.ntmps42 rfl rfl rfl rfl rfl ?_
  repeat' (first
    | ((with_reducible apply gQ0); (first | (apply q_move; apply Eq.refl) | (apply q_int; (iterate 3 apply Eq.refl)) | (apply q_fa layOk; (iterate 5 apply Eq.refl)) | (apply q_load layOk; (iterate 3 apply Eq.refl); exact lk_; apply Eq.refl) | (apply q_loadr layOk; (iterate 3 apply Eq.refl); exact lk_; apply Eq.refl) | (apply q_build layOk; (iterate 4 apply Eq.refl)) | (apply q_box (k := ks _); apply Eq.refl; exact lk_; apply Eq.refl) | (apply q_alloc (k := ks _) layOk; apply Eq.refl; exact lk_; apply Eq.refl) | (apply isF (f := 78); (refine q_call0 rfl (ref_Sub _ _) ?_)) | (apply isF (f := 79); (refine q_call0 rfl (ref_Add _ _) ?_)) | (apply e_store layOk; (iterate 3 apply Eq.refl); exact lk_; (iterate 5 apply Eq.refl))))
    | ((with_reducible apply gR); (first | refine RK.peelN rfl ?_ | refine RK.donef rfl ⟨_, rfl, ?_⟩ | refine RK.donet rfl (by kernel_rfl) ⟨_, rfl, ?_⟩))
    | ((with_reducible apply gW); (first | with_reducible apply WP.seq | refine WP.reg mixed (fun ks => _) (fun ks => rfl) (fun ks => ?_) | ((apply cdD; apply Eq.refl) <;> intro hc) | apply WP.ret | apply WP.skip))
    | (first | with_reducible apply thn_n | with_reducible apply thn_r)
    | (refine Endz.mk' en_ rv_ (by first | rfl | (simp [tup, rwLo, rwHi, *]; done) | (simp_all [tup, rwLo, rwHi]; done)) sb_))
set_option maxHeartbeats 4000000 in
theorem Counter_New (k : Nat) (c : Cfg) (a b : Int) : Ctr Tryz.prog 7 69 [.agg ⟨c.cells⟩, .agg #[I64 (a), I64 (b)]] [(k, .gone)] (pP k) [obp220 c a b] := by
  refine Ctr.by layOk Tryz.func69 Tryz.ntmps69 rfl rfl rfl rfl rfl ?_
  exact wk_P22_0
set_option maxHeartbeats 4000000 in
theorem Bat_Q (c : Cfg) (b p q : Nat) (kn : Bool) (lo hi : Int) : Ctr Tryz.prog 7 82 [pP b] [(b, .cells (c.cells ++ [pP p, pP q, .bool kn, I64 (lo), I64 (hi)]) 172)] (.agg #[I64 (lo), I64 (hi)]) [.cells (c.cells ++ [pP p, pP q, .bool kn, I64 (lo), I64 (hi)]) 172] := by
  refine Ctr.by layOk Tryz.func82 Tryz.ntmps82 rfl rfl rfl rfl rfl ?_
  exact wk_P22_0
set_option maxHeartbeats 4000000 in
theorem Bat_New_true (c : Cfg) (kb k1 k2 : Nat) (a b : Int) : Ctr Tryz.prog 7 31 [.agg ⟨c.cells⟩, .agg #[I64 (a), I64 (b)], .bool true] [(kb, .gone), (k1, .gone), (k2, .gone)] (pP kb) [.cells (c.cells ++ [pP k1, pP k2, .bool true, I64 (mx (mn a c.Cap) 0), I64 (mx (mn b c.Cap) 0)]) 172, obp220 c a b, obp220 c a b] := by
  refine Ctr.by layOk Tryz.func31 Tryz.ntmps31 rfl rfl rfl rfl rfl ?_
  exact wk_P22_0
set_option maxHeartbeats 4000000 in
theorem rbat_New_true (c : Cfg) (kb : Nat) (a b : Int) : Ctr Tryz.prog 7 40 [.agg ⟨c.cells⟩, .agg #[I64 (a), I64 (b)], .bool true] [(kb, .gone)] (pP kb) [.cells (c.cells ++ [I64 (rClamp a 0 c.Cap), I64 (rClamp b 0 c.Cap), I64 (rClamp a 0 c.Cap), I64 (rClamp b 0 c.Cap), I64 (rClamp a 0 c.Cap), I64 (rClamp b 0 c.Cap), .bool true]) 129] := by
  refine Ctr.by layOk Tryz.func40 Tryz.ntmps40 rfl rfl rfl rfl rfl ?_
  exact wk_P22_0
set_option maxHeartbeats 4000000 in
theorem Bat_New_false (c : Cfg) (kb k1 k2 : Nat) (a b : Int) : Ctr Tryz.prog 7 31 [.agg ⟨c.cells⟩, .agg #[I64 (a), I64 (b)], .bool false] [(kb, .gone), (k1, .gone), (k2, .gone)] (pP kb) [.cells (c.cells ++ [pP k1, pP k2, .bool false, I64 (mx (mn (mn 0 c.Cap) c.Cap) 0), I64 (mx (mn (mx 0 c.Cap) c.Cap) 0)]) 172, .cells (c.cells ++ [I64 (mx (mn (mn 0 c.Cap) c.Cap) 0), I64 (mx (mn (mx 0 c.Cap) c.Cap) 0)]) 227, .cells (c.cells ++ [I64 (mx (mn (mn 0 c.Cap) c.Cap) 0), I64 (mx (mn (mx 0 c.Cap) c.Cap) 0)]) 227] := by
  refine Ctr.by layOk Tryz.func31 Tryz.ntmps31 rfl rfl rfl rfl rfl ?_
  exact wk_P22_0
set_option maxHeartbeats 4000000 in
theorem rbat_New_false (c : Cfg) (kb : Nat) (a b : Int) : Ctr Tryz.prog 7 40 [.agg ⟨c.cells⟩, .agg #[I64 (a), I64 (b)], .bool false] [(kb, .gone)] (pP kb) [.cells (c.cells ++ [I64 (rClamp 0 0 c.Cap), I64 (rClamp c.Cap 0 c.Cap), I64 (rClamp 0 0 c.Cap), I64 (rClamp c.Cap 0 c.Cap), I64 (rClamp 0 0 c.Cap), I64 (rClamp c.Cap 0 c.Cap), .bool false]) 129] := by
  refine Ctr.by layOk Tryz.func40 Tryz.ntmps40 rfl rfl rfl rfl rfl ?_
  exact wk_P22_0
set_option maxHeartbeats 4000000 in
theorem ref_NewBank (k : Nat) (n : Int) : Ctr Tryz.prog 7 37 [I64 n] [(k, .gone)] (pP k) [.cells ((I64 (mn (mx n 0) 1000)) :: [.int .i64 0, .int .i64 0, .int .i64 0, .int .i64 0, .int .i64 0, .int .i64 0, .int .i64 0, .int .i64 0, .int .i64 0, .int .i64 0, .int .i64 0, .int .i64 0, .int .i64 0, .int .i64 0, .int .i64 0, .int .i64 0, .int .i64 0, .int .i64 0, .int .i64 0, .int .i64 0, .int .i64 0, .int .i64 0, .int .i64 0, .int .i64 0, .int .i64 0, .int .i64 0, .int .i64 0, .int .i64 0, .int .i64 0, .int .i64 0, .int .i64 0, .int .i64 0, .int .i64 0, .int .i64 0, .int .i64 0, .int .i64 0, .int .i64 0, .int .i64 0, .int .i64 0, .int .i64 0, .int .i64 0, .int .i64 0, .int .i64 0, .int .i64 0, .int .i64 0, .int .i64 0, .int .i64 0, .int .i64 0, .int .u8 0, .int .u8 0, .int .u8 0, .int .u8 0, .int .u8 0, .int .u8 0, .int .u8 0, .int .u8 0, .int .u8 0, .int .u8 0, .int .u8 0, .int .u8 0, .int .u8 0, .int .u8 0, .int .u8 0, .int .u8 0, .int .u8 0, .int .u8 0, .int .u8 0, .int .u8 0, .int .u8 0, .int .u8 0, .int .u8 0, .int .u8 0, .int .u8 0, .int .u8 0, .int .u8 0, .int .u8 0, .int .u8 0, .int .u8 0, .int .u8 0, .int .u8 0, .int .u8 0, .int .u8 0, .int .u8 0, .int .u8 0, .int .u8 0, .int .u8 0, .int .u8 0, .int .u8 0, .int .u8 0, .int .u8 0, .int .u8 0, .int .u8 0, .int .u8 0, .int .u8 0, .int .u8 0, .int .u8 0, .int .i64 0, .int .i64 0, .int .i64 0, .int .i64 0, .int .i64 0, .int .i64 0, .int .i64 0, .int .i64 0, .int .i64 0, .int .i64 0, .int .i64 0, .int .i64 0, .int .i64 0, .int .i64 0, .int .i64 0, .int .i64 0, .int .i64 0, .int .i64 0, .int .i64 0, .int .i64 0, .int .i64 0, .int .i64 0, .int .i64 0, .int .i64 0, .int .i64 0, .int .i64 0, .int .i64 0, .int .i64 0, .int .i64 0, .int .i64 0, .int .i64 0, .int .i64 0, .int .i64 0, .int .i64 0, .int .i64 0, .int .i64 0, .int .i64 0, .int .i64 0, .int .i64 0, .int .i64 0, .int .i64 0, .int .i64 0, .int .i64 0, .int .i64 0, .int .i64 0, .int .i64 0, .int .i64 0, .int .i64 0, .bool false, .bool false, .bool false, .bool false, .bool false, .bool false, .bool false, .bool false, .bool false, .bool false, .bool false, .bool false, .bool false, .bool false, .bool false, .bool false, .bool false, .bool false, .bool false, .bool false, .bool false, .bool false, .bool false, .bool false, .bool false, .bool false, .bool false, .bool false, .bool false, .bool false, .bool false, .bool false, .bool false, .bool false, .bool false, .bool false, .bool false, .bool false, .bool false, .bool false, .bool false, .bool false, .bool false, .bool false, .bool false, .bool false, .bool false, .bool false]) 183] := by
  refine Ctr.by layOk Tryz.func37 Tryz.ntmps37 rfl rfl rfl rfl rfl ?_
  exact wk_P22_0
set_option maxHeartbeats 4000000 in
theorem keeper_New (c : Cfg) (h7 : c.fdL ≤ 1000) (p q : Nat) : Ctr Tryz.prog 7 24 [.agg ⟨c.cells⟩] [(p, .gone), (q, .gone)] (pP p) [.cells [I64 c.H, .slice (some ⟨q, 0, none⟩) c.fdL c.fdL, I64 0] 159, .cells (rowZ [I64 0] c.fdL) 3] := by
  refine Ctr.by layOk Tryz.func24 Tryz.ntmps24 rfl rfl rfl rfl rfl ?_
  exact wk_P22_0
def bytesL (B : Nat → Int) : Nat → List Value
  | 0 => []
  | n + 1 => bytesL B n ++ [.int .u8 (B n)]
theorem bytesL_len (B : Nat → Int) (n : Nat) : (bytesL B n).length = n * 1 := by
  induction n with
  | zero => rfl
  | succ n ih => simp [bytesL, ih]

set_option maxHeartbeats 4000000 in
theorem ref_Bytes {ob : AObj} {k f n cap : Nat} {a : Option Addr} {B : Nat → Int} (bt : Bt ob f n B) (ha : 0 < n → a = some ⟨k, f, none⟩) (hn : n ≤ 1000) (k2 : Nat) : Ctr Tryz.prog 7 36 [.slice a n cap] ([(k, ob)] ++ [(k2, .gone)]) (.slice (some ⟨k2, 0, none⟩) n grown) ([ob] ++ [.row (bytesL B n) 5 1]) := by
  refine Ctr.ren layOk Tryz.func36 Tryz.ntmps36 rfl rfl rfl rfl rfl ?_
  repeat' (first
    | ((with_reducible apply gQ0); (first | (apply q_move; apply Eq.refl) | (apply q_assign; apply Eq.refl) | (apply q_len layOk; (iterate 4 apply Eq.refl)) | (apply q_makeR (m := n) (k := ks _) layOk; (iterate 8 apply Eq.refl); (focus (decide)); (focus (omega)); apply Eq.refl; exact lk_; apply Eq.refl)))
    | ((with_reducible apply gR); (first | refine RK.peelN rfl ?_ | refine RK.donef rfl ⟨_, rfl, ?_⟩))
    | ((with_reducible apply gW); (first | with_reducible apply WP.seq | refine WP.reg mixed (fun ks => _) (fun ks => rfl) (fun ks => ?_) | apply WP.block))
    | (with_reducible apply thn_n))
  rename_i r0 r1
  refine WP.loopI (n := 22) (α := Nat × Nat) (fun x => [(0, some (.slice a n cap)), (3, some (.slice (some ⟨x.2, 0, none⟩) x.1 grown)), (4, some (I64 (x.1 : Int)))]) (fun x => [(k, ob), (k2, .gone), (x.2, .row (bytesL B x.1) 5 1)]) (fun x => x.1 ≤ n) (fun x => n - x.1) (0, r1 0) (Wk.of ⟨rfl, rfl, rfl, trivial⟩ sb_) (Nat.zero_le _) (fun x ix => ?_)
  obtain ⟨i, kf⟩ := x
  have ix : i ≤ n := ix
  try dsimp only
  by_cases hi : i < n
  · have hlt : (i : Int) < (n : Int) := by omega
    have hw := kpB (x := i) (by omega)
    exact wk_P22_0
  · obtain rfl : i = n := by omega
    have hge : ¬ (i : Int) < (i : Int) := by omega
    repeat' (first
      | ((with_reducible apply gQ0); (first | (apply q_move; apply Eq.refl) | (apply q_assign; apply Eq.refl) | (apply q_int; (iterate 3 apply Eq.refl)) | (apply q_len layOk; (iterate 4 apply Eq.refl))))
      | ((with_reducible apply gR); (first | refine RK.peelN rfl ?_ | refine RK.donef rfl ⟨_, rfl, ?_⟩))
      | ((with_reducible apply gW); (first | with_reducible apply WP.seq | refine WP.reg mixed (fun ks => _) (fun ks => rfl) (fun ks => ?_) | ((apply cdD; apply Eq.refl) <;> (intro hc; (first | with_reducible exact absurd hc hge | skip))) | apply WP.ret | apply WP.exit))
      | (first | with_reducible apply thn_n | with_reducible apply thn_e | with_reducible apply blk_e))
    have hend : ∀ {x : Value} {s : As} {h' : H} (hx : RVs lay 22 s h' [.tmp 2] [x]) (hr : RN kf k2 x (.slice (some ⟨k2, 0, none⟩) i grown)) (hs : List.Sublist ([(k, ob)] ++ [(k2, .gone), (kf, .row (bytesL B i) 5 1)]) h'),
        (Exit.ret = Exit.normal ∨ Exit.ret = Exit.ret) ∧ ∃ s1 vs p, mkT 22 s = mkT 22 s1 ∧ RVs lay 22 s1 h' [.tmp 2] vs ∧ RN p k2 (tup vs) (.slice (some ⟨k2, 0, none⟩) i grown) ∧ (AObj.row (bytesL B i) 5 1).wr = true ∧ List.Sublist ([(k, ob)] ++ [(k2, .gone), (p, .row (bytesL B i) 5 1)]) h' :=
      fun hx hr hs => ⟨Or.inr rfl, _, _, kf, rfl, hx, hr, rfl, hs⟩

    refine hend (by repeat (first | apply RVs.nil | apply RVs.cons | (apply RV1.tmp; apply Eq.refl) | (apply RV1.row; (iterate 3 apply Eq.refl); (focus (first | (focus ((repeat (with_reducible (first | apply lh | apply lt))); done)) | (focus (apply lx; (focus (repeat (with_reducible (first | apply lh | apply lt)))); exact rfl)))); exact rfl) | (apply RV1.cell; (iterate 3 apply Eq.refl); (focus (first | (focus ((repeat (with_reducible (first | apply lh | apply lt))); done)) | (focus (apply lx; (focus (repeat (with_reducible (first | apply lh | apply lt)))); exact rfl)))); exact rfl))) ?_ sb_
    exact RN.slice _ _ _
end Go.Proofs.YtekcchmnncefhaaGreatDoor
namespace Go.Proofs.YtekcchmnncefhaaGreatDoor
open Go Go.Proofs.YtekcchmnncefhaaGreatDoorAB
set_option linter.unusedSimpArgs false
set_option linter.unusedVariables false
set_option maxRecDepth 20000
/-- A lock's bit. -/
def lkB (lk : Int) (k : Int) : Bool := decide (IntKind.u32.wrap ((BitVec.ofInt IntKind.u32.bits (lk.fdiv (2 ^ min k.toNat IntKind.u32.bits)) &&& BitVec.ofInt IntKind.u32.bits 1).toNat) = 1)

set_option maxHeartbeats 4000000 in
theorem lock_ (kr : Nat) (sq md lk q1 q2 q3 q4 k : Int) (h0 : 0 ≤ k) : Ctr Tryz.prog 7 25 [I64 k, pP kr] [(kr, .cells [.int .u32 sq, I64 md, .int .u32 lk, I64 q1, I64 q2, I64 q3, I64 q4] 31)] (.bool (lkB lk k)) [.cells [.int .u32 sq, I64 md, .int .u32 lk, I64 q1, I64 q2, I64 q3, I64 q4] 31] := by
  refine Ctr.by layOk Tryz.func25 Tryz.ntmps25 rfl rfl rfl rfl rfl ?_
  repeat' (first
    | ((with_reducible apply gQ0); (first | (apply q_move; apply Eq.refl) | (apply q_assign; apply Eq.refl) | (apply q_int; (iterate 3 apply Eq.refl)) | (apply q_fa layOk; (iterate 5 apply Eq.refl)) | (apply q_load layOk; (iterate 3 apply Eq.refl); exact lk_; apply Eq.refl) | (apply q_shr; apply Eq.refl; apply Eq.refl; (focus (omega)))))
    | ((with_reducible apply gR); (first | refine RK.peelN rfl ?_ | refine RK.donef rfl ⟨_, rfl, ?_⟩))
    | ((with_reducible apply gW); (first | with_reducible apply WP.seq | refine WP.reg mixed (fun ks => _) (fun ks => rfl) (fun ks => ?_) | apply WP.ret))
    | (with_reducible apply thn_n)
    | (refine Endz.mk' en_ rv_ (by rfl) sb_))
end Go.Proofs.YtekcchmnncefhaaGreatDoor
namespace Go.Proofs.YtekcchmnncefhaaGreatDoor
open Go Go.Proofs.YtekcchmnncefhaaGreatDoorAB
set_option linter.unusedSimpArgs false
set_option linter.unusedVariables false
set_option maxRecDepth 40000
theorem wk_P32_0 {p : Prop} (h : p := by
  repeat' (first
    | ((with_reducible apply gQ0); (first | (apply q_move; apply Eq.refl) | (apply q_assign; apply Eq.refl) | (apply q_int; (iterate 3 apply Eq.refl)) | (apply q_conv; apply Eq.refl; exact Tryz.underlying3; exact Tryz.underlying118) | (apply q_conv; apply Eq.refl; exact Tryz.underlying204; exact Tryz.underlying5) | (apply q_shr; apply Eq.refl; apply Eq.refl; exact (u64_nn _)) | (apply q_buildS (k := ks _) layOk; (iterate 8 apply Eq.refl); exact lk_; apply Eq.refl) | (apply q_app1 (kn := ks _) layOk; (iterate 9 apply Eq.refl); exact lk_; exact lk_; exact lk_; (focus (decide)); (focus (show (l + (x + 1) + 1) * 1 ≤ 1099511627776; omega)); (focus (omega)); exact (bigR_len _ _ _ hl _); (iterate 3 apply Eq.refl))))
    | ((with_reducible apply gR); (first | refine RK.peelN rfl ?_ | refine RK.donef rfl ⟨_, rfl, ?_⟩))
    | ((with_reducible apply gW); (first | with_reducible apply WP.seq | refine WP.reg mixed (fun ks => _) (fun ks => rfl) (fun ks => ?_) | ((apply cdD; apply Eq.refl) <;> (intro hc; (first | with_reducible exact absurd hge hc | with_reducible exact absurd hc hlt | skip))) | apply WP.ret | apply WP.skip | apply WP.exit | apply WP.block))
    | (first | with_reducible apply thn_n | with_reducible apply thn_e | with_reducible apply blk_n | with_reducible apply blk_e)
    | (exact ⟨some (x + 1, _), hi, by show sz - (x + 1) < sz - x; omega, Wk.of ⟨rfl, rfl, congrArg (fun x => some (I64 x)) hw, trivial⟩ sb_⟩)
    | (exact ⟨Or.inr rfl, _, _, kf, rfl, (by repeat (first | apply RVs.nil | apply RVs.cons | (apply RV1.tmp; apply Eq.refl) | (apply RV1.row; (iterate 3 apply Eq.refl); (focus (first | (focus ((repeat (with_reducible (first | apply lh | apply lt))); done)) | (focus (apply lx; (focus (repeat (with_reducible (first | apply lh | apply lt)))); exact rfl)))); exact rfl) | (apply RV1.cell; (iterate 3 apply Eq.refl); (focus (first | (focus ((repeat (with_reducible (first | apply lh | apply lt))); done)) | (focus (apply lx; (focus (repeat (with_reducible (first | apply lh | apply lt)))); exact rfl)))); exact rfl))), RN.slice _ _ _, rfl, sb_⟩))) : p := h
/-- A number's byte, the last one being byte 0. -/
def byteE (n i : Int) : Int := IntKind.u8.wrap (n.fdiv (2 ^ min (IntKind.u64.wrap (IntKind.i64.wrap (8 * i))).toNat IntKind.u64.bits))
def bigR (cs : List Value) (n sz : Int) : Nat → List Value
  | 0 => cs
  | x + 1 => bigR cs n sz x ++ [.int .u8 (byteE n (sz - 1 - (x : Int)))]
theorem bigR_len (cs : List Value) (n sz : Int) {l : Nat} (h : cs.length = l * 1) (x : Nat) : (bigR cs n sz x).length = (l + x) * 1 := by
  induction x with
  | zero => exact h
  | succ x ih => simp [bigR, ih]; omega
theorem u64_nn (x : Int) : 0 ≤ IntKind.u64.wrap x := by rw [IntKind.wrap_u64]; omega
theorem bytes_at (B : Nat → Int) : ∀ (n i : Nat), i < n → (bytesL B n)[i]? = some (.int .u8 (B i))
  | n + 1, i, h => by
    rw [bytesL]
    by_cases hi : i < n
    · rw [List.getElem?_append_left (by rw [bytesL_len]; omega)]; exact bytes_at B n i hi
    · obtain rfl : i = n := by omega
      rw [List.getElem?_append_right (by rw [bytesL_len]; omega), bytesL_len, Nat.mul_one, Nat.sub_self]; rfl

set_option maxHeartbeats 4000000 in
theorem ref_big {cs : List Value} {k l sz : Nat} (hl : cs.length = l * 1) (hl2 : l ≤ 1000) (hs1 : 1 ≤ sz) (hs : sz ≤ 1000) (n : Int) (q : Nat) : Ctr Tryz.prog 7 93 [.slice (some ⟨k, 0, none⟩) l grown, .int .u64 n, I64 (sz : Int)] ([(k, .row cs 5 1)] ++ [(q, .gone)]) (.slice (some ⟨q, 0, none⟩) (l + sz) grown) ([.lost] ++ [.row (bigR cs n (sz : Int) sz) 5 1]) := by
  refine Ctr.ren layOk Tryz.func93 Tryz.ntmps93 rfl rfl rfl rfl rfl ?_
  repeat' (first
    | ((with_reducible apply gQ0); (first | (apply q_move; apply Eq.refl) | (apply q_assign; apply Eq.refl) | (apply q_int; (iterate 3 apply Eq.refl))))
    | ((with_reducible apply gR); (first | refine RK.peelN rfl ?_ | refine RK.donef rfl ⟨_, rfl, ?_⟩))
    | ((with_reducible apply gW); (first | with_reducible apply WP.seq | refine WP.reg mixed (fun ks => _) (fun ks => rfl) (fun ks => ?_) | apply WP.block))
    | (with_reducible apply thn_n))
  have hw0 : IntKind.i64.wrap ((sz : Int) - 1) = (sz : Int) - 1 - ((0 : Nat) : Int) := by rw [wrap_in (by omega) (by omega)]; omega
  refine WP.loopI (n := 24) (α := Option (Nat × Nat)) (fun x => match x with
    | none => [(0, some (.slice (some ⟨k, 0, none⟩) l grown)), (1, some (.int .u64 n)), (7, some (I64 ((sz : Int) - 1 - ((0 : Nat) : Int))))]
    | some (x, kf) => [(0, some (.slice (some ⟨kf, 0, none⟩) (l + (x + 1)) grown)), (1, some (.int .u64 n)), (7, some (I64 ((sz : Int) - 1 - ((x + 1 : Nat) : Int))))])
    (fun x => match x with
    | none => [(k, .row cs 5 1), (q, .gone)]
    | some (x, kf) => [(k, .lost), (q, .gone), (kf, .row (bigR cs n (sz : Int) (x + 1)) 5 1)])
    (fun x => match x with
    | none => True
    | some (x, _) => x + 1 ≤ sz) (fun x => match x with
    | none => sz + 1
    | some (x, _) => sz - x) none (Wk.of ⟨rfl, rfl, congrArg (fun x => some (I64 x)) hw0, trivial⟩ sb_) trivial (fun x ix => ?_)
  rcases x with _ | ⟨x, kf⟩
  · dsimp only
    have hge : (sz : Int) - 1 - ((0 : Nat) : Int) ≥ 0 := by omega
    have hw : IntKind.i64.wrap ((sz : Int) - 1 - ((0 : Nat) : Int) - 1) = (sz : Int) - 1 - ((0 + 1 : Nat) : Int) := by rw [wrap_in (by omega) (by omega)]; omega
    repeat' (first
      | (((with_reducible refine gQ0 ?_); (first | ((with_reducible apply q_move); apply Eq.refl) | ((with_reducible apply q_assign); apply Eq.refl) | ((with_reducible apply q_int); (iterate 3 apply Eq.refl)) | ((with_reducible apply q_conv); apply Eq.refl; exact Tryz.underlying3; exact Tryz.underlying118) | ((with_reducible apply q_conv); apply Eq.refl; exact Tryz.underlying204; exact Tryz.underlying5) | ((with_reducible apply q_shr); (iterate 2 apply Eq.refl); exact (u64_nn _)) | ((with_reducible apply q_buildS (k := ks _) layOk); (iterate 8 apply Eq.refl); (focus (repeat (with_reducible (first | apply lh | apply lt)))); apply Eq.refl) | ((with_reducible apply q_app1 (kn := ks _) layOk); (iterate 9 apply Eq.refl); (focus (repeat (with_reducible (first | apply lh | apply lt)))); (focus (repeat (with_reducible (first | apply lh | apply lt)))); (focus (repeat (with_reducible (first | apply lh | apply lt)))); (focus (decide)); (focus (show (l + 1) * 1 ≤ 1099511627776; omega)); (focus (omega)); exact hl; (iterate 3 apply Eq.refl)))))
      | (((with_reducible refine gR ?_); (first | refine RK.peelN rfl ?_ | refine RK.donef rfl ⟨_, rfl, ?_⟩ | refine RK.donet rfl (by kernel_rfl) ⟨_, rfl, ?_⟩)))
      | (((with_reducible refine gW ?_); (first | with_reducible refine WP.seq ?_ | refine WP.reg mixed (fun ks => _) (fun ks => rfl) (fun ks => ?_) | ((first | (apply cdD; apply Eq.refl) | (apply WP.condE; apply Eq.refl) | (apply WP.condN; apply Eq.refl) | (apply WP.condA; apply Eq.refl)) <;> (intro hc; first | with_reducible exact ff hc | with_reducible exact ff' hc | with_reducible exact absurd hc hge | with_reducible exact absurd hge hc | skip)) | refine WP.ret ?_ | refine WP.skip ?_ | refine WP.exit ?_ | refine WP.goto ?_ | refine WP.label ?_ | refine WP.block ?_)))
      | (with_reducible refine thn_n ?_)
      | (with_reducible refine thn_r ?_)
      | (with_reducible refine thn_e ?_)
      | (with_reducible refine thn_g ?_)
      | (with_reducible refine blk_n ?_)
      | (with_reducible refine blk_r ?_)
      | (with_reducible refine blk_e ?_)
      | (with_reducible refine blk_g ?_)
      | (((with_reducible refine blk_o ?_ ?_); first | exact rfl | skip))
      | (refine Endz.mk' (by first | exact Or.inl rfl | exact Or.inr rfl) (by repeat (first | apply RVs.nil | apply RVs.cons | (apply RV1.tmp; apply Eq.refl) | (apply RV1.row; (iterate 3 apply Eq.refl); (focus (first | (focus ((repeat (with_reducible (first | apply lh | apply lt))); done)) | (focus (apply lx; (focus (repeat (with_reducible (first | apply lh | apply lt)))); exact rfl)))); exact rfl) | (apply RV1.cell; (iterate 3 apply Eq.refl); (focus (first | (focus ((repeat (with_reducible (first | apply lh | apply lt))); done)) | (focus (apply lx; (focus (repeat (with_reducible (first | apply lh | apply lt)))); exact rfl)))); exact rfl))) (by rfl) sb_))
    exact ⟨some (0, _), hs1, by show sz - 0 < sz + 1; omega, Wk.of ⟨rfl, rfl, congrArg (fun x => some (I64 x)) hw, trivial⟩ sb_⟩
  · have ix : x + 1 ≤ sz := ix
    try dsimp only
    by_cases hi : x + 1 < sz
    · have hge : (sz : Int) - 1 - ((x + 1 : Nat) : Int) ≥ 0 := by omega
      have hw : IntKind.i64.wrap ((sz : Int) - 1 - ((x + 1 : Nat) : Int) - 1) = (sz : Int) - 1 - ((x + 1 + 1 : Nat) : Int) := by rw [wrap_in (by omega) (by omega)]; omega
      exact wk_P32_0
    · obtain rfl : x + 1 = sz := by omega
      have hlt : ¬ ((x + 1 : Nat) : Int) - 1 - ((x + 1 : Nat) : Int) ≥ 0 := by omega
      exact wk_P32_0
theorem bigR2 (cs : List Value) (n : Int) : bigR cs n ((2 : Nat) : Int) 2 = cs ++ [.int .u8 (byteE n 1), .int .u8 (byteE n 0)] := by
  simp [bigR]
theorem ref_big2 {cs : List Value} {k l : Nat} (hl : cs.length = l * 1) (hl2 : l ≤ 1000) (n : Int) (q : Nat) : Ctr Tryz.prog 7 93 [.slice (some ⟨k, 0, none⟩) l grown, .int .u64 n, I64 2] [(k, .row cs 5 1), (q, .gone)] (.slice (some ⟨q, 0, none⟩) (l + 2) grown) [.lost, .row (cs ++ [.int .u8 (byteE n 1), .int .u8 (byteE n 0)]) 5 1] := by
  have h := ref_big (k := k) (sz := 2) hl hl2 (by decide) (by decide) n q
  rw [bigR2] at h
  exact h
theorem bigR4 (cs : List Value) (n : Int) : bigR cs n ((4 : Nat) : Int) 4 = cs ++ [.int .u8 (byteE n 3), .int .u8 (byteE n 2), .int .u8 (byteE n 1), .int .u8 (byteE n 0)] := by
  simp [bigR]
theorem ref_big4 {cs : List Value} {k l : Nat} (hl : cs.length = l * 1) (hl2 : l ≤ 1000) (n : Int) (q : Nat) : Ctr Tryz.prog 7 93 [.slice (some ⟨k, 0, none⟩) l grown, .int .u64 n, I64 4] [(k, .row cs 5 1), (q, .gone)] (.slice (some ⟨q, 0, none⟩) (l + 4) grown) [.lost, .row (cs ++ [.int .u8 (byteE n 3), .int .u8 (byteE n 2), .int .u8 (byteE n 1), .int .u8 (byteE n 0)]) 5 1] := by
  have h := ref_big (k := k) (sz := 4) hl hl2 (by decide) (by decide) n q
  rw [bigR4] at h
  exact h
theorem bigR8 (cs : List Value) (n : Int) : bigR cs n ((8 : Nat) : Int) 8 = cs ++ [.int .u8 (byteE n 7), .int .u8 (byteE n 6), .int .u8 (byteE n 5), .int .u8 (byteE n 4), .int .u8 (byteE n 3), .int .u8 (byteE n 2), .int .u8 (byteE n 1), .int .u8 (byteE n 0)] := by
  simp [bigR]
theorem ref_big8 {cs : List Value} {k l : Nat} (hl : cs.length = l * 1) (hl2 : l ≤ 1000) (n : Int) (q : Nat) : Ctr Tryz.prog 7 93 [.slice (some ⟨k, 0, none⟩) l grown, .int .u64 n, I64 8] [(k, .row cs 5 1), (q, .gone)] (.slice (some ⟨q, 0, none⟩) (l + 8) grown) [.lost, .row (cs ++ [.int .u8 (byteE n 7), .int .u8 (byteE n 6), .int .u8 (byteE n 5), .int .u8 (byteE n 4), .int .u8 (byteE n 3), .int .u8 (byteE n 2), .int .u8 (byteE n 1), .int .u8 (byteE n 0)]) 5 1] := by
  have h := ref_big (k := k) (sz := 8) hl hl2 (by decide) (by decide) n q
  rw [bigR8] at h
  exact h
/-- The bytes so far. -/
abbrev rl0 (sq md lk q1 q2 q3 q4 : Int) : List Value := [.int .u8 (165)]
abbrev rl1 (sq md lk q1 q2 q3 q4 : Int) : List Value := rl0 sq md lk q1 q2 q3 q4 ++ [.int .u8 (byteE (IntKind.u64.wrap sq) 3), .int .u8 (byteE (IntKind.u64.wrap sq) 2), .int .u8 (byteE (IntKind.u64.wrap sq) 1), .int .u8 (byteE (IntKind.u64.wrap sq) 0)]
abbrev rl2 (sq md lk q1 q2 q3 q4 : Int) : List Value := rl1 sq md lk q1 q2 q3 q4 ++ [.int .u8 (IntKind.u8.wrap md)]
abbrev rl3 (sq md lk q1 q2 q3 q4 : Int) : List Value := rl2 sq md lk q1 q2 q3 q4 ++ [.int .u8 (byteE (IntKind.u64.wrap lk) 3), .int .u8 (byteE (IntKind.u64.wrap lk) 2), .int .u8 (byteE (IntKind.u64.wrap lk) 1), .int .u8 (byteE (IntKind.u64.wrap lk) 0)]
abbrev rl4 (sq md lk q1 q2 q3 q4 : Int) : List Value := rl3 sq md lk q1 q2 q3 q4 ++ [.int .u8 (byteE (IntKind.u64.wrap q1) 7), .int .u8 (byteE (IntKind.u64.wrap q1) 6), .int .u8 (byteE (IntKind.u64.wrap q1) 5), .int .u8 (byteE (IntKind.u64.wrap q1) 4), .int .u8 (byteE (IntKind.u64.wrap q1) 3), .int .u8 (byteE (IntKind.u64.wrap q1) 2), .int .u8 (byteE (IntKind.u64.wrap q1) 1), .int .u8 (byteE (IntKind.u64.wrap q1) 0)]
abbrev rl5 (sq md lk q1 q2 q3 q4 : Int) : List Value := rl4 sq md lk q1 q2 q3 q4 ++ [.int .u8 (byteE (IntKind.u64.wrap q2) 7), .int .u8 (byteE (IntKind.u64.wrap q2) 6), .int .u8 (byteE (IntKind.u64.wrap q2) 5), .int .u8 (byteE (IntKind.u64.wrap q2) 4), .int .u8 (byteE (IntKind.u64.wrap q2) 3), .int .u8 (byteE (IntKind.u64.wrap q2) 2), .int .u8 (byteE (IntKind.u64.wrap q2) 1), .int .u8 (byteE (IntKind.u64.wrap q2) 0)]
abbrev rl6 (sq md lk q1 q2 q3 q4 : Int) : List Value := rl5 sq md lk q1 q2 q3 q4 ++ [.int .u8 (byteE (IntKind.u64.wrap q3) 7), .int .u8 (byteE (IntKind.u64.wrap q3) 6), .int .u8 (byteE (IntKind.u64.wrap q3) 5), .int .u8 (byteE (IntKind.u64.wrap q3) 4), .int .u8 (byteE (IntKind.u64.wrap q3) 3), .int .u8 (byteE (IntKind.u64.wrap q3) 2), .int .u8 (byteE (IntKind.u64.wrap q3) 1), .int .u8 (byteE (IntKind.u64.wrap q3) 0)]
abbrev rl7 (sq md lk q1 q2 q3 q4 : Int) : List Value := rl6 sq md lk q1 q2 q3 q4 ++ [.int .u8 (byteE (IntKind.u64.wrap q4) 7), .int .u8 (byteE (IntKind.u64.wrap q4) 6), .int .u8 (byteE (IntKind.u64.wrap q4) 5), .int .u8 (byteE (IntKind.u64.wrap q4) 4), .int .u8 (byteE (IntKind.u64.wrap q4) 3), .int .u8 (byteE (IntKind.u64.wrap q4) 2), .int .u8 (byteE (IntKind.u64.wrap q4) 1), .int .u8 (byteE (IntKind.u64.wrap q4) 0)]
/-- A record's bytes, without its sum. -/
def recB0 (sq md lk q1 q2 q3 q4 : Int) : Nat → Int
  | 0 => 165
  | 1 => byteE (IntKind.u64.wrap sq) 3
  | 2 => byteE (IntKind.u64.wrap sq) 2
  | 3 => byteE (IntKind.u64.wrap sq) 1
  | 4 => byteE (IntKind.u64.wrap sq) 0
  | 5 => IntKind.u8.wrap md
  | 6 => byteE (IntKind.u64.wrap lk) 3
  | 7 => byteE (IntKind.u64.wrap lk) 2
  | 8 => byteE (IntKind.u64.wrap lk) 1
  | 9 => byteE (IntKind.u64.wrap lk) 0
  | 10 => byteE (IntKind.u64.wrap q1) 7
  | 11 => byteE (IntKind.u64.wrap q1) 6
  | 12 => byteE (IntKind.u64.wrap q1) 5
  | 13 => byteE (IntKind.u64.wrap q1) 4
  | 14 => byteE (IntKind.u64.wrap q1) 3
  | 15 => byteE (IntKind.u64.wrap q1) 2
  | 16 => byteE (IntKind.u64.wrap q1) 1
  | 17 => byteE (IntKind.u64.wrap q1) 0
  | 18 => byteE (IntKind.u64.wrap q2) 7
  | 19 => byteE (IntKind.u64.wrap q2) 6
  | 20 => byteE (IntKind.u64.wrap q2) 5
  | 21 => byteE (IntKind.u64.wrap q2) 4
  | 22 => byteE (IntKind.u64.wrap q2) 3
  | 23 => byteE (IntKind.u64.wrap q2) 2
  | 24 => byteE (IntKind.u64.wrap q2) 1
  | 25 => byteE (IntKind.u64.wrap q2) 0
  | 26 => byteE (IntKind.u64.wrap q3) 7
  | 27 => byteE (IntKind.u64.wrap q3) 6
  | 28 => byteE (IntKind.u64.wrap q3) 5
  | 29 => byteE (IntKind.u64.wrap q3) 4
  | 30 => byteE (IntKind.u64.wrap q3) 3
  | 31 => byteE (IntKind.u64.wrap q3) 2
  | 32 => byteE (IntKind.u64.wrap q3) 1
  | 33 => byteE (IntKind.u64.wrap q3) 0
  | 34 => byteE (IntKind.u64.wrap q4) 7
  | 35 => byteE (IntKind.u64.wrap q4) 6
  | 36 => byteE (IntKind.u64.wrap q4) 5
  | 37 => byteE (IntKind.u64.wrap q4) 4
  | 38 => byteE (IntKind.u64.wrap q4) 3
  | 39 => byteE (IntKind.u64.wrap q4) 2
  | 40 => byteE (IntKind.u64.wrap q4) 1
  | 41 => byteE (IntKind.u64.wrap q4) 0
  | _ => 0
def recC (sq md lk q1 q2 q3 q4 : Int) : Int := crcN (fun i => recB0 sq md lk q1 q2 q3 q4 (1 + i)) 65535 41
/-- A record's bytes. -/
def recB (sq md lk q1 q2 q3 q4 : Int) : Nat → Int
  | 0 => 165
  | 1 => byteE (IntKind.u64.wrap sq) 3
  | 2 => byteE (IntKind.u64.wrap sq) 2
  | 3 => byteE (IntKind.u64.wrap sq) 1
  | 4 => byteE (IntKind.u64.wrap sq) 0
  | 5 => IntKind.u8.wrap md
  | 6 => byteE (IntKind.u64.wrap lk) 3
  | 7 => byteE (IntKind.u64.wrap lk) 2
  | 8 => byteE (IntKind.u64.wrap lk) 1
  | 9 => byteE (IntKind.u64.wrap lk) 0
  | 10 => byteE (IntKind.u64.wrap q1) 7
  | 11 => byteE (IntKind.u64.wrap q1) 6
  | 12 => byteE (IntKind.u64.wrap q1) 5
  | 13 => byteE (IntKind.u64.wrap q1) 4
  | 14 => byteE (IntKind.u64.wrap q1) 3
  | 15 => byteE (IntKind.u64.wrap q1) 2
  | 16 => byteE (IntKind.u64.wrap q1) 1
  | 17 => byteE (IntKind.u64.wrap q1) 0
  | 18 => byteE (IntKind.u64.wrap q2) 7
  | 19 => byteE (IntKind.u64.wrap q2) 6
  | 20 => byteE (IntKind.u64.wrap q2) 5
  | 21 => byteE (IntKind.u64.wrap q2) 4
  | 22 => byteE (IntKind.u64.wrap q2) 3
  | 23 => byteE (IntKind.u64.wrap q2) 2
  | 24 => byteE (IntKind.u64.wrap q2) 1
  | 25 => byteE (IntKind.u64.wrap q2) 0
  | 26 => byteE (IntKind.u64.wrap q3) 7
  | 27 => byteE (IntKind.u64.wrap q3) 6
  | 28 => byteE (IntKind.u64.wrap q3) 5
  | 29 => byteE (IntKind.u64.wrap q3) 4
  | 30 => byteE (IntKind.u64.wrap q3) 3
  | 31 => byteE (IntKind.u64.wrap q3) 2
  | 32 => byteE (IntKind.u64.wrap q3) 1
  | 33 => byteE (IntKind.u64.wrap q3) 0
  | 34 => byteE (IntKind.u64.wrap q4) 7
  | 35 => byteE (IntKind.u64.wrap q4) 6
  | 36 => byteE (IntKind.u64.wrap q4) 5
  | 37 => byteE (IntKind.u64.wrap q4) 4
  | 38 => byteE (IntKind.u64.wrap q4) 3
  | 39 => byteE (IntKind.u64.wrap q4) 2
  | 40 => byteE (IntKind.u64.wrap q4) 1
  | 41 => byteE (IntKind.u64.wrap q4) 0
  | 42 => byteE (IntKind.u64.wrap (recC sq md lk q1 q2 q3 q4)) 1
  | 43 => byteE (IntKind.u64.wrap (recC sq md lk q1 q2 q3 q4)) 0
  | _ => 0
theorem rec_bt (sq md lk q1 q2 q3 q4 : Int) : Bt (.row (rl7 sq md lk q1 q2 q3 q4) 5 1) 0 42 (recB0 sq md lk q1 q2 q3 q4) := ⟨fun i hi => by
  match i, hi with
  | 0, _ => rfl
  | 1, _ => rfl
  | 2, _ => rfl
  | 3, _ => rfl
  | 4, _ => rfl
  | 5, _ => rfl
  | 6, _ => rfl
  | 7, _ => rfl
  | 8, _ => rfl
  | 9, _ => rfl
  | 10, _ => rfl
  | 11, _ => rfl
  | 12, _ => rfl
  | 13, _ => rfl
  | 14, _ => rfl
  | 15, _ => rfl
  | 16, _ => rfl
  | 17, _ => rfl
  | 18, _ => rfl
  | 19, _ => rfl
  | 20, _ => rfl
  | 21, _ => rfl
  | 22, _ => rfl
  | 23, _ => rfl
  | 24, _ => rfl
  | 25, _ => rfl
  | 26, _ => rfl
  | 27, _ => rfl
  | 28, _ => rfl
  | 29, _ => rfl
  | 30, _ => rfl
  | 31, _ => rfl
  | 32, _ => rfl
  | 33, _ => rfl
  | 34, _ => rfl
  | 35, _ => rfl
  | 36, _ => rfl
  | 37, _ => rfl
  | 38, _ => rfl
  | 39, _ => rfl
  | 40, _ => rfl
  | 41, _ => rfl
  | i + 42, h => exact absurd h (by omega)⟩
abbrev rl8 (sq md lk q1 q2 q3 q4 : Int) : List Value := rl7 sq md lk q1 q2 q3 q4 ++ [.int .u8 (byteE (IntKind.u64.wrap (recC sq md lk q1 q2 q3 q4)) 1), .int .u8 (byteE (IntKind.u64.wrap (recC sq md lk q1 q2 q3 q4)) 0)]
theorem rlen0 (sq md lk q1 q2 q3 q4 : Int) : ((rl0 sq md lk q1 q2 q3 q4) : List Value).length = 1 * 1 := by simp [rl0]
theorem rlen1 (sq md lk q1 q2 q3 q4 : Int) : ((rl1 sq md lk q1 q2 q3 q4) : List Value).length = 5 * 1 := by simp [rl0, rl1]
theorem rlen2 (sq md lk q1 q2 q3 q4 : Int) : ((rl2 sq md lk q1 q2 q3 q4) : List Value).length = 6 * 1 := by simp [rl0, rl1, rl2]
theorem rlen3 (sq md lk q1 q2 q3 q4 : Int) : ((rl3 sq md lk q1 q2 q3 q4) : List Value).length = 10 * 1 := by simp [rl0, rl1, rl2, rl3]
theorem rlen4 (sq md lk q1 q2 q3 q4 : Int) : ((rl4 sq md lk q1 q2 q3 q4) : List Value).length = 18 * 1 := by simp [rl0, rl1, rl2, rl3, rl4]
theorem rlen5 (sq md lk q1 q2 q3 q4 : Int) : ((rl5 sq md lk q1 q2 q3 q4) : List Value).length = 26 * 1 := by simp [rl0, rl1, rl2, rl3, rl4, rl5]
theorem rlen6 (sq md lk q1 q2 q3 q4 : Int) : ((rl6 sq md lk q1 q2 q3 q4) : List Value).length = 34 * 1 := by simp [rl0, rl1, rl2, rl3, rl4, rl5, rl6]
theorem rlen7 (sq md lk q1 q2 q3 q4 : Int) : ((rl7 sq md lk q1 q2 q3 q4) : List Value).length = 42 * 1 := by simp [rl0, rl1, rl2, rl3, rl4, rl5, rl6, rl7]
end Go.Proofs.YtekcchmnncefhaaGreatDoor
namespace Go.Proofs.YtekcchmnncefhaaGreatDoor
open Go Go.Proofs.YtekcchmnncefhaaGreatDoorAB
set_option linter.unusedSimpArgs false
set_option linter.unusedVariables false
set_option maxRecDepth 40000

set_option maxHeartbeats 4000000 in
theorem ref_RecordBytes0 (sq md lk q1 q2 q3 q4 : Int) (q : Nat) : Ctr Tryz.prog 7 57 [.agg #[.int .u32 sq, I64 md, .int .u32 lk, I64 q1, I64 q2, I64 q3, I64 q4]] [(q, .gone)] (.slice (some ⟨q, 0, none⟩) 44 grown) [.row (rl8 sq md lk q1 q2 q3 q4) 5 1] := by
  refine Ctr.by layOk Tryz.func57 Tryz.ntmps57 rfl rfl rfl rfl rfl ?_
  repeat' (first
    | ((with_reducible apply gQ0); (first | (apply q_sliceL (p := 1) layOk; (iterate 5 apply Eq.refl); (focus (decide)); (focus (decide)); (focus (decide))) | (apply q_box (k := ks _); apply Eq.refl; exact lk_; apply Eq.refl) | (apply q_move; apply Eq.refl) | (apply q_assign; apply Eq.refl) | (apply q_fa layOk; (iterate 5 apply Eq.refl)) | (apply q_load layOk; (iterate 3 apply Eq.refl); exact lk_; apply Eq.refl) | (apply q_box (k := ks _); apply Eq.refl; exact lk_; apply Eq.refl) | (apply q_conv; apply Eq.refl; exact Tryz.underlying27; exact Tryz.underlying204) | (apply q_conv; apply Eq.refl; exact Tryz.underlying3; exact Tryz.underlying5) | (apply q_conv; apply Eq.refl; exact Tryz.underlying2; exact Tryz.underlying204) | (apply q_conv; apply Eq.refl; exact Tryz.underlying205; exact Tryz.underlying204) | (apply q_buildR (k := ks _) layOk; (iterate 9 apply Eq.refl); exact lk_; apply Eq.refl) | (apply q_app1 (kn := ks _) layOk; (iterate 9 apply Eq.refl); exact lk_; exact lk_; exact lk_; (focus (decide)); (focus (decide)); (focus (decide)); exact (rlen1 sq md lk q1 q2 q3 q4); (iterate 3 apply Eq.refl)) | (apply isF (f := 93); (refine q_callW rfl (ref_big4 (cs := (rl0 sq md lk q1 q2 q3 q4)) (l := 1) (rlen0 sq md lk q1 q2 q3 q4) (by decide) _ (ks _)) fd_ (by decide) rfl rfl ?_)) | (apply isF (f := 93); (refine q_callW rfl (ref_big4 (cs := (rl2 sq md lk q1 q2 q3 q4)) (l := 6) (rlen2 sq md lk q1 q2 q3 q4) (by decide) _ (ks _)) fd_ (by decide) rfl rfl ?_)) | (apply isF (f := 93); (refine q_callW rfl (ref_big8 (cs := (rl3 sq md lk q1 q2 q3 q4)) (l := 10) (rlen3 sq md lk q1 q2 q3 q4) (by decide) _ (ks _)) fd_ (by decide) rfl rfl ?_)) | (apply isF (f := 93); (refine q_callW rfl (ref_big8 (cs := (rl4 sq md lk q1 q2 q3 q4)) (l := 18) (rlen4 sq md lk q1 q2 q3 q4) (by decide) _ (ks _)) fd_ (by decide) rfl rfl ?_)) | (apply isF (f := 93); (refine q_callW rfl (ref_big8 (cs := (rl5 sq md lk q1 q2 q3 q4)) (l := 26) (rlen5 sq md lk q1 q2 q3 q4) (by decide) _ (ks _)) fd_ (by decide) rfl rfl ?_)) | (apply isF (f := 93); (refine q_callW rfl (ref_big8 (cs := (rl6 sq md lk q1 q2 q3 q4)) (l := 34) (rlen6 sq md lk q1 q2 q3 q4) (by decide) _ (ks _)) fd_ (by decide) rfl rfl ?_)) | (apply isF (f := 93); (refine q_callW rfl (ref_big2 (cs := (rl7 sq md lk q1 q2 q3 q4)) (l := 42) (rlen7 sq md lk q1 q2 q3 q4) (by decide) _ (q)) fd_ (by decide) rfl rfl ?_)) | (apply isF (f := 94); (refine q_call1r rfl (ref_Sum (n := 41) ((rec_bt sq md lk q1 q2 q3 q4).sh 1 41 (by decide)) (fun _ => rfl) (by decide)) lc_ ?_))))
    | ((with_reducible apply gR); (first | refine RK.peelN rfl ?_ | refine RK.donef rfl ⟨_, rfl, ?_⟩))
    | ((with_reducible apply gW); (first | with_reducible apply WP.seq | refine WP.reg mixed (fun ks => _) (fun ks => rfl) (fun ks => ?_) | apply WP.ret))
    | (with_reducible apply thn_n)
    | (refine Endz.mk' en_ rv_ (by rfl) sb_))
theorem rec_bt8 (sq md lk q1 q2 q3 q4 : Int) : Bt (.row (rl8 sq md lk q1 q2 q3 q4) 5 1) 0 44 (recB sq md lk q1 q2 q3 q4) := ⟨fun i hi => by
  match i, hi with
  | 0, _ => rfl
  | 1, _ => rfl
  | 2, _ => rfl
  | 3, _ => rfl
  | 4, _ => rfl
  | 5, _ => rfl
  | 6, _ => rfl
  | 7, _ => rfl
  | 8, _ => rfl
  | 9, _ => rfl
  | 10, _ => rfl
  | 11, _ => rfl
  | 12, _ => rfl
  | 13, _ => rfl
  | 14, _ => rfl
  | 15, _ => rfl
  | 16, _ => rfl
  | 17, _ => rfl
  | 18, _ => rfl
  | 19, _ => rfl
  | 20, _ => rfl
  | 21, _ => rfl
  | 22, _ => rfl
  | 23, _ => rfl
  | 24, _ => rfl
  | 25, _ => rfl
  | 26, _ => rfl
  | 27, _ => rfl
  | 28, _ => rfl
  | 29, _ => rfl
  | 30, _ => rfl
  | 31, _ => rfl
  | 32, _ => rfl
  | 33, _ => rfl
  | 34, _ => rfl
  | 35, _ => rfl
  | 36, _ => rfl
  | 37, _ => rfl
  | 38, _ => rfl
  | 39, _ => rfl
  | 40, _ => rfl
  | 41, _ => rfl
  | 42, _ => rfl
  | 43, _ => rfl
  | i + 44, h => exact absurd h (by omega)⟩
end Go.Proofs.YtekcchmnncefhaaGreatDoor
namespace Go.Proofs.YtekcchmnncefhaaGreatDoor
open Go Go.Proofs.YtekcchmnncefhaaGreatDoorAB
set_option linter.unusedSimpArgs false
set_option linter.unusedVariables false
set_option maxRecDepth 40000
abbrev obp340 := (.cells (rowZ [.int .u8 0] 88) 5 : AObj)
theorem wk_P34_0 {p : Prop} (h : p := by
  repeat' (first
    | ((with_reducible apply gQ0); (first | (apply q_load layOk; (iterate 3 apply Eq.refl); exact lk_; exact (hbt.a (x + 1) hi)) | (apply q_idxN (m := x + 1) layOk; (iterate 4 apply Eq.refl); exact (fun _ => rfl); apply Eq.refl; exact hi) | (apply q_load layOk; (iterate 3 apply Eq.refl); exact lk_; exact (hbt.a 0 (by decide))) | (apply q_idxN (m := 0) layOk; (iterate 4 apply Eq.refl); exact (fun _ => rfl); apply Eq.refl; (focus (decide))) | (apply q_box (k := ks _); apply Eq.refl; exact lk_; apply Eq.refl) | (apply q_move; apply Eq.refl) | (apply q_assign; apply Eq.refl) | (apply q_int; (iterate 3 apply Eq.refl)) | (apply q_loadr layOk; (iterate 3 apply Eq.refl); exact lk_; apply Eq.refl) | (apply q_build layOk; (iterate 4 apply Eq.refl)) | (apply q_not; apply Eq.refl) | (apply q_len layOk; (iterate 4 apply Eq.refl)) | (apply q_buildS (k := ks _) layOk; (iterate 8 apply Eq.refl); exact lk_; apply Eq.refl) | (apply q_app1 (kn := ks _) layOk; (iterate 9 apply Eq.refl); exact lk_; exact lk_; exact lk_; (focus (decide)); (focus (show (x + 1 + 1) * 16 ≤ 1099511627776; omega)); (focus (omega)); exact (wl_len _ _); (iterate 3 apply Eq.refl)) | (apply q_app1 (kn := ks _) layOk; (iterate 9 apply Eq.refl); exact lk_; exact lk_; exact lk_; (focus (decide)); (focus (decide)); (focus (decide)); exact (wl_len _ _); (iterate 3 apply Eq.refl)) | (apply isF (f := 54); (refine q_call0 rfl (ref_len_ok rfl) ?_)) | (apply isF (f := 55); (refine q_call0 rfl (ref_Good_bad _ _ _ _ _ _ _ hg) ?_))))
    | ((with_reducible apply gR); (first | refine RK.peelN rfl ?_ | refine RK.donef rfl ⟨_, rfl, ?_⟩))
    | ((with_reducible apply gW); (first | with_reducible apply WP.seq | refine WP.reg mixed (fun ks => _) (fun ks => rfl) (fun ks => ?_) | ((first | (apply cdD; apply Eq.refl) | (apply WP.condN; apply Eq.refl) | (apply WP.condA; apply Eq.refl)) <;> (intro hc; (first | exact absurd hc (by decide) | with_reducible exact absurd hlt hc | with_reducible exact absurd hc hge | skip))) | apply WP.ret | apply WP.skip | apply WP.exit | apply WP.block))
    | (first | with_reducible apply thn_n | with_reducible apply thn_r | with_reducible apply thn_e | with_reducible apply blk_n | with_reducible apply blk_e)
    | (refine Endz.mk' en_ rv_ (by rfl) sb_)
    | (exact ⟨(x + 1, _), hm, by show 43 - (x + 1) < 43 - x; omega, Wk.of ⟨rfl, rfl, rfl, congrArg (fun x => some (I64 x)) hw, trivial⟩ sb_⟩)
    | (exact ⟨Or.inr rfl, _, _, _, rfl, (by repeat (first | apply RVs.nil | apply RVs.cons | (apply RV1.tmp; apply Eq.refl) | (apply RV1.row; (iterate 3 apply Eq.refl); (focus (first | (focus ((repeat (with_reducible (first | apply lh | apply lt))); done)) | (focus (apply lx; (focus (repeat (with_reducible (first | apply lh | apply lt)))); exact rfl)))); exact rfl) | (apply RV1.cell; (iterate 3 apply Eq.refl); (focus (first | (focus ((repeat (with_reducible (first | apply lh | apply lt))); done)) | (focus (apply lx; (focus (repeat (with_reducible (first | apply lh | apply lt)))); exact rfl)))); exact rfl))), RN.tuple (RNL.cons (RN.slice _ _ _) (RNL.cons (RN.refl _) RNL.nil)), rfl, sb_⟩))) : p := h
theorem rowZ_at (v : Value) : ∀ (m i : Nat), i < m → (rowZ [v] m)[i]? = some v
  | m + 1, 0, _ => rfl
  | m + 1, i + 1, h => by show (rowZ [v] m)[i]? = some v; exact rowZ_at v m i (by omega)
/-- A memory that was never written. -/
theorem zero_bt : Bt (obp340) 0 88 (fun _ => 0) := ⟨fun i hi => by
  have h := rowZ_at (.int .u8 0) 88 i hi
  show (rowZ [Value.int .u8 0] 88)[0 + i * 1]? = _
  rw [show 0 + i * 1 = i by omega]
  exact h⟩
theorem row_bt (B : Nat → Int) (n : Nat) : Bt (.row (bytesL B n) 5 1) 0 n B := ⟨fun i hi => by
  have h := bytes_at B n i hi
  show (bytesL B n)[0 + i * 1]? = _
  rw [show 0 + i * 1 = i by omega]
  exact h⟩
/-- Places and bytes that can be read. -/
structure Wt (ob : AObj) (n : Nat) (A V : Nat → Int) : Prop where
  ax : ∀ i, i < n → ob.at (0 + i * 2) = some (I64 (A i))
  ay : ∀ i, i < n → ob.at (0 + i * 2 + 1) = some (.int .u8 (V i))
def wl (B : Nat → Int) : Nat → List Value
  | 0 => [I64 0, .int .u8 0]
  | x + 1 => wl B x ++ [I64 (IntKind.i64.wrap (0 + ((x + 1 : Nat) : Int))), .int .u8 (B (x + 1))]
theorem wl_len (B : Nat → Int) (x : Nat) : (wl B x).length = (x + 1) * 2 := by
  induction x with
  | zero => rfl
  | succ x ih => simp [wl, ih]; omega
theorem wl_at (B : Nat → Int) : ∀ (x i : Nat), i ≤ x → (wl B x)[i * 2]? = some (I64 (if i = 0 then 0 else IntKind.i64.wrap (0 + (i : Int)))) ∧ (wl B x)[i * 2 + 1]? = some (.int .u8 (if i = 0 then 0 else B i))
  | 0, i, h => by obtain rfl : i = 0 := by omega
                  exact ⟨rfl, rfl⟩
  | x + 1, i, h => by
    have hl := wl_len B x
    rw [wl]
    by_cases hi : i ≤ x
    · rw [List.getElem?_append_left (by omega), List.getElem?_append_left (by omega)]; exact wl_at B x i hi
    · obtain rfl : i = x + 1 := by omega
      rw [List.getElem?_append_right (by omega), List.getElem?_append_right (by omega), hl, show (x + 1) * 2 - (x + 1) * 2 = 0 by omega, show (x + 1) * 2 + 1 - (x + 1) * 2 = 1 by omega, if_neg (by omega), if_neg (by omega)]
      exact ⟨rfl, rfl⟩
theorem not_zero : ¬ isRec (fun _ => 0) := fun h => by have := h.1; exact absurd this (by decide)
theorem not_zero2 : ¬ isRec (fun i => (fun _ => (0 : Int)) (44 + i)) := not_zero

set_option maxHeartbeats 4000000 in
theorem ref_Writes_bad (k : Nat) (sq md lk q1 q2 q3 q4 : Int) (hg : goodR md lk q1 q2 q3 q4 = false) : Ctr Tryz.prog 7 10 [.slice (some ⟨k, 0, none⟩) 88 88, .agg #[.int .u32 sq, I64 md, .int .u32 lk, I64 q1, I64 q2, I64 q3, I64 q4]] [(k, obp340)] (.tuple #[.slice none 0 0, I64 101]) [obp340] := by
  have nt1 : ¬ (!true) = true := by decide
  have nt2 : ¬ (!false) = false := by decide
  refine Ctr.by layOk Tryz.func10 Tryz.ntmps10 rfl rfl rfl rfl rfl ?_
  exact wk_P34_0

set_option maxHeartbeats 8000000 in
theorem ref_Writes_ok (k : Nat) (sq md lk q1 q2 q3 q4 : Int) (hg : goodR md lk q1 q2 q3 q4 = true) (q : Nat) : Ctr Tryz.prog 7 10 [.slice (some ⟨k, 0, none⟩) 88 88, .agg #[.int .u32 sq, I64 md, .int .u32 lk, I64 q1, I64 q2, I64 q3, I64 q4]] ([(k, obp340)] ++ [(q, .gone)]) (.tuple #[.slice (some ⟨q, 0, none⟩) 45 grown, I64 0]) ([obp340] ++ [.row (wl (recB 1 md lk q1 q2 q3 q4) 43 ++ [I64 0, .int .u8 ((recB 1 md lk q1 q2 q3 q4) 0)]) 137 2]) := by
  have hbt := rec_bt8 1 md lk q1 q2 q3 q4
  have nt1 : ¬ (!true) = true := by decide
  have nt2 : ¬ (!false) = false := by decide
  refine Ctr.ren layOk Tryz.func10 Tryz.ntmps10 rfl rfl rfl rfl rfl ?_
  repeat' (first
    | ((with_reducible apply gQ0); (first | (apply q_box (k := ks _); apply Eq.refl; exact lk_; apply Eq.refl) | (apply q_move; apply Eq.refl) | (apply q_assign; apply Eq.refl) | (apply q_int; (iterate 3 apply Eq.refl)) | (apply q_fa layOk; (iterate 5 apply Eq.refl)) | (apply q_loadr layOk; (iterate 3 apply Eq.refl); exact lk_; apply Eq.refl) | (apply q_build layOk; (iterate 4 apply Eq.refl)) | (apply q_not; apply Eq.refl) | (apply q_box (k := ks _); apply Eq.refl; exact lk_; apply Eq.refl) | (apply q_buildR (k := ks _) layOk; (iterate 9 apply Eq.refl); exact lk_; apply Eq.refl) | (apply isF (f := 54); (refine q_call0 rfl (ref_len_ok rfl) ?_)) | (apply isF (f := 55); (refine q_call0 rfl (ref_Good_ok _ _ _ _ _ _ _ hg) ?_)) | (apply isF (f := 56); (refine q_callR rfl (ref_newest_nn zero_bt (by decide) not_zero not_zero2) rfl fd_ (by decide) ?_)) | (apply isF (f := 57); (refine q_callW rfl (ref_RecordBytes0 1 md lk q1 q2 q3 q4 (ks _)) fd_ (by decide) rfl rfl ?_)) | (apply e_store layOk; (iterate 3 apply Eq.refl); exact lk_; (iterate 5 apply Eq.refl))))
    | ((with_reducible apply gR); (first | refine RK.peelN rfl ?_ | refine RK.donef rfl ⟨_, rfl, ?_⟩))
    | ((with_reducible apply gW); (first | with_reducible apply WP.seq | refine WP.reg mixed (fun ks => _) (fun ks => rfl) (fun ks => ?_) | ((first | (apply cdD; apply Eq.refl) | (apply WP.condN; apply Eq.refl) | (apply WP.condA; apply Eq.refl)) <;> (intro hc; (first | with_reducible exact absurd hc nt1 | exact absurd hc (by decide) | skip))) | apply WP.skip | apply WP.block))
    | (with_reducible apply thn_n))
  rename_i zb zw
  refine WP.loopI (n := 69) (α := Nat × Nat) (fun x => [(8, some (I64 0)), (11, some (.slice (some ⟨zb 0, 0, none⟩) 44 grown)), (12, some (.slice (some ⟨x.2, 0, none⟩) (x.1 + 1) grown)), (13, some (I64 ((x.1 + 1 : Nat) : Int)))]) (fun x => [(k, obp340), (q, .gone), (zb 0, .row (rl8 1 md lk q1 q2 q3 q4) 5 1), (x.2, .row (wl (recB 1 md lk q1 q2 q3 q4) x.1) 137 2)]) (fun x => x.1 ≤ 43) (fun x => 43 - x.1) (0, zw 0) (Wk.of ⟨rfl, rfl, rfl, rfl, trivial⟩ sb_) (Nat.zero_le _) (fun x ix => ?_)
  obtain ⟨x, kf⟩ := x
  have ix : x ≤ 43 := ix
  try dsimp only
  by_cases hm : x < 43
  · have hi : x + 1 < 44 := by omega
    have hlt : ((x + 1 : Nat) : Int) < ((44 : Nat) : Int) := by omega
    have hw := kpB (x := x + 1) (by omega)
    exact wk_P34_0
  · obtain rfl : x = 43 := by omega
    have hge : ¬ ((43 + 1 : Nat) : Int) < ((44 : Nat) : Int) := by decide
    exact wk_P34_0
end Go.Proofs.YtekcchmnncefhaaGreatDoor
namespace Go.Proofs.YtekcchmnncefhaaGreatDoor
open Go Go.Proofs.YtekcchmnncefhaaGreatDoorAB
set_option linter.unusedSimpArgs false
set_option linter.unusedVariables false
set_option maxRecDepth 40000
theorem wk_P35_0 {p : Prop} (h : p := by
  repeat' (first
    | ((first | (with_reducible apply gQ0) | ((with_reducible apply gQ1); exact wt_)); (first | (apply q_load layOk; (iterate 3 apply Eq.refl); exact lk_; exact (wt.ax x hi)) | (apply q_load layOk; (iterate 3 apply Eq.refl); exact lk_; exact (wt.ay x hi)) | (apply q_idxN (m := x) layOk; (iterate 4 apply Eq.refl); exact (fun _ => rfl); apply Eq.refl; exact hi) | (apply q_idxN (m := ad x) layOk; (iterate 4 apply Eq.refl); exact (fun _ => rfl); exact (haN x hi); exact ha88) | (apply q_move; apply Eq.refl) | (apply q_assign; apply Eq.refl) | (apply q_int; (iterate 3 apply Eq.refl)) | (apply q_fa layOk; (iterate 5 apply Eq.refl)) | (apply q_pick_t; apply Eq.refl; apply Eq.refl) | (apply q_pick_f; apply Eq.refl; apply Eq.refl) | (apply q_len layOk; (iterate 4 apply Eq.refl)) | (apply e_store layOk; (iterate 3 apply Eq.refl); exact lk_; (iterate 3 apply Eq.refl); exact (bytesL_put _ _ ha88 _); apply Eq.refl)))
    | ((with_reducible apply gR); (first | refine RK.peelN rfl ?_ | refine RK.donef rfl ⟨_, rfl, ?_⟩ | refine RK.donet rfl (by kernel_rfl) ⟨_, rfl, ?_⟩))
    | ((with_reducible apply gQv); focus exact wf_)
    | ((with_reducible apply gK); (fail_if_success ((apply gM); (iterate 3 apply Eq.refl))); ((apply gsD; (iterate 4 apply Eq.refl)) <;> (intro hc; (first | with_reducible exact absurd hlt hc | with_reducible exact absurd g1 hc | with_reducible exact absurd g2 hc | with_reducible exact ff' hc | with_reducible exact absurd hc hge | skip))))
    | ((with_reducible apply gW); (first | with_reducible apply WP.seq | refine WP.reg mixed (fun ks => _) (fun ks => rfl) (fun ks => ?_) | ((first | (apply cdD; apply Eq.refl) | (apply WP.condA; apply Eq.refl)) <;> (intro hc; (first | with_reducible exact absurd hlt hc | with_reducible exact absurd g1 hc | with_reducible exact absurd g2 hc | with_reducible exact ff' hc | with_reducible exact absurd hc hge | skip))) | apply WP.ret | apply WP.skip | apply WP.exit | apply WP.block))
    | (first | with_reducible apply thn_n | with_reducible apply thn_e | with_reducible apply blk_n | with_reducible apply blk_e)
    | (refine Endz.mk' en_ rv_ (by rfl) sb_)
    | (exact ⟨x + 1, hi, by show m - (x + 1) < m - x; omega, Wk.of ⟨rfl, rfl, rfl, congrArg (fun x => some (I64 x)) hw, trivial⟩ sb_⟩))) : p := h
theorem setO_is : ∀ (l : List Value) (i : Nat) (v : Value), i < l.length → setO l i v = some (l.set i v)
  | _ :: _, 0, _, _ => rfl
  | x :: l, i + 1, v, h => by
    have ih := setO_is l i v (by simpa using h)
    simp only [setO, ih, List.set_cons_succ]
/-- One byte anew. -/
def updB (N : Nat → Int) (i : Nat) (v : Int) : Nat → Int := fun j => if j = i then v else N j
theorem bytesL_set (N : Nat → Int) (i : Nat) (v : Int) : ∀ n : Nat, i < n → (bytesL N n).set i (.int .u8 v) = bytesL (updB N i v) n := by
  have same : ∀ m, m ≤ i → bytesL N m = bytesL (updB N i v) m := fun m => by
    induction m with
    | zero => intro _; rfl
    | succ m ih =>
      intro h
      rw [bytesL, bytesL, ih (by omega)]
      unfold updB; rw [if_neg (by omega)]
  intro n
  induction n with
  | zero => intro h; exact absurd h (Nat.not_lt_zero i)
  | succ n ih =>
    intro h
    rw [bytesL, bytesL]
    by_cases hi : i < n
    · rw [List.set_append_left _ _ (by rw [bytesL_len]; omega), ih hi]
      unfold updB; rw [if_neg (by omega)]
    · obtain rfl : i = n := by omega
      rw [List.set_append_right _ _ (by rw [bytesL_len]; omega), bytesL_len, Nat.mul_one, Nat.sub_self, same i (Nat.le_refl _)]
      show _ ++ [_] = _
      unfold updB; rw [if_pos rfl]
theorem bytesL_put (N : Nat → Int) {n i : Nat} (v : Int) (h : i < n) (ty : TypeId) : AObj.put (.row (bytesL N n) ty 1) (0 + i * 1) [.int .u8 v] = some (.row (bytesL (updB N i v) n) ty 1) := by
  show (match putO (bytesL N n) (0 + i * 1) [.int .u8 v] with | some r => some (AObj.row r ty 1) | none => none) = _
  rw [Nat.zero_add, Nat.mul_one]
  simp only [putO, setO_is _ _ _ (show i < (bytesL N n).length by rw [bytesL_len]; omega), bytesL_set N i v n h]
/-- So many bytes written. -/
def apN (B : Nat → Int) (a : Nat → Nat) (V : Nat → Int) : Nat → (Nat → Int)
  | 0 => B
  | x + 1 => updB (apN B a V x) (a x) (V x)

set_option maxHeartbeats 8000000 in
theorem ref_Apply {ob wo : AObj} {B V A : Nat → Int} {ad : Nat → Nat} {m c2 : Nat} (bt : Bt ob 0 88 B) (wt : Wt wo m A V) (hm : m ≤ 1000) (haN : ∀ i, i < m → A i = ((ad i : Nat) : Int)) (ha8 : ∀ i, i < m → ad i < 88) (k kw q : Nat) : Ctr Tryz.prog 7 11 [.slice (some ⟨k, 0, none⟩) 88 88, .slice (some ⟨kw, 0, none⟩) m c2, I64 (m : Int)] [(k, ob), (kw, wo), (q, .gone)] (.slice (some ⟨q, 0, none⟩) 88 grown) [ob, wo, .row (bytesL (apN B ad V m) 88) 5 1] := by
  refine Ctr.by layOk Tryz.func11 Tryz.ntmps11 rfl rfl rfl rfl rfl ?_
  repeat' (first
    | ((with_reducible apply gQ0); (first | (apply q_move; apply Eq.refl) | (apply q_assign; apply Eq.refl) | (apply isF (f := 36); (refine q_callW rfl (ref_Bytes bt (fun _ => rfl) (by decide) q) fd_ (by decide) rfl rfl ?_))))
    | ((with_reducible apply gR); (first | refine RK.peelN rfl ?_ | refine RK.donef rfl ⟨_, rfl, ?_⟩))
    | ((with_reducible apply gW); (first | with_reducible apply WP.seq | refine WP.reg mixed (fun ks => _) (fun ks => rfl) (fun ks => ?_) | apply WP.block))
    | (with_reducible apply thn_n))
  refine WP.loopI (n := 51) (α := Nat) (fun x => [(1, some (.slice (some ⟨kw, 0, none⟩) m c2)), (2, some (I64 (m : Int))), (7, some (.slice (some ⟨q, 0, none⟩) 88 grown)), (8, some (I64 (x : Int)))]) (fun x => [(k, ob), (kw, wo), (q, .row (bytesL (apN B ad V x) 88) 5 1)]) (fun x => x ≤ m) (fun x => m - x) 0 (Wk.of ⟨rfl, rfl, rfl, rfl, trivial⟩ sb_) (Nat.zero_le _) (fun x ix => ?_)
  have ix : x ≤ m := ix
  by_cases hi : x < m
  · have hlt : (x : Int) < (m : Int) := by omega
    have hw := kpB (x := x) (by omega)
    have ha88 := ha8 x hi
    have hA := haN x hi
    have g1 : A x ≥ 0 := by omega
    have g2 : A x < ((88 : Nat) : Int) := by omega
    exact wk_P35_0
  · obtain rfl : x = m := by omega
    have hge : ¬ (x : Int) < (x : Int) := by omega
    exact wk_P35_0
end Go.Proofs.YtekcchmnncefhaaGreatDoor
namespace Go.Proofs.YtekcchmnncefhaaGreatDoor
open Go Go.Proofs.YtekcchmnncefhaaGreatDoorAB
set_option linter.unusedSimpArgs false
set_option linter.unusedVariables false
set_option maxRecDepth 40000
theorem u64_in {x : Int} (h : 0 ≤ x) (h2 : x < 18446744073709551616) : IntKind.u64.wrap x = x := by rw [IntKind.wrap_u64]; omega
theorem bv64 (a : Nat) (h : a < 18446744073709551616) : (BitVec.ofInt IntKind.u64.bits (a : Int)).toNat = a := by
  show (BitVec.ofInt 64 (a : Int)).toNat = a
  rw [BitVec.toNat_ofInt]; omega
theorem num_step (s b : Nat) (hs : s < 72057594037927936) (hb : b < 256) : or64 (sh64 (s : Int) 8) (b : Int) = ((s * 256 + b : Nat) : Int) := by
  have e1 : sh64 (s : Int) 8 = ((s * 256 : Nat) : Int) := by
    show IntKind.u64.wrap ((s : Int) * 2 ^ min (8 : Int).toNat IntKind.u64.bits) = _
    rw [show min (8 : Int).toNat IntKind.u64.bits = 8 from rfl]
    rw [u64_in (by omega) (by omega)]; omega
  rw [e1]
  show IntKind.u64.wrap (BitVec.ofInt IntKind.u64.bits ((s * 256 : Nat) : Int) ||| BitVec.ofInt IntKind.u64.bits (b : Int)).toNat = _
  rw [BitVec.toNat_or, bv64 _ (by omega), bv64 _ (by omega)]
  have h := Nat.shiftLeft_add_eq_or_of_lt (i := 8) (b := b) (by omega) s
  rw [Nat.shiftLeft_eq, show (2 : Nat) ^ 8 = 256 from rfl] at h
  rw [← h, u64_in (by omega) (by omega)]
theorem by_step (n : Int) : IntKind.u8.wrap n = n % 256 := by rw [IntKind.wrap_u8]
theorem byteE_nat (n j : Nat) (hj : j < 8) : byteE (n : Int) (j : Int) = ((n / 2 ^ (8 * j) % 256 : Nat) : Int) := by
  have key : ∀ m : Nat, IntKind.u8.wrap ((n : Int).fdiv (2 ^ m)) = ((n / 2 ^ m % 256 : Nat) : Int) := fun m => by
    rw [by_step, Int.fdiv_eq_ediv_of_nonneg _ (by exact Int.le_of_lt (Int.pow_pos (by decide)))]
    push_cast
    rfl
  match j, hj with
  | 0, _ => exact key 0
  | 1, _ => exact key 8
  | 2, _ => exact key 16
  | 3, _ => exact key 24
  | 4, _ => exact key 32
  | 5, _ => exact key 40
  | 6, _ => exact key 48
  | 7, _ => exact key 56
  | j + 8, h => exact absurd h (by omega)
/-- The number of so many bytes, as it should be. -/
def natN (b : Nat → Nat) : Nat → Nat
  | 0 => 0
  | i + 1 => natN b i * 256 + b i
theorem natN_lt (b : Nat → Nat) (hb : ∀ i, b i < 256) : ∀ m : Nat, natN b m < 256 ^ m
  | 0 => by show 0 < 256 ^ 0; decide
  | m + 1 => by
    have h1 := natN_lt b hb m
    have h2 := hb m
    rw [natN, Nat.pow_succ]
    omega
theorem num_nat (B : Nat → Int) (b : Nat → Nat) (hb : ∀ i, b i < 256) (n : Nat) (hB : ∀ i, i < n → B i = (b i : Int)) (h8 : n ≤ 8) : ∀ m : Nat, m ≤ n → numN B m = (natN b m : Int)
  | 0, _ => rfl
  | m + 1, h => by
    have ih := num_nat B b hb n hB h8 m (by omega)
    have hl := natN_lt b hb m
    have h56 : 256 ^ m ≤ 72057594037927936 := by
      have : (256 : Nat) ^ m ≤ 256 ^ 7 := Nat.pow_le_pow_right (by decide) (by omega)
      exact Nat.le_trans this (by decide)
    have hbm := hb m
    rw [numN, ih, hB m (by omega), u64_in (by omega) (by omega), num_step _ _ (by omega) hbm]
    rfl
theorem crc_congr (B B' : Nat → Int) (s : Int) : ∀ m : Nat, (∀ i, i < m → B i = B' i) → crcN B s m = crcN B' s m
  | 0, _ => rfl
  | m + 1, h => by rw [crcN, crcN, crc_congr B B' s m (fun i hi => h i (by omega)), h m (by omega)]
theorem nat4 (n : Nat) (h : n < 4294967296) : natN (fun i => n / 2 ^ (8 * (3 - i)) % 256) 4 = n := by
  simp only [natN]
  show (((0 * 256 + n / 2 ^ 24 % 256) * 256 + n / 2 ^ 16 % 256) * 256 + n / 2 ^ 8 % 256) * 256 + n / 2 ^ 0 % 256 = n
  omega
theorem nat2 (n : Nat) (h : n < 65536) : natN (fun i => n / 2 ^ (8 * (1 - i)) % 256) 2 = n := by
  simp only [natN]
  show (0 * 256 + n / 2 ^ 8 % 256) * 256 + n / 2 ^ 0 % 256 = n
  omega
theorem nat8 (n : Nat) (h : n < 4294967296) : natN (fun i => n / 2 ^ (8 * (7 - i)) % 256) 8 = n := by
  simp only [natN]
  show (((((((0 * 256 + n / 2 ^ 56 % 256) * 256 + n / 2 ^ 48 % 256) * 256 + n / 2 ^ 40 % 256) * 256 + n / 2 ^ 32 % 256) * 256 + n / 2 ^ 24 % 256) * 256 + n / 2 ^ 16 % 256) * 256 + n / 2 ^ 8 % 256) * 256 + n / 2 ^ 0 % 256 = n
  have e1 : n / 2 ^ 56 = 0 := Nat.div_eq_of_lt (by omega)
  have e2 : n / 2 ^ 48 = 0 := Nat.div_eq_of_lt (by omega)
  have e3 : n / 2 ^ 40 = 0 := Nat.div_eq_of_lt (by omega)
  have e4 : n / 2 ^ 32 = 0 := Nat.div_eq_of_lt (by omega)
  rw [e1, e2, e3, e4]
  omega
theorem num4 (B : Nat → Int) (n : Nat) (h : n < 4294967296) (hB : ∀ i, i < 4 → B i = byteE (n : Int) ((3 - i : Nat) : Int)) : numN B 4 = (n : Int) := by
  rw [num_nat B (fun i => n / 2 ^ (8 * (3 - i)) % 256) (fun i => Nat.mod_lt _ (by decide)) 4 (fun i hi => by rw [hB i hi, byteE_nat _ _ (by omega)]) (by decide) 4 (Nat.le_refl _), nat4 n h]
theorem num2 (B : Nat → Int) (n : Nat) (h : n < 65536) (hB : ∀ i, i < 2 → B i = byteE (n : Int) ((1 - i : Nat) : Int)) : numN B 2 = (n : Int) := by
  rw [num_nat B (fun i => n / 2 ^ (8 * (1 - i)) % 256) (fun i => Nat.mod_lt _ (by decide)) 2 (fun i hi => by rw [hB i hi, byteE_nat _ _ (by omega)]) (by decide) 2 (Nat.le_refl _), nat2 n h]
theorem num8 (B : Nat → Int) (n : Nat) (h : n < 4294967296) (hB : ∀ i, i < 8 → B i = byteE (n : Int) ((7 - i : Nat) : Int)) : numN B 8 = (n : Int) := by
  rw [num_nat B (fun i => n / 2 ^ (8 * (7 - i)) % 256) (fun i => Nat.mod_lt _ (by decide)) 8 (fun i hi => by rw [hB i hi, byteE_nat _ _ (by omega)]) (by decide) 8 (Nat.le_refl _), nat8 n h]
theorem bitC_in (s : Int) : 0 ≤ bitC s ∧ bitC s < 65536 := by
  unfold bitC
  split
  · show 0 ≤ IntKind.u16.wrap _ ∧ IntKind.u16.wrap _ < 65536
    rw [IntKind.wrap_u16]; omega
  · show 0 ≤ IntKind.u16.wrap _ ∧ IntKind.u16.wrap _ < 65536
    rw [IntKind.wrap_u16]; omega
theorem recB_lo (sq md lk q1 q2 q3 q4 : Int) (i : Nat) (h : i < 42) : recB sq md lk q1 q2 q3 q4 i = recB0 sq md lk q1 q2 q3 q4 i := by
  match i, h with
  | 0, _ => rfl
  | 1, _ => rfl
  | 2, _ => rfl
  | 3, _ => rfl
  | 4, _ => rfl
  | 5, _ => rfl
  | 6, _ => rfl
  | 7, _ => rfl
  | 8, _ => rfl
  | 9, _ => rfl
  | 10, _ => rfl
  | 11, _ => rfl
  | 12, _ => rfl
  | 13, _ => rfl
  | 14, _ => rfl
  | 15, _ => rfl
  | 16, _ => rfl
  | 17, _ => rfl
  | 18, _ => rfl
  | 19, _ => rfl
  | 20, _ => rfl
  | 21, _ => rfl
  | 22, _ => rfl
  | 23, _ => rfl
  | 24, _ => rfl
  | 25, _ => rfl
  | 26, _ => rfl
  | 27, _ => rfl
  | 28, _ => rfl
  | 29, _ => rfl
  | 30, _ => rfl
  | 31, _ => rfl
  | 32, _ => rfl
  | 33, _ => rfl
  | 34, _ => rfl
  | 35, _ => rfl
  | 36, _ => rfl
  | 37, _ => rfl
  | 38, _ => rfl
  | 39, _ => rfl
  | 40, _ => rfl
  | 41, _ => rfl
  | i + 42, h => exact absurd h (by omega)
theorem recB_lk (sq md lk q1 q2 q3 q4 : Int) (i : Nat) (h : i < 4) : recB sq md lk q1 q2 q3 q4 (6 + i) = byteE (IntKind.u64.wrap lk) ((3 - i : Nat) : Int) := by
  match i, h with
  | 0, _ => rfl
  | 1, _ => rfl
  | 2, _ => rfl
  | 3, _ => rfl
  | i + 4, h => exact absurd h (by omega)
theorem recB_q1 (sq md lk q1 q2 q3 q4 : Int) (i : Nat) (h : i < 8) : recB sq md lk q1 q2 q3 q4 (10 + i) = byteE (IntKind.u64.wrap q1) ((7 - i : Nat) : Int) := by
  match i, h with
  | 0, _ => rfl
  | 1, _ => rfl
  | 2, _ => rfl
  | 3, _ => rfl
  | 4, _ => rfl
  | 5, _ => rfl
  | 6, _ => rfl
  | 7, _ => rfl
  | i + 8, h => exact absurd h (by omega)
theorem recB_q2 (sq md lk q1 q2 q3 q4 : Int) (i : Nat) (h : i < 8) : recB sq md lk q1 q2 q3 q4 (18 + i) = byteE (IntKind.u64.wrap q2) ((7 - i : Nat) : Int) := by
  match i, h with
  | 0, _ => rfl
  | 1, _ => rfl
  | 2, _ => rfl
  | 3, _ => rfl
  | 4, _ => rfl
  | 5, _ => rfl
  | 6, _ => rfl
  | 7, _ => rfl
  | i + 8, h => exact absurd h (by omega)
theorem recB_q3 (sq md lk q1 q2 q3 q4 : Int) (i : Nat) (h : i < 8) : recB sq md lk q1 q2 q3 q4 (26 + i) = byteE (IntKind.u64.wrap q3) ((7 - i : Nat) : Int) := by
  match i, h with
  | 0, _ => rfl
  | 1, _ => rfl
  | 2, _ => rfl
  | 3, _ => rfl
  | 4, _ => rfl
  | 5, _ => rfl
  | 6, _ => rfl
  | 7, _ => rfl
  | i + 8, h => exact absurd h (by omega)
theorem recB_q4 (sq md lk q1 q2 q3 q4 : Int) (i : Nat) (h : i < 8) : recB sq md lk q1 q2 q3 q4 (34 + i) = byteE (IntKind.u64.wrap q4) ((7 - i : Nat) : Int) := by
  match i, h with
  | 0, _ => rfl
  | 1, _ => rfl
  | 2, _ => rfl
  | 3, _ => rfl
  | 4, _ => rfl
  | 5, _ => rfl
  | 6, _ => rfl
  | 7, _ => rfl
  | i + 8, h => exact absurd h (by omega)
theorem recB_cs (sq md lk q1 q2 q3 q4 : Int) (i : Nat) (h : i < 2) : recB sq md lk q1 q2 q3 q4 (42 + i) = byteE (IntKind.u64.wrap (recC sq md lk q1 q2 q3 q4)) ((1 - i : Nat) : Int) := by
  match i, h with
  | 0, _ => rfl
  | 1, _ => rfl
  | i + 2, h => exact absurd h (by omega)
theorem right_of {a b : Int} (h : rightB a b = true) : 0 ≤ a ∧ a ≤ b ∧ b ≤ 1073741824 := of_decide_eq_true h
theorem q_back {B : Nat → Int} {q : Int} (h0 : 0 ≤ q) (h1 : q ≤ 1073741824) (hB : ∀ i, i < 8 → B i = byteE (IntKind.u64.wrap q) ((7 - i : Nat) : Int)) : IntKind.i64.wrap (numN B 8) = q := by
  obtain ⟨n, rfl⟩ := Int.eq_ofNat_of_zero_le h0
  rw [u64_in (by omega) (by omega)] at hB
  rw [num8 B n (by omega) hB, wrap_in (by omega) (by omega)]
/-- A record that was written is one. -/
theorem rec_is (sq md lk q1 q2 q3 q4 : Int) (hlk : 0 ≤ lk) (hg : goodR md lk q1 q2 q3 q4 = true) {M : Nat → Int} (hM : ∀ j, j < 44 → M j = recB sq md lk q1 q2 q3 q4 j) : isRec M := by
  obtain ⟨g1, g2, g3, g4, g5⟩ := good_of hg
  obtain ⟨a1, a2, a3⟩ := right_of g4
  obtain ⟨b1, b2, b3⟩ := right_of g5
  have hC : ∃ n : Nat, n < 65536 ∧ recC sq md lk q1 q2 q3 q4 = (n : Int) := by
    have h := bitC_in (eightC 7 (byteC (crcN (fun i => recB0 sq md lk q1 q2 q3 q4 (1 + i)) 65535 40) (recB0 sq md lk q1 q2 q3 q4 (1 + 40))))
    obtain ⟨n, hn⟩ := Int.eq_ofNat_of_zero_le h.1
    have e : recC sq md lk q1 q2 q3 q4 = (n : Int) := hn
    exact ⟨n, by have := h.2; omega, e⟩
  obtain ⟨n, hn, hCn⟩ := hC
  refine ⟨?_, ?_, ?_⟩
  · rw [hM 0 (by decide)]; rfl
  · rw [crc_congr _ (fun i => recB0 sq md lk q1 q2 q3 q4 (1 + i)) 65535 41 (fun i hi => by rw [hM (1 + i) (by omega), recB_lo _ _ _ _ _ _ _ _ (by omega)])]
    show IntKind.u64.wrap (recC sq md lk q1 q2 q3 q4) = _
    rw [num2 _ n hn (fun i hi => by rw [hM (42 + i) (by omega), recB_cs _ _ _ _ _ _ _ i hi, hCn, u64_in (by omega) (by omega)]), hCn, u64_in (by omega) (by omega)]
  · unfold recOk
    have hmd : IntKind.i64.wrap (M 5) = md := by
      rw [hM 5 (by decide)]
      show IntKind.i64.wrap (IntKind.u8.wrap md) = md
      rw [IntKind.wrap_u8, wrap_in (by omega) (by omega)]; omega
    have hl : IntKind.u32.wrap (numN (fun i => M (6 + i)) 4) = lk := by
      obtain ⟨m, rfl⟩ := Int.eq_ofNat_of_zero_le hlk
      rw [num4 _ m (by omega) (fun i hi => by rw [hM (6 + i) (by omega), recB_lk _ _ _ _ _ _ _ i hi, u64_in (by omega) (by omega)])]
      rw [IntKind.wrap_u32]; omega
    rw [hmd, hl, q_back a1 (by omega) (fun i hi => by rw [hM (10 + i) (by omega), recB_q1 _ _ _ _ _ _ _ i hi]), q_back (by omega) a3 (fun i hi => by rw [hM (18 + i) (by omega), recB_q2 _ _ _ _ _ _ _ i hi]), q_back b1 (by omega) (fun i hi => by rw [hM (26 + i) (by omega), recB_q3 _ _ _ _ _ _ _ i hi]), q_back (by omega) b3 (fun i hi => by rw [hM (34 + i) (by omega), recB_q4 _ _ _ _ _ _ _ i hi])]
    exact hg
/-- Where, and what, is written. -/
def wAd (i : Nat) : Nat := if i = 44 then 0 else i
def wVa (B : Nat → Int) (i : Nat) : Int := if i = 44 then B 0 else if i = 0 then 0 else B i
theorem ap_at (B : Nat → Int) (j : Nat) : ∀ x : Nat, x ≤ 43 → apN (fun _ => 0) wAd (wVa B) (x + 1) j = if j = 0 then 0 else if j ≤ x then B j else 0
  | 0, _ => by
    show updB (fun _ => 0) (wAd 0) (wVa B 0) j = _
    unfold updB wAd wVa
    by_cases h : j = 0
    · subst h; rfl
    · simp [h]
  | x + 1, h => by
    have ih := ap_at B j x (by omega)
    show updB (apN (fun _ => 0) wAd (wVa B) (x + 1)) (wAd (x + 1)) (wVa B (x + 1)) j = _
    unfold updB
    rw [ih]
    unfold wAd wVa
    rw [if_neg (show ¬ x + 1 = 44 by omega), if_neg (show ¬ x + 1 = 44 by omega), if_neg (show ¬ x + 1 = 0 by omega)]
    by_cases h1 : j = x + 1
    · subst h1; rw [if_pos rfl, if_neg (by omega), if_pos (by omega)]
    · rw [if_neg h1]
      by_cases h2 : j = 0
      · rw [if_pos h2, if_pos h2]
      · rw [if_neg h2, if_neg h2]
        by_cases h3 : j ≤ x
        · rw [if_pos h3, if_pos (by omega)]
        · rw [if_neg h3, if_neg (by omega)]
theorem ap_all (B : Nat → Int) (j : Nat) : apN (fun _ => 0) wAd (wVa B) 45 j = if j < 44 then B j else 0 := by
  show updB (apN (fun _ => 0) wAd (wVa B) 44) (wAd 44) (wVa B 44) j = _
  unfold updB
  rw [ap_at B j 43 (by omega)]
  by_cases h : j = 0
  · subst h; rfl
  · rw [if_neg (show ¬ j = wAd 44 from h), if_neg h]
    by_cases h2 : j ≤ 43
    · rw [if_pos h2, if_pos (by omega)]
    · rw [if_neg h2, if_neg (by omega)]
end Go.Proofs.YtekcchmnncefhaaGreatDoor
namespace Go.Proofs.YtekcchmnncefhaaGreatDoor
open Go Go.Proofs.YtekcchmnncefhaaGreatDoorAB
set_option linter.unusedSimpArgs false
set_option linter.unusedVariables false
set_option maxRecDepth 40000
/-- What two charges of a record are. -/
def Qok (q1 q2 q3 q4 : Int) : Prop := (0 ≤ q1 ∧ q1 ≤ q2 ∧ q2 ≤ 1073741824) ∧ (0 ≤ q3 ∧ q3 ≤ q4 ∧ q4 ≤ 1073741824)
theorem q_rec {B : Nat → Int} (h : isRec B) : Qok (IntKind.i64.wrap (numN (fun i => B (10 + i)) 8)) (IntKind.i64.wrap (numN (fun i => B (18 + i)) 8)) (IntKind.i64.wrap (numN (fun i => B (26 + i)) 8)) (IntKind.i64.wrap (numN (fun i => B (34 + i)) 8)) := by
  obtain ⟨g1, g2, g3, g4, g5⟩ := good_of h.2.2
  exact ⟨right_of g4, right_of g5⟩
theorem mem_rec (E O : Nat → Nat) {nvo : AObj} {kv fv cap : Nat} {B : Nat → Int} (bt : Bt nvo fv 88 B) (h88 : 88 ≤ cap) (hr : isRec B ∨ isRec (fun i => B (44 + i))) : ∃ sq md lk q1 q2 q3 q4 : Int, Qok q1 q2 q3 q4 ∧ Ctr Tryz.prog 7 17 [.slice (some ⟨kv, fv, none⟩) 88 cap] [(kv, nvo), (3, .ro 0 [(errG E O 3)]), (6, .ro 0 [(errG E O 6)]), (4, .ro 0 [(errG E O 4)]), (0, .ro 0 [(errG E O 0)]), (1, .ro 0 [(errG E O 1)])] (.tuple #[.agg #[.int .u32 sq, I64 md, .int .u32 lk, I64 q1, I64 q2, I64 q3, I64 q4], .nilIface]) [nvo, .ro 0 [(errG E O 3)], .ro 0 [(errG E O 6)], .ro 0 [(errG E O 4)], .ro 0 [(errG E O 0)], .ro 0 [(errG E O 1)]] ∧ Ctr Tryz.prog 7 34 [.slice (some ⟨kv, fv, none⟩) 88 cap] [(kv, nvo)] (.tuple #[.agg #[.int .u32 sq, I64 md, .int .u32 lk, I64 q1, I64 q2, I64 q3, I64 q4], I64 0]) [nvo] := by
  by_cases i1 : isRec B
  · by_cases i2 : isRec (fun i => B (44 + i))
    · cases hl : laterB (IntKind.u32.wrap (numN (fun i => (fun i => B (44 + i)) (1 + i)) 4)) (IntKind.u32.wrap (numN (fun i => B (1 + i)) 4)) with
      | true => exact ⟨_, _, _, _, _, _, _, q_rec i2, recover_oo_t E O bt h88 i1 i2 hl, ref_recover_oo_t bt h88 i1 i2 hl⟩
      | false => exact ⟨_, _, _, _, _, _, _, q_rec i1, recover_oo_f E O bt h88 i1 i2 hl, ref_recover_oo_f bt h88 i1 i2 hl⟩
    · exact ⟨_, _, _, _, _, _, _, q_rec i1, recover_on E O bt h88 i1 i2, ref_recover_on bt h88 i1 i2⟩
  · have i2 : isRec (fun i => B (44 + i)) := hr.resolve_left i1
    exact ⟨_, _, _, _, _, _, _, q_rec i2, recover_no E O bt h88 i1 i2, ref_recover_no bt h88 i1 i2⟩
theorem mem_blank (E O : Nat → Nat) {nvo : AObj} {kv fv cap : Nat} {B : Nat → Int} (bt : Bt nvo fv 88 B) (h88 : 88 ≤ cap) (i1 : ¬ isRec B) (i2 : ¬ isRec (fun i => B (44 + i))) : Ctr Tryz.prog 7 17 [.slice (some ⟨kv, fv, none⟩) 88 cap] [(kv, nvo), (3, .ro 0 [(errG E O 3)]), (6, .ro 0 [(errG E O 6)]), (4, .ro 0 [(errG E O 4)]), (0, .ro 0 [(errG E O 0)]), (1, .ro 0 [(errG E O 1)])] (.tuple #[.agg #[.int .u32 0, I64 0, .int .u32 0, I64 0, I64 0, I64 0, I64 0], (errG E O 3)]) [nvo, .ro 0 [(errG E O 3)], .ro 0 [(errG E O 6)], .ro 0 [(errG E O 4)], .ro 0 [(errG E O 0)], .ro 0 [(errG E O 1)]] ∧ Ctr Tryz.prog 7 34 [.slice (some ⟨kv, fv, none⟩) 88 cap] [(kv, nvo)] (.tuple #[.agg #[.int .u32 0, I64 0, .int .u32 0, I64 0, I64 0, I64 0, I64 0], I64 107]) [nvo] :=
  ⟨recover_nn E O bt h88 i1 i2, ref_recover_nn bt h88 i1 i2⟩
/-- A charge that was kept, on both sides. -/
theorem lo_same {q L C : Int} (h0 : 0 ≤ q) (h1 : q ≤ 1073741824) (l0 : 0 ≤ L) (l1 : L ≤ 1000000000) (c0 : 0 ≤ C) (c1 : C ≤ 1073741824) : rClamp (rwLo q L) 0 C = mx (mn (wLo q L) C) 0 := by
  have e1 : rwLo q L = q - L := by
    unfold rwLo; rw [if_neg (by omega)]; unfold rSub; rw [if_neg (by omega)]; unfold rAdd
    rw [wrap_in (x := 0 - L) (by omega) (by omega), if_neg (by omega)]
    rw [IntKind.wrap_i64, IntKind.wrap_i64]
    split <;> omega
  have e2 : wLo q L = q - L := by
    unfold wLo; rw [if_neg (by omega)]; unfold fSub; rw [if_neg (by omega)]
    rw [IntKind.wrap_i64, IntKind.wrap_i64]
    split <;> omega
  rw [e1, e2]; unfold rClamp mx mn
  (repeat' split) <;> omega
theorem hi_same {q L C : Int} (h0 : 0 ≤ q) (h1 : q ≤ 1073741824) (l0 : 0 ≤ L) (l1 : L ≤ 1000000000) (c0 : 0 ≤ C) (c1 : C ≤ 1073741824) : rClamp (rwHi q L) 0 C = mx (mn (wHi q L) C) 0 := by
  have e1 : rwHi q L = q + L := by
    unfold rwHi; rw [if_neg (by omega)]; unfold rAdd
    rw [IntKind.wrap_i64, IntKind.wrap_i64, IntKind.wrap_i64]
    rw [if_neg (by omega), if_neg (by omega)]; omega
  have e2 : wHi q L = q + L := by
    unfold wHi; rw [if_neg (by omega)]; unfold fAdd
    rw [IntKind.wrap_i64, IntKind.wrap_i64, IntKind.wrap_i64]
    rw [if_neg (by omega), if_neg (by omega)]; omega
  rw [e1, e2]; unfold rClamp mx mn
  (repeat' split) <;> omega
theorem blank_same {C : Int} (c0 : 0 ≤ C) : rClamp 0 0 C = mx (mn (mn 0 C) C) 0 ∧ rClamp C 0 C = mx (mn (mx 0 C) C) 0 := by
  unfold rClamp mx mn
  constructor <;> (repeat' split) <;> omega
theorem cut_pos (n : Int) : 1 ≤ cutN n := by unfold cutN mx; split <;> omega
end Go.Proofs.YtekcchmnncefhaaGreatDoor
namespace Go.Proofs.YtekcchmnncefhaaGreatDoor
open Go Go.Proofs.YtekcchmnncefhaaGreatDoorAB
set_option linter.unusedSimpArgs false
set_option linter.unusedVariables false
set_option maxRecDepth 40000
abbrev nI (n : Nat) : Value := I64 (n : Int)
theorem num_nonneg (n b : Int) (hb : 0 < b) (hb2 : b < 1000000000) : 0 ≤ num n b ∧ num n b < b := by
  unfold num
  have h1 : n.tmod b < b := Int.tmod_lt_of_pos n hb
  have h2 : -b < n.tmod b := Int.lt_tmod_of_pos n hb
  split
  · rw [wrap_in (by omega) (by omega)]; omega
  · omega
/-- Config's feeders. -/
def fBus (k : Int) (i : Nat) : Nat := (4 + ((i : Int) + (n20 k).tdiv 8).tmod 3).toNat
def fLoad (k : Int) (i : Nat) : Int := 50 + 60 * ((n20 k).tdiv 24 + (i : Int)).tmod 5
def fPrio (k : Int) (i : Nat) : Int := ((n20 k).tdiv 120 + (i : Int) * i).tmod 4
theorem n20_in (k : Int) : 0 ≤ n20 k ∧ n20 k < 1048576 := num_nonneg k 1048576 (by decide) (by decide)
theorem fd_in (k : Int) (i : Nat) : 4 ≤ fBus k i ∧ fBus k i < 7 ∧ 50 ≤ fLoad k i ∧ fLoad k i ≤ 290 ∧ 0 ≤ fPrio k i ∧ fPrio k i ≤ 3 := by
  obtain ⟨h1, h2⟩ := n20_in k
  have d8 : 0 ≤ (n20 k).tdiv 8 := Int.tdiv_nonneg h1 (by decide)
  have d24 : 0 ≤ (n20 k).tdiv 24 := Int.tdiv_nonneg h1 (by decide)
  have d120 : 0 ≤ (n20 k).tdiv 120 := Int.tdiv_nonneg h1 (by decide)
  have hi : (0 : Int) ≤ (i : Int) * i := Int.mul_nonneg (by omega) (by omega)
  have a1 := Int.tmod_nonneg 3 (show 0 ≤ (i : Int) + (n20 k).tdiv 8 by omega)
  have a2 := Int.tmod_lt_of_pos ((i : Int) + (n20 k).tdiv 8) (show (0 : Int) < 3 by decide)
  have b1 := Int.tmod_nonneg 5 (show 0 ≤ (n20 k).tdiv 24 + (i : Int) by omega)
  have b2 := Int.tmod_lt_of_pos ((n20 k).tdiv 24 + (i : Int)) (show (0 : Int) < 5 by decide)
  have c1 := Int.tmod_nonneg 4 (show 0 ≤ (n20 k).tdiv 120 + (i : Int) * i by omega)
  have c2 := Int.tmod_lt_of_pos ((n20 k).tdiv 120 + (i : Int) * i) (show (0 : Int) < 4 by decide)
  unfold fBus fLoad fPrio
  omega
theorem feed_eq (k : Int) {i : Nat} (hi : i < 7) : feed k ((i : Nat) : Int) = [nI (fBus k i), I64 (fLoad k i), I64 (fPrio k i)] := by
  obtain ⟨h1, h2⟩ := n20_in k
  have d8 : 0 ≤ (n20 k).tdiv 8 := Int.tdiv_nonneg h1 (by decide)
  have d24 : 0 ≤ (n20 k).tdiv 24 := Int.tdiv_nonneg h1 (by decide)
  have d120 : 0 ≤ (n20 k).tdiv 120 := Int.tdiv_nonneg h1 (by decide)
  have e8 : (n20 k).tdiv 8 ≤ n20 k := by rw [Int.tdiv_eq_ediv_of_nonneg h1]; omega
  have e24 : (n20 k).tdiv 24 ≤ n20 k := by rw [Int.tdiv_eq_ediv_of_nonneg h1]; omega
  have e120 : (n20 k).tdiv 120 ≤ n20 k := by rw [Int.tdiv_eq_ediv_of_nonneg h1]; omega
  have hii : (0 : Int) ≤ (i : Int) * i := Int.mul_nonneg (by omega) (by omega)
  have hij : (i : Int) * i ≤ 6 * 6 := Int.mul_le_mul (by omega) (by omega) (by omega) (by omega)
  have a1 := Int.tmod_nonneg 3 (show 0 ≤ (i : Int) + (n20 k).tdiv 8 by omega)
  have a2 := Int.tmod_lt_of_pos ((i : Int) + (n20 k).tdiv 8) (show (0 : Int) < 3 by decide)
  have b1 := Int.tmod_nonneg 5 (show 0 ≤ (n20 k).tdiv 24 + (i : Int) by omega)
  have b2 := Int.tmod_lt_of_pos ((n20 k).tdiv 24 + (i : Int)) (show (0 : Int) < 5 by decide)
  have c1 := Int.tmod_nonneg 4 (show 0 ≤ (n20 k).tdiv 120 + (i : Int) * i by omega)
  have c2 := Int.tmod_lt_of_pos ((n20 k).tdiv 120 + (i : Int) * i) (show (0 : Int) < 4 by decide)
  have w : ∀ {x : Int}, 0 ≤ x → x < 100000000 → w64 x = x := fun h h' => wrap_in (by omega) (by omega)
  unfold feed
  have p1 : w64 (4 + (w64 ((i : Int) + w64 ((n20 k).tdiv 8))).tmod 3) = ((fBus k i : Nat) : Int) := by
    rw [w d8 (by omega), w (x := (i : Int) + (n20 k).tdiv 8) (by omega) (by omega), w (by omega) (by omega)]
    unfold fBus; omega
  have p2 : w64 (50 + w64 (60 * (w64 (w64 ((n20 k).tdiv 24) + (i : Int))).tmod 5)) = fLoad k i := by
    rw [w d24 (by omega), w (x := (n20 k).tdiv 24 + (i : Int)) (by omega) (by omega), w (x := 60 * _) (by omega) (by omega), w (by omega) (by omega)]
    rfl
  have p3 : (w64 (w64 ((n20 k).tdiv 120) + w64 ((i : Int) * (i : Int)))).tmod 4 = fPrio k i := by
    rw [w d120 (by omega), w hii (by omega), w (by omega) (by omega)]
    rfl
  rw [p1, p2, p3]
theorem segO_app3 : ∀ (a b : List Value) (n : Nat), a.length = n → segO (a ++ b) n 3 = segO b 0 3
  | [], b, n, h => by subst h; rfl
  | x :: a, b, n, h => by
    obtain ⟨m, rfl⟩ : ∃ m, n = m + 1 := ⟨n - 1, by simp at h; omega⟩
    show segO (a ++ b) m 3 = _
    exact segO_app3 a b m (by simpa using h)
theorem feeds_split (k : Int) : ∀ (n i : Nat), i < n → ∃ r, feeds k n = feeds k i ++ (feed k ((i : Nat) : Int) ++ r)
  | 0, i, h => absurd h (Nat.not_lt_zero i)
  | n + 1, i, h => by
    rcases Nat.lt_or_ge i n with h' | h'
    · obtain ⟨r, hr⟩ := feeds_split k n i h'
      exact ⟨r ++ feed k ((n : Nat) : Int), by show feeds k n ++ feed k n = _; rw [hr]; simp⟩
    · obtain rfl : i = n := by omega
      exact ⟨[], by simp [feeds]⟩
theorem feeds_br (k : Int) {n : Nat} (hn : n ≤ 7) (ty : TypeId) : Br (.row (feeds k n) ty 3) 0 n (fun i => ((fBus k i : Nat) : Int)) (fLoad k) (fPrio k) := ⟨fun i hi => by
  obtain ⟨r, hr⟩ := feeds_split k n i hi
  rw [feed_eq k (by omega)] at hr
  show segO (feeds k n) (0 + i * 3) 3 = _
  rw [hr, Nat.zero_add, segO_app3 _ _ _ (feeds_len k i)]; rfl⟩
theorem fd_ok (k : Int) (i : Nat) : fdOK (fun i => ((fBus k i : Nat) : Int)) (fLoad k) (fPrio k) i := by
  have h := fd_in k i
  show ¬ ((fBus k i : Nat) : Int) < 4 ∧ ¬ ((fBus k i : Nat) : Int) > 6 ∧ (0 ≤ fLoad k i ∧ fLoad k i ≤ 1073741824) ∧ ¬ fPrio k i < 0 ∧ ¬ fPrio k i > 100
  omega
theorem tq (a : Int) (b c : Int) (h : 0 ≤ a) (h2 : a < 100000000) (hb : 0 < b) (hc : 0 < c) (hc2 : c ≤ 1000) : 0 ≤ (w64 (a.tdiv b)).tmod c ∧ (w64 (a.tdiv b)).tmod c < c := by
  have d : 0 ≤ a.tdiv b := Int.tdiv_nonneg h (by omega)
  have d2 : a.tdiv b ≤ a := by rw [Int.tdiv_eq_ediv_of_nonneg h]; exact Int.ediv_le_self _ h
  have e : w64 (a.tdiv b) = a.tdiv b := wrap_in (by omega) (by omega)
  rw [e]
  exact ⟨Int.tmod_nonneg c d, Int.tmod_lt_of_pos _ hc⟩
theorem w1 {x : Int} (h : 0 ≤ x) (h2 : x < 100000000) : w64 (1 + x) = 1 + x := wrap_in (by omega) (by omega)
/-- The numbers of a made configuration. -/
theorem made_in (n m k : Int) (oc fa : Option Addr) (fl fc : Nat) : (1 ≤ (cfgOf n m k oc fa fl fc).D ∧ (cfgOf n m k oc fa fl fc).D ≤ 4) ∧ (1 ≤ (cfgOf n m k oc fa fl fc).B ∧ (cfgOf n m k oc fa fl fc).B ≤ 3) ∧ (1 ≤ (cfgOf n m k oc fa fl fc).S ∧ (cfgOf n m k oc fa fl fc).S ≤ 4) ∧ (1 ≤ (cfgOf n m k oc fa fl fc).P ∧ (cfgOf n m k oc fa fl fc).P ≤ 9) ∧ (1 ≤ (cfgOf n m k oc fa fl fc).H ∧ (cfgOf n m k oc fa fl fc).H ≤ 5) ∧ (0 ≤ (cfgOf n m k oc fa fl fc).AmpErr ∧ (cfgOf n m k oc fa fl fc).AmpErr ≤ 4) ∧ (0 ≤ (cfgOf n m k oc fa fl fc).Eland ∧ (cfgOf n m k oc fa fl fc).Eland ≤ 7000) ∧ (500 ≤ (cfgOf n m k oc fa fl fc).Margin ∧ (cfgOf n m k oc fa fl fc).Margin ≤ 2000) := by
  obtain ⟨a1, a2⟩ := n20_in n
  obtain ⟨b1, b2⟩ := n20_in m
  obtain ⟨c1, c2⟩ := n20_in k
  have d0 := Int.tmod_nonneg 4 a1
  have d1 := Int.tmod_lt_of_pos (n20 n) (show (0 : Int) < 4 by decide)
  have e := tq (n20 n) 4 3 a1 (by omega) (by decide) (by decide) (by decide)
  have f := tq (n20 n) 12 4 a1 (by omega) (by decide) (by decide) (by decide)
  have g := tq (n20 n) 48 9 a1 (by omega) (by decide) (by decide) (by decide)
  have h := tq (n20 n) 432 5 a1 (by omega) (by decide) (by decide) (by decide)
  have i0 := Int.tmod_nonneg 5 b1
  have i1 := Int.tmod_lt_of_pos (n20 m) (show (0 : Int) < 5 by decide)
  have j0 := Int.tmod_nonneg 8 c1
  have j1 := Int.tmod_lt_of_pos (n20 k) (show (0 : Int) < 8 by decide)
  have l := tq (n20 m) 5 4 b1 (by omega) (by decide) (by decide) (by decide)
  have q1 : w64 (1000 * (n20 k).tmod 8) = 1000 * (n20 k).tmod 8 := wrap_in (by omega) (by omega)
  have q2 : w64 ((w64 ((n20 m).tdiv 5)).tmod 4 * 500) = (w64 ((n20 m).tdiv 5)).tmod 4 * 500 := wrap_in (by omega) (by omega)
  have q3 : w64 (500 + (w64 ((n20 m).tdiv 5)).tmod 4 * 500) = 500 + (w64 ((n20 m).tdiv 5)).tmod 4 * 500 := wrap_in (by omega) (by omega)
  show (1 ≤ w64 (1 + (n20 n).tmod 4) ∧ w64 (1 + (n20 n).tmod 4) ≤ 4) ∧ (1 ≤ w64 (1 + (w64 ((n20 n).tdiv 4)).tmod 3) ∧ w64 (1 + (w64 ((n20 n).tdiv 4)).tmod 3) ≤ 3) ∧ (1 ≤ w64 (1 + (w64 ((n20 n).tdiv 12)).tmod 4) ∧ w64 (1 + (w64 ((n20 n).tdiv 12)).tmod 4) ≤ 4) ∧ (1 ≤ w64 (1 + (w64 ((n20 n).tdiv 48)).tmod 9) ∧ w64 (1 + (w64 ((n20 n).tdiv 48)).tmod 9) ≤ 9) ∧ (1 ≤ w64 (1 + (w64 ((n20 n).tdiv 432)).tmod 5) ∧ w64 (1 + (w64 ((n20 n).tdiv 432)).tmod 5) ≤ 5) ∧ (0 ≤ (n20 m).tmod 5 ∧ (n20 m).tmod 5 ≤ 4) ∧ (0 ≤ w64 (1000 * (n20 k).tmod 8) ∧ w64 (1000 * (n20 k).tmod 8) ≤ 7000) ∧ (500 ≤ w64 (500 + w64 ((w64 ((n20 m).tdiv 5)).tmod 4 * 500)) ∧ w64 (500 + w64 ((w64 ((n20 m).tdiv 5)).tmod 4 * 500)) ≤ 2000)
  rw [q1, q2, q3, w1 d0 (by omega), w1 e.1 (by omega), w1 f.1 (by omega), w1 g.1 (by omega), w1 h.1 (by omega)]
  omega
theorem made_cb (n m k : Int) (oc fa : Option Addr) (fl fc : Nat) (i : Nat) (hi : i < 20) : cbA (cfgOf n m k oc fa fl fc) i ≤ cbN (cfgOf n m k oc fa fl fc) i ∧ cbN (cfgOf n m k oc fa fl fc) i ≤ cbB (cfgOf n m k oc fa fl fc) i := by
  obtain ⟨h1, h2, h3, h4, h5, h6, h7, h8⟩ := made_in n m k oc fa fl fc
  match i, hi with
  | 0, _ => exact ⟨h1.1, Int.le_trans h1.2 (show (4 : Int) ≤ 100 from by decide)⟩
  | 1, _ => exact ⟨h2.1, Int.le_trans h2.2 (show (3 : Int) ≤ 100 from by decide)⟩
  | 2, _ => exact ⟨h3.1, Int.le_trans h3.2 (show (4 : Int) ≤ 100 from by decide)⟩
  | 3, _ => exact ⟨h4.1, Int.le_trans h4.2 (show (9 : Int) ≤ 100 from by decide)⟩
  | 4, _ => exact ⟨h5.1, Int.le_trans h5.2 (show (5 : Int) ≤ 100 from by decide)⟩
  | 18, _ => exact ⟨h6.1, Int.le_trans h6.2 (show (4 : Int) ≤ 500000 from by decide)⟩
  | 5, _ => exact (show (1 : Int) ≤ 100000 ∧ (100000 : Int) ≤ 1073741824 from by decide)
  | 6, _ => exact (show (0 : Int) ≤ 0 ∧ (0 : Int) ≤ 100000 from by decide)
  | 7, _ => exact (show (1 : Int) ≤ 500 ∧ (500 : Int) ≤ 500000 from by decide)
  | 8, _ => exact (show (1 : Int) ≤ 20000 ∧ (20000 : Int) ≤ 500000 from by decide)
  | 9, _ => exact (show (1 : Int) ≤ 10000 ∧ (10000 : Int) ≤ 60000 from by decide)
  | 10, _ => exact (show (1 : Int) ≤ 12000 ∧ (12000 : Int) ≤ 60000 from by decide)
  | 11, _ => exact (show (0 : Int) ≤ 3000 ∧ (3000 : Int) ≤ 6000 from by decide)
  | 12, _ => exact (show (3000 : Int) ≤ 4200 ∧ (4200 : Int) ≤ 6000 from by decide)
  | 13, _ => exact (show (0 : Int) ≤ 300 ∧ (300 : Int) ≤ 6000 from by decide)
  | 14, _ => exact (show (-500 : Int) ≤ 600 ∧ (600 : Int) ≤ 1500 from by decide)
  | 15, _ => exact (show (1 : Int) ≤ 1000 ∧ (1000 : Int) ≤ 30000 from by decide)
  | 16, _ => exact (show (0 : Int) ≤ 20 ∧ (20 : Int) ≤ 100000 from by decide)
  | 17, _ => exact (show (0 : Int) ≤ 100 ∧ (100 : Int) ≤ 60000 from by decide)
  | 19, _ => exact (show (0 : Int) ≤ 50 ∧ (50 : Int) ≤ 1073741824 from by decide)
  | i + 20, h => exact absurd h (by omega)
theorem made_ce (n m k : Int) (oc fa : Option Addr) (fl fc : Nat) (i : Nat) (hi : i < 5) : ceA (cfgOf n m k oc fa fl fc) i ≤ ceN (cfgOf n m k oc fa fl fc) i ∧ ceN (cfgOf n m k oc fa fl fc) i ≤ ceB (cfgOf n m k oc fa fl fc) i := by
  obtain ⟨h1, h2, h3, h4, h5, h6, h7, h8⟩ := made_in n m k oc fa fl fc
  match i, hi with
  | 0, _ => exact (show (0 : Int) ≤ 3000 ∧ (3000 : Int) ≤ 1073741824 from by decide)
  | 1, _ => exact (show (0 : Int) ≤ 500 ∧ (500 : Int) ≤ 1073741824 from by decide)
  | 2, _ => exact (show (0 : Int) ≤ 3000 ∧ (3000 : Int) ≤ 1073741824 from by decide)
  | 3, _ => exact ⟨h7.1, Int.le_trans h7.2 (show (7000 : Int) ≤ 1073741824 from by decide)⟩
  | 4, _ => exact ⟨h8.1, Int.le_trans h8.2 (show (2000 : Int) ≤ 1073741824 from by decide)⟩
  | i + 5, h => exact absurd h (by omega)
def ocX : Nat → Int
  | 0 => 0
  | 1 => 20000
  | 2 => 80000
  | _ => 100000
def ocY : Nat → Int
  | 0 => 20000
  | 1 => 23000
  | 2 => 25000
  | _ => 28000
theorem oc_tb : Tb (.cells ocv 55) 0 4 ocX ocY := by
  refine ⟨fun i hi => ?_, fun i hi => ?_, fun i hi => ?_⟩ <;> (match i, hi with
    | 0, _ => rfl
    | 1, _ => rfl
    | 2, _ => rfl
    | 3, _ => rfl
    | i + 4, h => exact absurd h (by omega))
theorem oc_ok : TOk 4 ocX ocY := by
  refine ⟨by decide, by decide, fun i hi => ?_, fun i hi => ?_, fun i hi => ?_, fun i hi => ?_, fun i hi => ?_, fun i hi => ?_⟩ <;> (match i, hi with
    | 0, _ => decide
    | 1, _ => decide
    | 2, _ => decide
    | 3, h => first | decide | exact absurd h (by decide)
    | i + 4, h => exact absurd h (by omega))
/-- Nothing is amiss with it, on either side. -/
theorem made_ok (E O B : Nat → Nat) (n m k : Int) {fd : AObj} {U W V : Nat → Int} (ko kf : Nat) {fa : Option Addr} {fl fc : Nat} (h7 : fl ≤ 7) (br : Br fd 0 fl U W V) (hf : 0 < fl → fa = some ⟨kf, 0, none⟩) (hfd : ∀ i, fdOK U W V i) (kb ke kn : Nat) :
    (∃ o1 o2 o3, Ctr Tryz.prog 7 59 [.agg ⟨(cfgOf n m k (some ⟨ko, 0, none⟩) fa fl fc).cells⟩] [(ko, .cells ocv 55), (kf, fd), (0, .ro 0 [(errG E O 0)]), (1, .ro 0 [(errG E O 1)]), (4, .ro 0 [(errG E O 4)]), (5, .ro 0 [(errG E O 5)]), (kb, .gone), (ke, .gone), (kn, .gone)] (I64 0) [.cells ocv 55, fd, .ro 0 [(errG E O 0)], .ro 0 [(errG E O 1)], .ro 0 [(errG E O 4)], .ro 0 [(errG E O 5)], o1, o2, o3]) ∧ Ctr Tryz.prog 7 33 [.agg ⟨(cfgOf n m k (some ⟨ko, 0, none⟩) fa fl fc).cells⟩] [(ko, .cells ocv 55), (kf, fd)] (I64 0) [.cells ocv 55, fd] := by
  have hcb := made_cb n m k (some ⟨ko, 0, none⟩) fa fl fc
  have hce := made_ce n m k (some ⟨ko, 0, none⟩) fa fl fc
  refine ⟨⟨_, _, _, amiss_ok (c := cfgOf n m k (some ⟨ko, 0, none⟩) fa fl fc) E O B (oc := .cells ocv 55) oc_tb (fun _ => rfl) br hf (by show fl ≤ 1000000; omega) kb ke kn hcb oc_ok rfl rfl hce (fun i _ => hfd i) (by show fl ≤ 16; omega)⟩, ?_⟩
  exact cc_ok (c := cfgOf n m k (some ⟨ko, 0, none⟩) fa fl fc) (oc := .cells ocv 55) oc_tb (fun _ => rfl) br hf (by show fl ≤ 1000000; omega) hcb oc_ok rfl rfl hce (fun i _ => hfd i) (by show fl ≤ 16; omega)
end Go.Proofs.YtekcchmnncefhaaGreatDoor
