/- What functions of this program do, each as a contract that its callers use, and what follows of it in plain numbers.
   By an AI agent. -/
import Derived.Test.YtekcchmnncefhaaGreatDoorAB
import Derived.Test.YtekcchmnncefhaaGreatDoorG2
import Derived.Test.YtekcchmnncefhaaGreatDoorG3
import Derived.Test.YtekcchmnncefhaaGreatDoorG8
namespace Go.Proofs.YtekcchmnncefhaaGreatDoor
open Go Go.Proofs.YtekcchmnncefhaaGreatDoorAB
set_option linter.unusedSimpArgs false
set_option linter.unusedVariables false
set_option maxRecDepth 40000
abbrev obp260 (x0 : Cfg) := (.cells ((I64 (mn (mx x0.S 0) 1000)) :: [.int .i64 0, .int .i64 0, .int .i64 0, .int .i64 0, .int .i64 0, .int .i64 0, .int .i64 0, .int .i64 0, .int .i64 0, .int .i64 0, .int .i64 0, .int .i64 0, .int .i64 0, .int .i64 0, .int .i64 0, .int .i64 0, .int .i64 0, .int .i64 0, .int .i64 0, .int .i64 0, .int .i64 0, .int .i64 0, .int .i64 0, .int .i64 0, .int .i64 0, .int .i64 0, .int .i64 0, .int .i64 0, .int .i64 0, .int .i64 0, .int .i64 0, .int .i64 0, .int .i64 0, .int .i64 0, .int .i64 0, .int .i64 0, .int .i64 0, .int .i64 0, .int .i64 0, .int .i64 0, .int .i64 0, .int .i64 0, .int .i64 0, .int .i64 0, .int .i64 0, .int .i64 0, .int .i64 0, .int .i64 0, .int .u8 0, .int .u8 0, .int .u8 0, .int .u8 0, .int .u8 0, .int .u8 0, .int .u8 0, .int .u8 0, .int .u8 0, .int .u8 0, .int .u8 0, .int .u8 0, .int .u8 0, .int .u8 0, .int .u8 0, .int .u8 0, .int .u8 0, .int .u8 0, .int .u8 0, .int .u8 0, .int .u8 0, .int .u8 0, .int .u8 0, .int .u8 0, .int .u8 0, .int .u8 0, .int .u8 0, .int .u8 0, .int .u8 0, .int .u8 0, .int .u8 0, .int .u8 0, .int .u8 0, .int .u8 0, .int .u8 0, .int .u8 0, .int .u8 0, .int .u8 0, .int .u8 0, .int .u8 0, .int .u8 0, .int .u8 0, .int .u8 0, .int .u8 0, .int .u8 0, .int .u8 0, .int .u8 0, .int .u8 0, .int .i64 0, .int .i64 0, .int .i64 0, .int .i64 0, .int .i64 0, .int .i64 0, .int .i64 0, .int .i64 0, .int .i64 0, .int .i64 0, .int .i64 0, .int .i64 0, .int .i64 0, .int .i64 0, .int .i64 0, .int .i64 0, .int .i64 0, .int .i64 0, .int .i64 0, .int .i64 0, .int .i64 0, .int .i64 0, .int .i64 0, .int .i64 0, .int .i64 0, .int .i64 0, .int .i64 0, .int .i64 0, .int .i64 0, .int .i64 0, .int .i64 0, .int .i64 0, .int .i64 0, .int .i64 0, .int .i64 0, .int .i64 0, .int .i64 0, .int .i64 0, .int .i64 0, .int .i64 0, .int .i64 0, .int .i64 0, .int .i64 0, .int .i64 0, .int .i64 0, .int .i64 0, .int .i64 0, .int .i64 0, .bool false, .bool false, .bool false, .bool false, .bool false, .bool false, .bool false, .bool false, .bool false, .bool false, .bool false, .bool false, .bool false, .bool false, .bool false, .bool false, .bool false, .bool false, .bool false, .bool false, .bool false, .bool false, .bool false, .bool false, .bool false, .bool false, .bool false, .bool false, .bool false, .bool false, .bool false, .bool false, .bool false, .bool false, .bool false, .bool false, .bool false, .bool false, .bool false, .bool false, .bool false, .bool false, .bool false, .bool false, .bool false, .bool false, .bool false, .bool false]) 183 : AObj)
abbrev obp261 (x0 : Cfg) (x1 : Bool) (x2 : Bool) (x3 : Bool) := (.cells (x0.cells ++ [I64 0, I64 0, I64 0, .bool x1, .bool x2, .bool x3]) 100 : AObj)
abbrev obp262 (x0 : Cfg) := (.cells (x0.cells ++ [I64 0, I64 0, I64 0, I64 0, I64 0, I64 0, I64 0, I64 0, I64 0, I64 0, I64 0, I64 0, I64 0, I64 0, I64 0, I64 0, I64 0]) 104 : AObj)
abbrev obp263 (x0 : Cfg) (x1 : Bool) (x2 : Bool) := (.cells [I64 (cutR x0.D), I64 (cutR x0.B), .bool false, I64 (-2), I64 (0), .bool false, .bool false, .bool false, .bool x1, .bool x2] 120 : AObj)
abbrev obp264 (x0 : Cfg) (x1 : Nat) (x2 : Nat) (x3 : Nat) (x4 : Bool) := (.cells (x0.cells ++ [pP x1, pP x2, pP x3, .bool x4, .bool false]) 123 : AObj)
abbrev obp265 (x0 : Cfg) := (.cells [I64 (cutR x0.B), I64 (0), .bool false] 231 : AObj)
abbrev obp266 (x0 : Cfg) := (.cells (x0.cells ++ [I64 0, I64 0, I64 0, .bool (false), .bool (false), .bool (false)]) 100 : AObj)
abbrev obp267 := (.cells [I64 0, .bool false, I64 0] 41 : AObj)
abbrev obp268 (x0 : _) (x1 : _) (x2 : _) (x3 : _) (x4 : _) (x5 : _) (x6 : _) := (.cells [.int .u32 x0, I64 x1, .int .u32 x2, I64 x3, I64 x4, I64 x5, I64 x6] 31 : AObj)
abbrev obp269 (x0 : Cfg) := (.cells [I64 (cutR x0.D), I64 (cutR x0.B), .bool false, I64 (-2), I64 (0), .bool false, .bool false, .bool false, .bool (false), .bool (false)] 120 : AObj)
abbrev obp2610 (x0 : Cfg) (x1 : Nat) (x2 : Nat) (x3 : Nat) := (.cells (x0.cells ++ [pP x1, pP x2, pP x3, .bool (false), .bool false]) 123 : AObj)
abbrev obp2611 (x0 : Cfg) (x1 : Nat) (x2 : Nat) (x3 : Nat) (x4 : Nat) (x5 : Nat) (x6 : Nat) (x7 : Nat) (x8 : Nat) (x9 : Nat) (x10 : Nat) (x11 : Nat) (x12 : Nat) (x13 : Nat) (x14 : Nat) (x15 : Nat) (x16 : _) (x17 : _) := (.cells (x0.cells ++ [.slice (some ⟨x1, 0, none⟩) 88 grown, pP x2, .bool false, .bool false, .bool false, .bool false, I64 0, .bool false, .int .u8 0, pP x3, pP x4, pP x5, pP x6, pP x7, pP x8, pP x9, pP x10, pP x11, pP x12, pP x13, pP x14, .pointer none, .pointer none, pP x15, I64 0, I64 0, I64 x16, .bool false, .int .u32 x17, I64 0, I64 0, I64 0, I64 0, I64 0, I64 0]) 113 : AObj)
theorem wk_P26_0 {p : Prop} (h : p := by
  repeat' (first
    | ((with_reducible apply gQ0); (first | (apply q_idxPN (m := 0) layOk; (iterate 4 apply Eq.refl); (focus (decide)); (focus (decide))) | (apply q_idxPN (m := 1) layOk; (iterate 4 apply Eq.refl); (focus (decide)); (focus (decide))) | (apply q_idxPN (m := 2) layOk; (iterate 4 apply Eq.refl); (focus (decide)); (focus (decide))) | (apply q_idxPN (m := 3) layOk; (iterate 4 apply Eq.refl); (focus (decide)); (focus (decide))) | (apply q_idxPN (m := 4) layOk; (iterate 4 apply Eq.refl); (focus (decide)); (focus (decide))) | (apply q_idxPN (m := 5) layOk; (iterate 4 apply Eq.refl); (focus (decide)); (focus (decide))) | (apply q_idxPN (m := 6) layOk; (iterate 4 apply Eq.refl); (focus (decide)); (focus (decide))) | (apply q_move; apply Eq.refl) | (apply q_assign; apply Eq.refl) | (apply q_int; (iterate 3 apply Eq.refl)) | (apply q_nilCheck; apply Eq.refl) | (apply q_fa layOk; (iterate 5 apply Eq.refl)) | (apply q_load layOk; (iterate 3 apply Eq.refl); exact lk_; apply Eq.refl) | (apply q_loadr layOk; (iterate 3 apply Eq.refl); exact lk_; apply Eq.refl) | (apply q_conv; apply Eq.refl; exact Tryz.underlying3; exact Tryz.underlying118) | (apply q_shr; apply Eq.refl; apply Eq.refl; (focus (decide))) | (apply isF (f := 38); (refine q_call1 rfl (ref_NewContact d0 _ _) lc_ rfl ?_)) | (apply isF (f := 38); (refine q_call1 rfl (ref_NewContact d1 _ _) lc_ rfl ?_)) | (apply isF (f := 38); (refine q_call1 rfl (ref_NewContact d2 _ _) lc_ rfl ?_)) | (apply isF (f := 38); (refine q_call1 rfl (ref_NewContact d3 _ _) lc_ rfl ?_)) | (apply isF (f := 38); (refine q_call1 rfl (ref_NewContact d4 _ _) lc_ rfl ?_)) | (apply isF (f := 38); (refine q_call1 rfl (ref_NewContact d5 _ _) lc_ rfl ?_)) | (apply isF (f := 38); (refine q_call1 rfl (ref_NewContact d6 _ _) lc_ rfl ?_)) | (apply isF (f := 39); (refine q_callW rfl (ref_NewSource w0 v00 v01 v02 c) fd_ (by decide) rfl rfl ?_)) | (apply isF (f := 39); (refine q_callW rfl (ref_NewSource w1 v10 v11 v12 c) fd_ (by decide) rfl rfl ?_)) | (apply isF (f := 39); (refine q_callW rfl (ref_NewSource w2 v20 v21 v22 c) fd_ (by decide) rfl rfl ?_)) | (apply isF (f := 39); (refine q_callW rfl (ref_NewSource w3 v30 v31 v32 c) fd_ (by decide) rfl rfl ?_)) | (apply isF (f := 41); (refine q_call0 rfl (ref_None9 ()) ?_)) | (apply isF (f := 42); (refine q_call0 rfl (ref_Widen _ _ _) ?_)) | (apply isF (f := 40); (refine q_callW rfl (rbat_New_true c rb0 _ _) fd_ (by decide) rfl rfl ?_)) | (apply isF (f := 40); (refine q_callW rfl (rbat_New_true c rb1 _ _) fd_ (by decide) rfl rfl ?_)) | (apply e_store layOk; (iterate 3 apply Eq.refl); exact lk_; (iterate 5 apply Eq.refl))))
    | ((with_reducible apply gR); (first | refine RK.peelN rfl ?_ | refine RK.donef rfl ⟨_, rfl, ?_⟩ | refine RK.donet rfl (by kernel_rfl) ⟨_, rfl, ?_⟩))
    | ((with_reducible apply gW); (first | with_reducible apply WP.seq | refine WP.reg mixed (fun ks => _) (fun ks => rfl) (fun ks => ?_) | ((apply cdD; apply Eq.refl) <;> (intro hc; (first | exact absurd hc (by decide) | skip))) | apply WP.ret | apply WP.skip | apply WP.exit | apply WP.block))
    | (first | with_reducible apply thn_n | with_reducible apply thn_e | with_reducible apply blk_n | with_reducible apply blk_e)
    | (refine Endz.mk' en_ rv_ (by rfl) sb_)
    | (exact ⟨1, by decide, by decide, Wk.of ⟨rfl, rfl, rfl, rfl, rfl, rfl, trivial⟩ sb_⟩)
    | (exact ⟨2, by decide, by decide, Wk.of ⟨rfl, rfl, rfl, rfl, rfl, rfl, trivial⟩ sb_⟩)
    | (exact ⟨3, by decide, by decide, Wk.of ⟨rfl, rfl, rfl, rfl, rfl, rfl, trivial⟩ sb_⟩)
    | (exact ⟨4, by decide, by decide, Wk.of ⟨rfl, rfl, rfl, rfl, rfl, rfl, trivial⟩ sb_⟩)
    | (exact ⟨5, by decide, by decide, Wk.of ⟨rfl, rfl, rfl, rfl, rfl, rfl, trivial⟩ sb_⟩)
    | (exact ⟨6, by decide, by decide, Wk.of ⟨rfl, rfl, rfl, rfl, rfl, rfl, trivial⟩ sb_⟩)
    | (exact ⟨7, by decide, by decide, Wk.of ⟨rfl, rfl, rfl, rfl, rfl, rfl, trivial⟩ sb_⟩))) : p := h

set_option maxHeartbeats 40000000 in
theorem ref_New_rec (c : Cfg) (oc fd nvo oo4 : AObj) (ko kf kv fv cap : Nat) (v : Int) (rk rbu rkp rnv rsu d0 d1 d2 d3 d4 d5 d6 w0 v00 v01 v02 w1 v10 v11 v12 w2 v20 v21 v22 w3 v30 v31 v32 rb0 rb1 : Nat) (hv : ¬ v > 0) (cc : Ctr Tryz.prog 7 33 [.agg ⟨c.cells⟩] [(ko, oc), (kf, fd)] (I64 v) [oc, fd]) (sq md lk q1 q2 q3 q4 : Int) (rc : Ctr Tryz.prog 7 34 [.slice (some ⟨kv, fv, none⟩) 88 cap] [(kv, nvo)] (.tuple #[.agg #[.int .u32 sq, I64 md, .int .u32 lk, I64 q1, I64 q2, I64 q3, I64 q4], I64 0]) [nvo]) (rb : Ctr Tryz.prog 7 36 [.slice (some ⟨kv, fv, none⟩) 88 cap] [(kv, nvo), (rnv, .gone)] (.slice (some ⟨rnv, 0, none⟩) 88 grown) [nvo, oo4]) : Ctr Tryz.prog 7 7 [.agg ⟨c.cells⟩, .slice (some ⟨kv, fv, none⟩) 88 cap] [(ko, oc), (kf, fd), (kv, nvo), (rk, .gone), (rbu, .gone), (rkp, .gone), (rnv, .gone), (rsu, .gone), (d0, .gone), (d1, .gone), (d2, .gone), (d3, .gone), (d4, .gone), (d5, .gone), (d6, .gone), (w0, .gone), (v00, .gone), (v01, .gone), (v02, .gone), (w1, .gone), (v10, .gone), (v11, .gone), (v12, .gone), (w2, .gone), (v20, .gone), (v21, .gone), (v22, .gone), (w3, .gone), (v30, .gone), (v31, .gone), (v32, .gone), (rb0, .gone), (rb1, .gone)] (.tuple #[pP rsu, .agg #[I64 0, .bool false, I64 0]]) [oc, fd, nvo, obp260 c, obp261 c (lkB lk 14) (lkB lk 15) (lkB lk 16), obp262 c, oo4, .cells (c.cells ++ [.slice (some ⟨rnv, 0, none⟩) 88 grown, pP rk, .bool false, .bool false, .bool false, .bool false, I64 0, .bool false, .int .u8 0, pP d0, pP d1, pP d2, pP d3, pP d4, pP d5, pP d6, pP rbu, pP w0, pP w1, pP w2, pP w3, pP rb0, pP rb1, pP rkp, I64 0, I64 0, I64 md, .bool false, .int .u32 lk, I64 0, I64 0, I64 0, I64 0, I64 0, I64 0]) 113, obp263 c (lkB lk 0) (lkB lk 7), obp263 c (lkB lk 1) (lkB lk 8), obp263 c (lkB lk 2) (lkB lk 9), obp263 c (lkB lk 3) (lkB lk 10), obp263 c (lkB lk 4) (lkB lk 11), obp263 c (lkB lk 5) (lkB lk 12), obp263 c (lkB lk 6) (lkB lk 13), obp264 c v00 v01 v02 (lkB lk 17), obp265 c, obp265 c, obp265 c, obp264 c v10 v11 v12 (lkB lk 18), obp265 c, obp265 c, obp265 c, obp264 c v20 v21 v22 (lkB lk 19), obp265 c, obp265 c, obp265 c, obp264 c v30 v31 v32 (lkB lk 20), obp265 c, obp265 c, obp265 c, .cells (c.cells ++ [I64 (rClamp (rwLo q1 (IntKind.i64.wrap (IntKind.i64.wrap (c.P + c.B) * c.Imax))) 0 c.Cap), I64 (rClamp (rwHi q2 (IntKind.i64.wrap (IntKind.i64.wrap (c.P + c.B) * c.Imax))) 0 c.Cap), I64 (rClamp (rwLo q1 (IntKind.i64.wrap (IntKind.i64.wrap (c.P + c.B) * c.Imax))) 0 c.Cap), I64 (rClamp (rwHi q2 (IntKind.i64.wrap (IntKind.i64.wrap (c.P + c.B) * c.Imax))) 0 c.Cap), I64 (rClamp (rwLo q1 (IntKind.i64.wrap (IntKind.i64.wrap (c.P + c.B) * c.Imax))) 0 c.Cap), I64 (rClamp (rwHi q2 (IntKind.i64.wrap (IntKind.i64.wrap (c.P + c.B) * c.Imax))) 0 c.Cap), .bool true]) 129, .cells (c.cells ++ [I64 (rClamp (rwLo q3 (IntKind.i64.wrap (IntKind.i64.wrap (c.P + c.B) * c.Imax))) 0 c.Cap), I64 (rClamp (rwHi q4 (IntKind.i64.wrap (IntKind.i64.wrap (c.P + c.B) * c.Imax))) 0 c.Cap), I64 (rClamp (rwLo q3 (IntKind.i64.wrap (IntKind.i64.wrap (c.P + c.B) * c.Imax))) 0 c.Cap), I64 (rClamp (rwHi q4 (IntKind.i64.wrap (IntKind.i64.wrap (c.P + c.B) * c.Imax))) 0 c.Cap), I64 (rClamp (rwLo q3 (IntKind.i64.wrap (IntKind.i64.wrap (c.P + c.B) * c.Imax))) 0 c.Cap), I64 (rClamp (rwHi q4 (IntKind.i64.wrap (IntKind.i64.wrap (c.P + c.B) * c.Imax))) 0 c.Cap), .bool true]) 129] := by
  refine Ctr.by layOk Tryz.func7 Tryz.ntmps7 rfl rfl rfl rfl rfl ?_
  repeat' (first
    | ((first | (with_reducible apply gQ0) | ((with_reducible apply gQ1); exact wt_)); (first | (apply q_box (ty := 113) (k := rsu); apply Eq.refl; exact lk_; apply Eq.refl) | (apply q_box (ty := 100) (k := rbu); apply Eq.refl; exact lk_; apply Eq.refl) | (apply q_box (ty := 104) (k := rkp); apply Eq.refl; exact lk_; apply Eq.refl) | (apply q_box (k := ks _); apply Eq.refl; exact lk_; apply Eq.refl) | (apply q_alloc (k := ks _) layOk; apply Eq.refl; exact lk_; apply Eq.refl) | (apply q_move; apply Eq.refl) | (apply q_assign; apply Eq.refl) | (apply q_int; (iterate 3 apply Eq.refl)) | (apply q_fa layOk; (iterate 5 apply Eq.refl)) | (apply q_load layOk; (iterate 3 apply Eq.refl); exact lk_; apply Eq.refl) | (apply q_loadr layOk; (iterate 3 apply Eq.refl); exact lk_; apply Eq.refl) | (apply q_build layOk; (iterate 4 apply Eq.refl)) | (apply q_box (k := ks _); apply Eq.refl; exact lk_; apply Eq.refl) | (apply q_alloc (k := ks _) layOk; apply Eq.refl; exact lk_; apply Eq.refl) | (apply q_pick_f; apply Eq.refl; apply Eq.refl) | (apply q_load layOk; (iterate 3 apply Eq.refl); exact lk_; apply Eq.refl) | (apply q_extract; apply Eq.refl; apply Eq.refl) | (refine q_callW rfl (cc) fd_ (by decide) rfl rfl ?_) | (refine q_callW rfl (rc) fd_ (by decide) rfl rfl ?_) | (refine q_callW rfl (rb) fd_ (by decide) rfl rfl ?_) | (apply isF (f := 37); (refine q_callW rfl (ref_NewBank rk _) fd_ (by decide) rfl rfl ?_)) | (apply e_store layOk; (iterate 3 apply Eq.refl); exact lk_; (iterate 5 apply Eq.refl))))
    | ((with_reducible apply gR); (first | refine RK.peelN rfl ?_ | refine RK.donef rfl ⟨_, rfl, ?_⟩ | refine RK.donet rfl (by kernel_rfl) ⟨_, rfl, ?_⟩))
    | ((with_reducible apply gQv); focus exact wf_)
    | ((with_reducible apply gK); (fail_if_success ((apply gM); (iterate 3 apply Eq.refl))); ((apply gsD; (iterate 4 apply Eq.refl)) <;> (intro hc; (first | exact absurd hc (by decide) | with_reducible exact absurd hc hv | skip))))
    | ((with_reducible apply gW); (first | with_reducible apply WP.seq | refine WP.reg mixed (fun ks => _) (fun ks => rfl) (fun ks => ?_) | ((apply cdD; apply Eq.refl) <;> (intro hc; (first | exact absurd hc (by decide) | with_reducible exact absurd hc hv | skip))) | apply WP.skip | apply WP.block))
    | (with_reducible apply thn_n))
  rename_i z0 y1 y2 hy0 z1 y4 hy1 y5
  refine WP.loopI (n := 210) (α := Nat) (fun x => match x with
    | 0 => [(2, some (pP (z0 0))), (5, some (pP (z0 1))), (7, some (pP (z1 0))), (8, some (I64 0)), (9, some (pP rsu)), (10, some (I64 0))]
    | 1 => [(2, some (pP (z0 0))), (5, some (pP (z0 1))), (7, some (pP (z1 0))), (8, some (I64 0)), (9, some (pP rsu)), (10, some (I64 1))]
    | 2 => [(2, some (pP (z0 0))), (5, some (pP (z0 1))), (7, some (pP (z1 0))), (8, some (I64 0)), (9, some (pP rsu)), (10, some (I64 2))]
    | 3 => [(2, some (pP (z0 0))), (5, some (pP (z0 1))), (7, some (pP (z1 0))), (8, some (I64 0)), (9, some (pP rsu)), (10, some (I64 3))]
    | 4 => [(2, some (pP (z0 0))), (5, some (pP (z0 1))), (7, some (pP (z1 0))), (8, some (I64 0)), (9, some (pP rsu)), (10, some (I64 4))]
    | 5 => [(2, some (pP (z0 0))), (5, some (pP (z0 1))), (7, some (pP (z1 0))), (8, some (I64 0)), (9, some (pP rsu)), (10, some (I64 5))]
    | 6 => [(2, some (pP (z0 0))), (5, some (pP (z0 1))), (7, some (pP (z1 0))), (8, some (I64 0)), (9, some (pP rsu)), (10, some (I64 6))]
    | _ => [(2, some (pP (z0 0))), (5, some (pP (z0 1))), (7, some (pP (z1 0))), (8, some (I64 0)), (9, some (pP rsu)), (10, some (I64 7))]
    )
    (fun x => match x with
    | 0 => [(ko, oc), (kf, fd), (kv, nvo), (rk, obp260 c), (rbu, obp266 c), (rkp, obp262 c), (rnv, oo4), (rsu, .cells (c.cells ++ [.slice (some ⟨rnv, 0, none⟩) 88 grown, pP rk, .bool false, .bool false, .bool false, .bool false, I64 0, .bool false, .int .u8 0, .pointer none, .pointer none, .pointer none, .pointer none, .pointer none, .pointer none, .pointer none, pP rbu, .pointer none, .pointer none, .pointer none, .pointer none, .pointer none, .pointer none, pP rkp, I64 0, I64 0, I64 1, .bool false, .int .u32 0, I64 0, I64 0, I64 0, I64 0, I64 0, I64 0]) 113), (d0, .gone), (d1, .gone), (d2, .gone), (d3, .gone), (d4, .gone), (d5, .gone), (d6, .gone), (w0, .gone), (v00, .gone), (v01, .gone), (v02, .gone), (w1, .gone), (v10, .gone), (v11, .gone), (v12, .gone), (w2, .gone), (v20, .gone), (v21, .gone), (v22, .gone), (w3, .gone), (v30, .gone), (v31, .gone), (v32, .gone), (rb0, .gone), (rb1, .gone), (z0 0, .cells c.cells 25), (z0 1, obp267), (z1 0, obp268 sq md lk q1 q2 q3 q4)]
    | 1 => [(ko, oc), (kf, fd), (kv, nvo), (rk, obp260 c), (rbu, obp266 c), (rkp, obp262 c), (rnv, oo4), (rsu, .cells (c.cells ++ [.slice (some ⟨rnv, 0, none⟩) 88 grown, pP rk, .bool false, .bool false, .bool false, .bool false, I64 0, .bool false, .int .u8 0, pP d0, .pointer none, .pointer none, .pointer none, .pointer none, .pointer none, .pointer none, pP rbu, .pointer none, .pointer none, .pointer none, .pointer none, .pointer none, .pointer none, pP rkp, I64 0, I64 0, I64 1, .bool false, .int .u32 0, I64 0, I64 0, I64 0, I64 0, I64 0, I64 0]) 113), (d0, obp269 c), (d1, .gone), (d2, .gone), (d3, .gone), (d4, .gone), (d5, .gone), (d6, .gone), (w0, .gone), (v00, .gone), (v01, .gone), (v02, .gone), (w1, .gone), (v10, .gone), (v11, .gone), (v12, .gone), (w2, .gone), (v20, .gone), (v21, .gone), (v22, .gone), (w3, .gone), (v30, .gone), (v31, .gone), (v32, .gone), (rb0, .gone), (rb1, .gone), (z0 0, .cells c.cells 25), (z0 1, obp267), (z1 0, obp268 sq md lk q1 q2 q3 q4)]
    | 2 => [(ko, oc), (kf, fd), (kv, nvo), (rk, obp260 c), (rbu, obp266 c), (rkp, obp262 c), (rnv, oo4), (rsu, .cells (c.cells ++ [.slice (some ⟨rnv, 0, none⟩) 88 grown, pP rk, .bool false, .bool false, .bool false, .bool false, I64 0, .bool false, .int .u8 0, pP d0, pP d1, .pointer none, .pointer none, .pointer none, .pointer none, .pointer none, pP rbu, .pointer none, .pointer none, .pointer none, .pointer none, .pointer none, .pointer none, pP rkp, I64 0, I64 0, I64 1, .bool false, .int .u32 0, I64 0, I64 0, I64 0, I64 0, I64 0, I64 0]) 113), (d0, obp269 c), (d1, obp269 c), (d2, .gone), (d3, .gone), (d4, .gone), (d5, .gone), (d6, .gone), (w0, .gone), (v00, .gone), (v01, .gone), (v02, .gone), (w1, .gone), (v10, .gone), (v11, .gone), (v12, .gone), (w2, .gone), (v20, .gone), (v21, .gone), (v22, .gone), (w3, .gone), (v30, .gone), (v31, .gone), (v32, .gone), (rb0, .gone), (rb1, .gone), (z0 0, .cells c.cells 25), (z0 1, obp267), (z1 0, obp268 sq md lk q1 q2 q3 q4)]
    | 3 => [(ko, oc), (kf, fd), (kv, nvo), (rk, obp260 c), (rbu, obp266 c), (rkp, obp262 c), (rnv, oo4), (rsu, .cells (c.cells ++ [.slice (some ⟨rnv, 0, none⟩) 88 grown, pP rk, .bool false, .bool false, .bool false, .bool false, I64 0, .bool false, .int .u8 0, pP d0, pP d1, pP d2, .pointer none, .pointer none, .pointer none, .pointer none, pP rbu, .pointer none, .pointer none, .pointer none, .pointer none, .pointer none, .pointer none, pP rkp, I64 0, I64 0, I64 1, .bool false, .int .u32 0, I64 0, I64 0, I64 0, I64 0, I64 0, I64 0]) 113), (d0, obp269 c), (d1, obp269 c), (d2, obp269 c), (d3, .gone), (d4, .gone), (d5, .gone), (d6, .gone), (w0, .gone), (v00, .gone), (v01, .gone), (v02, .gone), (w1, .gone), (v10, .gone), (v11, .gone), (v12, .gone), (w2, .gone), (v20, .gone), (v21, .gone), (v22, .gone), (w3, .gone), (v30, .gone), (v31, .gone), (v32, .gone), (rb0, .gone), (rb1, .gone), (z0 0, .cells c.cells 25), (z0 1, obp267), (z1 0, obp268 sq md lk q1 q2 q3 q4)]
    | 4 => [(ko, oc), (kf, fd), (kv, nvo), (rk, obp260 c), (rbu, obp266 c), (rkp, obp262 c), (rnv, oo4), (rsu, .cells (c.cells ++ [.slice (some ⟨rnv, 0, none⟩) 88 grown, pP rk, .bool false, .bool false, .bool false, .bool false, I64 0, .bool false, .int .u8 0, pP d0, pP d1, pP d2, pP d3, .pointer none, .pointer none, .pointer none, pP rbu, .pointer none, .pointer none, .pointer none, .pointer none, .pointer none, .pointer none, pP rkp, I64 0, I64 0, I64 1, .bool false, .int .u32 0, I64 0, I64 0, I64 0, I64 0, I64 0, I64 0]) 113), (d0, obp269 c), (d1, obp269 c), (d2, obp269 c), (d3, obp269 c), (d4, .gone), (d5, .gone), (d6, .gone), (w0, .gone), (v00, .gone), (v01, .gone), (v02, .gone), (w1, .gone), (v10, .gone), (v11, .gone), (v12, .gone), (w2, .gone), (v20, .gone), (v21, .gone), (v22, .gone), (w3, .gone), (v30, .gone), (v31, .gone), (v32, .gone), (rb0, .gone), (rb1, .gone), (z0 0, .cells c.cells 25), (z0 1, obp267), (z1 0, obp268 sq md lk q1 q2 q3 q4)]
    | 5 => [(ko, oc), (kf, fd), (kv, nvo), (rk, obp260 c), (rbu, obp266 c), (rkp, obp262 c), (rnv, oo4), (rsu, .cells (c.cells ++ [.slice (some ⟨rnv, 0, none⟩) 88 grown, pP rk, .bool false, .bool false, .bool false, .bool false, I64 0, .bool false, .int .u8 0, pP d0, pP d1, pP d2, pP d3, pP d4, .pointer none, .pointer none, pP rbu, .pointer none, .pointer none, .pointer none, .pointer none, .pointer none, .pointer none, pP rkp, I64 0, I64 0, I64 1, .bool false, .int .u32 0, I64 0, I64 0, I64 0, I64 0, I64 0, I64 0]) 113), (d0, obp269 c), (d1, obp269 c), (d2, obp269 c), (d3, obp269 c), (d4, obp269 c), (d5, .gone), (d6, .gone), (w0, .gone), (v00, .gone), (v01, .gone), (v02, .gone), (w1, .gone), (v10, .gone), (v11, .gone), (v12, .gone), (w2, .gone), (v20, .gone), (v21, .gone), (v22, .gone), (w3, .gone), (v30, .gone), (v31, .gone), (v32, .gone), (rb0, .gone), (rb1, .gone), (z0 0, .cells c.cells 25), (z0 1, obp267), (z1 0, obp268 sq md lk q1 q2 q3 q4)]
    | 6 => [(ko, oc), (kf, fd), (kv, nvo), (rk, obp260 c), (rbu, obp266 c), (rkp, obp262 c), (rnv, oo4), (rsu, .cells (c.cells ++ [.slice (some ⟨rnv, 0, none⟩) 88 grown, pP rk, .bool false, .bool false, .bool false, .bool false, I64 0, .bool false, .int .u8 0, pP d0, pP d1, pP d2, pP d3, pP d4, pP d5, .pointer none, pP rbu, .pointer none, .pointer none, .pointer none, .pointer none, .pointer none, .pointer none, pP rkp, I64 0, I64 0, I64 1, .bool false, .int .u32 0, I64 0, I64 0, I64 0, I64 0, I64 0, I64 0]) 113), (d0, obp269 c), (d1, obp269 c), (d2, obp269 c), (d3, obp269 c), (d4, obp269 c), (d5, obp269 c), (d6, .gone), (w0, .gone), (v00, .gone), (v01, .gone), (v02, .gone), (w1, .gone), (v10, .gone), (v11, .gone), (v12, .gone), (w2, .gone), (v20, .gone), (v21, .gone), (v22, .gone), (w3, .gone), (v30, .gone), (v31, .gone), (v32, .gone), (rb0, .gone), (rb1, .gone), (z0 0, .cells c.cells 25), (z0 1, obp267), (z1 0, obp268 sq md lk q1 q2 q3 q4)]
    | _ => [(ko, oc), (kf, fd), (kv, nvo), (rk, obp260 c), (rbu, obp266 c), (rkp, obp262 c), (rnv, oo4), (rsu, .cells (c.cells ++ [.slice (some ⟨rnv, 0, none⟩) 88 grown, pP rk, .bool false, .bool false, .bool false, .bool false, I64 0, .bool false, .int .u8 0, pP d0, pP d1, pP d2, pP d3, pP d4, pP d5, pP d6, pP rbu, .pointer none, .pointer none, .pointer none, .pointer none, .pointer none, .pointer none, pP rkp, I64 0, I64 0, I64 1, .bool false, .int .u32 0, I64 0, I64 0, I64 0, I64 0, I64 0, I64 0]) 113), (d0, obp269 c), (d1, obp269 c), (d2, obp269 c), (d3, obp269 c), (d4, obp269 c), (d5, obp269 c), (d6, obp269 c), (w0, .gone), (v00, .gone), (v01, .gone), (v02, .gone), (w1, .gone), (v10, .gone), (v11, .gone), (v12, .gone), (w2, .gone), (v20, .gone), (v21, .gone), (v22, .gone), (w3, .gone), (v30, .gone), (v31, .gone), (v32, .gone), (rb0, .gone), (rb1, .gone), (z0 0, .cells c.cells 25), (z0 1, obp267), (z1 0, obp268 sq md lk q1 q2 q3 q4)]
    ) (fun x => x ≤ 7) (fun x => 7 - x) 0 (Wk.of ⟨rfl, rfl, rfl, rfl, rfl, rfl, trivial⟩ sb_) (Nat.zero_le _) (fun x ix => ?_)
  have ix : x ≤ 7 := ix
  match x, ix with
  | 0, _ =>
    try dsimp only
    exact wk_P26_0
  | 1, _ =>
    try dsimp only
    exact wk_P26_0
  | 2, _ =>
    try dsimp only
    exact wk_P26_0
  | 3, _ =>
    try dsimp only
    exact wk_P26_0
  | 4, _ =>
    try dsimp only
    exact wk_P26_0
  | 5, _ =>
    try dsimp only
    exact wk_P26_0
  | 6, _ =>
    try dsimp only
    exact wk_P26_0
  | 7, _ =>
    try dsimp only
    repeat' (first
      | ((with_reducible apply gQ0); (first | (apply q_move; apply Eq.refl) | (apply q_assign; apply Eq.refl) | (apply q_int; (iterate 3 apply Eq.refl))))
      | ((with_reducible apply gR); (first | refine RK.peelN rfl ?_ | refine RK.donef rfl ⟨_, rfl, ?_⟩))
      | ((with_reducible apply gW); (first | with_reducible apply WP.seq | refine WP.reg mixed (fun ks => _) (fun ks => rfl) (fun ks => ?_) | ((apply cdD; apply Eq.refl) <;> (intro hc; (first | exact absurd hc (by decide) | skip))) | apply WP.exit | apply WP.block))
      | (first | with_reducible apply thn_n | with_reducible apply thn_e | with_reducible apply blk_e))
    refine WP.loopI (n := 210) (α := Nat) (fun x => match x with
      | 0 => [(2, some (pP (z0 0))), (5, some (pP (z0 1))), (7, some (pP (z1 0))), (8, some (I64 0)), (9, some (pP rsu)), (11, some (I64 0))]
      | 1 => [(2, some (pP (z0 0))), (5, some (pP (z0 1))), (7, some (pP (z1 0))), (8, some (I64 0)), (9, some (pP rsu)), (11, some (I64 1))]
      | 2 => [(2, some (pP (z0 0))), (5, some (pP (z0 1))), (7, some (pP (z1 0))), (8, some (I64 0)), (9, some (pP rsu)), (11, some (I64 2))]
      | 3 => [(2, some (pP (z0 0))), (5, some (pP (z0 1))), (7, some (pP (z1 0))), (8, some (I64 0)), (9, some (pP rsu)), (11, some (I64 3))]
      | _ => [(2, some (pP (z0 0))), (5, some (pP (z0 1))), (7, some (pP (z1 0))), (8, some (I64 0)), (9, some (pP rsu)), (11, some (I64 4))]
      )
      (fun x => match x with
      | 0 => [(ko, oc), (kf, fd), (kv, nvo), (rk, obp260 c), (rbu, obp266 c), (rkp, obp262 c), (rnv, oo4), (rsu, .cells (c.cells ++ [.slice (some ⟨rnv, 0, none⟩) 88 grown, pP rk, .bool false, .bool false, .bool false, .bool false, I64 0, .bool false, .int .u8 0, pP d0, pP d1, pP d2, pP d3, pP d4, pP d5, pP d6, pP rbu, .pointer none, .pointer none, .pointer none, .pointer none, .pointer none, .pointer none, pP rkp, I64 0, I64 0, I64 1, .bool false, .int .u32 0, I64 0, I64 0, I64 0, I64 0, I64 0, I64 0]) 113), (d0, obp269 c), (d1, obp269 c), (d2, obp269 c), (d3, obp269 c), (d4, obp269 c), (d5, obp269 c), (d6, obp269 c), (w0, .gone), (v00, .gone), (v01, .gone), (v02, .gone), (w1, .gone), (v10, .gone), (v11, .gone), (v12, .gone), (w2, .gone), (v20, .gone), (v21, .gone), (v22, .gone), (w3, .gone), (v30, .gone), (v31, .gone), (v32, .gone), (rb0, .gone), (rb1, .gone), (z0 0, .cells c.cells 25), (z0 1, obp267), (z1 0, obp268 sq md lk q1 q2 q3 q4)]
      | 1 => [(ko, oc), (kf, fd), (kv, nvo), (rk, obp260 c), (rbu, obp266 c), (rkp, obp262 c), (rnv, oo4), (rsu, .cells (c.cells ++ [.slice (some ⟨rnv, 0, none⟩) 88 grown, pP rk, .bool false, .bool false, .bool false, .bool false, I64 0, .bool false, .int .u8 0, pP d0, pP d1, pP d2, pP d3, pP d4, pP d5, pP d6, pP rbu, pP w0, .pointer none, .pointer none, .pointer none, .pointer none, .pointer none, pP rkp, I64 0, I64 0, I64 1, .bool false, .int .u32 0, I64 0, I64 0, I64 0, I64 0, I64 0, I64 0]) 113), (d0, obp269 c), (d1, obp269 c), (d2, obp269 c), (d3, obp269 c), (d4, obp269 c), (d5, obp269 c), (d6, obp269 c), (w0, obp2610 c v00 v01 v02), (v00, obp265 c), (v01, obp265 c), (v02, obp265 c), (w1, .gone), (v10, .gone), (v11, .gone), (v12, .gone), (w2, .gone), (v20, .gone), (v21, .gone), (v22, .gone), (w3, .gone), (v30, .gone), (v31, .gone), (v32, .gone), (rb0, .gone), (rb1, .gone), (z0 0, .cells c.cells 25), (z0 1, obp267), (z1 0, obp268 sq md lk q1 q2 q3 q4)]
      | 2 => [(ko, oc), (kf, fd), (kv, nvo), (rk, obp260 c), (rbu, obp266 c), (rkp, obp262 c), (rnv, oo4), (rsu, .cells (c.cells ++ [.slice (some ⟨rnv, 0, none⟩) 88 grown, pP rk, .bool false, .bool false, .bool false, .bool false, I64 0, .bool false, .int .u8 0, pP d0, pP d1, pP d2, pP d3, pP d4, pP d5, pP d6, pP rbu, pP w0, pP w1, .pointer none, .pointer none, .pointer none, .pointer none, pP rkp, I64 0, I64 0, I64 1, .bool false, .int .u32 0, I64 0, I64 0, I64 0, I64 0, I64 0, I64 0]) 113), (d0, obp269 c), (d1, obp269 c), (d2, obp269 c), (d3, obp269 c), (d4, obp269 c), (d5, obp269 c), (d6, obp269 c), (w0, obp2610 c v00 v01 v02), (v00, obp265 c), (v01, obp265 c), (v02, obp265 c), (w1, obp2610 c v10 v11 v12), (v10, obp265 c), (v11, obp265 c), (v12, obp265 c), (w2, .gone), (v20, .gone), (v21, .gone), (v22, .gone), (w3, .gone), (v30, .gone), (v31, .gone), (v32, .gone), (rb0, .gone), (rb1, .gone), (z0 0, .cells c.cells 25), (z0 1, obp267), (z1 0, obp268 sq md lk q1 q2 q3 q4)]
      | 3 => [(ko, oc), (kf, fd), (kv, nvo), (rk, obp260 c), (rbu, obp266 c), (rkp, obp262 c), (rnv, oo4), (rsu, .cells (c.cells ++ [.slice (some ⟨rnv, 0, none⟩) 88 grown, pP rk, .bool false, .bool false, .bool false, .bool false, I64 0, .bool false, .int .u8 0, pP d0, pP d1, pP d2, pP d3, pP d4, pP d5, pP d6, pP rbu, pP w0, pP w1, pP w2, .pointer none, .pointer none, .pointer none, pP rkp, I64 0, I64 0, I64 1, .bool false, .int .u32 0, I64 0, I64 0, I64 0, I64 0, I64 0, I64 0]) 113), (d0, obp269 c), (d1, obp269 c), (d2, obp269 c), (d3, obp269 c), (d4, obp269 c), (d5, obp269 c), (d6, obp269 c), (w0, obp2610 c v00 v01 v02), (v00, obp265 c), (v01, obp265 c), (v02, obp265 c), (w1, obp2610 c v10 v11 v12), (v10, obp265 c), (v11, obp265 c), (v12, obp265 c), (w2, obp2610 c v20 v21 v22), (v20, obp265 c), (v21, obp265 c), (v22, obp265 c), (w3, .gone), (v30, .gone), (v31, .gone), (v32, .gone), (rb0, .gone), (rb1, .gone), (z0 0, .cells c.cells 25), (z0 1, obp267), (z1 0, obp268 sq md lk q1 q2 q3 q4)]
      | _ => [(ko, oc), (kf, fd), (kv, nvo), (rk, obp260 c), (rbu, obp266 c), (rkp, obp262 c), (rnv, oo4), (rsu, .cells (c.cells ++ [.slice (some ⟨rnv, 0, none⟩) 88 grown, pP rk, .bool false, .bool false, .bool false, .bool false, I64 0, .bool false, .int .u8 0, pP d0, pP d1, pP d2, pP d3, pP d4, pP d5, pP d6, pP rbu, pP w0, pP w1, pP w2, pP w3, .pointer none, .pointer none, pP rkp, I64 0, I64 0, I64 1, .bool false, .int .u32 0, I64 0, I64 0, I64 0, I64 0, I64 0, I64 0]) 113), (d0, obp269 c), (d1, obp269 c), (d2, obp269 c), (d3, obp269 c), (d4, obp269 c), (d5, obp269 c), (d6, obp269 c), (w0, obp2610 c v00 v01 v02), (v00, obp265 c), (v01, obp265 c), (v02, obp265 c), (w1, obp2610 c v10 v11 v12), (v10, obp265 c), (v11, obp265 c), (v12, obp265 c), (w2, obp2610 c v20 v21 v22), (v20, obp265 c), (v21, obp265 c), (v22, obp265 c), (w3, obp2610 c v30 v31 v32), (v30, obp265 c), (v31, obp265 c), (v32, obp265 c), (rb0, .gone), (rb1, .gone), (z0 0, .cells c.cells 25), (z0 1, obp267), (z1 0, obp268 sq md lk q1 q2 q3 q4)]
      ) (fun x => x ≤ 4) (fun x => 4 - x) 0 (Wk.of ⟨rfl, rfl, rfl, rfl, rfl, rfl, trivial⟩ sb_) (Nat.zero_le _) (fun x ix => ?_)
    have ix : x ≤ 4 := ix
    match x, ix with
    | 0, _ =>
      try dsimp only
      exact wk_P26_0
    | 1, _ =>
      try dsimp only
      exact wk_P26_0
    | 2, _ =>
      try dsimp only
      exact wk_P26_0
    | 3, _ =>
      try dsimp only
      exact wk_P26_0
    | 4, _ =>
      try dsimp only
      repeat' (first
        | ((with_reducible apply gQ0); (first | (apply q_move; apply Eq.refl) | (apply q_assign; apply Eq.refl) | (apply q_int; (iterate 3 apply Eq.refl)) | (apply q_nilCheck; apply Eq.refl) | (apply q_fa layOk; (iterate 5 apply Eq.refl)) | (apply q_load layOk; (iterate 3 apply Eq.refl); exact lk_; apply Eq.refl) | (apply q_load layOk; (iterate 3 apply Eq.refl); exact lk_; apply Eq.refl) | (apply e_store layOk; (iterate 3 apply Eq.refl); exact lk_; (iterate 5 apply Eq.refl))))
        | ((with_reducible apply gR); (first | refine RK.peelN rfl ?_ | refine RK.donef rfl ⟨_, rfl, ?_⟩))
        | ((with_reducible apply gW); (first | with_reducible apply WP.seq | refine WP.reg mixed (fun ks => _) (fun ks => rfl) (fun ks => ?_) | ((first | (apply cdD; apply Eq.refl) | (apply WP.condN; apply Eq.refl)) <;> (intro hc; (first | exact absurd hc (by decide) | skip))) | apply WP.skip | apply WP.exit | apply WP.block))
        | (first | with_reducible apply thn_n | with_reducible apply thn_e | with_reducible apply blk_e))
      refine WP.loopI (n := 210) (α := Nat) (fun x => match x with
        | 0 => [(2, some (pP (z0 0))), (5, some (pP (z0 1))), (7, some (pP (z1 0))), (8, some (I64 0)), (9, some (pP rsu)), (12, some (I64 0))]
        | 1 => [(2, some (pP (z0 0))), (5, some (pP (z0 1))), (7, some (pP (z1 0))), (8, some (I64 0)), (9, some (pP rsu)), (12, some (I64 1))]
        | 2 => [(2, some (pP (z0 0))), (5, some (pP (z0 1))), (7, some (pP (z1 0))), (8, some (I64 0)), (9, some (pP rsu)), (12, some (I64 2))]
        | 3 => [(2, some (pP (z0 0))), (5, some (pP (z0 1))), (7, some (pP (z1 0))), (8, some (I64 0)), (9, some (pP rsu)), (12, some (I64 3))]
        | 4 => [(2, some (pP (z0 0))), (5, some (pP (z0 1))), (7, some (pP (z1 0))), (8, some (I64 0)), (9, some (pP rsu)), (12, some (I64 4))]
        | 5 => [(2, some (pP (z0 0))), (5, some (pP (z0 1))), (7, some (pP (z1 0))), (8, some (I64 0)), (9, some (pP rsu)), (12, some (I64 5))]
        | 6 => [(2, some (pP (z0 0))), (5, some (pP (z0 1))), (7, some (pP (z1 0))), (8, some (I64 0)), (9, some (pP rsu)), (12, some (I64 6))]
        | _ => [(2, some (pP (z0 0))), (5, some (pP (z0 1))), (7, some (pP (z1 0))), (8, some (I64 0)), (9, some (pP rsu)), (12, some (I64 7))]
        )
        (fun x => match x with
        | 0 => [(ko, oc), (kf, fd), (kv, nvo), (rk, obp260 c), (rbu, obp266 c), (rkp, obp262 c), (rnv, oo4), (rsu, obp2611 c rnv rk d0 d1 d2 d3 d4 d5 d6 rbu w0 w1 w2 w3 rkp md lk), (d0, obp269 c), (d1, obp269 c), (d2, obp269 c), (d3, obp269 c), (d4, obp269 c), (d5, obp269 c), (d6, obp269 c), (w0, obp2610 c v00 v01 v02), (v00, obp265 c), (v01, obp265 c), (v02, obp265 c), (w1, obp2610 c v10 v11 v12), (v10, obp265 c), (v11, obp265 c), (v12, obp265 c), (w2, obp2610 c v20 v21 v22), (v20, obp265 c), (v21, obp265 c), (v22, obp265 c), (w3, obp2610 c v30 v31 v32), (v30, obp265 c), (v31, obp265 c), (v32, obp265 c), (rb0, .gone), (rb1, .gone), (z0 0, .cells c.cells 25), (z0 1, obp267), (z1 0, obp268 sq md lk q1 q2 q3 q4)]
        | 1 => [(ko, oc), (kf, fd), (kv, nvo), (rk, obp260 c), (rbu, obp266 c), (rkp, obp262 c), (rnv, oo4), (rsu, obp2611 c rnv rk d0 d1 d2 d3 d4 d5 d6 rbu w0 w1 w2 w3 rkp md lk), (d0, obp263 c (lkB lk 0) (lkB lk 7)), (d1, obp269 c), (d2, obp269 c), (d3, obp269 c), (d4, obp269 c), (d5, obp269 c), (d6, obp269 c), (w0, obp2610 c v00 v01 v02), (v00, obp265 c), (v01, obp265 c), (v02, obp265 c), (w1, obp2610 c v10 v11 v12), (v10, obp265 c), (v11, obp265 c), (v12, obp265 c), (w2, obp2610 c v20 v21 v22), (v20, obp265 c), (v21, obp265 c), (v22, obp265 c), (w3, obp2610 c v30 v31 v32), (v30, obp265 c), (v31, obp265 c), (v32, obp265 c), (rb0, .gone), (rb1, .gone), (z0 0, .cells c.cells 25), (z0 1, obp267), (z1 0, obp268 sq md lk q1 q2 q3 q4)]
        | 2 => [(ko, oc), (kf, fd), (kv, nvo), (rk, obp260 c), (rbu, obp266 c), (rkp, obp262 c), (rnv, oo4), (rsu, obp2611 c rnv rk d0 d1 d2 d3 d4 d5 d6 rbu w0 w1 w2 w3 rkp md lk), (d0, obp263 c (lkB lk 0) (lkB lk 7)), (d1, obp263 c (lkB lk 1) (lkB lk 8)), (d2, obp269 c), (d3, obp269 c), (d4, obp269 c), (d5, obp269 c), (d6, obp269 c), (w0, obp2610 c v00 v01 v02), (v00, obp265 c), (v01, obp265 c), (v02, obp265 c), (w1, obp2610 c v10 v11 v12), (v10, obp265 c), (v11, obp265 c), (v12, obp265 c), (w2, obp2610 c v20 v21 v22), (v20, obp265 c), (v21, obp265 c), (v22, obp265 c), (w3, obp2610 c v30 v31 v32), (v30, obp265 c), (v31, obp265 c), (v32, obp265 c), (rb0, .gone), (rb1, .gone), (z0 0, .cells c.cells 25), (z0 1, obp267), (z1 0, obp268 sq md lk q1 q2 q3 q4)]
        | 3 => [(ko, oc), (kf, fd), (kv, nvo), (rk, obp260 c), (rbu, obp266 c), (rkp, obp262 c), (rnv, oo4), (rsu, obp2611 c rnv rk d0 d1 d2 d3 d4 d5 d6 rbu w0 w1 w2 w3 rkp md lk), (d0, obp263 c (lkB lk 0) (lkB lk 7)), (d1, obp263 c (lkB lk 1) (lkB lk 8)), (d2, obp263 c (lkB lk 2) (lkB lk 9)), (d3, obp269 c), (d4, obp269 c), (d5, obp269 c), (d6, obp269 c), (w0, obp2610 c v00 v01 v02), (v00, obp265 c), (v01, obp265 c), (v02, obp265 c), (w1, obp2610 c v10 v11 v12), (v10, obp265 c), (v11, obp265 c), (v12, obp265 c), (w2, obp2610 c v20 v21 v22), (v20, obp265 c), (v21, obp265 c), (v22, obp265 c), (w3, obp2610 c v30 v31 v32), (v30, obp265 c), (v31, obp265 c), (v32, obp265 c), (rb0, .gone), (rb1, .gone), (z0 0, .cells c.cells 25), (z0 1, obp267), (z1 0, obp268 sq md lk q1 q2 q3 q4)]
        | 4 => [(ko, oc), (kf, fd), (kv, nvo), (rk, obp260 c), (rbu, obp266 c), (rkp, obp262 c), (rnv, oo4), (rsu, obp2611 c rnv rk d0 d1 d2 d3 d4 d5 d6 rbu w0 w1 w2 w3 rkp md lk), (d0, obp263 c (lkB lk 0) (lkB lk 7)), (d1, obp263 c (lkB lk 1) (lkB lk 8)), (d2, obp263 c (lkB lk 2) (lkB lk 9)), (d3, obp263 c (lkB lk 3) (lkB lk 10)), (d4, obp269 c), (d5, obp269 c), (d6, obp269 c), (w0, obp2610 c v00 v01 v02), (v00, obp265 c), (v01, obp265 c), (v02, obp265 c), (w1, obp2610 c v10 v11 v12), (v10, obp265 c), (v11, obp265 c), (v12, obp265 c), (w2, obp2610 c v20 v21 v22), (v20, obp265 c), (v21, obp265 c), (v22, obp265 c), (w3, obp2610 c v30 v31 v32), (v30, obp265 c), (v31, obp265 c), (v32, obp265 c), (rb0, .gone), (rb1, .gone), (z0 0, .cells c.cells 25), (z0 1, obp267), (z1 0, obp268 sq md lk q1 q2 q3 q4)]
        | 5 => [(ko, oc), (kf, fd), (kv, nvo), (rk, obp260 c), (rbu, obp266 c), (rkp, obp262 c), (rnv, oo4), (rsu, obp2611 c rnv rk d0 d1 d2 d3 d4 d5 d6 rbu w0 w1 w2 w3 rkp md lk), (d0, obp263 c (lkB lk 0) (lkB lk 7)), (d1, obp263 c (lkB lk 1) (lkB lk 8)), (d2, obp263 c (lkB lk 2) (lkB lk 9)), (d3, obp263 c (lkB lk 3) (lkB lk 10)), (d4, obp263 c (lkB lk 4) (lkB lk 11)), (d5, obp269 c), (d6, obp269 c), (w0, obp2610 c v00 v01 v02), (v00, obp265 c), (v01, obp265 c), (v02, obp265 c), (w1, obp2610 c v10 v11 v12), (v10, obp265 c), (v11, obp265 c), (v12, obp265 c), (w2, obp2610 c v20 v21 v22), (v20, obp265 c), (v21, obp265 c), (v22, obp265 c), (w3, obp2610 c v30 v31 v32), (v30, obp265 c), (v31, obp265 c), (v32, obp265 c), (rb0, .gone), (rb1, .gone), (z0 0, .cells c.cells 25), (z0 1, obp267), (z1 0, obp268 sq md lk q1 q2 q3 q4)]
        | 6 => [(ko, oc), (kf, fd), (kv, nvo), (rk, obp260 c), (rbu, obp266 c), (rkp, obp262 c), (rnv, oo4), (rsu, obp2611 c rnv rk d0 d1 d2 d3 d4 d5 d6 rbu w0 w1 w2 w3 rkp md lk), (d0, obp263 c (lkB lk 0) (lkB lk 7)), (d1, obp263 c (lkB lk 1) (lkB lk 8)), (d2, obp263 c (lkB lk 2) (lkB lk 9)), (d3, obp263 c (lkB lk 3) (lkB lk 10)), (d4, obp263 c (lkB lk 4) (lkB lk 11)), (d5, obp263 c (lkB lk 5) (lkB lk 12)), (d6, obp269 c), (w0, obp2610 c v00 v01 v02), (v00, obp265 c), (v01, obp265 c), (v02, obp265 c), (w1, obp2610 c v10 v11 v12), (v10, obp265 c), (v11, obp265 c), (v12, obp265 c), (w2, obp2610 c v20 v21 v22), (v20, obp265 c), (v21, obp265 c), (v22, obp265 c), (w3, obp2610 c v30 v31 v32), (v30, obp265 c), (v31, obp265 c), (v32, obp265 c), (rb0, .gone), (rb1, .gone), (z0 0, .cells c.cells 25), (z0 1, obp267), (z1 0, obp268 sq md lk q1 q2 q3 q4)]
        | _ => [(ko, oc), (kf, fd), (kv, nvo), (rk, obp260 c), (rbu, obp266 c), (rkp, obp262 c), (rnv, oo4), (rsu, obp2611 c rnv rk d0 d1 d2 d3 d4 d5 d6 rbu w0 w1 w2 w3 rkp md lk), (d0, obp263 c (lkB lk 0) (lkB lk 7)), (d1, obp263 c (lkB lk 1) (lkB lk 8)), (d2, obp263 c (lkB lk 2) (lkB lk 9)), (d3, obp263 c (lkB lk 3) (lkB lk 10)), (d4, obp263 c (lkB lk 4) (lkB lk 11)), (d5, obp263 c (lkB lk 5) (lkB lk 12)), (d6, obp263 c (lkB lk 6) (lkB lk 13)), (w0, obp2610 c v00 v01 v02), (v00, obp265 c), (v01, obp265 c), (v02, obp265 c), (w1, obp2610 c v10 v11 v12), (v10, obp265 c), (v11, obp265 c), (v12, obp265 c), (w2, obp2610 c v20 v21 v22), (v20, obp265 c), (v21, obp265 c), (v22, obp265 c), (w3, obp2610 c v30 v31 v32), (v30, obp265 c), (v31, obp265 c), (v32, obp265 c), (rb0, .gone), (rb1, .gone), (z0 0, .cells c.cells 25), (z0 1, obp267), (z1 0, obp268 sq md lk q1 q2 q3 q4)]
        ) (fun x => x ≤ 7) (fun x => 7 - x) 0 (Wk.of ⟨rfl, rfl, rfl, rfl, rfl, rfl, trivial⟩ sb_) (Nat.zero_le _) (fun x ix => ?_)
      have ix : x ≤ 7 := ix
      match x, ix with
      | 0, _ =>
        try dsimp only
        exact wk_P26_0
      | 1, _ =>
        try dsimp only
        exact wk_P26_0
      | 2, _ =>
        try dsimp only
        exact wk_P26_0
      | 3, _ =>
        try dsimp only
        exact wk_P26_0
      | 4, _ =>
        try dsimp only
        exact wk_P26_0
      | 5, _ =>
        try dsimp only
        exact wk_P26_0
      | 6, _ =>
        try dsimp only
        exact wk_P26_0
      | 7, _ =>
        try dsimp only
        repeat' (first
          | ((with_reducible apply gQ0); (first | (apply q_move; apply Eq.refl) | (apply q_assign; apply Eq.refl) | (apply q_int; (iterate 3 apply Eq.refl))))
          | ((with_reducible apply gR); (first | refine RK.peelN rfl ?_ | refine RK.donef rfl ⟨_, rfl, ?_⟩))
          | ((with_reducible apply gW); (first | with_reducible apply WP.seq | refine WP.reg mixed (fun ks => _) (fun ks => rfl) (fun ks => ?_) | ((apply cdD; apply Eq.refl) <;> (intro hc; (first | exact absurd hc (by decide) | skip))) | apply WP.exit | apply WP.block))
          | (first | with_reducible apply thn_n | with_reducible apply thn_e | with_reducible apply blk_e))
        refine WP.loopI (n := 210) (α := Nat) (fun x => match x with
          | 0 => [(2, some (pP (z0 0))), (5, some (pP (z0 1))), (7, some (pP (z1 0))), (8, some (I64 0)), (9, some (pP rsu)), (13, some (I64 0))]
          | 1 => [(2, some (pP (z0 0))), (5, some (pP (z0 1))), (7, some (pP (z1 0))), (8, some (I64 0)), (9, some (pP rsu)), (13, some (I64 1))]
          | 2 => [(2, some (pP (z0 0))), (5, some (pP (z0 1))), (7, some (pP (z1 0))), (8, some (I64 0)), (9, some (pP rsu)), (13, some (I64 2))]
          | _ => [(2, some (pP (z0 0))), (5, some (pP (z0 1))), (7, some (pP (z1 0))), (8, some (I64 0)), (9, some (pP rsu)), (13, some (I64 3))]
          )
          (fun x => match x with
          | 0 => [(ko, oc), (kf, fd), (kv, nvo), (rk, obp260 c), (rbu, obp266 c), (rkp, obp262 c), (rnv, oo4), (rsu, obp2611 c rnv rk d0 d1 d2 d3 d4 d5 d6 rbu w0 w1 w2 w3 rkp md lk), (d0, obp263 c (lkB lk 0) (lkB lk 7)), (d1, obp263 c (lkB lk 1) (lkB lk 8)), (d2, obp263 c (lkB lk 2) (lkB lk 9)), (d3, obp263 c (lkB lk 3) (lkB lk 10)), (d4, obp263 c (lkB lk 4) (lkB lk 11)), (d5, obp263 c (lkB lk 5) (lkB lk 12)), (d6, obp263 c (lkB lk 6) (lkB lk 13)), (w0, obp2610 c v00 v01 v02), (v00, obp265 c), (v01, obp265 c), (v02, obp265 c), (w1, obp2610 c v10 v11 v12), (v10, obp265 c), (v11, obp265 c), (v12, obp265 c), (w2, obp2610 c v20 v21 v22), (v20, obp265 c), (v21, obp265 c), (v22, obp265 c), (w3, obp2610 c v30 v31 v32), (v30, obp265 c), (v31, obp265 c), (v32, obp265 c), (rb0, .gone), (rb1, .gone), (z0 0, .cells c.cells 25), (z0 1, obp267), (z1 0, obp268 sq md lk q1 q2 q3 q4)]
          | 1 => [(ko, oc), (kf, fd), (kv, nvo), (rk, obp260 c), (rbu, .cells (c.cells ++ [I64 0, I64 0, I64 0, .bool (lkB lk 14), .bool (false), .bool (false)]) 100), (rkp, obp262 c), (rnv, oo4), (rsu, obp2611 c rnv rk d0 d1 d2 d3 d4 d5 d6 rbu w0 w1 w2 w3 rkp md lk), (d0, obp263 c (lkB lk 0) (lkB lk 7)), (d1, obp263 c (lkB lk 1) (lkB lk 8)), (d2, obp263 c (lkB lk 2) (lkB lk 9)), (d3, obp263 c (lkB lk 3) (lkB lk 10)), (d4, obp263 c (lkB lk 4) (lkB lk 11)), (d5, obp263 c (lkB lk 5) (lkB lk 12)), (d6, obp263 c (lkB lk 6) (lkB lk 13)), (w0, obp2610 c v00 v01 v02), (v00, obp265 c), (v01, obp265 c), (v02, obp265 c), (w1, obp2610 c v10 v11 v12), (v10, obp265 c), (v11, obp265 c), (v12, obp265 c), (w2, obp2610 c v20 v21 v22), (v20, obp265 c), (v21, obp265 c), (v22, obp265 c), (w3, obp2610 c v30 v31 v32), (v30, obp265 c), (v31, obp265 c), (v32, obp265 c), (rb0, .gone), (rb1, .gone), (z0 0, .cells c.cells 25), (z0 1, obp267), (z1 0, obp268 sq md lk q1 q2 q3 q4)]
          | 2 => [(ko, oc), (kf, fd), (kv, nvo), (rk, obp260 c), (rbu, .cells (c.cells ++ [I64 0, I64 0, I64 0, .bool (lkB lk 14), .bool (lkB lk 15), .bool (false)]) 100), (rkp, obp262 c), (rnv, oo4), (rsu, obp2611 c rnv rk d0 d1 d2 d3 d4 d5 d6 rbu w0 w1 w2 w3 rkp md lk), (d0, obp263 c (lkB lk 0) (lkB lk 7)), (d1, obp263 c (lkB lk 1) (lkB lk 8)), (d2, obp263 c (lkB lk 2) (lkB lk 9)), (d3, obp263 c (lkB lk 3) (lkB lk 10)), (d4, obp263 c (lkB lk 4) (lkB lk 11)), (d5, obp263 c (lkB lk 5) (lkB lk 12)), (d6, obp263 c (lkB lk 6) (lkB lk 13)), (w0, obp2610 c v00 v01 v02), (v00, obp265 c), (v01, obp265 c), (v02, obp265 c), (w1, obp2610 c v10 v11 v12), (v10, obp265 c), (v11, obp265 c), (v12, obp265 c), (w2, obp2610 c v20 v21 v22), (v20, obp265 c), (v21, obp265 c), (v22, obp265 c), (w3, obp2610 c v30 v31 v32), (v30, obp265 c), (v31, obp265 c), (v32, obp265 c), (rb0, .gone), (rb1, .gone), (z0 0, .cells c.cells 25), (z0 1, obp267), (z1 0, obp268 sq md lk q1 q2 q3 q4)]
          | _ => [(ko, oc), (kf, fd), (kv, nvo), (rk, obp260 c), (rbu, obp261 c (lkB lk 14) (lkB lk 15) (lkB lk 16)), (rkp, obp262 c), (rnv, oo4), (rsu, obp2611 c rnv rk d0 d1 d2 d3 d4 d5 d6 rbu w0 w1 w2 w3 rkp md lk), (d0, obp263 c (lkB lk 0) (lkB lk 7)), (d1, obp263 c (lkB lk 1) (lkB lk 8)), (d2, obp263 c (lkB lk 2) (lkB lk 9)), (d3, obp263 c (lkB lk 3) (lkB lk 10)), (d4, obp263 c (lkB lk 4) (lkB lk 11)), (d5, obp263 c (lkB lk 5) (lkB lk 12)), (d6, obp263 c (lkB lk 6) (lkB lk 13)), (w0, obp2610 c v00 v01 v02), (v00, obp265 c), (v01, obp265 c), (v02, obp265 c), (w1, obp2610 c v10 v11 v12), (v10, obp265 c), (v11, obp265 c), (v12, obp265 c), (w2, obp2610 c v20 v21 v22), (v20, obp265 c), (v21, obp265 c), (v22, obp265 c), (w3, obp2610 c v30 v31 v32), (v30, obp265 c), (v31, obp265 c), (v32, obp265 c), (rb0, .gone), (rb1, .gone), (z0 0, .cells c.cells 25), (z0 1, obp267), (z1 0, obp268 sq md lk q1 q2 q3 q4)]
          ) (fun x => x ≤ 3) (fun x => 3 - x) 0 (Wk.of ⟨rfl, rfl, rfl, rfl, rfl, rfl, trivial⟩ sb_) (Nat.zero_le _) (fun x ix => ?_)
        have ix : x ≤ 3 := ix
        match x, ix with
        | 0, _ =>
          try dsimp only
          exact wk_P26_0
        | 1, _ =>
          try dsimp only
          exact wk_P26_0
        | 2, _ =>
          try dsimp only
          exact wk_P26_0
        | 3, _ =>
          try dsimp only
          repeat' (first
            | ((with_reducible apply gQ0); (first | (apply q_move; apply Eq.refl) | (apply q_assign; apply Eq.refl) | (apply q_int; (iterate 3 apply Eq.refl))))
            | ((with_reducible apply gR); (first | refine RK.peelN rfl ?_ | refine RK.donef rfl ⟨_, rfl, ?_⟩))
            | ((with_reducible apply gW); (first | with_reducible apply WP.seq | refine WP.reg mixed (fun ks => _) (fun ks => rfl) (fun ks => ?_) | ((apply cdD; apply Eq.refl) <;> (intro hc; (first | exact absurd hc (by decide) | skip))) | apply WP.exit | apply WP.block))
            | (first | with_reducible apply thn_n | with_reducible apply thn_e | with_reducible apply blk_e))
          refine WP.loopI (n := 210) (α := Nat) (fun x => match x with
            | 0 => [(2, some (pP (z0 0))), (5, some (pP (z0 1))), (7, some (pP (z1 0))), (8, some (I64 0)), (9, some (pP rsu)), (14, some (I64 0))]
            | 1 => [(2, some (pP (z0 0))), (5, some (pP (z0 1))), (7, some (pP (z1 0))), (8, some (I64 0)), (9, some (pP rsu)), (14, some (I64 1))]
            | 2 => [(2, some (pP (z0 0))), (5, some (pP (z0 1))), (7, some (pP (z1 0))), (8, some (I64 0)), (9, some (pP rsu)), (14, some (I64 2))]
            | 3 => [(2, some (pP (z0 0))), (5, some (pP (z0 1))), (7, some (pP (z1 0))), (8, some (I64 0)), (9, some (pP rsu)), (14, some (I64 3))]
            | _ => [(2, some (pP (z0 0))), (5, some (pP (z0 1))), (7, some (pP (z1 0))), (8, some (I64 0)), (9, some (pP rsu)), (14, some (I64 4))]
            )
            (fun x => match x with
            | 0 => [(ko, oc), (kf, fd), (kv, nvo), (rk, obp260 c), (rbu, obp261 c (lkB lk 14) (lkB lk 15) (lkB lk 16)), (rkp, obp262 c), (rnv, oo4), (rsu, obp2611 c rnv rk d0 d1 d2 d3 d4 d5 d6 rbu w0 w1 w2 w3 rkp md lk), (d0, obp263 c (lkB lk 0) (lkB lk 7)), (d1, obp263 c (lkB lk 1) (lkB lk 8)), (d2, obp263 c (lkB lk 2) (lkB lk 9)), (d3, obp263 c (lkB lk 3) (lkB lk 10)), (d4, obp263 c (lkB lk 4) (lkB lk 11)), (d5, obp263 c (lkB lk 5) (lkB lk 12)), (d6, obp263 c (lkB lk 6) (lkB lk 13)), (w0, obp2610 c v00 v01 v02), (v00, obp265 c), (v01, obp265 c), (v02, obp265 c), (w1, obp2610 c v10 v11 v12), (v10, obp265 c), (v11, obp265 c), (v12, obp265 c), (w2, obp2610 c v20 v21 v22), (v20, obp265 c), (v21, obp265 c), (v22, obp265 c), (w3, obp2610 c v30 v31 v32), (v30, obp265 c), (v31, obp265 c), (v32, obp265 c), (rb0, .gone), (rb1, .gone), (z0 0, .cells c.cells 25), (z0 1, obp267), (z1 0, obp268 sq md lk q1 q2 q3 q4)]
            | 1 => [(ko, oc), (kf, fd), (kv, nvo), (rk, obp260 c), (rbu, obp261 c (lkB lk 14) (lkB lk 15) (lkB lk 16)), (rkp, obp262 c), (rnv, oo4), (rsu, obp2611 c rnv rk d0 d1 d2 d3 d4 d5 d6 rbu w0 w1 w2 w3 rkp md lk), (d0, obp263 c (lkB lk 0) (lkB lk 7)), (d1, obp263 c (lkB lk 1) (lkB lk 8)), (d2, obp263 c (lkB lk 2) (lkB lk 9)), (d3, obp263 c (lkB lk 3) (lkB lk 10)), (d4, obp263 c (lkB lk 4) (lkB lk 11)), (d5, obp263 c (lkB lk 5) (lkB lk 12)), (d6, obp263 c (lkB lk 6) (lkB lk 13)), (w0, obp264 c v00 v01 v02 (lkB lk 17)), (v00, obp265 c), (v01, obp265 c), (v02, obp265 c), (w1, obp2610 c v10 v11 v12), (v10, obp265 c), (v11, obp265 c), (v12, obp265 c), (w2, obp2610 c v20 v21 v22), (v20, obp265 c), (v21, obp265 c), (v22, obp265 c), (w3, obp2610 c v30 v31 v32), (v30, obp265 c), (v31, obp265 c), (v32, obp265 c), (rb0, .gone), (rb1, .gone), (z0 0, .cells c.cells 25), (z0 1, obp267), (z1 0, obp268 sq md lk q1 q2 q3 q4)]
            | 2 => [(ko, oc), (kf, fd), (kv, nvo), (rk, obp260 c), (rbu, obp261 c (lkB lk 14) (lkB lk 15) (lkB lk 16)), (rkp, obp262 c), (rnv, oo4), (rsu, obp2611 c rnv rk d0 d1 d2 d3 d4 d5 d6 rbu w0 w1 w2 w3 rkp md lk), (d0, obp263 c (lkB lk 0) (lkB lk 7)), (d1, obp263 c (lkB lk 1) (lkB lk 8)), (d2, obp263 c (lkB lk 2) (lkB lk 9)), (d3, obp263 c (lkB lk 3) (lkB lk 10)), (d4, obp263 c (lkB lk 4) (lkB lk 11)), (d5, obp263 c (lkB lk 5) (lkB lk 12)), (d6, obp263 c (lkB lk 6) (lkB lk 13)), (w0, obp264 c v00 v01 v02 (lkB lk 17)), (v00, obp265 c), (v01, obp265 c), (v02, obp265 c), (w1, obp264 c v10 v11 v12 (lkB lk 18)), (v10, obp265 c), (v11, obp265 c), (v12, obp265 c), (w2, obp2610 c v20 v21 v22), (v20, obp265 c), (v21, obp265 c), (v22, obp265 c), (w3, obp2610 c v30 v31 v32), (v30, obp265 c), (v31, obp265 c), (v32, obp265 c), (rb0, .gone), (rb1, .gone), (z0 0, .cells c.cells 25), (z0 1, obp267), (z1 0, obp268 sq md lk q1 q2 q3 q4)]
            | 3 => [(ko, oc), (kf, fd), (kv, nvo), (rk, obp260 c), (rbu, obp261 c (lkB lk 14) (lkB lk 15) (lkB lk 16)), (rkp, obp262 c), (rnv, oo4), (rsu, obp2611 c rnv rk d0 d1 d2 d3 d4 d5 d6 rbu w0 w1 w2 w3 rkp md lk), (d0, obp263 c (lkB lk 0) (lkB lk 7)), (d1, obp263 c (lkB lk 1) (lkB lk 8)), (d2, obp263 c (lkB lk 2) (lkB lk 9)), (d3, obp263 c (lkB lk 3) (lkB lk 10)), (d4, obp263 c (lkB lk 4) (lkB lk 11)), (d5, obp263 c (lkB lk 5) (lkB lk 12)), (d6, obp263 c (lkB lk 6) (lkB lk 13)), (w0, obp264 c v00 v01 v02 (lkB lk 17)), (v00, obp265 c), (v01, obp265 c), (v02, obp265 c), (w1, obp264 c v10 v11 v12 (lkB lk 18)), (v10, obp265 c), (v11, obp265 c), (v12, obp265 c), (w2, obp264 c v20 v21 v22 (lkB lk 19)), (v20, obp265 c), (v21, obp265 c), (v22, obp265 c), (w3, obp2610 c v30 v31 v32), (v30, obp265 c), (v31, obp265 c), (v32, obp265 c), (rb0, .gone), (rb1, .gone), (z0 0, .cells c.cells 25), (z0 1, obp267), (z1 0, obp268 sq md lk q1 q2 q3 q4)]
            | _ => [(ko, oc), (kf, fd), (kv, nvo), (rk, obp260 c), (rbu, obp261 c (lkB lk 14) (lkB lk 15) (lkB lk 16)), (rkp, obp262 c), (rnv, oo4), (rsu, obp2611 c rnv rk d0 d1 d2 d3 d4 d5 d6 rbu w0 w1 w2 w3 rkp md lk), (d0, obp263 c (lkB lk 0) (lkB lk 7)), (d1, obp263 c (lkB lk 1) (lkB lk 8)), (d2, obp263 c (lkB lk 2) (lkB lk 9)), (d3, obp263 c (lkB lk 3) (lkB lk 10)), (d4, obp263 c (lkB lk 4) (lkB lk 11)), (d5, obp263 c (lkB lk 5) (lkB lk 12)), (d6, obp263 c (lkB lk 6) (lkB lk 13)), (w0, obp264 c v00 v01 v02 (lkB lk 17)), (v00, obp265 c), (v01, obp265 c), (v02, obp265 c), (w1, obp264 c v10 v11 v12 (lkB lk 18)), (v10, obp265 c), (v11, obp265 c), (v12, obp265 c), (w2, obp264 c v20 v21 v22 (lkB lk 19)), (v20, obp265 c), (v21, obp265 c), (v22, obp265 c), (w3, obp264 c v30 v31 v32 (lkB lk 20)), (v30, obp265 c), (v31, obp265 c), (v32, obp265 c), (rb0, .gone), (rb1, .gone), (z0 0, .cells c.cells 25), (z0 1, obp267), (z1 0, obp268 sq md lk q1 q2 q3 q4)]
            ) (fun x => x ≤ 4) (fun x => 4 - x) 0 (Wk.of ⟨rfl, rfl, rfl, rfl, rfl, rfl, trivial⟩ sb_) (Nat.zero_le _) (fun x ix => ?_)
          have ix : x ≤ 4 := ix
          match x, ix with
          | 0, _ =>
            try dsimp only
            exact wk_P26_0
          | 1, _ =>
            try dsimp only
            exact wk_P26_0
          | 2, _ =>
            try dsimp only
            exact wk_P26_0
          | 3, _ =>
            try dsimp only
            exact wk_P26_0
          | 4, _ =>
            try dsimp only
            exact wk_P26_0
          | x + 5, h => exact absurd h (by omega)
          
        | x + 4, h => exact absurd h (by omega)
        
      | x + 8, h => exact absurd h (by omega)
      
    | x + 5, h => exact absurd h (by omega)
    
  | x + 8, h => exact absurd h (by omega)
  end Go.Proofs.YtekcchmnncefhaaGreatDoor
namespace Go.Proofs.YtekcchmnncefhaaGreatDoor
open Go Go.Proofs.YtekcchmnncefhaaGreatDoorAB
set_option linter.unusedSimpArgs false
set_option linter.unusedVariables false
set_option maxRecDepth 40000
abbrev obp270 (x0 : Cfg) := (.cells ((I64 (mn (mx x0.S 0) 1000)) :: [.int .i64 0, .int .i64 0, .int .i64 0, .int .i64 0, .int .i64 0, .int .i64 0, .int .i64 0, .int .i64 0, .int .i64 0, .int .i64 0, .int .i64 0, .int .i64 0, .int .i64 0, .int .i64 0, .int .i64 0, .int .i64 0, .int .i64 0, .int .i64 0, .int .i64 0, .int .i64 0, .int .i64 0, .int .i64 0, .int .i64 0, .int .i64 0, .int .i64 0, .int .i64 0, .int .i64 0, .int .i64 0, .int .i64 0, .int .i64 0, .int .i64 0, .int .i64 0, .int .i64 0, .int .i64 0, .int .i64 0, .int .i64 0, .int .i64 0, .int .i64 0, .int .i64 0, .int .i64 0, .int .i64 0, .int .i64 0, .int .i64 0, .int .i64 0, .int .i64 0, .int .i64 0, .int .i64 0, .int .i64 0, .int .u8 0, .int .u8 0, .int .u8 0, .int .u8 0, .int .u8 0, .int .u8 0, .int .u8 0, .int .u8 0, .int .u8 0, .int .u8 0, .int .u8 0, .int .u8 0, .int .u8 0, .int .u8 0, .int .u8 0, .int .u8 0, .int .u8 0, .int .u8 0, .int .u8 0, .int .u8 0, .int .u8 0, .int .u8 0, .int .u8 0, .int .u8 0, .int .u8 0, .int .u8 0, .int .u8 0, .int .u8 0, .int .u8 0, .int .u8 0, .int .u8 0, .int .u8 0, .int .u8 0, .int .u8 0, .int .u8 0, .int .u8 0, .int .u8 0, .int .u8 0, .int .u8 0, .int .u8 0, .int .u8 0, .int .u8 0, .int .u8 0, .int .u8 0, .int .u8 0, .int .u8 0, .int .u8 0, .int .u8 0, .int .i64 0, .int .i64 0, .int .i64 0, .int .i64 0, .int .i64 0, .int .i64 0, .int .i64 0, .int .i64 0, .int .i64 0, .int .i64 0, .int .i64 0, .int .i64 0, .int .i64 0, .int .i64 0, .int .i64 0, .int .i64 0, .int .i64 0, .int .i64 0, .int .i64 0, .int .i64 0, .int .i64 0, .int .i64 0, .int .i64 0, .int .i64 0, .int .i64 0, .int .i64 0, .int .i64 0, .int .i64 0, .int .i64 0, .int .i64 0, .int .i64 0, .int .i64 0, .int .i64 0, .int .i64 0, .int .i64 0, .int .i64 0, .int .i64 0, .int .i64 0, .int .i64 0, .int .i64 0, .int .i64 0, .int .i64 0, .int .i64 0, .int .i64 0, .int .i64 0, .int .i64 0, .int .i64 0, .int .i64 0, .bool false, .bool false, .bool false, .bool false, .bool false, .bool false, .bool false, .bool false, .bool false, .bool false, .bool false, .bool false, .bool false, .bool false, .bool false, .bool false, .bool false, .bool false, .bool false, .bool false, .bool false, .bool false, .bool false, .bool false, .bool false, .bool false, .bool false, .bool false, .bool false, .bool false, .bool false, .bool false, .bool false, .bool false, .bool false, .bool false, .bool false, .bool false, .bool false, .bool false, .bool false, .bool false, .bool false, .bool false, .bool false, .bool false, .bool false, .bool false]) 183 : AObj)
abbrev obp271 (x0 : Cfg) := (.cells (x0.cells ++ [I64 0, I64 0, I64 0, .bool (false), .bool (false), .bool (false)]) 100 : AObj)
abbrev obp272 (x0 : Cfg) := (.cells (x0.cells ++ [I64 0, I64 0, I64 0, I64 0, I64 0, I64 0, I64 0, I64 0, I64 0, I64 0, I64 0, I64 0, I64 0, I64 0, I64 0, I64 0, I64 0]) 104 : AObj)
abbrev obp273 (x0 : Cfg) := (.cells [I64 (cutR x0.D), I64 (cutR x0.B), .bool false, I64 (-2), I64 (0), .bool false, .bool false, .bool false, .bool (false), .bool (false)] 120 : AObj)
abbrev obp274 (x0 : Cfg) (x1 : Nat) (x2 : Nat) (x3 : Nat) := (.cells (x0.cells ++ [pP x1, pP x2, pP x3, .bool (false), .bool false]) 123 : AObj)
abbrev obp275 (x0 : Cfg) := (.cells [I64 (cutR x0.B), I64 (0), .bool false] 231 : AObj)
abbrev obp276 := (.cells [I64 0, .bool false, I64 0] 41 : AObj)
abbrev obp277 := (.cells [.int .u32 0, I64 0, .int .u32 0, I64 0, I64 0, I64 0, I64 0] 31 : AObj)
theorem wk_P27_0 {p : Prop} (h : p := by
  repeat' (first
    | ((with_reducible apply gQ0); (first | (apply q_idxPN (m := 0) layOk; (iterate 4 apply Eq.refl); (focus (decide)); (focus (decide))) | (apply q_idxPN (m := 1) layOk; (iterate 4 apply Eq.refl); (focus (decide)); (focus (decide))) | (apply q_idxPN (m := 2) layOk; (iterate 4 apply Eq.refl); (focus (decide)); (focus (decide))) | (apply q_idxPN (m := 3) layOk; (iterate 4 apply Eq.refl); (focus (decide)); (focus (decide))) | (apply q_idxPN (m := 4) layOk; (iterate 4 apply Eq.refl); (focus (decide)); (focus (decide))) | (apply q_idxPN (m := 5) layOk; (iterate 4 apply Eq.refl); (focus (decide)); (focus (decide))) | (apply q_idxPN (m := 6) layOk; (iterate 4 apply Eq.refl); (focus (decide)); (focus (decide))) | (apply q_move; apply Eq.refl) | (apply q_assign; apply Eq.refl) | (apply q_int; (iterate 3 apply Eq.refl)) | (apply q_nilCheck; apply Eq.refl) | (apply q_fa layOk; (iterate 5 apply Eq.refl)) | (apply q_load layOk; (iterate 3 apply Eq.refl); exact lk_; apply Eq.refl) | (apply q_loadr layOk; (iterate 3 apply Eq.refl); exact lk_; apply Eq.refl) | (apply q_build layOk; (iterate 4 apply Eq.refl)) | (apply isF (f := 38); (refine q_call1 rfl (ref_NewContact d0 _ _) lc_ rfl ?_)) | (apply isF (f := 38); (refine q_call1 rfl (ref_NewContact d1 _ _) lc_ rfl ?_)) | (apply isF (f := 38); (refine q_call1 rfl (ref_NewContact d2 _ _) lc_ rfl ?_)) | (apply isF (f := 38); (refine q_call1 rfl (ref_NewContact d3 _ _) lc_ rfl ?_)) | (apply isF (f := 38); (refine q_call1 rfl (ref_NewContact d4 _ _) lc_ rfl ?_)) | (apply isF (f := 38); (refine q_call1 rfl (ref_NewContact d5 _ _) lc_ rfl ?_)) | (apply isF (f := 38); (refine q_call1 rfl (ref_NewContact d6 _ _) lc_ rfl ?_)) | (apply isF (f := 39); (refine q_callW rfl (ref_NewSource w0 v00 v01 v02 c) fd_ (by decide) rfl rfl ?_)) | (apply isF (f := 39); (refine q_callW rfl (ref_NewSource w1 v10 v11 v12 c) fd_ (by decide) rfl rfl ?_)) | (apply isF (f := 39); (refine q_callW rfl (ref_NewSource w2 v20 v21 v22 c) fd_ (by decide) rfl rfl ?_)) | (apply isF (f := 39); (refine q_callW rfl (ref_NewSource w3 v30 v31 v32 c) fd_ (by decide) rfl rfl ?_)) | (apply isF (f := 41); (refine q_call0 rfl (ref_None9 ()) ?_)) | (apply isF (f := 40); (refine q_callW rfl (rbat_New_false c rb0 _ _) fd_ (by decide) rfl rfl ?_)) | (apply isF (f := 40); (refine q_callW rfl (rbat_New_false c rb1 _ _) fd_ (by decide) rfl rfl ?_)) | (apply e_store layOk; (iterate 3 apply Eq.refl); exact lk_; (iterate 5 apply Eq.refl))))
    | ((with_reducible apply gR); (first | refine RK.peelN rfl ?_ | refine RK.donef rfl ⟨_, rfl, ?_⟩ | refine RK.donet rfl (by kernel_rfl) ⟨_, rfl, ?_⟩))
    | ((with_reducible apply gW); (first | with_reducible apply WP.seq | refine WP.reg mixed (fun ks => _) (fun ks => rfl) (fun ks => ?_) | ((first | (apply cdD; apply Eq.refl) | (apply WP.condN; apply Eq.refl)) <;> (intro hc; (first | exact absurd hc (by decide) | skip))) | apply WP.ret | apply WP.skip | apply WP.exit | apply WP.block))
    | (first | with_reducible apply thn_n | with_reducible apply thn_r | with_reducible apply thn_e | with_reducible apply blk_n | with_reducible apply blk_e)
    | (refine Endz.mk' en_ rv_ (by rfl) sb_)
    | (exact ⟨1, by decide, by decide, Wk.of ⟨rfl, rfl, rfl, rfl, rfl, rfl, trivial⟩ sb_⟩)
    | (exact ⟨2, by decide, by decide, Wk.of ⟨rfl, rfl, rfl, rfl, rfl, rfl, trivial⟩ sb_⟩)
    | (exact ⟨3, by decide, by decide, Wk.of ⟨rfl, rfl, rfl, rfl, rfl, rfl, trivial⟩ sb_⟩)
    | (exact ⟨4, by decide, by decide, Wk.of ⟨rfl, rfl, rfl, rfl, rfl, rfl, trivial⟩ sb_⟩)
    | (exact ⟨5, by decide, by decide, Wk.of ⟨rfl, rfl, rfl, rfl, rfl, rfl, trivial⟩ sb_⟩)
    | (exact ⟨6, by decide, by decide, Wk.of ⟨rfl, rfl, rfl, rfl, rfl, rfl, trivial⟩ sb_⟩)
    | (exact ⟨7, by decide, by decide, Wk.of ⟨rfl, rfl, rfl, rfl, rfl, rfl, trivial⟩ sb_⟩))) : p := h

set_option maxHeartbeats 40000000 in
theorem ref_New_blank (c : Cfg) (oc fd nvo oo4 : AObj) (ko kf kv fv cap : Nat) (v : Int) (rk rbu rkp rnv rsu d0 d1 d2 d3 d4 d5 d6 w0 v00 v01 v02 w1 v10 v11 v12 w2 v20 v21 v22 w3 v30 v31 v32 rb0 rb1 : Nat) (hv : ¬ v > 0) (cc : Ctr Tryz.prog 7 33 [.agg ⟨c.cells⟩] [(ko, oc), (kf, fd)] (I64 v) [oc, fd]) (rc : Ctr Tryz.prog 7 34 [.slice (some ⟨kv, fv, none⟩) 88 cap] [(kv, nvo)] (.tuple #[.agg #[.int .u32 0, I64 0, .int .u32 0, I64 0, I64 0, I64 0, I64 0], I64 107]) [nvo]) (rb : Ctr Tryz.prog 7 36 [.slice (some ⟨kv, fv, none⟩) 88 cap] [(kv, nvo), (rnv, .gone)] (.slice (some ⟨rnv, 0, none⟩) 88 grown) [nvo, oo4]) : Ctr Tryz.prog 7 7 [.agg ⟨c.cells⟩, .slice (some ⟨kv, fv, none⟩) 88 cap] [(ko, oc), (kf, fd), (kv, nvo), (rk, .gone), (rbu, .gone), (rkp, .gone), (rnv, .gone), (rsu, .gone), (d0, .gone), (d1, .gone), (d2, .gone), (d3, .gone), (d4, .gone), (d5, .gone), (d6, .gone), (w0, .gone), (v00, .gone), (v01, .gone), (v02, .gone), (w1, .gone), (v10, .gone), (v11, .gone), (v12, .gone), (w2, .gone), (v20, .gone), (v21, .gone), (v22, .gone), (w3, .gone), (v30, .gone), (v31, .gone), (v32, .gone), (rb0, .gone), (rb1, .gone)] (.tuple #[pP rsu, .agg #[I64 0, .bool false, I64 0]]) [oc, fd, nvo, obp270 c, obp271 c, obp272 c, oo4, .cells (c.cells ++ [.slice (some ⟨rnv, 0, none⟩) 88 grown, pP rk, .bool false, .bool false, .bool false, .bool false, I64 0, .bool false, .int .u8 0, pP d0, pP d1, pP d2, pP d3, pP d4, pP d5, pP d6, pP rbu, pP w0, pP w1, pP w2, pP w3, pP rb0, pP rb1, pP rkp, I64 0, I64 0, I64 1, .bool true, .int .u32 0, I64 0, I64 0, I64 0, I64 0, I64 0, I64 0]) 113, obp273 c, obp273 c, obp273 c, obp273 c, obp273 c, obp273 c, obp273 c, obp274 c v00 v01 v02, obp275 c, obp275 c, obp275 c, obp274 c v10 v11 v12, obp275 c, obp275 c, obp275 c, obp274 c v20 v21 v22, obp275 c, obp275 c, obp275 c, obp274 c v30 v31 v32, obp275 c, obp275 c, obp275 c, .cells (c.cells ++ [I64 (rClamp 0 0 c.Cap), I64 (rClamp c.Cap 0 c.Cap), I64 (rClamp 0 0 c.Cap), I64 (rClamp c.Cap 0 c.Cap), I64 (rClamp 0 0 c.Cap), I64 (rClamp c.Cap 0 c.Cap), .bool false]) 129, .cells (c.cells ++ [I64 (rClamp 0 0 c.Cap), I64 (rClamp c.Cap 0 c.Cap), I64 (rClamp 0 0 c.Cap), I64 (rClamp c.Cap 0 c.Cap), I64 (rClamp 0 0 c.Cap), I64 (rClamp c.Cap 0 c.Cap), .bool false]) 129] := by
  refine Ctr.by layOk Tryz.func7 Tryz.ntmps7 rfl rfl rfl rfl rfl ?_
  repeat' (first
    | ((first | (with_reducible apply gQ0) | ((with_reducible apply gQ1); exact wt_)); (first | (apply q_box (ty := 113) (k := rsu); apply Eq.refl; exact lk_; apply Eq.refl) | (apply q_box (ty := 100) (k := rbu); apply Eq.refl; exact lk_; apply Eq.refl) | (apply q_box (ty := 104) (k := rkp); apply Eq.refl; exact lk_; apply Eq.refl) | (apply q_box (k := ks _); apply Eq.refl; exact lk_; apply Eq.refl) | (apply q_alloc (k := ks _) layOk; apply Eq.refl; exact lk_; apply Eq.refl) | (apply q_move; apply Eq.refl) | (apply q_assign; apply Eq.refl) | (apply q_int; (iterate 3 apply Eq.refl)) | (apply q_fa layOk; (iterate 5 apply Eq.refl)) | (apply q_load layOk; (iterate 3 apply Eq.refl); exact lk_; apply Eq.refl) | (apply q_loadr layOk; (iterate 3 apply Eq.refl); exact lk_; apply Eq.refl) | (apply q_build layOk; (iterate 4 apply Eq.refl)) | (apply q_box (k := ks _); apply Eq.refl; exact lk_; apply Eq.refl) | (apply q_alloc (k := ks _) layOk; apply Eq.refl; exact lk_; apply Eq.refl) | (apply q_pick_f; apply Eq.refl; apply Eq.refl) | (apply q_load layOk; (iterate 3 apply Eq.refl); exact lk_; apply Eq.refl) | (apply q_extract; apply Eq.refl; apply Eq.refl) | (refine q_callW rfl (cc) fd_ (by decide) rfl rfl ?_) | (refine q_callW rfl (rc) fd_ (by decide) rfl rfl ?_) | (refine q_callW rfl (rb) fd_ (by decide) rfl rfl ?_) | (apply isF (f := 37); (refine q_callW rfl (ref_NewBank rk _) fd_ (by decide) rfl rfl ?_)) | (apply e_store layOk; (iterate 3 apply Eq.refl); exact lk_; (iterate 5 apply Eq.refl))))
    | ((with_reducible apply gR); (first | refine RK.peelN rfl ?_ | refine RK.donef rfl ⟨_, rfl, ?_⟩ | refine RK.donet rfl (by kernel_rfl) ⟨_, rfl, ?_⟩))
    | ((with_reducible apply gQv); focus exact wf_)
    | ((with_reducible apply gK); (fail_if_success ((apply gM); (iterate 3 apply Eq.refl))); ((apply gsD; (iterate 4 apply Eq.refl)) <;> (intro hc; (first | exact absurd hc (by decide) | with_reducible exact absurd hc hv | skip))))
    | ((with_reducible apply gW); (first | with_reducible apply WP.seq | refine WP.reg mixed (fun ks => _) (fun ks => rfl) (fun ks => ?_) | ((apply cdD; apply Eq.refl) <;> (intro hc; (first | exact absurd hc (by decide) | with_reducible exact absurd hc hv | skip))) | apply WP.skip | apply WP.block))
    | (with_reducible apply thn_n))
  rename_i z0 y1 y2 hy0 z1 y4 hy1 y5
  refine WP.loopI (n := 210) (α := Nat) (fun x => match x with
    | 0 => [(2, some (pP (z0 0))), (5, some (pP (z0 1))), (7, some (pP (z1 0))), (8, some (I64 107)), (9, some (pP rsu)), (10, some (I64 0))]
    | 1 => [(2, some (pP (z0 0))), (5, some (pP (z0 1))), (7, some (pP (z1 0))), (8, some (I64 107)), (9, some (pP rsu)), (10, some (I64 1))]
    | 2 => [(2, some (pP (z0 0))), (5, some (pP (z0 1))), (7, some (pP (z1 0))), (8, some (I64 107)), (9, some (pP rsu)), (10, some (I64 2))]
    | 3 => [(2, some (pP (z0 0))), (5, some (pP (z0 1))), (7, some (pP (z1 0))), (8, some (I64 107)), (9, some (pP rsu)), (10, some (I64 3))]
    | 4 => [(2, some (pP (z0 0))), (5, some (pP (z0 1))), (7, some (pP (z1 0))), (8, some (I64 107)), (9, some (pP rsu)), (10, some (I64 4))]
    | 5 => [(2, some (pP (z0 0))), (5, some (pP (z0 1))), (7, some (pP (z1 0))), (8, some (I64 107)), (9, some (pP rsu)), (10, some (I64 5))]
    | 6 => [(2, some (pP (z0 0))), (5, some (pP (z0 1))), (7, some (pP (z1 0))), (8, some (I64 107)), (9, some (pP rsu)), (10, some (I64 6))]
    | _ => [(2, some (pP (z0 0))), (5, some (pP (z0 1))), (7, some (pP (z1 0))), (8, some (I64 107)), (9, some (pP rsu)), (10, some (I64 7))]
    )
    (fun x => match x with
    | 0 => [(ko, oc), (kf, fd), (kv, nvo), (rk, obp270 c), (rbu, obp271 c), (rkp, obp272 c), (rnv, oo4), (rsu, .cells (c.cells ++ [.slice (some ⟨rnv, 0, none⟩) 88 grown, pP rk, .bool false, .bool false, .bool false, .bool false, I64 0, .bool false, .int .u8 0, .pointer none, .pointer none, .pointer none, .pointer none, .pointer none, .pointer none, .pointer none, pP rbu, .pointer none, .pointer none, .pointer none, .pointer none, .pointer none, .pointer none, pP rkp, I64 0, I64 0, I64 1, .bool false, .int .u32 0, I64 0, I64 0, I64 0, I64 0, I64 0, I64 0]) 113), (d0, .gone), (d1, .gone), (d2, .gone), (d3, .gone), (d4, .gone), (d5, .gone), (d6, .gone), (w0, .gone), (v00, .gone), (v01, .gone), (v02, .gone), (w1, .gone), (v10, .gone), (v11, .gone), (v12, .gone), (w2, .gone), (v20, .gone), (v21, .gone), (v22, .gone), (w3, .gone), (v30, .gone), (v31, .gone), (v32, .gone), (rb0, .gone), (rb1, .gone), (z0 0, .cells c.cells 25), (z0 1, obp276), (z1 0, obp277)]
    | 1 => [(ko, oc), (kf, fd), (kv, nvo), (rk, obp270 c), (rbu, obp271 c), (rkp, obp272 c), (rnv, oo4), (rsu, .cells (c.cells ++ [.slice (some ⟨rnv, 0, none⟩) 88 grown, pP rk, .bool false, .bool false, .bool false, .bool false, I64 0, .bool false, .int .u8 0, pP d0, .pointer none, .pointer none, .pointer none, .pointer none, .pointer none, .pointer none, pP rbu, .pointer none, .pointer none, .pointer none, .pointer none, .pointer none, .pointer none, pP rkp, I64 0, I64 0, I64 1, .bool false, .int .u32 0, I64 0, I64 0, I64 0, I64 0, I64 0, I64 0]) 113), (d0, obp273 c), (d1, .gone), (d2, .gone), (d3, .gone), (d4, .gone), (d5, .gone), (d6, .gone), (w0, .gone), (v00, .gone), (v01, .gone), (v02, .gone), (w1, .gone), (v10, .gone), (v11, .gone), (v12, .gone), (w2, .gone), (v20, .gone), (v21, .gone), (v22, .gone), (w3, .gone), (v30, .gone), (v31, .gone), (v32, .gone), (rb0, .gone), (rb1, .gone), (z0 0, .cells c.cells 25), (z0 1, obp276), (z1 0, obp277)]
    | 2 => [(ko, oc), (kf, fd), (kv, nvo), (rk, obp270 c), (rbu, obp271 c), (rkp, obp272 c), (rnv, oo4), (rsu, .cells (c.cells ++ [.slice (some ⟨rnv, 0, none⟩) 88 grown, pP rk, .bool false, .bool false, .bool false, .bool false, I64 0, .bool false, .int .u8 0, pP d0, pP d1, .pointer none, .pointer none, .pointer none, .pointer none, .pointer none, pP rbu, .pointer none, .pointer none, .pointer none, .pointer none, .pointer none, .pointer none, pP rkp, I64 0, I64 0, I64 1, .bool false, .int .u32 0, I64 0, I64 0, I64 0, I64 0, I64 0, I64 0]) 113), (d0, obp273 c), (d1, obp273 c), (d2, .gone), (d3, .gone), (d4, .gone), (d5, .gone), (d6, .gone), (w0, .gone), (v00, .gone), (v01, .gone), (v02, .gone), (w1, .gone), (v10, .gone), (v11, .gone), (v12, .gone), (w2, .gone), (v20, .gone), (v21, .gone), (v22, .gone), (w3, .gone), (v30, .gone), (v31, .gone), (v32, .gone), (rb0, .gone), (rb1, .gone), (z0 0, .cells c.cells 25), (z0 1, obp276), (z1 0, obp277)]
    | 3 => [(ko, oc), (kf, fd), (kv, nvo), (rk, obp270 c), (rbu, obp271 c), (rkp, obp272 c), (rnv, oo4), (rsu, .cells (c.cells ++ [.slice (some ⟨rnv, 0, none⟩) 88 grown, pP rk, .bool false, .bool false, .bool false, .bool false, I64 0, .bool false, .int .u8 0, pP d0, pP d1, pP d2, .pointer none, .pointer none, .pointer none, .pointer none, pP rbu, .pointer none, .pointer none, .pointer none, .pointer none, .pointer none, .pointer none, pP rkp, I64 0, I64 0, I64 1, .bool false, .int .u32 0, I64 0, I64 0, I64 0, I64 0, I64 0, I64 0]) 113), (d0, obp273 c), (d1, obp273 c), (d2, obp273 c), (d3, .gone), (d4, .gone), (d5, .gone), (d6, .gone), (w0, .gone), (v00, .gone), (v01, .gone), (v02, .gone), (w1, .gone), (v10, .gone), (v11, .gone), (v12, .gone), (w2, .gone), (v20, .gone), (v21, .gone), (v22, .gone), (w3, .gone), (v30, .gone), (v31, .gone), (v32, .gone), (rb0, .gone), (rb1, .gone), (z0 0, .cells c.cells 25), (z0 1, obp276), (z1 0, obp277)]
    | 4 => [(ko, oc), (kf, fd), (kv, nvo), (rk, obp270 c), (rbu, obp271 c), (rkp, obp272 c), (rnv, oo4), (rsu, .cells (c.cells ++ [.slice (some ⟨rnv, 0, none⟩) 88 grown, pP rk, .bool false, .bool false, .bool false, .bool false, I64 0, .bool false, .int .u8 0, pP d0, pP d1, pP d2, pP d3, .pointer none, .pointer none, .pointer none, pP rbu, .pointer none, .pointer none, .pointer none, .pointer none, .pointer none, .pointer none, pP rkp, I64 0, I64 0, I64 1, .bool false, .int .u32 0, I64 0, I64 0, I64 0, I64 0, I64 0, I64 0]) 113), (d0, obp273 c), (d1, obp273 c), (d2, obp273 c), (d3, obp273 c), (d4, .gone), (d5, .gone), (d6, .gone), (w0, .gone), (v00, .gone), (v01, .gone), (v02, .gone), (w1, .gone), (v10, .gone), (v11, .gone), (v12, .gone), (w2, .gone), (v20, .gone), (v21, .gone), (v22, .gone), (w3, .gone), (v30, .gone), (v31, .gone), (v32, .gone), (rb0, .gone), (rb1, .gone), (z0 0, .cells c.cells 25), (z0 1, obp276), (z1 0, obp277)]
    | 5 => [(ko, oc), (kf, fd), (kv, nvo), (rk, obp270 c), (rbu, obp271 c), (rkp, obp272 c), (rnv, oo4), (rsu, .cells (c.cells ++ [.slice (some ⟨rnv, 0, none⟩) 88 grown, pP rk, .bool false, .bool false, .bool false, .bool false, I64 0, .bool false, .int .u8 0, pP d0, pP d1, pP d2, pP d3, pP d4, .pointer none, .pointer none, pP rbu, .pointer none, .pointer none, .pointer none, .pointer none, .pointer none, .pointer none, pP rkp, I64 0, I64 0, I64 1, .bool false, .int .u32 0, I64 0, I64 0, I64 0, I64 0, I64 0, I64 0]) 113), (d0, obp273 c), (d1, obp273 c), (d2, obp273 c), (d3, obp273 c), (d4, obp273 c), (d5, .gone), (d6, .gone), (w0, .gone), (v00, .gone), (v01, .gone), (v02, .gone), (w1, .gone), (v10, .gone), (v11, .gone), (v12, .gone), (w2, .gone), (v20, .gone), (v21, .gone), (v22, .gone), (w3, .gone), (v30, .gone), (v31, .gone), (v32, .gone), (rb0, .gone), (rb1, .gone), (z0 0, .cells c.cells 25), (z0 1, obp276), (z1 0, obp277)]
    | 6 => [(ko, oc), (kf, fd), (kv, nvo), (rk, obp270 c), (rbu, obp271 c), (rkp, obp272 c), (rnv, oo4), (rsu, .cells (c.cells ++ [.slice (some ⟨rnv, 0, none⟩) 88 grown, pP rk, .bool false, .bool false, .bool false, .bool false, I64 0, .bool false, .int .u8 0, pP d0, pP d1, pP d2, pP d3, pP d4, pP d5, .pointer none, pP rbu, .pointer none, .pointer none, .pointer none, .pointer none, .pointer none, .pointer none, pP rkp, I64 0, I64 0, I64 1, .bool false, .int .u32 0, I64 0, I64 0, I64 0, I64 0, I64 0, I64 0]) 113), (d0, obp273 c), (d1, obp273 c), (d2, obp273 c), (d3, obp273 c), (d4, obp273 c), (d5, obp273 c), (d6, .gone), (w0, .gone), (v00, .gone), (v01, .gone), (v02, .gone), (w1, .gone), (v10, .gone), (v11, .gone), (v12, .gone), (w2, .gone), (v20, .gone), (v21, .gone), (v22, .gone), (w3, .gone), (v30, .gone), (v31, .gone), (v32, .gone), (rb0, .gone), (rb1, .gone), (z0 0, .cells c.cells 25), (z0 1, obp276), (z1 0, obp277)]
    | _ => [(ko, oc), (kf, fd), (kv, nvo), (rk, obp270 c), (rbu, obp271 c), (rkp, obp272 c), (rnv, oo4), (rsu, .cells (c.cells ++ [.slice (some ⟨rnv, 0, none⟩) 88 grown, pP rk, .bool false, .bool false, .bool false, .bool false, I64 0, .bool false, .int .u8 0, pP d0, pP d1, pP d2, pP d3, pP d4, pP d5, pP d6, pP rbu, .pointer none, .pointer none, .pointer none, .pointer none, .pointer none, .pointer none, pP rkp, I64 0, I64 0, I64 1, .bool false, .int .u32 0, I64 0, I64 0, I64 0, I64 0, I64 0, I64 0]) 113), (d0, obp273 c), (d1, obp273 c), (d2, obp273 c), (d3, obp273 c), (d4, obp273 c), (d5, obp273 c), (d6, obp273 c), (w0, .gone), (v00, .gone), (v01, .gone), (v02, .gone), (w1, .gone), (v10, .gone), (v11, .gone), (v12, .gone), (w2, .gone), (v20, .gone), (v21, .gone), (v22, .gone), (w3, .gone), (v30, .gone), (v31, .gone), (v32, .gone), (rb0, .gone), (rb1, .gone), (z0 0, .cells c.cells 25), (z0 1, obp276), (z1 0, obp277)]
    ) (fun x => x ≤ 7) (fun x => 7 - x) 0 (Wk.of ⟨rfl, rfl, rfl, rfl, rfl, rfl, trivial⟩ sb_) (Nat.zero_le _) (fun x ix => ?_)
  have ix : x ≤ 7 := ix
  match x, ix with
  | 0, _ =>
    try dsimp only
    exact wk_P27_0
  | 1, _ =>
    try dsimp only
    exact wk_P27_0
  | 2, _ =>
    try dsimp only
    exact wk_P27_0
  | 3, _ =>
    try dsimp only
    exact wk_P27_0
  | 4, _ =>
    try dsimp only
    exact wk_P27_0
  | 5, _ =>
    try dsimp only
    exact wk_P27_0
  | 6, _ =>
    try dsimp only
    exact wk_P27_0
  | 7, _ =>
    try dsimp only
    repeat' (first
      | ((with_reducible apply gQ0); (first | (apply q_move; apply Eq.refl) | (apply q_assign; apply Eq.refl) | (apply q_int; (iterate 3 apply Eq.refl))))
      | ((with_reducible apply gR); (first | refine RK.peelN rfl ?_ | refine RK.donef rfl ⟨_, rfl, ?_⟩))
      | ((with_reducible apply gW); (first | with_reducible apply WP.seq | refine WP.reg mixed (fun ks => _) (fun ks => rfl) (fun ks => ?_) | ((apply cdD; apply Eq.refl) <;> (intro hc; (first | exact absurd hc (by decide) | skip))) | apply WP.exit | apply WP.block))
      | (first | with_reducible apply thn_n | with_reducible apply thn_e | with_reducible apply blk_e))
    refine WP.loopI (n := 210) (α := Nat) (fun x => match x with
      | 0 => [(2, some (pP (z0 0))), (5, some (pP (z0 1))), (7, some (pP (z1 0))), (8, some (I64 107)), (9, some (pP rsu)), (11, some (I64 0))]
      | 1 => [(2, some (pP (z0 0))), (5, some (pP (z0 1))), (7, some (pP (z1 0))), (8, some (I64 107)), (9, some (pP rsu)), (11, some (I64 1))]
      | 2 => [(2, some (pP (z0 0))), (5, some (pP (z0 1))), (7, some (pP (z1 0))), (8, some (I64 107)), (9, some (pP rsu)), (11, some (I64 2))]
      | 3 => [(2, some (pP (z0 0))), (5, some (pP (z0 1))), (7, some (pP (z1 0))), (8, some (I64 107)), (9, some (pP rsu)), (11, some (I64 3))]
      | _ => [(2, some (pP (z0 0))), (5, some (pP (z0 1))), (7, some (pP (z1 0))), (8, some (I64 107)), (9, some (pP rsu)), (11, some (I64 4))]
      )
      (fun x => match x with
      | 0 => [(ko, oc), (kf, fd), (kv, nvo), (rk, obp270 c), (rbu, obp271 c), (rkp, obp272 c), (rnv, oo4), (rsu, .cells (c.cells ++ [.slice (some ⟨rnv, 0, none⟩) 88 grown, pP rk, .bool false, .bool false, .bool false, .bool false, I64 0, .bool false, .int .u8 0, pP d0, pP d1, pP d2, pP d3, pP d4, pP d5, pP d6, pP rbu, .pointer none, .pointer none, .pointer none, .pointer none, .pointer none, .pointer none, pP rkp, I64 0, I64 0, I64 1, .bool false, .int .u32 0, I64 0, I64 0, I64 0, I64 0, I64 0, I64 0]) 113), (d0, obp273 c), (d1, obp273 c), (d2, obp273 c), (d3, obp273 c), (d4, obp273 c), (d5, obp273 c), (d6, obp273 c), (w0, .gone), (v00, .gone), (v01, .gone), (v02, .gone), (w1, .gone), (v10, .gone), (v11, .gone), (v12, .gone), (w2, .gone), (v20, .gone), (v21, .gone), (v22, .gone), (w3, .gone), (v30, .gone), (v31, .gone), (v32, .gone), (rb0, .gone), (rb1, .gone), (z0 0, .cells c.cells 25), (z0 1, obp276), (z1 0, obp277)]
      | 1 => [(ko, oc), (kf, fd), (kv, nvo), (rk, obp270 c), (rbu, obp271 c), (rkp, obp272 c), (rnv, oo4), (rsu, .cells (c.cells ++ [.slice (some ⟨rnv, 0, none⟩) 88 grown, pP rk, .bool false, .bool false, .bool false, .bool false, I64 0, .bool false, .int .u8 0, pP d0, pP d1, pP d2, pP d3, pP d4, pP d5, pP d6, pP rbu, pP w0, .pointer none, .pointer none, .pointer none, .pointer none, .pointer none, pP rkp, I64 0, I64 0, I64 1, .bool false, .int .u32 0, I64 0, I64 0, I64 0, I64 0, I64 0, I64 0]) 113), (d0, obp273 c), (d1, obp273 c), (d2, obp273 c), (d3, obp273 c), (d4, obp273 c), (d5, obp273 c), (d6, obp273 c), (w0, obp274 c v00 v01 v02), (v00, obp275 c), (v01, obp275 c), (v02, obp275 c), (w1, .gone), (v10, .gone), (v11, .gone), (v12, .gone), (w2, .gone), (v20, .gone), (v21, .gone), (v22, .gone), (w3, .gone), (v30, .gone), (v31, .gone), (v32, .gone), (rb0, .gone), (rb1, .gone), (z0 0, .cells c.cells 25), (z0 1, obp276), (z1 0, obp277)]
      | 2 => [(ko, oc), (kf, fd), (kv, nvo), (rk, obp270 c), (rbu, obp271 c), (rkp, obp272 c), (rnv, oo4), (rsu, .cells (c.cells ++ [.slice (some ⟨rnv, 0, none⟩) 88 grown, pP rk, .bool false, .bool false, .bool false, .bool false, I64 0, .bool false, .int .u8 0, pP d0, pP d1, pP d2, pP d3, pP d4, pP d5, pP d6, pP rbu, pP w0, pP w1, .pointer none, .pointer none, .pointer none, .pointer none, pP rkp, I64 0, I64 0, I64 1, .bool false, .int .u32 0, I64 0, I64 0, I64 0, I64 0, I64 0, I64 0]) 113), (d0, obp273 c), (d1, obp273 c), (d2, obp273 c), (d3, obp273 c), (d4, obp273 c), (d5, obp273 c), (d6, obp273 c), (w0, obp274 c v00 v01 v02), (v00, obp275 c), (v01, obp275 c), (v02, obp275 c), (w1, obp274 c v10 v11 v12), (v10, obp275 c), (v11, obp275 c), (v12, obp275 c), (w2, .gone), (v20, .gone), (v21, .gone), (v22, .gone), (w3, .gone), (v30, .gone), (v31, .gone), (v32, .gone), (rb0, .gone), (rb1, .gone), (z0 0, .cells c.cells 25), (z0 1, obp276), (z1 0, obp277)]
      | 3 => [(ko, oc), (kf, fd), (kv, nvo), (rk, obp270 c), (rbu, obp271 c), (rkp, obp272 c), (rnv, oo4), (rsu, .cells (c.cells ++ [.slice (some ⟨rnv, 0, none⟩) 88 grown, pP rk, .bool false, .bool false, .bool false, .bool false, I64 0, .bool false, .int .u8 0, pP d0, pP d1, pP d2, pP d3, pP d4, pP d5, pP d6, pP rbu, pP w0, pP w1, pP w2, .pointer none, .pointer none, .pointer none, pP rkp, I64 0, I64 0, I64 1, .bool false, .int .u32 0, I64 0, I64 0, I64 0, I64 0, I64 0, I64 0]) 113), (d0, obp273 c), (d1, obp273 c), (d2, obp273 c), (d3, obp273 c), (d4, obp273 c), (d5, obp273 c), (d6, obp273 c), (w0, obp274 c v00 v01 v02), (v00, obp275 c), (v01, obp275 c), (v02, obp275 c), (w1, obp274 c v10 v11 v12), (v10, obp275 c), (v11, obp275 c), (v12, obp275 c), (w2, obp274 c v20 v21 v22), (v20, obp275 c), (v21, obp275 c), (v22, obp275 c), (w3, .gone), (v30, .gone), (v31, .gone), (v32, .gone), (rb0, .gone), (rb1, .gone), (z0 0, .cells c.cells 25), (z0 1, obp276), (z1 0, obp277)]
      | _ => [(ko, oc), (kf, fd), (kv, nvo), (rk, obp270 c), (rbu, obp271 c), (rkp, obp272 c), (rnv, oo4), (rsu, .cells (c.cells ++ [.slice (some ⟨rnv, 0, none⟩) 88 grown, pP rk, .bool false, .bool false, .bool false, .bool false, I64 0, .bool false, .int .u8 0, pP d0, pP d1, pP d2, pP d3, pP d4, pP d5, pP d6, pP rbu, pP w0, pP w1, pP w2, pP w3, .pointer none, .pointer none, pP rkp, I64 0, I64 0, I64 1, .bool false, .int .u32 0, I64 0, I64 0, I64 0, I64 0, I64 0, I64 0]) 113), (d0, obp273 c), (d1, obp273 c), (d2, obp273 c), (d3, obp273 c), (d4, obp273 c), (d5, obp273 c), (d6, obp273 c), (w0, obp274 c v00 v01 v02), (v00, obp275 c), (v01, obp275 c), (v02, obp275 c), (w1, obp274 c v10 v11 v12), (v10, obp275 c), (v11, obp275 c), (v12, obp275 c), (w2, obp274 c v20 v21 v22), (v20, obp275 c), (v21, obp275 c), (v22, obp275 c), (w3, obp274 c v30 v31 v32), (v30, obp275 c), (v31, obp275 c), (v32, obp275 c), (rb0, .gone), (rb1, .gone), (z0 0, .cells c.cells 25), (z0 1, obp276), (z1 0, obp277)]
      ) (fun x => x ≤ 4) (fun x => 4 - x) 0 (Wk.of ⟨rfl, rfl, rfl, rfl, rfl, rfl, trivial⟩ sb_) (Nat.zero_le _) (fun x ix => ?_)
    have ix : x ≤ 4 := ix
    match x, ix with
    | 0, _ =>
      try dsimp only
      exact wk_P27_0
    | 1, _ =>
      try dsimp only
      exact wk_P27_0
    | 2, _ =>
      try dsimp only
      exact wk_P27_0
    | 3, _ =>
      try dsimp only
      exact wk_P27_0
    | 4, _ =>
      try dsimp only
      exact wk_P27_0
    | x + 5, h => exact absurd h (by omega)
    
  | x + 8, h => exact absurd h (by omega)
  end Go.Proofs.YtekcchmnncefhaaGreatDoor
namespace Go.Proofs.YtekcchmnncefhaaGreatDoor
open Go Go.Proofs.YtekcchmnncefhaaGreatDoorAB
set_option linter.unusedSimpArgs false
set_option linter.unusedVariables false
set_option maxRecDepth 40000
abbrev obp290 (x0 : Cfg) (x1 : _) (x2 : Nat) (x3 : Nat) (x4 : Nat) (x5 : Nat) (x6 : Nat) (x7 : Nat) (x8 : Nat) (x9 : Nat) (x10 : Nat) (x11 : Nat) (x12 : Nat) (x13 : Nat) (x14 : Nat) (x15 : Nat) (x16 : Nat) (x17 : Nat) (x18 : _) (x19 : _) (x20 : _) := (.cells (x0.cells ++ [x1, pP x2, .bool false, .bool false, .bool false, .bool false, I64 0, .bool false, .int .u8 0, pP x3, pP x4, pP x5, pP x6, pP x7, pP x8, pP x9, pP x10, pP x11, pP x12, pP x13, pP x14, pP x15, pP x16, pP x17, I64 0, I64 0, I64 x18, .int .u32 x19, .bool x20, I64 0, I64 0, I64 0, I64 0, I64 0, I64 0]) 82 : AObj)
abbrev obp291 (x0 : Cfg) (x1 : Nat) (x2 : Nat) (x3 : _) (x4 : _) (x5 : _) := (.cells (x0.cells ++ [pP x1, pP x2, .bool x3, I64 x4, I64 x5]) 172 : AObj)
abbrev obp292 (x0 : Cfg) (x1 : _) (x2 : Nat) (x3 : Nat) (x4 : Nat) (x5 : Nat) (x6 : Nat) (x7 : Nat) (x8 : Nat) (x9 : Nat) (x10 : Nat) (x11 : Nat) (x12 : Nat) (x13 : Nat) (x14 : Nat) (x15 : Nat) (x16 : Nat) (x17 : Nat) (x18 : _) (x19 : _) (x20 : _) := (.cells (x0.cells ++ [x1, pP x2, .bool false, .bool false, .bool false, .bool false, I64 0, .bool false, .int .u8 0, pP x3, pP x4, pP x5, pP x6, pP x7, pP x8, pP x9, pP x10, pP x11, pP x12, pP x13, pP x14, pP x15, pP x16, pP x17, I64 0, I64 0, I64 x18, .bool x19, .int .u32 x20, I64 0, I64 0, I64 0, I64 0, I64 0, I64 0]) 113 : AObj)
abbrev obp293 (x0 : _) (x1 : _) (x2 : Bool) (x3 : Bool) := (.cells [I64 x0, I64 x1, .bool false, I64 (-2), I64 (0), I64 (0), .bool false, .bool x2, .bool x3] 164 : AObj)
abbrev obp294 (x0 : _) (x1 : _) (x2 : Bool) (x3 : Bool) := (.cells [I64 x0, I64 x1, .bool false, I64 (-2), I64 (0), .bool false, .bool false, .bool false, .bool x2, .bool x3] 120 : AObj)
theorem wk_P29_0 {p : Prop} (h : p := by
  repeat' (first
    | (with_reducible refine loopW_s ?_)
    | ((first | (with_reducible apply gQ0) | ((with_reducible apply gQ1); exact wt_)); (first | (apply q_idxPN (m := 0) layOk; (iterate 4 apply Eq.refl); (focus (decide)); (focus (decide))) | (apply q_idxPN (m := 1) layOk; (iterate 4 apply Eq.refl); (focus (decide)); (focus (decide))) | (apply q_idxPN (m := 2) layOk; (iterate 4 apply Eq.refl); (focus (decide)); (focus (decide))) | (apply q_idxPN (m := 3) layOk; (iterate 4 apply Eq.refl); (focus (decide)); (focus (decide))) | (apply q_idxPN (m := 4) layOk; (iterate 4 apply Eq.refl); (focus (decide)); (focus (decide))) | (apply q_idxPN (m := 5) layOk; (iterate 4 apply Eq.refl); (focus (decide)); (focus (decide))) | (apply q_idxPN (m := 6) layOk; (iterate 4 apply Eq.refl); (focus (decide)); (focus (decide))) | (apply q_alloc (k := ks _) layOk; apply Eq.refl; exact lk_; apply Eq.refl) | (apply q_move; apply Eq.refl) | (apply q_assign; apply Eq.refl) | (apply q_int; (iterate 3 apply Eq.refl)) | (apply q_nilCheck; apply Eq.refl) | (apply q_fa layOk; (iterate 5 apply Eq.refl)) | (apply q_load layOk; (iterate 3 apply Eq.refl); exact lk_; apply Eq.refl) | (apply q_not; apply Eq.refl) | (apply q_pick_f; apply Eq.refl; apply Eq.refl) | (apply q_len layOk; (iterate 4 apply Eq.refl)) | (apply q_indexc layOk; (iterate 6 apply Eq.refl); (focus (decide)); (focus (decide)); apply Eq.refl) | (apply q_shl; apply Eq.refl; apply Eq.refl; (focus (decide))) | (apply q_conv; apply Eq.refl; exact Tryz.underlying3; exact Tryz.underlying118) | (apply isF (f := 82); (refine q_callR rfl (Bat_Q cA b0 _ _ _ _ _) rfl fd_ (by decide) ?_)) | (apply isF (f := 82); (refine q_callR rfl (Bat_Q cA b1 _ _ _ _ _) rfl fd_ (by decide) ?_)) | (apply isF (f := 58); (refine q_callR rfl (contact_Open0 c0 _ _ _ _ hd) rfl fd_ (by decide) ?_)) | (apply isF (f := 58); (refine q_callR rfl (contact_Open0 c1 _ _ _ _ hd) rfl fd_ (by decide) ?_)) | (apply isF (f := 58); (refine q_callR rfl (contact_Open0 c2 _ _ _ _ hd) rfl fd_ (by decide) ?_)) | (apply isF (f := 58); (refine q_callR rfl (contact_Open0 c3 _ _ _ _ hd) rfl fd_ (by decide) ?_)) | (apply isF (f := 58); (refine q_callR rfl (contact_Open0 c4 _ _ _ _ hd) rfl fd_ (by decide) ?_)) | (apply isF (f := 58); (refine q_callR rfl (contact_Open0 c5 _ _ _ _ hd) rfl fd_ (by decide) ?_)) | (apply isF (f := 58); (refine q_callR rfl (contact_Open0 c6 _ _ _ _ hd) rfl fd_ (by decide) ?_)) | (apply isF (f := 81); (refine q_callR rfl (ref_Open0 d0 _ _ _ _) rfl fd_ (by decide) ?_)) | (apply isF (f := 81); (refine q_callR rfl (ref_Open0 d1 _ _ _ _) rfl fd_ (by decide) ?_)) | (apply isF (f := 81); (refine q_callR rfl (ref_Open0 d2 _ _ _ _) rfl fd_ (by decide) ?_)) | (apply isF (f := 81); (refine q_callR rfl (ref_Open0 d3 _ _ _ _) rfl fd_ (by decide) ?_)) | (apply isF (f := 81); (refine q_callR rfl (ref_Open0 d4 _ _ _ _) rfl fd_ (by decide) ?_)) | (apply isF (f := 81); (refine q_callR rfl (ref_Open0 d5 _ _ _ _) rfl fd_ (by decide) ?_)) | (apply isF (f := 81); (refine q_callR rfl (ref_Open0 d6 _ _ _ _) rfl fd_ (by decide) ?_)) | (apply e_store layOk; (iterate 3 apply Eq.refl); exact lk_; (iterate 5 apply Eq.refl))))
    | ((with_reducible apply gR); (first | refine RK.peelN rfl ?_ | refine RK.donef rfl ⟨_, rfl, ?_⟩))
    | ((with_reducible apply gQv); focus exact wf_)
    | ((with_reducible apply gK); (fail_if_success ((apply gM); (iterate 3 apply Eq.refl))); ((apply gsD; (iterate 4 apply Eq.refl)) <;> (intro hc; (first | exact absurd hc (by decide) | skip))))
    | ((with_reducible apply gW); (first | refine WP.unroll 1 ?_ | with_reducible apply WP.seq | refine WP.reg mixed (fun ks => _) (fun ks => rfl) (fun ks => ?_) | ((first | (apply cdD; apply Eq.refl) | (apply WP.condN; apply Eq.refl) | (apply WP.condA; apply Eq.refl)) <;> (intro hc; (first | exact absurd hc (by decide) | skip))) | apply WP.ret | apply WP.skip | apply WP.exit | apply WP.block))
    | (first | with_reducible apply thn_n | with_reducible apply thn_r | with_reducible apply thn_e | with_reducible apply blk_n | with_reducible apply blk_e)
    | (refine Endz.mk' en_ rv_ (by rfl) sb_)
    | (exact ⟨1, by decide, by decide, Wk.of ⟨rfl, rfl, rfl, trivial⟩ sb_⟩)
    | (exact ⟨2, by decide, by decide, Wk.of ⟨rfl, rfl, rfl, trivial⟩ sb_⟩)
    | (exact ⟨3, by decide, by decide, Wk.of ⟨rfl, rfl, rfl, trivial⟩ sb_⟩)
    | (exact ⟨4, by decide, by decide, Wk.of ⟨rfl, rfl, rfl, trivial⟩ sb_⟩)
    | (exact ⟨5, by decide, by decide, Wk.of ⟨rfl, rfl, rfl, trivial⟩ sb_⟩)
    | (exact ⟨6, by decide, by decide, Wk.of ⟨rfl, rfl, rfl, trivial⟩ sb_⟩)
    | (exact ⟨7, by decide, by decide, Wk.of ⟨rfl, rfl, rfl, trivial⟩ sb_⟩))) : p := h

set_option maxHeartbeats 4000000 in
theorem sup_Told {cA : Cfg} {nvs : Value} {ksu bk kp bu u0 u1 u2 c0 c1 c2 c3 c4 c5 c6 s0 t00 t01 t02 s1 t10 t11 t12 s2 t20 t21 t22 s3 t30 t31 t32 b0 b01 b02 b1 b11 b12 : Nat} {cd cb tr un md wr l0 h0 l1 h1 : Int} {bl kn : Bool} {xb : Nat → Bool} : Ctr Tryz.prog 7 14 [pP ksu] [(ksu, obp290 cA nvs bk c0 c1 c2 c3 c4 c5 c6 bu s0 s1 s2 s3 b0 b1 kp md wr bl)] (I64 0) [obp290 cA nvs bk c0 c1 c2 c3 c4 c5 c6 bu s0 s1 s2 s3 b0 b1 kp md wr bl] := by
  refine Ctr.by layOk Tryz.func14 Tryz.ntmps14 rfl rfl rfl rfl rfl ?_
  exact wk_P29_0

set_option maxHeartbeats 4000000 in
theorem sup_Cycles {cA : Cfg} {nvs : Value} {ksu bk kp bu u0 u1 u2 c0 c1 c2 c3 c4 c5 c6 s0 t00 t01 t02 s1 t10 t11 t12 s2 t20 t21 t22 s3 t30 t31 t32 b0 b01 b02 b1 b11 b12 : Nat} {cd cb tr un md wr l0 h0 l1 h1 : Int} {bl kn : Bool} {xb : Nat → Bool} : Ctr Tryz.prog 7 48 [pP ksu] [(ksu, obp290 cA nvs bk c0 c1 c2 c3 c4 c5 c6 bu s0 s1 s2 s3 b0 b1 kp md wr bl)] (I64 0) [obp290 cA nvs bk c0 c1 c2 c3 c4 c5 c6 bu s0 s1 s2 s3 b0 b1 kp md wr bl] := by
  refine Ctr.by layOk Tryz.func48 Tryz.ntmps48 rfl rfl rfl rfl rfl ?_
  exact wk_P29_0

set_option maxHeartbeats 4000000 in
theorem sup_Charge0 {cA : Cfg} {nvs : Value} {ksu bk kp bu u0 u1 u2 c0 c1 c2 c3 c4 c5 c6 s0 t00 t01 t02 s1 t10 t11 t12 s2 t20 t21 t22 s3 t30 t31 t32 b0 b01 b02 b1 b11 b12 : Nat} {cd cb tr un md wr l0 h0 l1 h1 : Int} {bl kn : Bool} {xb : Nat → Bool} : Ctr Tryz.prog 7 47 [pP ksu, I64 0] [(ksu, obp290 cA nvs bk c0 c1 c2 c3 c4 c5 c6 bu s0 s1 s2 s3 b0 b1 kp md wr bl), (b0, obp291 cA b01 b02 kn l0 h0)] (.agg #[I64 (l0), I64 (h0)]) [obp290 cA nvs bk c0 c1 c2 c3 c4 c5 c6 bu s0 s1 s2 s3 b0 b1 kp md wr bl, obp291 cA b01 b02 kn l0 h0] := by
  refine Ctr.by layOk Tryz.func47 Tryz.ntmps47 rfl rfl rfl rfl rfl ?_
  exact wk_P29_0

set_option maxHeartbeats 4000000 in
theorem sup_Charge1 {cA : Cfg} {nvs : Value} {ksu bk kp bu u0 u1 u2 c0 c1 c2 c3 c4 c5 c6 s0 t00 t01 t02 s1 t10 t11 t12 s2 t20 t21 t22 s3 t30 t31 t32 b0 b01 b02 b1 b11 b12 : Nat} {cd cb tr un md wr l0 h0 l1 h1 : Int} {bl kn : Bool} {xb : Nat → Bool} : Ctr Tryz.prog 7 47 [pP ksu, I64 1] [(ksu, obp290 cA nvs bk c0 c1 c2 c3 c4 c5 c6 bu s0 s1 s2 s3 b0 b1 kp md wr bl), (b1, obp291 cA b11 b12 kn l1 h1)] (.agg #[I64 (l1), I64 (h1)]) [obp290 cA nvs bk c0 c1 c2 c3 c4 c5 c6 bu s0 s1 s2 s3 b0 b1 kp md wr bl, obp291 cA b11 b12 kn l1 h1] := by
  refine Ctr.by layOk Tryz.func47 Tryz.ntmps47 rfl rfl rfl rfl rfl ?_
  exact wk_P29_0

set_option maxHeartbeats 4000000 in
theorem sup_Act {cA : Cfg} {nvs : Value} {ksu bk kp bu u0 u1 u2 c0 c1 c2 c3 c4 c5 c6 s0 t00 t01 t02 s1 t10 t11 t12 s2 t20 t21 t22 s3 t30 t31 t32 b0 b01 b02 b1 b11 b12 : Nat} {cd cb tr un md wr l0 h0 l1 h1 : Int} {bl kn : Bool} {xb : Nat → Bool} : Ctr Tryz.prog 7 52 [pP ksu] [(ksu, obp290 cA nvs bk c0 c1 c2 c3 c4 c5 c6 bu s0 s1 s2 s3 b0 b1 kp md wr bl)] (.slice none 0 0) [obp290 cA nvs bk c0 c1 c2 c3 c4 c5 c6 bu s0 s1 s2 s3 b0 b1 kp md wr bl] := by
  refine Ctr.by layOk Tryz.func52 Tryz.ntmps52 rfl rfl rfl rfl rfl ?_
  exact wk_P29_0

set_option maxHeartbeats 4000000 in
theorem ref_Act {cD : Cfg} {dnv : Value} {rsu rk rkp rbu d0 d1 d2 d3 d4 d5 d6 w0 v00 v01 v02 w1 v10 v11 v12 w2 v20 v21 v22 w3 v30 v31 v32 rb0 rb1 : Nat} {rd rbb rmd rwr x0 x1 x2 x3 x4 x5 x6 x7 l0 h0 l1 h1 : Int} {rbl rkn : Bool} {xb : Nat → Bool} : Ctr Tryz.prog 7 53 [pP rsu] [(rsu, obp292 cD dnv rk d0 d1 d2 d3 d4 d5 d6 rbu w0 w1 w2 w3 rb0 rb1 rkp rmd rbl rwr)] (.slice none 0 0) [obp292 cD dnv rk d0 d1 d2 d3 d4 d5 d6 rbu w0 w1 w2 w3 rb0 rb1 rkp rmd rbl rwr] := by
  refine Ctr.by layOk Tryz.func53 Tryz.ntmps53 rfl rfl rfl rfl rfl ?_
  exact wk_P29_0

set_option maxHeartbeats 4000000 in
theorem same_nil (u : Unit) : Ctr Tryz.prog 7 51 [.slice none 0 0, .slice none 0 0] [] (.bool true) [] := by
  refine Ctr.by layOk Tryz.func51 Tryz.ntmps51 rfl rfl rfl rfl rfl ?_
  exact wk_P29_0

set_option maxHeartbeats 4000000 in
theorem same_span (a b : Int) : Ctr Tryz.prog 7 46 [.agg #[I64 (a), I64 (b)], .agg #[I64 (a), I64 (b)]] [] (.bool true) [] := by
  refine Ctr.by layOk Tryz.func46 Tryz.ntmps46 rfl rfl rfl rfl rfl ?_
  repeat' (first
    | ((first | (with_reducible apply gQ0) | ((with_reducible apply gQ1); exact wt_)); (first | (apply q_box (k := ks _); apply Eq.refl; exact lk_; apply Eq.refl) | (apply q_move; apply Eq.refl) | (apply q_assign; apply Eq.refl) | (apply q_int; (iterate 3 apply Eq.refl)) | (apply q_fa layOk; (iterate 5 apply Eq.refl)) | (apply q_load layOk; (iterate 3 apply Eq.refl); exact lk_; apply Eq.refl) | (apply q_box (k := ks _); apply Eq.refl; exact lk_; apply Eq.refl) | (apply q_pick_t; apply Eq.refl; apply Eq.refl)))
    | ((with_reducible apply gR); (first | refine RK.peelN rfl ?_ | refine RK.donef rfl ⟨_, rfl, ?_⟩))
    | ((with_reducible apply gQv); focus exact wf_)
    | ((with_reducible apply gK); (fail_if_success ((apply gM); (iterate 3 apply Eq.refl))); ((apply gsD; (iterate 4 apply Eq.refl)) <;> (intro hc; (first | exact absurd rfl hc | skip))))
    | ((with_reducible apply gW); (first | with_reducible apply WP.seq | refine WP.reg mixed (fun ks => _) (fun ks => rfl) (fun ks => ?_) | apply WP.ret))
    | (with_reducible apply thn_n)
    | (refine Endz.mk' en_ rv_ (by first | rfl | exact congrArg Value.bool (decide_eq_true rfl)) sb_))

set_option maxHeartbeats 8000000 in
theorem sup_Maybe {cA : Cfg} {nvs : Value} {ksu bk kp bu u0 u1 u2 c0 c1 c2 c3 c4 c5 c6 s0 t00 t01 t02 s1 t10 t11 t12 s2 t20 t21 t22 s3 t30 t31 t32 b0 b01 b02 b1 b11 b12 : Nat} {cd cb tr un md wr l0 h0 l1 h1 : Int} {bl kn : Bool} {xb : Nat → Bool} (hd : 1 ≤ cd) : Ctr Tryz.prog 7 13 [pP ksu] [(ksu, obp290 cA nvs bk c0 c1 c2 c3 c4 c5 c6 bu s0 s1 s2 s3 b0 b1 kp md wr bl), (c0, obp293 cd cb (xb 0) (xb 7)), (c1, obp293 cd cb (xb 1) (xb 8)), (c2, obp293 cd cb (xb 2) (xb 9)), (c3, obp293 cd cb (xb 3) (xb 10)), (c4, obp293 cd cb (xb 4) (xb 11)), (c5, obp293 cd cb (xb 5) (xb 12)), (c6, obp293 cd cb (xb 6) (xb 13))] (I64 127) [obp290 cA nvs bk c0 c1 c2 c3 c4 c5 c6 bu s0 s1 s2 s3 b0 b1 kp md wr bl, obp293 cd cb (xb 0) (xb 7), obp293 cd cb (xb 1) (xb 8), obp293 cd cb (xb 2) (xb 9), obp293 cd cb (xb 3) (xb 10), obp293 cd cb (xb 4) (xb 11), obp293 cd cb (xb 5) (xb 12), obp293 cd cb (xb 6) (xb 13)] := by
  refine Ctr.by layOk Tryz.func13 Tryz.ntmps13 rfl rfl rfl rfl rfl ?_
  repeat' (first
    | ((with_reducible apply gQ0); (first | (apply q_move; apply Eq.refl) | (apply q_assign; apply Eq.refl) | (apply q_nilCheck; apply Eq.refl) | (apply q_fa layOk; (iterate 5 apply Eq.refl)) | (apply q_loadr layOk; (iterate 3 apply Eq.refl); exact lk_; apply Eq.refl)))
    | ((with_reducible apply gR); (first | refine RK.peelN rfl ?_ | refine RK.donef rfl ⟨_, rfl, ?_⟩))
    | ((with_reducible apply gW); (first | with_reducible apply WP.seq | refine WP.reg mixed (fun ks => _) (fun ks => rfl) (fun ks => ?_) | apply WP.block))
    | (with_reducible apply thn_n))
  refine WP.loopI (n := 23) (α := Nat) (fun x => match x with
    | 0 => [(3, some (I64 0)), (9, some (.agg #[pP c0, pP c1, pP c2, pP c3, pP c4, pP c5, pP c6])), (10, some (I64 0))]
    | 1 => [(3, some (I64 1)), (9, some (.agg #[pP c0, pP c1, pP c2, pP c3, pP c4, pP c5, pP c6])), (10, some (I64 1))]
    | 2 => [(3, some (I64 3)), (9, some (.agg #[pP c0, pP c1, pP c2, pP c3, pP c4, pP c5, pP c6])), (10, some (I64 2))]
    | 3 => [(3, some (I64 7)), (9, some (.agg #[pP c0, pP c1, pP c2, pP c3, pP c4, pP c5, pP c6])), (10, some (I64 3))]
    | 4 => [(3, some (I64 15)), (9, some (.agg #[pP c0, pP c1, pP c2, pP c3, pP c4, pP c5, pP c6])), (10, some (I64 4))]
    | 5 => [(3, some (I64 31)), (9, some (.agg #[pP c0, pP c1, pP c2, pP c3, pP c4, pP c5, pP c6])), (10, some (I64 5))]
    | 6 => [(3, some (I64 63)), (9, some (.agg #[pP c0, pP c1, pP c2, pP c3, pP c4, pP c5, pP c6])), (10, some (I64 6))]
    | _ => [(3, some (I64 127)), (9, some (.agg #[pP c0, pP c1, pP c2, pP c3, pP c4, pP c5, pP c6])), (10, some (I64 7))]
    )
    (fun x => match x with
    | 0 => [(ksu, obp290 cA nvs bk c0 c1 c2 c3 c4 c5 c6 bu s0 s1 s2 s3 b0 b1 kp md wr bl), (c0, obp293 cd cb (xb 0) (xb 7)), (c1, obp293 cd cb (xb 1) (xb 8)), (c2, obp293 cd cb (xb 2) (xb 9)), (c3, obp293 cd cb (xb 3) (xb 10)), (c4, obp293 cd cb (xb 4) (xb 11)), (c5, obp293 cd cb (xb 5) (xb 12)), (c6, obp293 cd cb (xb 6) (xb 13))]
    | 1 => [(ksu, obp290 cA nvs bk c0 c1 c2 c3 c4 c5 c6 bu s0 s1 s2 s3 b0 b1 kp md wr bl), (c0, obp293 cd cb (xb 0) (xb 7)), (c1, obp293 cd cb (xb 1) (xb 8)), (c2, obp293 cd cb (xb 2) (xb 9)), (c3, obp293 cd cb (xb 3) (xb 10)), (c4, obp293 cd cb (xb 4) (xb 11)), (c5, obp293 cd cb (xb 5) (xb 12)), (c6, obp293 cd cb (xb 6) (xb 13))]
    | 2 => [(ksu, obp290 cA nvs bk c0 c1 c2 c3 c4 c5 c6 bu s0 s1 s2 s3 b0 b1 kp md wr bl), (c0, obp293 cd cb (xb 0) (xb 7)), (c1, obp293 cd cb (xb 1) (xb 8)), (c2, obp293 cd cb (xb 2) (xb 9)), (c3, obp293 cd cb (xb 3) (xb 10)), (c4, obp293 cd cb (xb 4) (xb 11)), (c5, obp293 cd cb (xb 5) (xb 12)), (c6, obp293 cd cb (xb 6) (xb 13))]
    | 3 => [(ksu, obp290 cA nvs bk c0 c1 c2 c3 c4 c5 c6 bu s0 s1 s2 s3 b0 b1 kp md wr bl), (c0, obp293 cd cb (xb 0) (xb 7)), (c1, obp293 cd cb (xb 1) (xb 8)), (c2, obp293 cd cb (xb 2) (xb 9)), (c3, obp293 cd cb (xb 3) (xb 10)), (c4, obp293 cd cb (xb 4) (xb 11)), (c5, obp293 cd cb (xb 5) (xb 12)), (c6, obp293 cd cb (xb 6) (xb 13))]
    | 4 => [(ksu, obp290 cA nvs bk c0 c1 c2 c3 c4 c5 c6 bu s0 s1 s2 s3 b0 b1 kp md wr bl), (c0, obp293 cd cb (xb 0) (xb 7)), (c1, obp293 cd cb (xb 1) (xb 8)), (c2, obp293 cd cb (xb 2) (xb 9)), (c3, obp293 cd cb (xb 3) (xb 10)), (c4, obp293 cd cb (xb 4) (xb 11)), (c5, obp293 cd cb (xb 5) (xb 12)), (c6, obp293 cd cb (xb 6) (xb 13))]
    | 5 => [(ksu, obp290 cA nvs bk c0 c1 c2 c3 c4 c5 c6 bu s0 s1 s2 s3 b0 b1 kp md wr bl), (c0, obp293 cd cb (xb 0) (xb 7)), (c1, obp293 cd cb (xb 1) (xb 8)), (c2, obp293 cd cb (xb 2) (xb 9)), (c3, obp293 cd cb (xb 3) (xb 10)), (c4, obp293 cd cb (xb 4) (xb 11)), (c5, obp293 cd cb (xb 5) (xb 12)), (c6, obp293 cd cb (xb 6) (xb 13))]
    | 6 => [(ksu, obp290 cA nvs bk c0 c1 c2 c3 c4 c5 c6 bu s0 s1 s2 s3 b0 b1 kp md wr bl), (c0, obp293 cd cb (xb 0) (xb 7)), (c1, obp293 cd cb (xb 1) (xb 8)), (c2, obp293 cd cb (xb 2) (xb 9)), (c3, obp293 cd cb (xb 3) (xb 10)), (c4, obp293 cd cb (xb 4) (xb 11)), (c5, obp293 cd cb (xb 5) (xb 12)), (c6, obp293 cd cb (xb 6) (xb 13))]
    | _ => [(ksu, obp290 cA nvs bk c0 c1 c2 c3 c4 c5 c6 bu s0 s1 s2 s3 b0 b1 kp md wr bl), (c0, obp293 cd cb (xb 0) (xb 7)), (c1, obp293 cd cb (xb 1) (xb 8)), (c2, obp293 cd cb (xb 2) (xb 9)), (c3, obp293 cd cb (xb 3) (xb 10)), (c4, obp293 cd cb (xb 4) (xb 11)), (c5, obp293 cd cb (xb 5) (xb 12)), (c6, obp293 cd cb (xb 6) (xb 13))]
    ) (fun x => x ≤ 7) (fun x => 7 - x) 0 (Wk.of ⟨rfl, rfl, rfl, trivial⟩ sb_) (Nat.zero_le _) (fun x ix => ?_)
  have ix : x ≤ 7 := ix
  match x, ix with
  | 0, _ =>
    try dsimp only
    exact wk_P29_0
  | 1, _ =>
    try dsimp only
    exact wk_P29_0
  | 2, _ =>
    try dsimp only
    exact wk_P29_0
  | 3, _ =>
    try dsimp only
    exact wk_P29_0
  | 4, _ =>
    try dsimp only
    exact wk_P29_0
  | 5, _ =>
    try dsimp only
    exact wk_P29_0
  | 6, _ =>
    try dsimp only
    exact wk_P29_0
  | 7, _ =>
    try dsimp only
    exact wk_P29_0
  | x + 8, h => exact absurd h (by omega)
  

set_option maxHeartbeats 8000000 in
theorem ref_Maybe {cD : Cfg} {dnv : Value} {rsu rk rkp rbu d0 d1 d2 d3 d4 d5 d6 w0 v00 v01 v02 w1 v10 v11 v12 w2 v20 v21 v22 w3 v30 v31 v32 rb0 rb1 : Nat} {rd rbb rmd rwr x0 x1 x2 x3 x4 x5 x6 x7 l0 h0 l1 h1 : Int} {rbl rkn : Bool} {xb : Nat → Bool} : Ctr Tryz.prog 7 45 [pP rsu] [(rsu, obp292 cD dnv rk d0 d1 d2 d3 d4 d5 d6 rbu w0 w1 w2 w3 rb0 rb1 rkp rmd rbl rwr), (d0, obp294 rd rbb (xb 0) (xb 7)), (d1, obp294 rd rbb (xb 1) (xb 8)), (d2, obp294 rd rbb (xb 2) (xb 9)), (d3, obp294 rd rbb (xb 3) (xb 10)), (d4, obp294 rd rbb (xb 4) (xb 11)), (d5, obp294 rd rbb (xb 5) (xb 12)), (d6, obp294 rd rbb (xb 6) (xb 13))] (I64 127) [obp292 cD dnv rk d0 d1 d2 d3 d4 d5 d6 rbu w0 w1 w2 w3 rb0 rb1 rkp rmd rbl rwr, obp294 rd rbb (xb 0) (xb 7), obp294 rd rbb (xb 1) (xb 8), obp294 rd rbb (xb 2) (xb 9), obp294 rd rbb (xb 3) (xb 10), obp294 rd rbb (xb 4) (xb 11), obp294 rd rbb (xb 5) (xb 12), obp294 rd rbb (xb 6) (xb 13)] := by
  refine Ctr.by layOk Tryz.func45 Tryz.ntmps45 rfl rfl rfl rfl rfl ?_
  repeat' (first
    | ((with_reducible apply gQ0); (apply q_assign; apply Eq.refl))
    | ((with_reducible apply gR); (first | refine RK.peelN rfl ?_ | refine RK.donef rfl ⟨_, rfl, ?_⟩))
    | ((with_reducible apply gW); (first | with_reducible apply WP.seq | refine WP.reg mixed (fun ks => _) (fun ks => rfl) (fun ks => ?_) | apply WP.block))
    | (with_reducible apply thn_n))
  refine WP.loopI (n := 23) (α := Nat) (fun x => match x with
    | 0 => [(0, some (pP rsu)), (3, some (I64 0)), (4, some (I64 0))]
    | 1 => [(0, some (pP rsu)), (3, some (I64 1)), (4, some (I64 1))]
    | 2 => [(0, some (pP rsu)), (3, some (I64 3)), (4, some (I64 2))]
    | 3 => [(0, some (pP rsu)), (3, some (I64 7)), (4, some (I64 3))]
    | 4 => [(0, some (pP rsu)), (3, some (I64 15)), (4, some (I64 4))]
    | 5 => [(0, some (pP rsu)), (3, some (I64 31)), (4, some (I64 5))]
    | 6 => [(0, some (pP rsu)), (3, some (I64 63)), (4, some (I64 6))]
    | _ => [(0, some (pP rsu)), (3, some (I64 127)), (4, some (I64 7))]
    )
    (fun x => match x with
    | 0 => [(rsu, obp292 cD dnv rk d0 d1 d2 d3 d4 d5 d6 rbu w0 w1 w2 w3 rb0 rb1 rkp rmd rbl rwr), (d0, obp294 rd rbb (xb 0) (xb 7)), (d1, obp294 rd rbb (xb 1) (xb 8)), (d2, obp294 rd rbb (xb 2) (xb 9)), (d3, obp294 rd rbb (xb 3) (xb 10)), (d4, obp294 rd rbb (xb 4) (xb 11)), (d5, obp294 rd rbb (xb 5) (xb 12)), (d6, obp294 rd rbb (xb 6) (xb 13))]
    | 1 => [(rsu, obp292 cD dnv rk d0 d1 d2 d3 d4 d5 d6 rbu w0 w1 w2 w3 rb0 rb1 rkp rmd rbl rwr), (d0, obp294 rd rbb (xb 0) (xb 7)), (d1, obp294 rd rbb (xb 1) (xb 8)), (d2, obp294 rd rbb (xb 2) (xb 9)), (d3, obp294 rd rbb (xb 3) (xb 10)), (d4, obp294 rd rbb (xb 4) (xb 11)), (d5, obp294 rd rbb (xb 5) (xb 12)), (d6, obp294 rd rbb (xb 6) (xb 13))]
    | 2 => [(rsu, obp292 cD dnv rk d0 d1 d2 d3 d4 d5 d6 rbu w0 w1 w2 w3 rb0 rb1 rkp rmd rbl rwr), (d0, obp294 rd rbb (xb 0) (xb 7)), (d1, obp294 rd rbb (xb 1) (xb 8)), (d2, obp294 rd rbb (xb 2) (xb 9)), (d3, obp294 rd rbb (xb 3) (xb 10)), (d4, obp294 rd rbb (xb 4) (xb 11)), (d5, obp294 rd rbb (xb 5) (xb 12)), (d6, obp294 rd rbb (xb 6) (xb 13))]
    | 3 => [(rsu, obp292 cD dnv rk d0 d1 d2 d3 d4 d5 d6 rbu w0 w1 w2 w3 rb0 rb1 rkp rmd rbl rwr), (d0, obp294 rd rbb (xb 0) (xb 7)), (d1, obp294 rd rbb (xb 1) (xb 8)), (d2, obp294 rd rbb (xb 2) (xb 9)), (d3, obp294 rd rbb (xb 3) (xb 10)), (d4, obp294 rd rbb (xb 4) (xb 11)), (d5, obp294 rd rbb (xb 5) (xb 12)), (d6, obp294 rd rbb (xb 6) (xb 13))]
    | 4 => [(rsu, obp292 cD dnv rk d0 d1 d2 d3 d4 d5 d6 rbu w0 w1 w2 w3 rb0 rb1 rkp rmd rbl rwr), (d0, obp294 rd rbb (xb 0) (xb 7)), (d1, obp294 rd rbb (xb 1) (xb 8)), (d2, obp294 rd rbb (xb 2) (xb 9)), (d3, obp294 rd rbb (xb 3) (xb 10)), (d4, obp294 rd rbb (xb 4) (xb 11)), (d5, obp294 rd rbb (xb 5) (xb 12)), (d6, obp294 rd rbb (xb 6) (xb 13))]
    | 5 => [(rsu, obp292 cD dnv rk d0 d1 d2 d3 d4 d5 d6 rbu w0 w1 w2 w3 rb0 rb1 rkp rmd rbl rwr), (d0, obp294 rd rbb (xb 0) (xb 7)), (d1, obp294 rd rbb (xb 1) (xb 8)), (d2, obp294 rd rbb (xb 2) (xb 9)), (d3, obp294 rd rbb (xb 3) (xb 10)), (d4, obp294 rd rbb (xb 4) (xb 11)), (d5, obp294 rd rbb (xb 5) (xb 12)), (d6, obp294 rd rbb (xb 6) (xb 13))]
    | 6 => [(rsu, obp292 cD dnv rk d0 d1 d2 d3 d4 d5 d6 rbu w0 w1 w2 w3 rb0 rb1 rkp rmd rbl rwr), (d0, obp294 rd rbb (xb 0) (xb 7)), (d1, obp294 rd rbb (xb 1) (xb 8)), (d2, obp294 rd rbb (xb 2) (xb 9)), (d3, obp294 rd rbb (xb 3) (xb 10)), (d4, obp294 rd rbb (xb 4) (xb 11)), (d5, obp294 rd rbb (xb 5) (xb 12)), (d6, obp294 rd rbb (xb 6) (xb 13))]
    | _ => [(rsu, obp292 cD dnv rk d0 d1 d2 d3 d4 d5 d6 rbu w0 w1 w2 w3 rb0 rb1 rkp rmd rbl rwr), (d0, obp294 rd rbb (xb 0) (xb 7)), (d1, obp294 rd rbb (xb 1) (xb 8)), (d2, obp294 rd rbb (xb 2) (xb 9)), (d3, obp294 rd rbb (xb 3) (xb 10)), (d4, obp294 rd rbb (xb 4) (xb 11)), (d5, obp294 rd rbb (xb 5) (xb 12)), (d6, obp294 rd rbb (xb 6) (xb 13))]
    ) (fun x => x ≤ 7) (fun x => 7 - x) 0 (Wk.of ⟨rfl, rfl, rfl, trivial⟩ sb_) (Nat.zero_le _) (fun x ix => ?_)
  have ix : x ≤ 7 := ix
  match x, ix with
  | 0, _ =>
    try dsimp only
    exact wk_P29_0
  | 1, _ =>
    try dsimp only
    exact wk_P29_0
  | 2, _ =>
    try dsimp only
    exact wk_P29_0
  | 3, _ =>
    try dsimp only
    exact wk_P29_0
  | 4, _ =>
    try dsimp only
    exact wk_P29_0
  | 5, _ =>
    try dsimp only
    exact wk_P29_0
  | 6, _ =>
    try dsimp only
    exact wk_P29_0
  | 7, _ =>
    try dsimp only
    exact wk_P29_0
  | x + 8, h => exact absurd h (by omega)
  
end Go.Proofs.YtekcchmnncefhaaGreatDoor
