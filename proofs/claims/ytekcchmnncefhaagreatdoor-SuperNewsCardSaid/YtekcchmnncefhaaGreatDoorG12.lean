/- What functions of this program do, each as a contract that its callers use, and what follows of it in plain numbers.
   By an AI agent. -/
import Derived.Test.YtekcchmnncefhaaGreatDoorAB
import Derived.Test.YtekcchmnncefhaaGreatDoorG2
import Derived.Test.YtekcchmnncefhaaGreatDoorG3
import Derived.Test.YtekcchmnncefhaaGreatDoorG11
import Derived.Test.YtekcchmnncefhaaGreatDoorG8
import Derived.Test.YtekcchmnncefhaaGreatDoorP24
import Derived.Test.YtekcchmnncefhaaGreatDoorP25
namespace Go.Proofs.YtekcchmnncefhaaGreatDoor
open Go Go.Proofs.YtekcchmnncefhaaGreatDoorAB
set_option linter.unusedSimpArgs false
set_option linter.unusedVariables false
set_option maxRecDepth 40000
abbrev obp300 (x0 : Cfg) (x1 : _) (x2 : Nat) (x3 : Nat) (x4 : Nat) (x5 : Nat) (x6 : Nat) (x7 : Nat) (x8 : Nat) (x9 : Nat) (x10 : Nat) (x11 : Nat) (x12 : Nat) (x13 : Nat) (x14 : Nat) (x15 : Nat) (x16 : Nat) (x17 : Nat) (x18 : _) (x19 : _) (x20 : _) := (.cells (x0.cells ++ [x1, pP x2, .bool false, .bool false, .bool false, .bool false, I64 0, .bool false, .int .u8 0, pP x3, pP x4, pP x5, pP x6, pP x7, pP x8, pP x9, pP x10, pP x11, pP x12, pP x13, pP x14, pP x15, pP x16, pP x17, I64 0, I64 0, I64 x18, .int .u32 x19, .bool x20, I64 0, I64 0, I64 0, I64 0, I64 0, I64 0]) 82 : AObj)
abbrev obp301 (x0 : _) (x1 : _) (x2 : Bool) (x3 : Bool) := (.cells [I64 x0, I64 x1, .bool false, I64 (-2), I64 (0), I64 (0), .bool false, .bool x2, .bool x3] 164 : AObj)
abbrev obp302 (x0 : _) (x1 : Nat) (x2 : Nat) (x3 : Nat) := (.cells [I64 x0, pP x1, pP x2, pP x3] 155 : AObj)
abbrev obp303 (x0 : _) (x1 : Bool) := (.cells [I64 x0, I64 (0), .bool x1] 225 : AObj)
abbrev obp304 (x0 : Cfg) (x1 : Nat) (x2 : Nat) (x3 : Nat) (x4 : Bool) := (.cells (x0.cells ++ [pP x1, pP x2, pP x3, .bool x4, .bool false]) 167 : AObj)
abbrev obp305 (x0 : Cfg) (x1 : _) (x2 : Nat) (x3 : Nat) (x4 : Nat) (x5 : Nat) (x6 : Nat) (x7 : Nat) (x8 : Nat) (x9 : Nat) (x10 : Nat) (x11 : Nat) (x12 : Nat) (x13 : Nat) (x14 : Nat) (x15 : Nat) (x16 : Nat) (x17 : Nat) (x18 : _) (x19 : _) (x20 : _) := (.cells (x0.cells ++ [x1, pP x2, .bool false, .bool false, .bool false, .bool false, I64 0, .bool false, .int .u8 0, pP x3, pP x4, pP x5, pP x6, pP x7, pP x8, pP x9, pP x10, pP x11, pP x12, pP x13, pP x14, pP x15, pP x16, pP x17, I64 0, I64 0, I64 x18, .bool x19, .int .u32 x20, I64 0, I64 0, I64 0, I64 0, I64 0, I64 0]) 113 : AObj)
abbrev obp306 (x0 : _) (x1 : _) (x2 : Bool) (x3 : Bool) := (.cells [I64 x0, I64 x1, .bool false, I64 (-2), I64 (0), .bool false, .bool false, .bool false, .bool x2, .bool x3] 120 : AObj)
abbrev obp307 (x0 : Cfg) (x1 : Bool) (x2 : Bool) (x3 : Bool) := (.cells (x0.cells ++ [I64 0, I64 0, I64 0, .bool x1, .bool x2, .bool x3]) 100 : AObj)
abbrev obp308 (x0 : Cfg) (x1 : Nat) (x2 : Nat) (x3 : Nat) (x4 : Bool) := (.cells (x0.cells ++ [pP x1, pP x2, pP x3, .bool x4, .bool false]) 123 : AObj)
theorem wk_P30_0 {p : Prop} (h : p := by
  repeat' (first
    | ((with_reducible apply gQ0); (first | (apply q_idxPN (m := 0) layOk; (iterate 4 apply Eq.refl); (focus (decide)); (focus (decide))) | (apply q_idxPN (m := 1) layOk; (iterate 4 apply Eq.refl); (focus (decide)); (focus (decide))) | (apply q_idxPN (m := 2) layOk; (iterate 4 apply Eq.refl); (focus (decide)); (focus (decide))) | (apply q_idxPN (m := 3) layOk; (iterate 4 apply Eq.refl); (focus (decide)); (focus (decide))) | (apply q_idxPN (m := 4) layOk; (iterate 4 apply Eq.refl); (focus (decide)); (focus (decide))) | (apply q_idxPN (m := 5) layOk; (iterate 4 apply Eq.refl); (focus (decide)); (focus (decide))) | (apply q_idxPN (m := 6) layOk; (iterate 4 apply Eq.refl); (focus (decide)); (focus (decide))) | (apply q_move; apply Eq.refl) | (apply q_assign; apply Eq.refl) | (apply q_int; (iterate 3 apply Eq.refl)) | (apply q_nilCheck; apply Eq.refl) | (apply q_fa layOk; (iterate 5 apply Eq.refl)) | (apply q_load layOk; (iterate 3 apply Eq.refl); exact lk_; apply Eq.refl) | (apply q_shl; apply Eq.refl; apply Eq.refl; exact h0) | (apply q_extract; apply Eq.refl; apply Eq.refl) | (apply q_indexc layOk; (iterate 6 apply Eq.refl); (focus (decide)); (focus (decide)); apply Eq.refl) | (apply q_shl; apply Eq.refl; apply Eq.refl; (focus (decide))) | (apply q_conv; apply Eq.refl; exact Tryz.underlying3; exact Tryz.underlying118) | (apply isF (f := 84); (refine q_callR rfl (contact_Jam c0 _ _ _ _) rfl fd_ (by decide) ?_)) | (refine q_callWF rfl rfl (lockw _ _ 0 _ (by decide)) fd_ (by decide) rfl rfl ?_) | (refine q_callWF rfl rfl (lockw _ _ 7 _ (by decide)) fd_ (by decide) rfl rfl ?_) | (apply isF (f := 84); (refine q_callR rfl (contact_Jam c1 _ _ _ _) rfl fd_ (by decide) ?_)) | (refine q_callWF rfl rfl (lockw _ _ 1 _ (by decide)) fd_ (by decide) rfl rfl ?_) | (refine q_callWF rfl rfl (lockw _ _ 8 _ (by decide)) fd_ (by decide) rfl rfl ?_) | (apply isF (f := 84); (refine q_callR rfl (contact_Jam c2 _ _ _ _) rfl fd_ (by decide) ?_)) | (refine q_callWF rfl rfl (lockw _ _ 2 _ (by decide)) fd_ (by decide) rfl rfl ?_) | (refine q_callWF rfl rfl (lockw _ _ 9 _ (by decide)) fd_ (by decide) rfl rfl ?_) | (apply isF (f := 84); (refine q_callR rfl (contact_Jam c3 _ _ _ _) rfl fd_ (by decide) ?_)) | (refine q_callWF rfl rfl (lockw _ _ 3 _ (by decide)) fd_ (by decide) rfl rfl ?_) | (refine q_callWF rfl rfl (lockw _ _ 10 _ (by decide)) fd_ (by decide) rfl rfl ?_) | (apply isF (f := 84); (refine q_callR rfl (contact_Jam c4 _ _ _ _) rfl fd_ (by decide) ?_)) | (refine q_callWF rfl rfl (lockw _ _ 4 _ (by decide)) fd_ (by decide) rfl rfl ?_) | (refine q_callWF rfl rfl (lockw _ _ 11 _ (by decide)) fd_ (by decide) rfl rfl ?_) | (apply isF (f := 84); (refine q_callR rfl (contact_Jam c5 _ _ _ _) rfl fd_ (by decide) ?_)) | (refine q_callWF rfl rfl (lockw _ _ 5 _ (by decide)) fd_ (by decide) rfl rfl ?_) | (refine q_callWF rfl rfl (lockw _ _ 12 _ (by decide)) fd_ (by decide) rfl rfl ?_) | (apply isF (f := 84); (refine q_callR rfl (contact_Jam c6 _ _ _ _) rfl fd_ (by decide) ?_)) | (refine q_callWF rfl rfl (lockw _ _ 6 _ (by decide)) fd_ (by decide) rfl rfl ?_) | (refine q_callWF rfl rfl (lockw _ _ 13 _ (by decide)) fd_ (by decide) rfl rfl ?_) | (refine q_callWF rfl rfl (lockw _ _ 14 _ (by decide)) fd_ (by decide) rfl rfl ?_) | (refine q_callWF rfl rfl (lockw _ _ 15 _ (by decide)) fd_ (by decide) rfl rfl ?_) | (refine q_callWF rfl rfl (lockw _ _ 16 _ (by decide)) fd_ (by decide) rfl rfl ?_) | (apply isF (f := 86); (refine q_callR rfl (health_Failed s0 t00 t01 t02 cA _ _) rfl fd_ (by decide) ?_)) | (refine q_callWF rfl rfl (lockw _ _ 17 _ (by decide)) fd_ (by decide) rfl rfl ?_) | (apply isF (f := 86); (refine q_callR rfl (health_Failed s1 t10 t11 t12 cA _ _) rfl fd_ (by decide) ?_)) | (refine q_callWF rfl rfl (lockw _ _ 18 _ (by decide)) fd_ (by decide) rfl rfl ?_) | (apply isF (f := 86); (refine q_callR rfl (health_Failed s2 t20 t21 t22 cA _ _) rfl fd_ (by decide) ?_)) | (refine q_callWF rfl rfl (lockw _ _ 19 _ (by decide)) fd_ (by decide) rfl rfl ?_) | (apply isF (f := 86); (refine q_callR rfl (health_Failed s3 t30 t31 t32 cA _ _) rfl fd_ (by decide) ?_)) | (refine q_callWF rfl rfl (lockw _ _ 20 _ (by decide)) fd_ (by decide) rfl rfl ?_) | (apply e_store layOk; (iterate 3 apply Eq.refl); exact lk_; (iterate 5 apply Eq.refl))))
    | ((with_reducible apply gR); (first | refine RK.peelN rfl ?_ | refine RK.donef rfl ⟨_, rfl, ?_⟩ | refine RK.donet rfl (by kernel_rfl) ⟨_, rfl, ?_⟩))
    | ((with_reducible apply gW); (first | with_reducible apply WP.seq | refine WP.reg mixed (fun ks => _) (fun ks => rfl) (fun ks => ?_) | ((first | (apply cdD; apply Eq.refl) | (apply WP.condA; apply Eq.refl)) <;> (intro hc; (first | with_reducible exact ff hc | with_reducible exact ff' hc | exact absurd hc (by decide) | skip))) | apply WP.ret | apply WP.skip | apply WP.exit | apply WP.block))
    | (first | with_reducible apply thn_n | with_reducible apply thn_e | with_reducible apply blk_n | with_reducible apply blk_e)
    | (refine Endz.mk' en_ rv_ (by rfl) sb_)
    | (exact ⟨1, by decide, by decide, Wk.of ⟨rfl, rfl, rfl, rfl, rfl, trivial⟩ sb_⟩)
    | (exact ⟨2, by decide, by decide, Wk.of ⟨rfl, rfl, rfl, rfl, rfl, trivial⟩ sb_⟩)
    | (exact ⟨3, by decide, by decide, Wk.of ⟨rfl, rfl, rfl, rfl, rfl, trivial⟩ sb_⟩)
    | (exact ⟨4, by decide, by decide, Wk.of ⟨rfl, rfl, rfl, rfl, rfl, trivial⟩ sb_⟩)
    | (exact ⟨5, by decide, by decide, Wk.of ⟨rfl, rfl, rfl, rfl, rfl, trivial⟩ sb_⟩)
    | (exact ⟨6, by decide, by decide, Wk.of ⟨rfl, rfl, rfl, rfl, rfl, trivial⟩ sb_⟩)
    | (exact ⟨7, by decide, by decide, Wk.of ⟨rfl, rfl, rfl, rfl, rfl, trivial⟩ sb_⟩)
    | (exact ⟨1, by decide, by decide, Wk.of ⟨rfl, rfl, rfl, trivial⟩ sb_⟩)
    | (exact ⟨2, by decide, by decide, Wk.of ⟨rfl, rfl, rfl, trivial⟩ sb_⟩)
    | (exact ⟨3, by decide, by decide, Wk.of ⟨rfl, rfl, rfl, trivial⟩ sb_⟩)
    | (exact ⟨4, by decide, by decide, Wk.of ⟨rfl, rfl, rfl, trivial⟩ sb_⟩)
    | (exact ⟨5, by decide, by decide, Wk.of ⟨rfl, rfl, rfl, trivial⟩ sb_⟩)
    | (exact ⟨6, by decide, by decide, Wk.of ⟨rfl, rfl, rfl, trivial⟩ sb_⟩)
    | (exact ⟨7, by decide, by decide, Wk.of ⟨rfl, rfl, rfl, trivial⟩ sb_⟩))) : p := h
def sh32 (k : Int) : Int := IntKind.u32.wrap (1 * 2 ^ min k.toNat IntKind.u32.bits)
def or32 (a b : Int) : Int := IntKind.u32.wrap (BitVec.ofInt IntKind.u32.bits a ||| BitVec.ofInt IntKind.u32.bits b).toNat
/-- One bit more, or not. -/
def orL (n k : Int) (b : Bool) : Int := match b with
  | true => or32 n (sh32 k)
  | false => n

set_option maxHeartbeats 4000000 in
theorem lockw (kc : Nat) (n k : Int) (b : Bool) (h0 : 0 ≤ k) : Ctr Tryz.prog 7 83 [I64 k, .bool b, pP kc] [(kc, .cells [.int .u32 n] 27)] (.tuple #[]) [.cells [.int .u32 (orL n k b)] 27] := by
  cases b
  all_goals
    refine Ctr.by layOk Tryz.func83 Tryz.ntmps83 rfl rfl rfl rfl rfl ?_
    exact wk_P30_0

set_option maxHeartbeats 8000000 in
theorem sup_Locks {cA : Cfg} {nvs : Value} {ksu bk kp bu u0 u1 u2 c0 c1 c2 c3 c4 c5 c6 s0 t00 t01 t02 s1 t10 t11 t12 s2 t20 t21 t22 s3 t30 t31 t32 b0 b01 b02 b1 b11 b12 : Nat} {cd cb tr un md wr l0 h0 l1 h1 : Int} {bl kn : Bool} {xb : Nat → Bool} : Ctr Tryz.prog 7 49 [pP ksu] [(ksu, obp300 cA nvs bk c0 c1 c2 c3 c4 c5 c6 bu s0 s1 s2 s3 b0 b1 kp md wr bl), (c0, obp301 cd cb (xb 0) (xb 7)), (c1, obp301 cd cb (xb 1) (xb 8)), (c2, obp301 cd cb (xb 2) (xb 9)), (c3, obp301 cd cb (xb 3) (xb 10)), (c4, obp301 cd cb (xb 4) (xb 11)), (c5, obp301 cd cb (xb 5) (xb 12)), (c6, obp301 cd cb (xb 6) (xb 13)), (bu, obp302 tr u0 u1 u2), (u0, obp303 un (xb 14)), (u1, obp303 un (xb 15)), (u2, obp303 un (xb 16)), (s0, obp304 cA t00 t01 t02 (xb 17)), (s1, obp304 cA t10 t11 t12 (xb 18)), (s2, obp304 cA t20 t21 t22 (xb 19)), (s3, obp304 cA t30 t31 t32 (xb 20))] (.int .u32 (orL (orL (orL (orL (orL (orL (orL (orL (orL (orL (orL (orL (orL (orL (orL (orL (orL (orL (orL (orL (orL (0) 0 (xb 0)) 7 (xb 7)) 1 (xb 1)) 8 (xb 8)) 2 (xb 2)) 9 (xb 9)) 3 (xb 3)) 10 (xb 10)) 4 (xb 4)) 11 (xb 11)) 5 (xb 5)) 12 (xb 12)) 6 (xb 6)) 13 (xb 13)) 14 (xb 14)) 15 (xb 15)) 16 (xb 16)) 17 (xb 17)) 18 (xb 18)) 19 (xb 19)) 20 (xb 20))) [obp300 cA nvs bk c0 c1 c2 c3 c4 c5 c6 bu s0 s1 s2 s3 b0 b1 kp md wr bl, obp301 cd cb (xb 0) (xb 7), obp301 cd cb (xb 1) (xb 8), obp301 cd cb (xb 2) (xb 9), obp301 cd cb (xb 3) (xb 10), obp301 cd cb (xb 4) (xb 11), obp301 cd cb (xb 5) (xb 12), obp301 cd cb (xb 6) (xb 13), obp302 tr u0 u1 u2, obp303 un (xb 14), obp303 un (xb 15), obp303 un (xb 16), obp304 cA t00 t01 t02 (xb 17), obp304 cA t10 t11 t12 (xb 18), obp304 cA t20 t21 t22 (xb 19), obp304 cA t30 t31 t32 (xb 20)] := by
  refine Ctr.by layOk Tryz.func49 Tryz.ntmps49 rfl rfl rfl rfl rfl ?_
  repeat' (first
    | ((with_reducible apply gQ0); (first | (apply q_alloc (k := ks _) layOk; apply Eq.refl; exact lk_; apply Eq.refl) | (apply q_move; apply Eq.refl) | (apply q_assign; apply Eq.refl) | (apply q_nilCheck; apply Eq.refl) | (apply q_fa layOk; (iterate 5 apply Eq.refl)) | (apply q_loadr layOk; (iterate 3 apply Eq.refl); exact lk_; apply Eq.refl) | (apply q_alloc (k := ks _) layOk; apply Eq.refl; exact lk_; apply Eq.refl) | (apply q_mkFunc; apply Eq.refl; apply Eq.refl) | (apply e_store layOk; (iterate 3 apply Eq.refl); exact lk_; (iterate 5 apply Eq.refl))))
    | ((with_reducible apply gR); (first | refine RK.peelN rfl ?_ | refine RK.donef rfl ⟨_, rfl, ?_⟩))
    | ((with_reducible apply gW); (first | with_reducible apply WP.seq | refine WP.reg mixed (fun ks => _) (fun ks => rfl) (fun ks => ?_) | apply WP.block))
    | (with_reducible apply thn_n))
  rename_i y z y2
  refine WP.loopI (n := 69) (α := Nat) (fun x => match x with
    | 0 => [(0, some (pP ksu)), (3, some (pP (z 0))), (4, some (.func (.func 83) ⟨[]⟩ ⟨[pP (z 0)]⟩)), (17, some (.agg #[pP c0, pP c1, pP c2, pP c3, pP c4, pP c5, pP c6])), (18, some (I64 0))]
    | 1 => [(0, some (pP ksu)), (3, some (pP (z 0))), (4, some (.func (.func 83) ⟨[]⟩ ⟨[pP (z 0)]⟩)), (17, some (.agg #[pP c0, pP c1, pP c2, pP c3, pP c4, pP c5, pP c6])), (18, some (I64 1))]
    | 2 => [(0, some (pP ksu)), (3, some (pP (z 0))), (4, some (.func (.func 83) ⟨[]⟩ ⟨[pP (z 0)]⟩)), (17, some (.agg #[pP c0, pP c1, pP c2, pP c3, pP c4, pP c5, pP c6])), (18, some (I64 2))]
    | 3 => [(0, some (pP ksu)), (3, some (pP (z 0))), (4, some (.func (.func 83) ⟨[]⟩ ⟨[pP (z 0)]⟩)), (17, some (.agg #[pP c0, pP c1, pP c2, pP c3, pP c4, pP c5, pP c6])), (18, some (I64 3))]
    | 4 => [(0, some (pP ksu)), (3, some (pP (z 0))), (4, some (.func (.func 83) ⟨[]⟩ ⟨[pP (z 0)]⟩)), (17, some (.agg #[pP c0, pP c1, pP c2, pP c3, pP c4, pP c5, pP c6])), (18, some (I64 4))]
    | 5 => [(0, some (pP ksu)), (3, some (pP (z 0))), (4, some (.func (.func 83) ⟨[]⟩ ⟨[pP (z 0)]⟩)), (17, some (.agg #[pP c0, pP c1, pP c2, pP c3, pP c4, pP c5, pP c6])), (18, some (I64 5))]
    | 6 => [(0, some (pP ksu)), (3, some (pP (z 0))), (4, some (.func (.func 83) ⟨[]⟩ ⟨[pP (z 0)]⟩)), (17, some (.agg #[pP c0, pP c1, pP c2, pP c3, pP c4, pP c5, pP c6])), (18, some (I64 6))]
    | _ => [(0, some (pP ksu)), (3, some (pP (z 0))), (4, some (.func (.func 83) ⟨[]⟩ ⟨[pP (z 0)]⟩)), (17, some (.agg #[pP c0, pP c1, pP c2, pP c3, pP c4, pP c5, pP c6])), (18, some (I64 7))]
    )
    (fun x => match x with
    | 0 => [(ksu, obp300 cA nvs bk c0 c1 c2 c3 c4 c5 c6 bu s0 s1 s2 s3 b0 b1 kp md wr bl), (c0, obp301 cd cb (xb 0) (xb 7)), (c1, obp301 cd cb (xb 1) (xb 8)), (c2, obp301 cd cb (xb 2) (xb 9)), (c3, obp301 cd cb (xb 3) (xb 10)), (c4, obp301 cd cb (xb 4) (xb 11)), (c5, obp301 cd cb (xb 5) (xb 12)), (c6, obp301 cd cb (xb 6) (xb 13)), (bu, obp302 tr u0 u1 u2), (u0, obp303 un (xb 14)), (u1, obp303 un (xb 15)), (u2, obp303 un (xb 16)), (s0, obp304 cA t00 t01 t02 (xb 17)), (s1, obp304 cA t10 t11 t12 (xb 18)), (s2, obp304 cA t20 t21 t22 (xb 19)), (s3, obp304 cA t30 t31 t32 (xb 20)), (z 0, .cells [.int .u32 (0)] 27)]
    | 1 => [(ksu, obp300 cA nvs bk c0 c1 c2 c3 c4 c5 c6 bu s0 s1 s2 s3 b0 b1 kp md wr bl), (c0, obp301 cd cb (xb 0) (xb 7)), (c1, obp301 cd cb (xb 1) (xb 8)), (c2, obp301 cd cb (xb 2) (xb 9)), (c3, obp301 cd cb (xb 3) (xb 10)), (c4, obp301 cd cb (xb 4) (xb 11)), (c5, obp301 cd cb (xb 5) (xb 12)), (c6, obp301 cd cb (xb 6) (xb 13)), (bu, obp302 tr u0 u1 u2), (u0, obp303 un (xb 14)), (u1, obp303 un (xb 15)), (u2, obp303 un (xb 16)), (s0, obp304 cA t00 t01 t02 (xb 17)), (s1, obp304 cA t10 t11 t12 (xb 18)), (s2, obp304 cA t20 t21 t22 (xb 19)), (s3, obp304 cA t30 t31 t32 (xb 20)), (z 0, .cells [.int .u32 (orL (orL (0) 0 (xb 0)) 7 (xb 7))] 27)]
    | 2 => [(ksu, obp300 cA nvs bk c0 c1 c2 c3 c4 c5 c6 bu s0 s1 s2 s3 b0 b1 kp md wr bl), (c0, obp301 cd cb (xb 0) (xb 7)), (c1, obp301 cd cb (xb 1) (xb 8)), (c2, obp301 cd cb (xb 2) (xb 9)), (c3, obp301 cd cb (xb 3) (xb 10)), (c4, obp301 cd cb (xb 4) (xb 11)), (c5, obp301 cd cb (xb 5) (xb 12)), (c6, obp301 cd cb (xb 6) (xb 13)), (bu, obp302 tr u0 u1 u2), (u0, obp303 un (xb 14)), (u1, obp303 un (xb 15)), (u2, obp303 un (xb 16)), (s0, obp304 cA t00 t01 t02 (xb 17)), (s1, obp304 cA t10 t11 t12 (xb 18)), (s2, obp304 cA t20 t21 t22 (xb 19)), (s3, obp304 cA t30 t31 t32 (xb 20)), (z 0, .cells [.int .u32 (orL (orL (orL (orL (0) 0 (xb 0)) 7 (xb 7)) 1 (xb 1)) 8 (xb 8))] 27)]
    | 3 => [(ksu, obp300 cA nvs bk c0 c1 c2 c3 c4 c5 c6 bu s0 s1 s2 s3 b0 b1 kp md wr bl), (c0, obp301 cd cb (xb 0) (xb 7)), (c1, obp301 cd cb (xb 1) (xb 8)), (c2, obp301 cd cb (xb 2) (xb 9)), (c3, obp301 cd cb (xb 3) (xb 10)), (c4, obp301 cd cb (xb 4) (xb 11)), (c5, obp301 cd cb (xb 5) (xb 12)), (c6, obp301 cd cb (xb 6) (xb 13)), (bu, obp302 tr u0 u1 u2), (u0, obp303 un (xb 14)), (u1, obp303 un (xb 15)), (u2, obp303 un (xb 16)), (s0, obp304 cA t00 t01 t02 (xb 17)), (s1, obp304 cA t10 t11 t12 (xb 18)), (s2, obp304 cA t20 t21 t22 (xb 19)), (s3, obp304 cA t30 t31 t32 (xb 20)), (z 0, .cells [.int .u32 (orL (orL (orL (orL (orL (orL (0) 0 (xb 0)) 7 (xb 7)) 1 (xb 1)) 8 (xb 8)) 2 (xb 2)) 9 (xb 9))] 27)]
    | 4 => [(ksu, obp300 cA nvs bk c0 c1 c2 c3 c4 c5 c6 bu s0 s1 s2 s3 b0 b1 kp md wr bl), (c0, obp301 cd cb (xb 0) (xb 7)), (c1, obp301 cd cb (xb 1) (xb 8)), (c2, obp301 cd cb (xb 2) (xb 9)), (c3, obp301 cd cb (xb 3) (xb 10)), (c4, obp301 cd cb (xb 4) (xb 11)), (c5, obp301 cd cb (xb 5) (xb 12)), (c6, obp301 cd cb (xb 6) (xb 13)), (bu, obp302 tr u0 u1 u2), (u0, obp303 un (xb 14)), (u1, obp303 un (xb 15)), (u2, obp303 un (xb 16)), (s0, obp304 cA t00 t01 t02 (xb 17)), (s1, obp304 cA t10 t11 t12 (xb 18)), (s2, obp304 cA t20 t21 t22 (xb 19)), (s3, obp304 cA t30 t31 t32 (xb 20)), (z 0, .cells [.int .u32 (orL (orL (orL (orL (orL (orL (orL (orL (0) 0 (xb 0)) 7 (xb 7)) 1 (xb 1)) 8 (xb 8)) 2 (xb 2)) 9 (xb 9)) 3 (xb 3)) 10 (xb 10))] 27)]
    | 5 => [(ksu, obp300 cA nvs bk c0 c1 c2 c3 c4 c5 c6 bu s0 s1 s2 s3 b0 b1 kp md wr bl), (c0, obp301 cd cb (xb 0) (xb 7)), (c1, obp301 cd cb (xb 1) (xb 8)), (c2, obp301 cd cb (xb 2) (xb 9)), (c3, obp301 cd cb (xb 3) (xb 10)), (c4, obp301 cd cb (xb 4) (xb 11)), (c5, obp301 cd cb (xb 5) (xb 12)), (c6, obp301 cd cb (xb 6) (xb 13)), (bu, obp302 tr u0 u1 u2), (u0, obp303 un (xb 14)), (u1, obp303 un (xb 15)), (u2, obp303 un (xb 16)), (s0, obp304 cA t00 t01 t02 (xb 17)), (s1, obp304 cA t10 t11 t12 (xb 18)), (s2, obp304 cA t20 t21 t22 (xb 19)), (s3, obp304 cA t30 t31 t32 (xb 20)), (z 0, .cells [.int .u32 (orL (orL (orL (orL (orL (orL (orL (orL (orL (orL (0) 0 (xb 0)) 7 (xb 7)) 1 (xb 1)) 8 (xb 8)) 2 (xb 2)) 9 (xb 9)) 3 (xb 3)) 10 (xb 10)) 4 (xb 4)) 11 (xb 11))] 27)]
    | 6 => [(ksu, obp300 cA nvs bk c0 c1 c2 c3 c4 c5 c6 bu s0 s1 s2 s3 b0 b1 kp md wr bl), (c0, obp301 cd cb (xb 0) (xb 7)), (c1, obp301 cd cb (xb 1) (xb 8)), (c2, obp301 cd cb (xb 2) (xb 9)), (c3, obp301 cd cb (xb 3) (xb 10)), (c4, obp301 cd cb (xb 4) (xb 11)), (c5, obp301 cd cb (xb 5) (xb 12)), (c6, obp301 cd cb (xb 6) (xb 13)), (bu, obp302 tr u0 u1 u2), (u0, obp303 un (xb 14)), (u1, obp303 un (xb 15)), (u2, obp303 un (xb 16)), (s0, obp304 cA t00 t01 t02 (xb 17)), (s1, obp304 cA t10 t11 t12 (xb 18)), (s2, obp304 cA t20 t21 t22 (xb 19)), (s3, obp304 cA t30 t31 t32 (xb 20)), (z 0, .cells [.int .u32 (orL (orL (orL (orL (orL (orL (orL (orL (orL (orL (orL (orL (0) 0 (xb 0)) 7 (xb 7)) 1 (xb 1)) 8 (xb 8)) 2 (xb 2)) 9 (xb 9)) 3 (xb 3)) 10 (xb 10)) 4 (xb 4)) 11 (xb 11)) 5 (xb 5)) 12 (xb 12))] 27)]
    | _ => [(ksu, obp300 cA nvs bk c0 c1 c2 c3 c4 c5 c6 bu s0 s1 s2 s3 b0 b1 kp md wr bl), (c0, obp301 cd cb (xb 0) (xb 7)), (c1, obp301 cd cb (xb 1) (xb 8)), (c2, obp301 cd cb (xb 2) (xb 9)), (c3, obp301 cd cb (xb 3) (xb 10)), (c4, obp301 cd cb (xb 4) (xb 11)), (c5, obp301 cd cb (xb 5) (xb 12)), (c6, obp301 cd cb (xb 6) (xb 13)), (bu, obp302 tr u0 u1 u2), (u0, obp303 un (xb 14)), (u1, obp303 un (xb 15)), (u2, obp303 un (xb 16)), (s0, obp304 cA t00 t01 t02 (xb 17)), (s1, obp304 cA t10 t11 t12 (xb 18)), (s2, obp304 cA t20 t21 t22 (xb 19)), (s3, obp304 cA t30 t31 t32 (xb 20)), (z 0, .cells [.int .u32 (orL (orL (orL (orL (orL (orL (orL (orL (orL (orL (orL (orL (orL (orL (0) 0 (xb 0)) 7 (xb 7)) 1 (xb 1)) 8 (xb 8)) 2 (xb 2)) 9 (xb 9)) 3 (xb 3)) 10 (xb 10)) 4 (xb 4)) 11 (xb 11)) 5 (xb 5)) 12 (xb 12)) 6 (xb 6)) 13 (xb 13))] 27)]
    ) (fun x => x ≤ 7) (fun x => 7 - x) 0 (Wk.of ⟨rfl, rfl, rfl, rfl, rfl, trivial⟩ sb_) (Nat.zero_le _) (fun x ix => ?_)
  have ix : x ≤ 7 := ix
  match x, ix with
  | 0, _ =>
    try dsimp only
    exact wk_P30_0
  | 1, _ =>
    try dsimp only
    exact wk_P30_0
  | 2, _ =>
    try dsimp only
    exact wk_P30_0
  | 3, _ =>
    try dsimp only
    exact wk_P30_0
  | 4, _ =>
    try dsimp only
    exact wk_P30_0
  | 5, _ =>
    try dsimp only
    exact wk_P30_0
  | 6, _ =>
    try dsimp only
    exact wk_P30_0
  | 7, _ =>
    try dsimp only
    repeat' (first
      | ((with_reducible apply gQ0); (first | (apply q_move; apply Eq.refl) | (apply q_int; (iterate 3 apply Eq.refl)) | (apply q_nilCheck; apply Eq.refl) | (apply q_fa layOk; (iterate 5 apply Eq.refl)) | (apply q_load layOk; (iterate 3 apply Eq.refl); exact lk_; apply Eq.refl) | (apply q_load layOk; (iterate 3 apply Eq.refl); exact lk_; apply Eq.refl) | (apply isF (f := 85); (refine q_callR rfl (locate_Locked bu u0 u1 u2 _ _ _ _ _ _ _ _ _ _) rfl fd_ (by decide) ?_))))
      | ((with_reducible apply gR); (first | refine RK.peelN rfl ?_ | refine RK.donef rfl ⟨_, rfl, ?_⟩))
      | ((with_reducible apply gW); (first | with_reducible apply WP.seq | refine WP.reg mixed (fun ks => _) (fun ks => rfl) (fun ks => ?_) | ((apply cdD; apply Eq.refl) <;> (intro hc; (first | exact absurd hc (by decide) | exact absurd hc (by decide) | skip))) | apply WP.exit | apply WP.block))
      | (first | with_reducible apply thn_n | with_reducible apply thn_e | with_reducible apply blk_e))
    refine WP.loopI (n := 69) (α := Nat) (fun x => match x with
      | 0 => [(0, some (pP ksu)), (3, some (pP (z 0))), (4, some (.func (.func 83) ⟨[]⟩ ⟨[pP (z 0)]⟩)), (42, some (.agg #[.bool (xb 14), .bool (xb 15), .bool (xb 16)])), (43, some (I64 0))]
      | 1 => [(0, some (pP ksu)), (3, some (pP (z 0))), (4, some (.func (.func 83) ⟨[]⟩ ⟨[pP (z 0)]⟩)), (42, some (.agg #[.bool (xb 14), .bool (xb 15), .bool (xb 16)])), (43, some (I64 1))]
      | 2 => [(0, some (pP ksu)), (3, some (pP (z 0))), (4, some (.func (.func 83) ⟨[]⟩ ⟨[pP (z 0)]⟩)), (42, some (.agg #[.bool (xb 14), .bool (xb 15), .bool (xb 16)])), (43, some (I64 2))]
      | _ => [(0, some (pP ksu)), (3, some (pP (z 0))), (4, some (.func (.func 83) ⟨[]⟩ ⟨[pP (z 0)]⟩)), (42, some (.agg #[.bool (xb 14), .bool (xb 15), .bool (xb 16)])), (43, some (I64 3))]
      )
      (fun x => match x with
      | 0 => [(ksu, obp300 cA nvs bk c0 c1 c2 c3 c4 c5 c6 bu s0 s1 s2 s3 b0 b1 kp md wr bl), (c0, obp301 cd cb (xb 0) (xb 7)), (c1, obp301 cd cb (xb 1) (xb 8)), (c2, obp301 cd cb (xb 2) (xb 9)), (c3, obp301 cd cb (xb 3) (xb 10)), (c4, obp301 cd cb (xb 4) (xb 11)), (c5, obp301 cd cb (xb 5) (xb 12)), (c6, obp301 cd cb (xb 6) (xb 13)), (bu, obp302 tr u0 u1 u2), (u0, obp303 un (xb 14)), (u1, obp303 un (xb 15)), (u2, obp303 un (xb 16)), (s0, obp304 cA t00 t01 t02 (xb 17)), (s1, obp304 cA t10 t11 t12 (xb 18)), (s2, obp304 cA t20 t21 t22 (xb 19)), (s3, obp304 cA t30 t31 t32 (xb 20)), (z 0, .cells [.int .u32 (orL (orL (orL (orL (orL (orL (orL (orL (orL (orL (orL (orL (orL (orL (0) 0 (xb 0)) 7 (xb 7)) 1 (xb 1)) 8 (xb 8)) 2 (xb 2)) 9 (xb 9)) 3 (xb 3)) 10 (xb 10)) 4 (xb 4)) 11 (xb 11)) 5 (xb 5)) 12 (xb 12)) 6 (xb 6)) 13 (xb 13))] 27)]
      | 1 => [(ksu, obp300 cA nvs bk c0 c1 c2 c3 c4 c5 c6 bu s0 s1 s2 s3 b0 b1 kp md wr bl), (c0, obp301 cd cb (xb 0) (xb 7)), (c1, obp301 cd cb (xb 1) (xb 8)), (c2, obp301 cd cb (xb 2) (xb 9)), (c3, obp301 cd cb (xb 3) (xb 10)), (c4, obp301 cd cb (xb 4) (xb 11)), (c5, obp301 cd cb (xb 5) (xb 12)), (c6, obp301 cd cb (xb 6) (xb 13)), (bu, obp302 tr u0 u1 u2), (u0, obp303 un (xb 14)), (u1, obp303 un (xb 15)), (u2, obp303 un (xb 16)), (s0, obp304 cA t00 t01 t02 (xb 17)), (s1, obp304 cA t10 t11 t12 (xb 18)), (s2, obp304 cA t20 t21 t22 (xb 19)), (s3, obp304 cA t30 t31 t32 (xb 20)), (z 0, .cells [.int .u32 (orL (orL (orL (orL (orL (orL (orL (orL (orL (orL (orL (orL (orL (orL (orL (0) 0 (xb 0)) 7 (xb 7)) 1 (xb 1)) 8 (xb 8)) 2 (xb 2)) 9 (xb 9)) 3 (xb 3)) 10 (xb 10)) 4 (xb 4)) 11 (xb 11)) 5 (xb 5)) 12 (xb 12)) 6 (xb 6)) 13 (xb 13)) 14 (xb 14))] 27)]
      | 2 => [(ksu, obp300 cA nvs bk c0 c1 c2 c3 c4 c5 c6 bu s0 s1 s2 s3 b0 b1 kp md wr bl), (c0, obp301 cd cb (xb 0) (xb 7)), (c1, obp301 cd cb (xb 1) (xb 8)), (c2, obp301 cd cb (xb 2) (xb 9)), (c3, obp301 cd cb (xb 3) (xb 10)), (c4, obp301 cd cb (xb 4) (xb 11)), (c5, obp301 cd cb (xb 5) (xb 12)), (c6, obp301 cd cb (xb 6) (xb 13)), (bu, obp302 tr u0 u1 u2), (u0, obp303 un (xb 14)), (u1, obp303 un (xb 15)), (u2, obp303 un (xb 16)), (s0, obp304 cA t00 t01 t02 (xb 17)), (s1, obp304 cA t10 t11 t12 (xb 18)), (s2, obp304 cA t20 t21 t22 (xb 19)), (s3, obp304 cA t30 t31 t32 (xb 20)), (z 0, .cells [.int .u32 (orL (orL (orL (orL (orL (orL (orL (orL (orL (orL (orL (orL (orL (orL (orL (orL (0) 0 (xb 0)) 7 (xb 7)) 1 (xb 1)) 8 (xb 8)) 2 (xb 2)) 9 (xb 9)) 3 (xb 3)) 10 (xb 10)) 4 (xb 4)) 11 (xb 11)) 5 (xb 5)) 12 (xb 12)) 6 (xb 6)) 13 (xb 13)) 14 (xb 14)) 15 (xb 15))] 27)]
      | _ => [(ksu, obp300 cA nvs bk c0 c1 c2 c3 c4 c5 c6 bu s0 s1 s2 s3 b0 b1 kp md wr bl), (c0, obp301 cd cb (xb 0) (xb 7)), (c1, obp301 cd cb (xb 1) (xb 8)), (c2, obp301 cd cb (xb 2) (xb 9)), (c3, obp301 cd cb (xb 3) (xb 10)), (c4, obp301 cd cb (xb 4) (xb 11)), (c5, obp301 cd cb (xb 5) (xb 12)), (c6, obp301 cd cb (xb 6) (xb 13)), (bu, obp302 tr u0 u1 u2), (u0, obp303 un (xb 14)), (u1, obp303 un (xb 15)), (u2, obp303 un (xb 16)), (s0, obp304 cA t00 t01 t02 (xb 17)), (s1, obp304 cA t10 t11 t12 (xb 18)), (s2, obp304 cA t20 t21 t22 (xb 19)), (s3, obp304 cA t30 t31 t32 (xb 20)), (z 0, .cells [.int .u32 (orL (orL (orL (orL (orL (orL (orL (orL (orL (orL (orL (orL (orL (orL (orL (orL (orL (0) 0 (xb 0)) 7 (xb 7)) 1 (xb 1)) 8 (xb 8)) 2 (xb 2)) 9 (xb 9)) 3 (xb 3)) 10 (xb 10)) 4 (xb 4)) 11 (xb 11)) 5 (xb 5)) 12 (xb 12)) 6 (xb 6)) 13 (xb 13)) 14 (xb 14)) 15 (xb 15)) 16 (xb 16))] 27)]
      ) (fun x => x ≤ 3) (fun x => 3 - x) 0 (Wk.of ⟨rfl, rfl, rfl, rfl, rfl, trivial⟩ sb_) (Nat.zero_le _) (fun x ix => ?_)
    have ix : x ≤ 3 := ix
    match x, ix with
    | 0, _ =>
      try dsimp only
      exact wk_P30_0
    | 1, _ =>
      try dsimp only
      exact wk_P30_0
    | 2, _ =>
      try dsimp only
      exact wk_P30_0
    | 3, _ =>
      try dsimp only
      repeat' (first
        | ((with_reducible apply gQ0); (first | (apply q_move; apply Eq.refl) | (apply q_int; (iterate 3 apply Eq.refl)) | (apply q_nilCheck; apply Eq.refl) | (apply q_fa layOk; (iterate 5 apply Eq.refl)) | (apply q_loadr layOk; (iterate 3 apply Eq.refl); exact lk_; apply Eq.refl)))
        | ((with_reducible apply gR); (first | refine RK.peelN rfl ?_ | refine RK.donef rfl ⟨_, rfl, ?_⟩))
        | ((with_reducible apply gW); (first | with_reducible apply WP.seq | refine WP.reg mixed (fun ks => _) (fun ks => rfl) (fun ks => ?_) | ((apply cdD; apply Eq.refl) <;> (intro hc; (first | exact absurd hc (by decide) | exact absurd hc (by decide) | skip))) | apply WP.exit | apply WP.block))
        | (first | with_reducible apply thn_n | with_reducible apply thn_e | with_reducible apply blk_e))
      refine WP.loopI (n := 69) (α := Nat) (fun x => match x with
        | 0 => [(0, some (pP ksu)), (3, some (pP (z 0))), (4, some (.func (.func 83) ⟨[]⟩ ⟨[pP (z 0)]⟩)), (56, some (.agg #[pP s0, pP s1, pP s2, pP s3])), (57, some (I64 0))]
        | 1 => [(0, some (pP ksu)), (3, some (pP (z 0))), (4, some (.func (.func 83) ⟨[]⟩ ⟨[pP (z 0)]⟩)), (56, some (.agg #[pP s0, pP s1, pP s2, pP s3])), (57, some (I64 1))]
        | 2 => [(0, some (pP ksu)), (3, some (pP (z 0))), (4, some (.func (.func 83) ⟨[]⟩ ⟨[pP (z 0)]⟩)), (56, some (.agg #[pP s0, pP s1, pP s2, pP s3])), (57, some (I64 2))]
        | 3 => [(0, some (pP ksu)), (3, some (pP (z 0))), (4, some (.func (.func 83) ⟨[]⟩ ⟨[pP (z 0)]⟩)), (56, some (.agg #[pP s0, pP s1, pP s2, pP s3])), (57, some (I64 3))]
        | _ => [(0, some (pP ksu)), (3, some (pP (z 0))), (4, some (.func (.func 83) ⟨[]⟩ ⟨[pP (z 0)]⟩)), (56, some (.agg #[pP s0, pP s1, pP s2, pP s3])), (57, some (I64 4))]
        )
        (fun x => match x with
        | 0 => [(ksu, obp300 cA nvs bk c0 c1 c2 c3 c4 c5 c6 bu s0 s1 s2 s3 b0 b1 kp md wr bl), (c0, obp301 cd cb (xb 0) (xb 7)), (c1, obp301 cd cb (xb 1) (xb 8)), (c2, obp301 cd cb (xb 2) (xb 9)), (c3, obp301 cd cb (xb 3) (xb 10)), (c4, obp301 cd cb (xb 4) (xb 11)), (c5, obp301 cd cb (xb 5) (xb 12)), (c6, obp301 cd cb (xb 6) (xb 13)), (bu, obp302 tr u0 u1 u2), (u0, obp303 un (xb 14)), (u1, obp303 un (xb 15)), (u2, obp303 un (xb 16)), (s0, obp304 cA t00 t01 t02 (xb 17)), (s1, obp304 cA t10 t11 t12 (xb 18)), (s2, obp304 cA t20 t21 t22 (xb 19)), (s3, obp304 cA t30 t31 t32 (xb 20)), (z 0, .cells [.int .u32 (orL (orL (orL (orL (orL (orL (orL (orL (orL (orL (orL (orL (orL (orL (orL (orL (orL (0) 0 (xb 0)) 7 (xb 7)) 1 (xb 1)) 8 (xb 8)) 2 (xb 2)) 9 (xb 9)) 3 (xb 3)) 10 (xb 10)) 4 (xb 4)) 11 (xb 11)) 5 (xb 5)) 12 (xb 12)) 6 (xb 6)) 13 (xb 13)) 14 (xb 14)) 15 (xb 15)) 16 (xb 16))] 27)]
        | 1 => [(ksu, obp300 cA nvs bk c0 c1 c2 c3 c4 c5 c6 bu s0 s1 s2 s3 b0 b1 kp md wr bl), (c0, obp301 cd cb (xb 0) (xb 7)), (c1, obp301 cd cb (xb 1) (xb 8)), (c2, obp301 cd cb (xb 2) (xb 9)), (c3, obp301 cd cb (xb 3) (xb 10)), (c4, obp301 cd cb (xb 4) (xb 11)), (c5, obp301 cd cb (xb 5) (xb 12)), (c6, obp301 cd cb (xb 6) (xb 13)), (bu, obp302 tr u0 u1 u2), (u0, obp303 un (xb 14)), (u1, obp303 un (xb 15)), (u2, obp303 un (xb 16)), (s0, obp304 cA t00 t01 t02 (xb 17)), (s1, obp304 cA t10 t11 t12 (xb 18)), (s2, obp304 cA t20 t21 t22 (xb 19)), (s3, obp304 cA t30 t31 t32 (xb 20)), (z 0, .cells [.int .u32 (orL (orL (orL (orL (orL (orL (orL (orL (orL (orL (orL (orL (orL (orL (orL (orL (orL (orL (0) 0 (xb 0)) 7 (xb 7)) 1 (xb 1)) 8 (xb 8)) 2 (xb 2)) 9 (xb 9)) 3 (xb 3)) 10 (xb 10)) 4 (xb 4)) 11 (xb 11)) 5 (xb 5)) 12 (xb 12)) 6 (xb 6)) 13 (xb 13)) 14 (xb 14)) 15 (xb 15)) 16 (xb 16)) 17 (xb 17))] 27)]
        | 2 => [(ksu, obp300 cA nvs bk c0 c1 c2 c3 c4 c5 c6 bu s0 s1 s2 s3 b0 b1 kp md wr bl), (c0, obp301 cd cb (xb 0) (xb 7)), (c1, obp301 cd cb (xb 1) (xb 8)), (c2, obp301 cd cb (xb 2) (xb 9)), (c3, obp301 cd cb (xb 3) (xb 10)), (c4, obp301 cd cb (xb 4) (xb 11)), (c5, obp301 cd cb (xb 5) (xb 12)), (c6, obp301 cd cb (xb 6) (xb 13)), (bu, obp302 tr u0 u1 u2), (u0, obp303 un (xb 14)), (u1, obp303 un (xb 15)), (u2, obp303 un (xb 16)), (s0, obp304 cA t00 t01 t02 (xb 17)), (s1, obp304 cA t10 t11 t12 (xb 18)), (s2, obp304 cA t20 t21 t22 (xb 19)), (s3, obp304 cA t30 t31 t32 (xb 20)), (z 0, .cells [.int .u32 (orL (orL (orL (orL (orL (orL (orL (orL (orL (orL (orL (orL (orL (orL (orL (orL (orL (orL (orL (0) 0 (xb 0)) 7 (xb 7)) 1 (xb 1)) 8 (xb 8)) 2 (xb 2)) 9 (xb 9)) 3 (xb 3)) 10 (xb 10)) 4 (xb 4)) 11 (xb 11)) 5 (xb 5)) 12 (xb 12)) 6 (xb 6)) 13 (xb 13)) 14 (xb 14)) 15 (xb 15)) 16 (xb 16)) 17 (xb 17)) 18 (xb 18))] 27)]
        | 3 => [(ksu, obp300 cA nvs bk c0 c1 c2 c3 c4 c5 c6 bu s0 s1 s2 s3 b0 b1 kp md wr bl), (c0, obp301 cd cb (xb 0) (xb 7)), (c1, obp301 cd cb (xb 1) (xb 8)), (c2, obp301 cd cb (xb 2) (xb 9)), (c3, obp301 cd cb (xb 3) (xb 10)), (c4, obp301 cd cb (xb 4) (xb 11)), (c5, obp301 cd cb (xb 5) (xb 12)), (c6, obp301 cd cb (xb 6) (xb 13)), (bu, obp302 tr u0 u1 u2), (u0, obp303 un (xb 14)), (u1, obp303 un (xb 15)), (u2, obp303 un (xb 16)), (s0, obp304 cA t00 t01 t02 (xb 17)), (s1, obp304 cA t10 t11 t12 (xb 18)), (s2, obp304 cA t20 t21 t22 (xb 19)), (s3, obp304 cA t30 t31 t32 (xb 20)), (z 0, .cells [.int .u32 (orL (orL (orL (orL (orL (orL (orL (orL (orL (orL (orL (orL (orL (orL (orL (orL (orL (orL (orL (orL (0) 0 (xb 0)) 7 (xb 7)) 1 (xb 1)) 8 (xb 8)) 2 (xb 2)) 9 (xb 9)) 3 (xb 3)) 10 (xb 10)) 4 (xb 4)) 11 (xb 11)) 5 (xb 5)) 12 (xb 12)) 6 (xb 6)) 13 (xb 13)) 14 (xb 14)) 15 (xb 15)) 16 (xb 16)) 17 (xb 17)) 18 (xb 18)) 19 (xb 19))] 27)]
        | _ => [(ksu, obp300 cA nvs bk c0 c1 c2 c3 c4 c5 c6 bu s0 s1 s2 s3 b0 b1 kp md wr bl), (c0, obp301 cd cb (xb 0) (xb 7)), (c1, obp301 cd cb (xb 1) (xb 8)), (c2, obp301 cd cb (xb 2) (xb 9)), (c3, obp301 cd cb (xb 3) (xb 10)), (c4, obp301 cd cb (xb 4) (xb 11)), (c5, obp301 cd cb (xb 5) (xb 12)), (c6, obp301 cd cb (xb 6) (xb 13)), (bu, obp302 tr u0 u1 u2), (u0, obp303 un (xb 14)), (u1, obp303 un (xb 15)), (u2, obp303 un (xb 16)), (s0, obp304 cA t00 t01 t02 (xb 17)), (s1, obp304 cA t10 t11 t12 (xb 18)), (s2, obp304 cA t20 t21 t22 (xb 19)), (s3, obp304 cA t30 t31 t32 (xb 20)), (z 0, .cells [.int .u32 (orL (orL (orL (orL (orL (orL (orL (orL (orL (orL (orL (orL (orL (orL (orL (orL (orL (orL (orL (orL (orL (0) 0 (xb 0)) 7 (xb 7)) 1 (xb 1)) 8 (xb 8)) 2 (xb 2)) 9 (xb 9)) 3 (xb 3)) 10 (xb 10)) 4 (xb 4)) 11 (xb 11)) 5 (xb 5)) 12 (xb 12)) 6 (xb 6)) 13 (xb 13)) 14 (xb 14)) 15 (xb 15)) 16 (xb 16)) 17 (xb 17)) 18 (xb 18)) 19 (xb 19)) 20 (xb 20))] 27)]
        ) (fun x => x ≤ 4) (fun x => 4 - x) 0 (Wk.of ⟨rfl, rfl, rfl, rfl, rfl, trivial⟩ sb_) (Nat.zero_le _) (fun x ix => ?_)
      have ix : x ≤ 4 := ix
      match x, ix with
      | 0, _ =>
        try dsimp only
        exact wk_P30_0
      | 1, _ =>
        try dsimp only
        exact wk_P30_0
      | 2, _ =>
        try dsimp only
        exact wk_P30_0
      | 3, _ =>
        try dsimp only
        exact wk_P30_0
      | 4, _ =>
        try dsimp only
        exact wk_P30_0
      | x + 5, h => exact absurd h (by omega)
      
    | x + 4, h => exact absurd h (by omega)
    
  | x + 8, h => exact absurd h (by omega)
  

set_option maxHeartbeats 8000000 in
theorem ref_Locks {cD : Cfg} {dnv : Value} {rsu rk rkp rbu d0 d1 d2 d3 d4 d5 d6 w0 v00 v01 v02 w1 v10 v11 v12 w2 v20 v21 v22 w3 v30 v31 v32 rb0 rb1 : Nat} {rd rbb rmd rwr x0 x1 x2 x3 x4 x5 x6 x7 l0 h0 l1 h1 : Int} {rbl rkn : Bool} {xb : Nat → Bool} : Ctr Tryz.prog 7 50 [pP rsu] [(rsu, obp305 cD dnv rk d0 d1 d2 d3 d4 d5 d6 rbu w0 w1 w2 w3 rb0 rb1 rkp rmd rbl rwr), (d0, obp306 rd rbb (xb 0) (xb 7)), (d1, obp306 rd rbb (xb 1) (xb 8)), (d2, obp306 rd rbb (xb 2) (xb 9)), (d3, obp306 rd rbb (xb 3) (xb 10)), (d4, obp306 rd rbb (xb 4) (xb 11)), (d5, obp306 rd rbb (xb 5) (xb 12)), (d6, obp306 rd rbb (xb 6) (xb 13)), (rbu, obp307 cD (xb 14) (xb 15) (xb 16)), (w0, obp308 cD v00 v01 v02 (xb 17)), (w1, obp308 cD v10 v11 v12 (xb 18)), (w2, obp308 cD v20 v21 v22 (xb 19)), (w3, obp308 cD v30 v31 v32 (xb 20))] (.int .u32 (orL (orL (orL (orL (orL (orL (orL (orL (orL (orL (orL (orL (orL (orL (orL (orL (orL (orL (orL (orL (orL (0) 0 (xb 0)) 7 (xb 7)) 1 (xb 1)) 8 (xb 8)) 2 (xb 2)) 9 (xb 9)) 3 (xb 3)) 10 (xb 10)) 4 (xb 4)) 11 (xb 11)) 5 (xb 5)) 12 (xb 12)) 6 (xb 6)) 13 (xb 13)) 14 (xb 14)) 15 (xb 15)) 16 (xb 16)) 17 (xb 17)) 18 (xb 18)) 19 (xb 19)) 20 (xb 20))) [obp305 cD dnv rk d0 d1 d2 d3 d4 d5 d6 rbu w0 w1 w2 w3 rb0 rb1 rkp rmd rbl rwr, obp306 rd rbb (xb 0) (xb 7), obp306 rd rbb (xb 1) (xb 8), obp306 rd rbb (xb 2) (xb 9), obp306 rd rbb (xb 3) (xb 10), obp306 rd rbb (xb 4) (xb 11), obp306 rd rbb (xb 5) (xb 12), obp306 rd rbb (xb 6) (xb 13), obp307 cD (xb 14) (xb 15) (xb 16), obp308 cD v00 v01 v02 (xb 17), obp308 cD v10 v11 v12 (xb 18), obp308 cD v20 v21 v22 (xb 19), obp308 cD v30 v31 v32 (xb 20)] := by
  refine Ctr.by layOk Tryz.func50 Tryz.ntmps50 rfl rfl rfl rfl rfl ?_
  repeat' (first
    | ((with_reducible apply gQ0); (apply q_assign; apply Eq.refl))
    | ((with_reducible apply gR); (first | refine RK.peelN rfl ?_ | refine RK.donef rfl ⟨_, rfl, ?_⟩))
    | ((with_reducible apply gW); (first | with_reducible apply WP.seq | refine WP.reg mixed (fun ks => _) (fun ks => rfl) (fun ks => ?_) | apply WP.block))
    | (with_reducible apply thn_n))
  refine WP.loopI (n := 79) (α := Nat) (fun x => match x with
    | 0 => [(0, some (pP rsu)), (3, some (.int .u32 (0))), (4, some (I64 0))]
    | 1 => [(0, some (pP rsu)), (3, some (.int .u32 (orL (orL (0) 0 (xb 0)) 7 (xb 7)))), (4, some (I64 1))]
    | 2 => [(0, some (pP rsu)), (3, some (.int .u32 (orL (orL (orL (orL (0) 0 (xb 0)) 7 (xb 7)) 1 (xb 1)) 8 (xb 8)))), (4, some (I64 2))]
    | 3 => [(0, some (pP rsu)), (3, some (.int .u32 (orL (orL (orL (orL (orL (orL (0) 0 (xb 0)) 7 (xb 7)) 1 (xb 1)) 8 (xb 8)) 2 (xb 2)) 9 (xb 9)))), (4, some (I64 3))]
    | 4 => [(0, some (pP rsu)), (3, some (.int .u32 (orL (orL (orL (orL (orL (orL (orL (orL (0) 0 (xb 0)) 7 (xb 7)) 1 (xb 1)) 8 (xb 8)) 2 (xb 2)) 9 (xb 9)) 3 (xb 3)) 10 (xb 10)))), (4, some (I64 4))]
    | 5 => [(0, some (pP rsu)), (3, some (.int .u32 (orL (orL (orL (orL (orL (orL (orL (orL (orL (orL (0) 0 (xb 0)) 7 (xb 7)) 1 (xb 1)) 8 (xb 8)) 2 (xb 2)) 9 (xb 9)) 3 (xb 3)) 10 (xb 10)) 4 (xb 4)) 11 (xb 11)))), (4, some (I64 5))]
    | 6 => [(0, some (pP rsu)), (3, some (.int .u32 (orL (orL (orL (orL (orL (orL (orL (orL (orL (orL (orL (orL (0) 0 (xb 0)) 7 (xb 7)) 1 (xb 1)) 8 (xb 8)) 2 (xb 2)) 9 (xb 9)) 3 (xb 3)) 10 (xb 10)) 4 (xb 4)) 11 (xb 11)) 5 (xb 5)) 12 (xb 12)))), (4, some (I64 6))]
    | _ => [(0, some (pP rsu)), (3, some (.int .u32 (orL (orL (orL (orL (orL (orL (orL (orL (orL (orL (orL (orL (orL (orL (0) 0 (xb 0)) 7 (xb 7)) 1 (xb 1)) 8 (xb 8)) 2 (xb 2)) 9 (xb 9)) 3 (xb 3)) 10 (xb 10)) 4 (xb 4)) 11 (xb 11)) 5 (xb 5)) 12 (xb 12)) 6 (xb 6)) 13 (xb 13)))), (4, some (I64 7))]
    )
    (fun x => match x with
    | 0 => [(rsu, obp305 cD dnv rk d0 d1 d2 d3 d4 d5 d6 rbu w0 w1 w2 w3 rb0 rb1 rkp rmd rbl rwr), (d0, obp306 rd rbb (xb 0) (xb 7)), (d1, obp306 rd rbb (xb 1) (xb 8)), (d2, obp306 rd rbb (xb 2) (xb 9)), (d3, obp306 rd rbb (xb 3) (xb 10)), (d4, obp306 rd rbb (xb 4) (xb 11)), (d5, obp306 rd rbb (xb 5) (xb 12)), (d6, obp306 rd rbb (xb 6) (xb 13)), (rbu, obp307 cD (xb 14) (xb 15) (xb 16)), (w0, obp308 cD v00 v01 v02 (xb 17)), (w1, obp308 cD v10 v11 v12 (xb 18)), (w2, obp308 cD v20 v21 v22 (xb 19)), (w3, obp308 cD v30 v31 v32 (xb 20))]
    | 1 => [(rsu, obp305 cD dnv rk d0 d1 d2 d3 d4 d5 d6 rbu w0 w1 w2 w3 rb0 rb1 rkp rmd rbl rwr), (d0, obp306 rd rbb (xb 0) (xb 7)), (d1, obp306 rd rbb (xb 1) (xb 8)), (d2, obp306 rd rbb (xb 2) (xb 9)), (d3, obp306 rd rbb (xb 3) (xb 10)), (d4, obp306 rd rbb (xb 4) (xb 11)), (d5, obp306 rd rbb (xb 5) (xb 12)), (d6, obp306 rd rbb (xb 6) (xb 13)), (rbu, obp307 cD (xb 14) (xb 15) (xb 16)), (w0, obp308 cD v00 v01 v02 (xb 17)), (w1, obp308 cD v10 v11 v12 (xb 18)), (w2, obp308 cD v20 v21 v22 (xb 19)), (w3, obp308 cD v30 v31 v32 (xb 20))]
    | 2 => [(rsu, obp305 cD dnv rk d0 d1 d2 d3 d4 d5 d6 rbu w0 w1 w2 w3 rb0 rb1 rkp rmd rbl rwr), (d0, obp306 rd rbb (xb 0) (xb 7)), (d1, obp306 rd rbb (xb 1) (xb 8)), (d2, obp306 rd rbb (xb 2) (xb 9)), (d3, obp306 rd rbb (xb 3) (xb 10)), (d4, obp306 rd rbb (xb 4) (xb 11)), (d5, obp306 rd rbb (xb 5) (xb 12)), (d6, obp306 rd rbb (xb 6) (xb 13)), (rbu, obp307 cD (xb 14) (xb 15) (xb 16)), (w0, obp308 cD v00 v01 v02 (xb 17)), (w1, obp308 cD v10 v11 v12 (xb 18)), (w2, obp308 cD v20 v21 v22 (xb 19)), (w3, obp308 cD v30 v31 v32 (xb 20))]
    | 3 => [(rsu, obp305 cD dnv rk d0 d1 d2 d3 d4 d5 d6 rbu w0 w1 w2 w3 rb0 rb1 rkp rmd rbl rwr), (d0, obp306 rd rbb (xb 0) (xb 7)), (d1, obp306 rd rbb (xb 1) (xb 8)), (d2, obp306 rd rbb (xb 2) (xb 9)), (d3, obp306 rd rbb (xb 3) (xb 10)), (d4, obp306 rd rbb (xb 4) (xb 11)), (d5, obp306 rd rbb (xb 5) (xb 12)), (d6, obp306 rd rbb (xb 6) (xb 13)), (rbu, obp307 cD (xb 14) (xb 15) (xb 16)), (w0, obp308 cD v00 v01 v02 (xb 17)), (w1, obp308 cD v10 v11 v12 (xb 18)), (w2, obp308 cD v20 v21 v22 (xb 19)), (w3, obp308 cD v30 v31 v32 (xb 20))]
    | 4 => [(rsu, obp305 cD dnv rk d0 d1 d2 d3 d4 d5 d6 rbu w0 w1 w2 w3 rb0 rb1 rkp rmd rbl rwr), (d0, obp306 rd rbb (xb 0) (xb 7)), (d1, obp306 rd rbb (xb 1) (xb 8)), (d2, obp306 rd rbb (xb 2) (xb 9)), (d3, obp306 rd rbb (xb 3) (xb 10)), (d4, obp306 rd rbb (xb 4) (xb 11)), (d5, obp306 rd rbb (xb 5) (xb 12)), (d6, obp306 rd rbb (xb 6) (xb 13)), (rbu, obp307 cD (xb 14) (xb 15) (xb 16)), (w0, obp308 cD v00 v01 v02 (xb 17)), (w1, obp308 cD v10 v11 v12 (xb 18)), (w2, obp308 cD v20 v21 v22 (xb 19)), (w3, obp308 cD v30 v31 v32 (xb 20))]
    | 5 => [(rsu, obp305 cD dnv rk d0 d1 d2 d3 d4 d5 d6 rbu w0 w1 w2 w3 rb0 rb1 rkp rmd rbl rwr), (d0, obp306 rd rbb (xb 0) (xb 7)), (d1, obp306 rd rbb (xb 1) (xb 8)), (d2, obp306 rd rbb (xb 2) (xb 9)), (d3, obp306 rd rbb (xb 3) (xb 10)), (d4, obp306 rd rbb (xb 4) (xb 11)), (d5, obp306 rd rbb (xb 5) (xb 12)), (d6, obp306 rd rbb (xb 6) (xb 13)), (rbu, obp307 cD (xb 14) (xb 15) (xb 16)), (w0, obp308 cD v00 v01 v02 (xb 17)), (w1, obp308 cD v10 v11 v12 (xb 18)), (w2, obp308 cD v20 v21 v22 (xb 19)), (w3, obp308 cD v30 v31 v32 (xb 20))]
    | 6 => [(rsu, obp305 cD dnv rk d0 d1 d2 d3 d4 d5 d6 rbu w0 w1 w2 w3 rb0 rb1 rkp rmd rbl rwr), (d0, obp306 rd rbb (xb 0) (xb 7)), (d1, obp306 rd rbb (xb 1) (xb 8)), (d2, obp306 rd rbb (xb 2) (xb 9)), (d3, obp306 rd rbb (xb 3) (xb 10)), (d4, obp306 rd rbb (xb 4) (xb 11)), (d5, obp306 rd rbb (xb 5) (xb 12)), (d6, obp306 rd rbb (xb 6) (xb 13)), (rbu, obp307 cD (xb 14) (xb 15) (xb 16)), (w0, obp308 cD v00 v01 v02 (xb 17)), (w1, obp308 cD v10 v11 v12 (xb 18)), (w2, obp308 cD v20 v21 v22 (xb 19)), (w3, obp308 cD v30 v31 v32 (xb 20))]
    | _ => [(rsu, obp305 cD dnv rk d0 d1 d2 d3 d4 d5 d6 rbu w0 w1 w2 w3 rb0 rb1 rkp rmd rbl rwr), (d0, obp306 rd rbb (xb 0) (xb 7)), (d1, obp306 rd rbb (xb 1) (xb 8)), (d2, obp306 rd rbb (xb 2) (xb 9)), (d3, obp306 rd rbb (xb 3) (xb 10)), (d4, obp306 rd rbb (xb 4) (xb 11)), (d5, obp306 rd rbb (xb 5) (xb 12)), (d6, obp306 rd rbb (xb 6) (xb 13)), (rbu, obp307 cD (xb 14) (xb 15) (xb 16)), (w0, obp308 cD v00 v01 v02 (xb 17)), (w1, obp308 cD v10 v11 v12 (xb 18)), (w2, obp308 cD v20 v21 v22 (xb 19)), (w3, obp308 cD v30 v31 v32 (xb 20))]
    ) (fun x => x ≤ 7) (fun x => 7 - x) 0 (Wk.of ⟨rfl, rfl, rfl, trivial⟩ sb_) (Nat.zero_le _) (fun x ix => ?_)
  have ix : x ≤ 7 := ix
  match x, ix with
  | 0, _ =>
    try dsimp only
    cases hb0 : xb 0 <;> cases hb7 : xb 7
    all_goals
      exact wk_P30_0
  | 1, _ =>
    try dsimp only
    cases hb1 : xb 1 <;> cases hb8 : xb 8
    all_goals
      exact wk_P30_0
  | 2, _ =>
    try dsimp only
    cases hb2 : xb 2 <;> cases hb9 : xb 9
    all_goals
      exact wk_P30_0
  | 3, _ =>
    try dsimp only
    cases hb3 : xb 3 <;> cases hb10 : xb 10
    all_goals
      exact wk_P30_0
  | 4, _ =>
    try dsimp only
    cases hb4 : xb 4 <;> cases hb11 : xb 11
    all_goals
      exact wk_P30_0
  | 5, _ =>
    try dsimp only
    cases hb5 : xb 5 <;> cases hb12 : xb 12
    all_goals
      exact wk_P30_0
  | 6, _ =>
    try dsimp only
    cases hb6 : xb 6 <;> cases hb13 : xb 13
    all_goals
      exact wk_P30_0
  | 7, _ =>
    try dsimp only
    repeat' (first
      | ((with_reducible apply gQ0); (first | (apply q_move; apply Eq.refl) | (apply q_assign; apply Eq.refl) | (apply q_int; (iterate 3 apply Eq.refl))))
      | ((with_reducible apply gR); (first | refine RK.peelN rfl ?_ | refine RK.donef rfl ⟨_, rfl, ?_⟩))
      | ((with_reducible apply gW); (first | with_reducible apply WP.seq | refine WP.reg mixed (fun ks => _) (fun ks => rfl) (fun ks => ?_) | ((apply cdD; apply Eq.refl) <;> (intro hc; (first | exact absurd hc (by decide) | exact absurd hc (by decide) | skip))) | apply WP.exit | apply WP.block))
      | (first | with_reducible apply thn_n | with_reducible apply thn_e | with_reducible apply blk_e))
    refine WP.loopI (n := 79) (α := Nat) (fun x => match x with
      | 0 => [(0, some (pP rsu)), (3, some (.int .u32 (orL (orL (orL (orL (orL (orL (orL (orL (orL (orL (orL (orL (orL (orL (0) 0 (xb 0)) 7 (xb 7)) 1 (xb 1)) 8 (xb 8)) 2 (xb 2)) 9 (xb 9)) 3 (xb 3)) 10 (xb 10)) 4 (xb 4)) 11 (xb 11)) 5 (xb 5)) 12 (xb 12)) 6 (xb 6)) 13 (xb 13)))), (5, some (I64 0))]
      | 1 => [(0, some (pP rsu)), (3, some (.int .u32 (orL (orL (orL (orL (orL (orL (orL (orL (orL (orL (orL (orL (orL (orL (orL (0) 0 (xb 0)) 7 (xb 7)) 1 (xb 1)) 8 (xb 8)) 2 (xb 2)) 9 (xb 9)) 3 (xb 3)) 10 (xb 10)) 4 (xb 4)) 11 (xb 11)) 5 (xb 5)) 12 (xb 12)) 6 (xb 6)) 13 (xb 13)) 14 (xb 14)))), (5, some (I64 1))]
      | 2 => [(0, some (pP rsu)), (3, some (.int .u32 (orL (orL (orL (orL (orL (orL (orL (orL (orL (orL (orL (orL (orL (orL (orL (orL (0) 0 (xb 0)) 7 (xb 7)) 1 (xb 1)) 8 (xb 8)) 2 (xb 2)) 9 (xb 9)) 3 (xb 3)) 10 (xb 10)) 4 (xb 4)) 11 (xb 11)) 5 (xb 5)) 12 (xb 12)) 6 (xb 6)) 13 (xb 13)) 14 (xb 14)) 15 (xb 15)))), (5, some (I64 2))]
      | _ => [(0, some (pP rsu)), (3, some (.int .u32 (orL (orL (orL (orL (orL (orL (orL (orL (orL (orL (orL (orL (orL (orL (orL (orL (orL (0) 0 (xb 0)) 7 (xb 7)) 1 (xb 1)) 8 (xb 8)) 2 (xb 2)) 9 (xb 9)) 3 (xb 3)) 10 (xb 10)) 4 (xb 4)) 11 (xb 11)) 5 (xb 5)) 12 (xb 12)) 6 (xb 6)) 13 (xb 13)) 14 (xb 14)) 15 (xb 15)) 16 (xb 16)))), (5, some (I64 3))]
      )
      (fun x => match x with
      | 0 => [(rsu, obp305 cD dnv rk d0 d1 d2 d3 d4 d5 d6 rbu w0 w1 w2 w3 rb0 rb1 rkp rmd rbl rwr), (d0, obp306 rd rbb (xb 0) (xb 7)), (d1, obp306 rd rbb (xb 1) (xb 8)), (d2, obp306 rd rbb (xb 2) (xb 9)), (d3, obp306 rd rbb (xb 3) (xb 10)), (d4, obp306 rd rbb (xb 4) (xb 11)), (d5, obp306 rd rbb (xb 5) (xb 12)), (d6, obp306 rd rbb (xb 6) (xb 13)), (rbu, obp307 cD (xb 14) (xb 15) (xb 16)), (w0, obp308 cD v00 v01 v02 (xb 17)), (w1, obp308 cD v10 v11 v12 (xb 18)), (w2, obp308 cD v20 v21 v22 (xb 19)), (w3, obp308 cD v30 v31 v32 (xb 20))]
      | 1 => [(rsu, obp305 cD dnv rk d0 d1 d2 d3 d4 d5 d6 rbu w0 w1 w2 w3 rb0 rb1 rkp rmd rbl rwr), (d0, obp306 rd rbb (xb 0) (xb 7)), (d1, obp306 rd rbb (xb 1) (xb 8)), (d2, obp306 rd rbb (xb 2) (xb 9)), (d3, obp306 rd rbb (xb 3) (xb 10)), (d4, obp306 rd rbb (xb 4) (xb 11)), (d5, obp306 rd rbb (xb 5) (xb 12)), (d6, obp306 rd rbb (xb 6) (xb 13)), (rbu, obp307 cD (xb 14) (xb 15) (xb 16)), (w0, obp308 cD v00 v01 v02 (xb 17)), (w1, obp308 cD v10 v11 v12 (xb 18)), (w2, obp308 cD v20 v21 v22 (xb 19)), (w3, obp308 cD v30 v31 v32 (xb 20))]
      | 2 => [(rsu, obp305 cD dnv rk d0 d1 d2 d3 d4 d5 d6 rbu w0 w1 w2 w3 rb0 rb1 rkp rmd rbl rwr), (d0, obp306 rd rbb (xb 0) (xb 7)), (d1, obp306 rd rbb (xb 1) (xb 8)), (d2, obp306 rd rbb (xb 2) (xb 9)), (d3, obp306 rd rbb (xb 3) (xb 10)), (d4, obp306 rd rbb (xb 4) (xb 11)), (d5, obp306 rd rbb (xb 5) (xb 12)), (d6, obp306 rd rbb (xb 6) (xb 13)), (rbu, obp307 cD (xb 14) (xb 15) (xb 16)), (w0, obp308 cD v00 v01 v02 (xb 17)), (w1, obp308 cD v10 v11 v12 (xb 18)), (w2, obp308 cD v20 v21 v22 (xb 19)), (w3, obp308 cD v30 v31 v32 (xb 20))]
      | _ => [(rsu, obp305 cD dnv rk d0 d1 d2 d3 d4 d5 d6 rbu w0 w1 w2 w3 rb0 rb1 rkp rmd rbl rwr), (d0, obp306 rd rbb (xb 0) (xb 7)), (d1, obp306 rd rbb (xb 1) (xb 8)), (d2, obp306 rd rbb (xb 2) (xb 9)), (d3, obp306 rd rbb (xb 3) (xb 10)), (d4, obp306 rd rbb (xb 4) (xb 11)), (d5, obp306 rd rbb (xb 5) (xb 12)), (d6, obp306 rd rbb (xb 6) (xb 13)), (rbu, obp307 cD (xb 14) (xb 15) (xb 16)), (w0, obp308 cD v00 v01 v02 (xb 17)), (w1, obp308 cD v10 v11 v12 (xb 18)), (w2, obp308 cD v20 v21 v22 (xb 19)), (w3, obp308 cD v30 v31 v32 (xb 20))]
      ) (fun x => x ≤ 3) (fun x => 3 - x) 0 (Wk.of ⟨rfl, rfl, rfl, trivial⟩ sb_) (Nat.zero_le _) (fun x ix => ?_)
    have ix : x ≤ 3 := ix
    match x, ix with
    | 0, _ =>
      try dsimp only
      cases hb14 : xb 14
      all_goals
        exact wk_P30_0
    | 1, _ =>
      try dsimp only
      cases hb15 : xb 15
      all_goals
        exact wk_P30_0
    | 2, _ =>
      try dsimp only
      cases hb16 : xb 16
      all_goals
        exact wk_P30_0
    | 3, _ =>
      try dsimp only
      repeat' (first
        | ((with_reducible apply gQ0); (first | (apply q_move; apply Eq.refl) | (apply q_assign; apply Eq.refl) | (apply q_int; (iterate 3 apply Eq.refl))))
        | ((with_reducible apply gR); (first | refine RK.peelN rfl ?_ | refine RK.donef rfl ⟨_, rfl, ?_⟩))
        | ((with_reducible apply gW); (first | with_reducible apply WP.seq | refine WP.reg mixed (fun ks => _) (fun ks => rfl) (fun ks => ?_) | ((apply cdD; apply Eq.refl) <;> (intro hc; (first | exact absurd hc (by decide) | exact absurd hc (by decide) | skip))) | apply WP.exit | apply WP.block))
        | (first | with_reducible apply thn_n | with_reducible apply thn_e | with_reducible apply blk_e))
      refine WP.loopI (n := 79) (α := Nat) (fun x => match x with
        | 0 => [(0, some (pP rsu)), (3, some (.int .u32 (orL (orL (orL (orL (orL (orL (orL (orL (orL (orL (orL (orL (orL (orL (orL (orL (orL (0) 0 (xb 0)) 7 (xb 7)) 1 (xb 1)) 8 (xb 8)) 2 (xb 2)) 9 (xb 9)) 3 (xb 3)) 10 (xb 10)) 4 (xb 4)) 11 (xb 11)) 5 (xb 5)) 12 (xb 12)) 6 (xb 6)) 13 (xb 13)) 14 (xb 14)) 15 (xb 15)) 16 (xb 16)))), (6, some (I64 0))]
        | 1 => [(0, some (pP rsu)), (3, some (.int .u32 (orL (orL (orL (orL (orL (orL (orL (orL (orL (orL (orL (orL (orL (orL (orL (orL (orL (orL (0) 0 (xb 0)) 7 (xb 7)) 1 (xb 1)) 8 (xb 8)) 2 (xb 2)) 9 (xb 9)) 3 (xb 3)) 10 (xb 10)) 4 (xb 4)) 11 (xb 11)) 5 (xb 5)) 12 (xb 12)) 6 (xb 6)) 13 (xb 13)) 14 (xb 14)) 15 (xb 15)) 16 (xb 16)) 17 (xb 17)))), (6, some (I64 1))]
        | 2 => [(0, some (pP rsu)), (3, some (.int .u32 (orL (orL (orL (orL (orL (orL (orL (orL (orL (orL (orL (orL (orL (orL (orL (orL (orL (orL (orL (0) 0 (xb 0)) 7 (xb 7)) 1 (xb 1)) 8 (xb 8)) 2 (xb 2)) 9 (xb 9)) 3 (xb 3)) 10 (xb 10)) 4 (xb 4)) 11 (xb 11)) 5 (xb 5)) 12 (xb 12)) 6 (xb 6)) 13 (xb 13)) 14 (xb 14)) 15 (xb 15)) 16 (xb 16)) 17 (xb 17)) 18 (xb 18)))), (6, some (I64 2))]
        | 3 => [(0, some (pP rsu)), (3, some (.int .u32 (orL (orL (orL (orL (orL (orL (orL (orL (orL (orL (orL (orL (orL (orL (orL (orL (orL (orL (orL (orL (0) 0 (xb 0)) 7 (xb 7)) 1 (xb 1)) 8 (xb 8)) 2 (xb 2)) 9 (xb 9)) 3 (xb 3)) 10 (xb 10)) 4 (xb 4)) 11 (xb 11)) 5 (xb 5)) 12 (xb 12)) 6 (xb 6)) 13 (xb 13)) 14 (xb 14)) 15 (xb 15)) 16 (xb 16)) 17 (xb 17)) 18 (xb 18)) 19 (xb 19)))), (6, some (I64 3))]
        | _ => [(0, some (pP rsu)), (3, some (.int .u32 (orL (orL (orL (orL (orL (orL (orL (orL (orL (orL (orL (orL (orL (orL (orL (orL (orL (orL (orL (orL (orL (0) 0 (xb 0)) 7 (xb 7)) 1 (xb 1)) 8 (xb 8)) 2 (xb 2)) 9 (xb 9)) 3 (xb 3)) 10 (xb 10)) 4 (xb 4)) 11 (xb 11)) 5 (xb 5)) 12 (xb 12)) 6 (xb 6)) 13 (xb 13)) 14 (xb 14)) 15 (xb 15)) 16 (xb 16)) 17 (xb 17)) 18 (xb 18)) 19 (xb 19)) 20 (xb 20)))), (6, some (I64 4))]
        )
        (fun x => match x with
        | 0 => [(rsu, obp305 cD dnv rk d0 d1 d2 d3 d4 d5 d6 rbu w0 w1 w2 w3 rb0 rb1 rkp rmd rbl rwr), (d0, obp306 rd rbb (xb 0) (xb 7)), (d1, obp306 rd rbb (xb 1) (xb 8)), (d2, obp306 rd rbb (xb 2) (xb 9)), (d3, obp306 rd rbb (xb 3) (xb 10)), (d4, obp306 rd rbb (xb 4) (xb 11)), (d5, obp306 rd rbb (xb 5) (xb 12)), (d6, obp306 rd rbb (xb 6) (xb 13)), (rbu, obp307 cD (xb 14) (xb 15) (xb 16)), (w0, obp308 cD v00 v01 v02 (xb 17)), (w1, obp308 cD v10 v11 v12 (xb 18)), (w2, obp308 cD v20 v21 v22 (xb 19)), (w3, obp308 cD v30 v31 v32 (xb 20))]
        | 1 => [(rsu, obp305 cD dnv rk d0 d1 d2 d3 d4 d5 d6 rbu w0 w1 w2 w3 rb0 rb1 rkp rmd rbl rwr), (d0, obp306 rd rbb (xb 0) (xb 7)), (d1, obp306 rd rbb (xb 1) (xb 8)), (d2, obp306 rd rbb (xb 2) (xb 9)), (d3, obp306 rd rbb (xb 3) (xb 10)), (d4, obp306 rd rbb (xb 4) (xb 11)), (d5, obp306 rd rbb (xb 5) (xb 12)), (d6, obp306 rd rbb (xb 6) (xb 13)), (rbu, obp307 cD (xb 14) (xb 15) (xb 16)), (w0, obp308 cD v00 v01 v02 (xb 17)), (w1, obp308 cD v10 v11 v12 (xb 18)), (w2, obp308 cD v20 v21 v22 (xb 19)), (w3, obp308 cD v30 v31 v32 (xb 20))]
        | 2 => [(rsu, obp305 cD dnv rk d0 d1 d2 d3 d4 d5 d6 rbu w0 w1 w2 w3 rb0 rb1 rkp rmd rbl rwr), (d0, obp306 rd rbb (xb 0) (xb 7)), (d1, obp306 rd rbb (xb 1) (xb 8)), (d2, obp306 rd rbb (xb 2) (xb 9)), (d3, obp306 rd rbb (xb 3) (xb 10)), (d4, obp306 rd rbb (xb 4) (xb 11)), (d5, obp306 rd rbb (xb 5) (xb 12)), (d6, obp306 rd rbb (xb 6) (xb 13)), (rbu, obp307 cD (xb 14) (xb 15) (xb 16)), (w0, obp308 cD v00 v01 v02 (xb 17)), (w1, obp308 cD v10 v11 v12 (xb 18)), (w2, obp308 cD v20 v21 v22 (xb 19)), (w3, obp308 cD v30 v31 v32 (xb 20))]
        | 3 => [(rsu, obp305 cD dnv rk d0 d1 d2 d3 d4 d5 d6 rbu w0 w1 w2 w3 rb0 rb1 rkp rmd rbl rwr), (d0, obp306 rd rbb (xb 0) (xb 7)), (d1, obp306 rd rbb (xb 1) (xb 8)), (d2, obp306 rd rbb (xb 2) (xb 9)), (d3, obp306 rd rbb (xb 3) (xb 10)), (d4, obp306 rd rbb (xb 4) (xb 11)), (d5, obp306 rd rbb (xb 5) (xb 12)), (d6, obp306 rd rbb (xb 6) (xb 13)), (rbu, obp307 cD (xb 14) (xb 15) (xb 16)), (w0, obp308 cD v00 v01 v02 (xb 17)), (w1, obp308 cD v10 v11 v12 (xb 18)), (w2, obp308 cD v20 v21 v22 (xb 19)), (w3, obp308 cD v30 v31 v32 (xb 20))]
        | _ => [(rsu, obp305 cD dnv rk d0 d1 d2 d3 d4 d5 d6 rbu w0 w1 w2 w3 rb0 rb1 rkp rmd rbl rwr), (d0, obp306 rd rbb (xb 0) (xb 7)), (d1, obp306 rd rbb (xb 1) (xb 8)), (d2, obp306 rd rbb (xb 2) (xb 9)), (d3, obp306 rd rbb (xb 3) (xb 10)), (d4, obp306 rd rbb (xb 4) (xb 11)), (d5, obp306 rd rbb (xb 5) (xb 12)), (d6, obp306 rd rbb (xb 6) (xb 13)), (rbu, obp307 cD (xb 14) (xb 15) (xb 16)), (w0, obp308 cD v00 v01 v02 (xb 17)), (w1, obp308 cD v10 v11 v12 (xb 18)), (w2, obp308 cD v20 v21 v22 (xb 19)), (w3, obp308 cD v30 v31 v32 (xb 20))]
        ) (fun x => x ≤ 4) (fun x => 4 - x) 0 (Wk.of ⟨rfl, rfl, rfl, trivial⟩ sb_) (Nat.zero_le _) (fun x ix => ?_)
      have ix : x ≤ 4 := ix
      match x, ix with
      | 0, _ =>
        try dsimp only
        cases hb17 : xb 17
        all_goals
          exact wk_P30_0
      | 1, _ =>
        try dsimp only
        cases hb18 : xb 18
        all_goals
          exact wk_P30_0
      | 2, _ =>
        try dsimp only
        cases hb19 : xb 19
        all_goals
          exact wk_P30_0
      | 3, _ =>
        try dsimp only
        cases hb20 : xb 20
        all_goals
          exact wk_P30_0
      | 4, _ =>
        try dsimp only
        exact wk_P30_0
      | x + 5, h => exact absurd h (by omega)
      
    | x + 4, h => exact absurd h (by omega)
    
  | x + 8, h => exact absurd h (by omega)
  
end Go.Proofs.YtekcchmnncefhaaGreatDoor
namespace Go.Proofs.YtekcchmnncefhaaGreatDoor
open Go Go.Proofs.YtekcchmnncefhaaGreatDoorAB
set_option linter.unusedSimpArgs false
set_option linter.unusedVariables false
set_option maxRecDepth 40000
abbrev obp310 (x0 : _) (x1 : _) (x2 : Bool) (x3 : Bool) := (.cells [I64 x0, I64 x1, .bool false, I64 (-2), I64 (0), I64 (0), .bool false, .bool x2, .bool x3] 164 : AObj)
abbrev obp311 (x0 : _) (x1 : Bool) := (.cells [I64 x0, I64 (0), .bool x1] 225 : AObj)
abbrev obp312 (x0 : Cfg) (x1 : Nat) (x2 : Nat) (x3 : Nat) (x4 : Bool) := (.cells (x0.cells ++ [pP x1, pP x2, pP x3, .bool x4, .bool false]) 167 : AObj)
abbrev obp313 (x0 : Cfg) (x1 : Nat) (x2 : Nat) (x3 : _) (x4 : _) (x5 : _) := (.cells (x0.cells ++ [pP x1, pP x2, .bool x3, I64 x4, I64 x5]) 172 : AObj)
abbrev obp314 (x0 : _) (x1 : _) (x2 : Bool) (x3 : Bool) := (.cells [I64 x0, I64 x1, .bool false, I64 (-2), I64 (0), .bool false, .bool false, .bool false, .bool x2, .bool x3] 120 : AObj)
abbrev obp315 (x0 : Cfg) (x1 : Nat) (x2 : Nat) (x3 : Nat) (x4 : Bool) := (.cells (x0.cells ++ [pP x1, pP x2, pP x3, .bool x4, .bool false]) 123 : AObj)
abbrev obp316 (x0 : Cfg) (x1 : _) (x2 : _) (x3 : _) (x4 : _) (x5 : _) (x6 : _) (x7 : _) := (.cells (x0.cells ++ [I64 x1, I64 x2, I64 x3, I64 x4, I64 x5, I64 x6, .bool x7]) 129 : AObj)

set_option maxHeartbeats 8000000 in
theorem alike_ {cA : Cfg} {nvs : Value} {ksu bk kp bu u0 u1 u2 c0 c1 c2 c3 c4 c5 c6 s0 t00 t01 t02 s1 t10 t11 t12 s2 t20 t21 t22 s3 t30 t31 t32 b0 b01 b02 b1 b11 b12 : Nat} {cd cb tr un md wr : Int} {bl kn : Bool} {cD : Cfg} {dnv : Value} {rsu rk rkp rbu d0 d1 d2 d3 d4 d5 d6 w0 v00 v01 v02 w1 v10 v11 v12 w2 v20 v21 v22 w3 v30 v31 v32 rb0 rb1 : Nat} {rd rbb rmd rwr x0 x1 x2 x3 x4 x5 x6 x7 l0 h0 l1 h1 : Int} {rbl rkn : Bool} {xb : Nat → Bool} (hd : 1 ≤ cd) : Ctr Tryz.prog 7 9 [pP ksu, pP rsu] [(ksu, .cells (cA.cells ++ [nvs, pP bk, .bool false, .bool false, .bool false, .bool false, I64 0, .bool false, .int .u8 0, pP c0, pP c1, pP c2, pP c3, pP c4, pP c5, pP c6, pP bu, pP s0, pP s1, pP s2, pP s3, pP b0, pP b1, pP kp, I64 0, I64 0, I64 md, .int .u32 wr, .bool bl, I64 0, I64 0, I64 0, I64 0, I64 0, I64 0]) 82), (c0, obp310 cd cb (xb 0) (xb 7)), (c1, obp310 cd cb (xb 1) (xb 8)), (c2, obp310 cd cb (xb 2) (xb 9)), (c3, obp310 cd cb (xb 3) (xb 10)), (c4, obp310 cd cb (xb 4) (xb 11)), (c5, obp310 cd cb (xb 5) (xb 12)), (c6, obp310 cd cb (xb 6) (xb 13)), (bu, .cells [I64 tr, pP u0, pP u1, pP u2] 155), (u0, obp311 un (xb 14)), (u1, obp311 un (xb 15)), (u2, obp311 un (xb 16)), (s0, obp312 cA t00 t01 t02 (xb 17)), (s1, obp312 cA t10 t11 t12 (xb 18)), (s2, obp312 cA t20 t21 t22 (xb 19)), (s3, obp312 cA t30 t31 t32 (xb 20)), (b0, obp313 cA b01 b02 kn l0 h0), (b1, obp313 cA b11 b12 kn l1 h1), (rsu, .cells (cD.cells ++ [dnv, pP rk, .bool false, .bool false, .bool false, .bool false, I64 0, .bool false, .int .u8 0, pP d0, pP d1, pP d2, pP d3, pP d4, pP d5, pP d6, pP rbu, pP w0, pP w1, pP w2, pP w3, pP rb0, pP rb1, pP rkp, I64 0, I64 0, I64 rmd, .bool rbl, .int .u32 rwr, I64 0, I64 0, I64 0, I64 0, I64 0, I64 0]) 113), (d0, obp314 rd rbb (xb 0) (xb 7)), (d1, obp314 rd rbb (xb 1) (xb 8)), (d2, obp314 rd rbb (xb 2) (xb 9)), (d3, obp314 rd rbb (xb 3) (xb 10)), (d4, obp314 rd rbb (xb 4) (xb 11)), (d5, obp314 rd rbb (xb 5) (xb 12)), (d6, obp314 rd rbb (xb 6) (xb 13)), (rbu, .cells (cD.cells ++ [I64 0, I64 0, I64 0, .bool (xb 14), .bool (xb 15), .bool (xb 16)]) 100), (w0, obp315 cD v00 v01 v02 (xb 17)), (w1, obp315 cD v10 v11 v12 (xb 18)), (w2, obp315 cD v20 v21 v22 (xb 19)), (w3, obp315 cD v30 v31 v32 (xb 20)), (rb0, obp316 cD x0 x1 x2 x3 l0 h0 rkn), (rb1, obp316 cD x4 x5 x6 x7 l1 h1 rkn)] (.bool true) [.cells (cA.cells ++ [nvs, pP bk, .bool false, .bool false, .bool false, .bool false, I64 0, .bool false, .int .u8 0, pP c0, pP c1, pP c2, pP c3, pP c4, pP c5, pP c6, pP bu, pP s0, pP s1, pP s2, pP s3, pP b0, pP b1, pP kp, I64 0, I64 0, I64 md, .int .u32 wr, .bool bl, I64 0, I64 0, I64 0, I64 0, I64 0, I64 0]) 82, obp310 cd cb (xb 0) (xb 7), obp310 cd cb (xb 1) (xb 8), obp310 cd cb (xb 2) (xb 9), obp310 cd cb (xb 3) (xb 10), obp310 cd cb (xb 4) (xb 11), obp310 cd cb (xb 5) (xb 12), obp310 cd cb (xb 6) (xb 13), .cells [I64 tr, pP u0, pP u1, pP u2] 155, obp311 un (xb 14), obp311 un (xb 15), obp311 un (xb 16), obp312 cA t00 t01 t02 (xb 17), obp312 cA t10 t11 t12 (xb 18), obp312 cA t20 t21 t22 (xb 19), obp312 cA t30 t31 t32 (xb 20), obp313 cA b01 b02 kn l0 h0, obp313 cA b11 b12 kn l1 h1, .cells (cD.cells ++ [dnv, pP rk, .bool false, .bool false, .bool false, .bool false, I64 0, .bool false, .int .u8 0, pP d0, pP d1, pP d2, pP d3, pP d4, pP d5, pP d6, pP rbu, pP w0, pP w1, pP w2, pP w3, pP rb0, pP rb1, pP rkp, I64 0, I64 0, I64 rmd, .bool rbl, .int .u32 rwr, I64 0, I64 0, I64 0, I64 0, I64 0, I64 0]) 113, obp314 rd rbb (xb 0) (xb 7), obp314 rd rbb (xb 1) (xb 8), obp314 rd rbb (xb 2) (xb 9), obp314 rd rbb (xb 3) (xb 10), obp314 rd rbb (xb 4) (xb 11), obp314 rd rbb (xb 5) (xb 12), obp314 rd rbb (xb 6) (xb 13), .cells (cD.cells ++ [I64 0, I64 0, I64 0, .bool (xb 14), .bool (xb 15), .bool (xb 16)]) 100, obp315 cD v00 v01 v02 (xb 17), obp315 cD v10 v11 v12 (xb 18), obp315 cD v20 v21 v22 (xb 19), obp315 cD v30 v31 v32 (xb 20), obp316 cD x0 x1 x2 x3 l0 h0 rkn, obp316 cD x4 x5 x6 x7 l1 h1 rkn] := by
  refine Ctr.by layOk Tryz.func9 Tryz.ntmps9 rfl rfl rfl rfl rfl ?_
  repeat' (first
    | ((first | (with_reducible apply gQ0) | ((with_reducible apply gQ1); exact wt_)); (first | (apply q_idxPN (m := 0) layOk; (iterate 4 apply Eq.refl); (focus (decide)); (focus (decide))) | (apply q_idxPN (m := 1) layOk; (iterate 4 apply Eq.refl); (focus (decide)); (focus (decide))) | (apply q_move; apply Eq.refl) | (apply q_assign; apply Eq.refl) | (apply q_int; (iterate 3 apply Eq.refl)) | (apply q_nilCheck; apply Eq.refl) | (apply q_fa layOk; (iterate 5 apply Eq.refl)) | (apply q_load layOk; (iterate 3 apply Eq.refl); exact lk_; apply Eq.refl) | (apply q_loadr layOk; (iterate 3 apply Eq.refl); exact lk_; apply Eq.refl) | (apply q_pick_t; apply Eq.refl; apply Eq.refl) | (apply q_load layOk; (iterate 3 apply Eq.refl); exact lk_; apply Eq.refl) | (refine q_callR rfl (@sup_Told cA nvs ksu bk kp bu u0 u1 u2 c0 c1 c2 c3 c4 c5 c6 s0 t00 t01 t02 s1 t10 t11 t12 s2 t20 t21 t22 s3 t30 t31 t32 b0 b01 b02 b1 b11 b12 cd cb tr un md wr l0 h0 l1 h1 bl kn xb) rfl fd_ (by decide) ?_) | (refine q_callR rfl (@sup_Maybe cA nvs ksu bk kp bu u0 u1 u2 c0 c1 c2 c3 c4 c5 c6 s0 t00 t01 t02 s1 t10 t11 t12 s2 t20 t21 t22 s3 t30 t31 t32 b0 b01 b02 b1 b11 b12 cd cb tr un md wr l0 h0 l1 h1 bl kn xb hd) rfl fd_ (by decide) ?_) | (refine q_callR rfl (@ref_Maybe cD dnv rsu rk rkp rbu d0 d1 d2 d3 d4 d5 d6 w0 v00 v01 v02 w1 v10 v11 v12 w2 v20 v21 v22 w3 v30 v31 v32 rb0 rb1 rd rbb rmd rwr x0 x1 x2 x3 x4 x5 x6 x7 l0 h0 l1 h1 rbl rkn xb) rfl fd_ (by decide) ?_) | (refine q_callR rfl (@sup_Charge0 cA nvs ksu bk kp bu u0 u1 u2 c0 c1 c2 c3 c4 c5 c6 s0 t00 t01 t02 s1 t10 t11 t12 s2 t20 t21 t22 s3 t30 t31 t32 b0 b01 b02 b1 b11 b12 cd cb tr un md wr l0 h0 l1 h1 bl kn xb) rfl fd_ (by decide) ?_) | (refine q_callR rfl (@sup_Charge1 cA nvs ksu bk kp bu u0 u1 u2 c0 c1 c2 c3 c4 c5 c6 s0 t00 t01 t02 s1 t10 t11 t12 s2 t20 t21 t22 s3 t30 t31 t32 b0 b01 b02 b1 b11 b12 cd cb tr un md wr l0 h0 l1 h1 bl kn xb) rfl fd_ (by decide) ?_) | (refine q_callR rfl (@sup_Cycles cA nvs ksu bk kp bu u0 u1 u2 c0 c1 c2 c3 c4 c5 c6 s0 t00 t01 t02 s1 t10 t11 t12 s2 t20 t21 t22 s3 t30 t31 t32 b0 b01 b02 b1 b11 b12 cd cb tr un md wr l0 h0 l1 h1 bl kn xb) rfl fd_ (by decide) ?_) | (refine q_callR rfl (@sup_Locks cA nvs ksu bk kp bu u0 u1 u2 c0 c1 c2 c3 c4 c5 c6 s0 t00 t01 t02 s1 t10 t11 t12 s2 t20 t21 t22 s3 t30 t31 t32 b0 b01 b02 b1 b11 b12 cd cb tr un md wr l0 h0 l1 h1 bl kn xb) rfl fd_ (by decide) ?_) | (refine q_callR rfl (@ref_Locks cD dnv rsu rk rkp rbu d0 d1 d2 d3 d4 d5 d6 w0 v00 v01 v02 w1 v10 v11 v12 w2 v20 v21 v22 w3 v30 v31 v32 rb0 rb1 rd rbb rmd rwr x0 x1 x2 x3 x4 x5 x6 x7 l0 h0 l1 h1 rbl rkn xb) rfl fd_ (by decide) ?_) | (refine q_callR rfl (@sup_Act cA nvs ksu bk kp bu u0 u1 u2 c0 c1 c2 c3 c4 c5 c6 s0 t00 t01 t02 s1 t10 t11 t12 s2 t20 t21 t22 s3 t30 t31 t32 b0 b01 b02 b1 b11 b12 cd cb tr un md wr l0 h0 l1 h1 bl kn xb) rfl fd_ (by decide) ?_) | (refine q_callR rfl (@ref_Act cD dnv rsu rk rkp rbu d0 d1 d2 d3 d4 d5 d6 w0 v00 v01 v02 w1 v10 v11 v12 w2 v20 v21 v22 w3 v30 v31 v32 rb0 rb1 rd rbb rmd rwr x0 x1 x2 x3 x4 x5 x6 x7 l0 h0 l1 h1 rbl rkn xb) rfl fd_ (by decide) ?_) | (apply isF (f := 46); (refine q_call0 rfl (same_span _ _) ?_)) | (apply isF (f := 51); (refine q_call0 rfl (same_nil ()) ?_))))
    | ((with_reducible apply gR); (first | refine RK.peelN rfl ?_ | refine RK.donef rfl ⟨_, rfl, ?_⟩ | refine RK.donet rfl (by kernel_rfl) ⟨_, rfl, ?_⟩))
    | ((with_reducible apply gQv); focus exact wf_)
    | ((with_reducible apply gK); (fail_if_success ((apply gM); (iterate 3 apply Eq.refl))); ((first | (apply gsD; (iterate 4 apply Eq.refl)) | (apply RKo.gsplit; (iterate 4 apply Eq.refl))) <;> (intro hc; (first | with_reducible exact ff hc | exact absurd hc (by decide) | exact absurd rfl hc | skip))))
    | ((with_reducible apply gW); (first | with_reducible apply WP.seq | refine WP.reg mixed (fun ks => _) (fun ks => rfl) (fun ks => ?_) | apply WP.ret))
    | (with_reducible apply thn_n)
    | (refine Endz.mk' en_ rv_ (by rfl) sb_))
end Go.Proofs.YtekcchmnncefhaaGreatDoor
namespace Go.Proofs.YtekcchmnncefhaaGreatDoor
open Go Go.Proofs.YtekcchmnncefhaaGreatDoorAB
set_option linter.unusedSimpArgs false
set_option linter.unusedVariables false
set_option maxRecDepth 40000
theorem take_at : ∀ (n : Nat) (l : List Value) (B : Nat → Int), (∀ i, i < n → l[i]? = some (.int .u8 (B i))) → takeO n l = some ((List.range n).map fun i => .int .u8 (B i))
  | 0, _, _, _ => rfl
  | n + 1, [], _, h => by have := h 0 (by omega); simp at this
  | n + 1, x :: l, B, h => by
    have h0 := h 0 (by omega)
    simp at h0
    have ih := take_at n l (fun i => B (i + 1)) (fun i hi => by have := h (i + 1) (by omega); simpa using this)
    simp only [takeO, ih, h0]
    rw [List.range_succ_eq_map]
    simp [Function.comp_def]
theorem seg_at : ∀ (o n : Nat) (l : List Value) (B : Nat → Int), 0 < n → (∀ i, i < n → l[o + i]? = some (.int .u8 (B i))) → segO l o n = some ((List.range n).map fun i => .int .u8 (B i))
  | 0, n, l, B, _, h => by
    have := take_at n l B (fun i hi => by have := h i hi; rwa [Nat.zero_add] at this)
    cases l <;> exact this
  | o + 1, n, [], B, hn, h => by have := h 0 hn; simp at this
  | o + 1, n, x :: l, B, hn, h => by
    show segO l o n = _
    exact seg_at o n l B hn (fun i hi => by have := h i hi; rw [show o + 1 + i = (o + i) + 1 by omega] at this; simpa using this)
theorem Bt.seg88 {ob : AObj} {f : Nat} {B : Nat → Int} (bt : Bt ob f 88 B) : ob.seg f (88 * 1) = some ((List.range 88).map fun i => .int .u8 (B i)) := by
  have h := bt.a
  cases ob with
  | cells cs ty => exact seg_at f 88 cs B (by decide) (fun i hi => by have := h i hi; rwa [Nat.mul_one] at this)
  | row cs ty sz => exact seg_at f 88 cs B (by decide) (fun i hi => by have := h i hi; rwa [Nat.mul_one] at this)
  | ro off cs =>
    have h0 := h 0 (by decide)
    have hle : off ≤ f := by
      by_cases hx : off ≤ f
      · exact hx
      · have : (AObj.ro off cs).at (f + 0 * 1) = none := if_neg (by omega)
        rw [this] at h0; cases h0
    show (if off ≤ f then segO cs (f - off) 88 else none) = _
    rw [if_pos hle]
    refine seg_at (f - off) 88 cs B (by decide) (fun i hi => ?_)
    have h1 := h i hi
    have h2 : (AObj.ro off cs).at (f + i * 1) = cs[f + i * 1 - off]? := if_pos (by omega)
    rw [h2] at h1
    rwa [show f - off + i = f + i * 1 - off by omega]
  | _ => have := h 0 (by decide); cases this
theorem lock0 (k : Nat) : lkB 0 (k : Int) = false := by
  unfold lkB
  rw [Int.zero_fdiv]
  rfl

set_option maxHeartbeats 8000000 in
theorem pair_rec (E O B : Nat → Nat) (hne : ∀ g h : Nat, isE g = true → isE h = true → g ≠ h → (B g, O g) ≠ (B h, O h)) (n m k : Int) {fd nvo : AObj} {U W V Bv : Nat → Int} {ko kf kv fv cap fl fc : Nat} {fa : Option Addr} (h7 : fl ≤ 7) (br : Br fd 0 fl U W V) (hf : 0 < fl → fa = some ⟨kf, 0, none⟩) (hfd : ∀ i, fdOK U W V i) (bt : Bt nvo fv 88 Bv) (h88 : 88 ≤ cap) (hr : isRec Bv ∨ isRec (fun i => Bv (44 + i))) : ∀ (kb ke kn kc1 kc2 kc3 bk bm bu u0 u1 u2 kp kq ksu c0 c1 c2 c3 c4 c5 c6 s0 t00 t01 t02 s1 t10 t11 t12 s2 t20 t21 t22 s3 t30 t31 t32 b0 b01 b02 b1 b11 b12 : Nat), (∃ (fa2 : Option Addr) (fc2 : Nat) (oo2 : AObj), Ctr Tryz.prog 7 20 [.slice fa fl fc] [(kf, fd), (kc2, .gone)] (.slice fa2 fl fc2) [fd, oo2]) → ∃ (x_kb x_ke x_kn x_kc1 x_kc2 x_kc3 x_bk x_bm x_bu x_u0 x_u1 x_u2 x_kp x_kq x_ksu x_c0 x_c1 x_c2 x_c3 x_c4 x_c5 x_c6 x_s0 x_t00 x_t01 x_t02 x_s1 x_t10 x_t11 x_t12 x_s2 x_t20 x_t21 x_t22 x_s3 x_t30 x_t31 x_t32 x_b0 x_b01 x_b02 x_b1 x_b11 x_b12 : AObj), (x_bu ≠ .gone ∧ x_u0 ≠ .gone ∧ x_u1 ≠ .gone ∧ x_u2 ≠ .gone ∧ x_ksu ≠ .gone ∧ x_c0 ≠ .gone ∧ x_c1 ≠ .gone ∧ x_c2 ≠ .gone ∧ x_c3 ≠ .gone ∧ x_c4 ≠ .gone ∧ x_c5 ≠ .gone ∧ x_c6 ≠ .gone ∧ x_s0 ≠ .gone ∧ x_s1 ≠ .gone ∧ x_s2 ≠ .gone ∧ x_s3 ≠ .gone ∧ x_b0 ≠ .gone ∧ x_b1 ≠ .gone) ∧ Ctr Tryz.prog 7 6 [.agg ⟨(cfgOf n m k (some ⟨ko, 0, none⟩) fa fl fc).cells⟩, .slice (some ⟨kv, fv, none⟩) 88 cap] [(ko, .cells ocv 55), (kf, fd), (kv, nvo), (0, .ro 0 [(errG E O 0)]), (1, .ro 0 [(errG E O 1)]), (2, .ro 0 [(errG E O 2)]), (3, .ro 0 [(errG E O 3)]), (4, .ro 0 [(errG E O 4)]), (5, .ro 0 [(errG E O 5)]), (6, .ro 0 [(errG E O 6)]), (kb, .gone), (ke, .gone), (kn, .gone), (kc1, .gone), (kc2, .gone), (kc3, .gone), (bk, .gone), (bm, .gone), (bu, .gone), (u0, .gone), (u1, .gone), (u2, .gone), (kp, .gone), (kq, .gone), (ksu, .gone), (c0, .gone), (c1, .gone), (c2, .gone), (c3, .gone), (c4, .gone), (c5, .gone), (c6, .gone), (s0, .gone), (t00, .gone), (t01, .gone), (t02, .gone), (s1, .gone), (t10, .gone), (t11, .gone), (t12, .gone), (s2, .gone), (t20, .gone), (t21, .gone), (t22, .gone), (s3, .gone), (t30, .gone), (t31, .gone), (t32, .gone), (b0, .gone), (b01, .gone), (b02, .gone), (b1, .gone), (b11, .gone), (b12, .gone), (E 0, .mark (B 0)), (E 1, .mark (B 1)), (E 3, .mark (B 3))] (.tuple #[pP ksu, .nilIface]) [.cells ocv 55, fd, nvo, .ro 0 [(errG E O 0)], .ro 0 [(errG E O 1)], .ro 0 [(errG E O 2)], .ro 0 [(errG E O 3)], .ro 0 [(errG E O 4)], .ro 0 [(errG E O 5)], .ro 0 [(errG E O 6)], x_kb, x_ke, x_kn, x_kc1, x_kc2, x_kc3, x_bk, x_bm, x_bu, x_u0, x_u1, x_u2, x_kp, x_kq, x_ksu, x_c0, x_c1, x_c2, x_c3, x_c4, x_c5, x_c6, x_s0, x_t00, x_t01, x_t02, x_s1, x_t10, x_t11, x_t12, x_s2, x_t20, x_t21, x_t22, x_s3, x_t30, x_t31, x_t32, x_b0, x_b01, x_b02, x_b1, x_b11, x_b12, .mark (B 0), .mark (B 1), .mark (B 3)] ∧ (Ctr Tryz.prog 7 13 [pP ksu] [(ksu, x_ksu), (c0, x_c0), (c1, x_c1), (c2, x_c2), (c3, x_c3), (c4, x_c4), (c5, x_c5), (c6, x_c6)] (I64 127) [x_ksu, x_c0, x_c1, x_c2, x_c3, x_c4, x_c5, x_c6] ∧ Ctr Tryz.prog 7 14 [pP ksu] [(ksu, x_ksu)] (I64 0) [x_ksu]) ∧ ∀ (rk rbu rkp rnv rsu d0 d1 d2 d3 d4 d5 d6 w0 v00 v01 v02 w1 v10 v11 v12 w2 v20 v21 v22 w3 v30 v31 v32 rb0 rb1 : Nat), ∃ (y_rk y_rbu y_rkp y_rnv y_rsu y_d0 y_d1 y_d2 y_d3 y_d4 y_d5 y_d6 y_w0 y_v00 y_v01 y_v02 y_w1 y_v10 y_v11 y_v12 y_w2 y_v20 y_v21 y_v22 y_w3 y_v30 y_v31 y_v32 y_rb0 y_rb1 : AObj), (y_rbu ≠ .gone ∧ y_rsu ≠ .gone ∧ y_d0 ≠ .gone ∧ y_d1 ≠ .gone ∧ y_d2 ≠ .gone ∧ y_d3 ≠ .gone ∧ y_d4 ≠ .gone ∧ y_d5 ≠ .gone ∧ y_d6 ≠ .gone ∧ y_w0 ≠ .gone ∧ y_w1 ≠ .gone ∧ y_w2 ≠ .gone ∧ y_w3 ≠ .gone ∧ y_rb0 ≠ .gone ∧ y_rb1 ≠ .gone) ∧ Ctr Tryz.prog 7 7 [.agg ⟨(cfgOf n m k (some ⟨ko, 0, none⟩) fa fl fc).cells⟩, .slice (some ⟨kv, fv, none⟩) 88 cap] [(ko, .cells ocv 55), (kf, fd), (kv, nvo), (rk, .gone), (rbu, .gone), (rkp, .gone), (rnv, .gone), (rsu, .gone), (d0, .gone), (d1, .gone), (d2, .gone), (d3, .gone), (d4, .gone), (d5, .gone), (d6, .gone), (w0, .gone), (v00, .gone), (v01, .gone), (v02, .gone), (w1, .gone), (v10, .gone), (v11, .gone), (v12, .gone), (w2, .gone), (v20, .gone), (v21, .gone), (v22, .gone), (w3, .gone), (v30, .gone), (v31, .gone), (v32, .gone), (rb0, .gone), (rb1, .gone)] (.tuple #[pP rsu, .agg #[I64 0, .bool false, I64 0]]) [.cells ocv 55, fd, nvo, y_rk, y_rbu, y_rkp, y_rnv, y_rsu, y_d0, y_d1, y_d2, y_d3, y_d4, y_d5, y_d6, y_w0, y_v00, y_v01, y_v02, y_w1, y_v10, y_v11, y_v12, y_w2, y_v20, y_v21, y_v22, y_w3, y_v30, y_v31, y_v32, y_rb0, y_rb1] ∧ Ctr Tryz.prog 7 9 [pP ksu, pP rsu] [(ksu, x_ksu), (c0, x_c0), (c1, x_c1), (c2, x_c2), (c3, x_c3), (c4, x_c4), (c5, x_c5), (c6, x_c6), (bu, x_bu), (u0, x_u0), (u1, x_u1), (u2, x_u2), (s0, x_s0), (s1, x_s1), (s2, x_s2), (s3, x_s3), (b0, x_b0), (b1, x_b1), (rsu, y_rsu), (d0, y_d0), (d1, y_d1), (d2, y_d2), (d3, y_d3), (d4, y_d4), (d5, y_d5), (d6, y_d6), (rbu, y_rbu), (w0, y_w0), (w1, y_w1), (w2, y_w2), (w3, y_w3), (rb0, y_rb0), (rb1, y_rb1)] (.bool true) [x_ksu, x_c0, x_c1, x_c2, x_c3, x_c4, x_c5, x_c6, x_bu, x_u0, x_u1, x_u2, x_s0, x_s1, x_s2, x_s3, x_b0, x_b1, y_rsu, y_d0, y_d1, y_d2, y_d3, y_d4, y_d5, y_d6, y_rbu, y_w0, y_w1, y_w2, y_w3, y_rb0, y_rb1] := by
  have rc := mem_rec E O bt h88 hr (kv := kv)
  intro kb ke kn kc1 kc2 kc3 bk bm bu u0 u1 u2 kp kq ksu c0 c1 c2 c3 c4 c5 c6 s0 t00 t01 t02 s1 t10 t11 t12 s2 t20 t21 t22 s3 t30 t31 t32 b0 b01 b02 b1 b11 b12 cp2
  obtain ⟨fa2, fc2, oo2, cq2⟩ := cp2
  obtain ⟨⟨o1, o2, o3, am⟩, cc⟩ := made_ok E O B n m k ko kf h7 br hf hfd kb ke kn
  have cp1 := clone_pts (ob := .cells ocv 55) (vs := ocv) (k := ko) (f := 0) (n := 4) (cap := 4) kc1 (by decide) (by decide) rfl
  have cp3 := clone_bts (ob := nvo) (k := kv) (f := fv) (n := 88) (cap := cap) kc3 (by decide) (by decide) bt.seg88
  have rby := fun rnv => ref_Bytes bt (cap := cap) (k := kv) (a := some ⟨kv, fv, none⟩) (fun _ => rfl) (by decide) rnv
  obtain ⟨i1, i2, i3, i4, i5, i6, i7, i8⟩ := made_in n m k (some ⟨ko, 0, none⟩) fa fl fc
  obtain ⟨sq, md, lk, q1, q2, q3, q4, ⟨⟨a1, a2, a3⟩, a4, a5, a6⟩, rc1, rc2⟩ := rc
  have sn := super_New_rec E O B (cfgOf n m k (some ⟨ko, 0, none⟩) fa fl fc) (.cells ocv 55) fd nvo o1 o2 o3 _ oo2 _ ko kf kv fv cap 0 fa2 fc2 kb ke kn kc1 kc2 kc3 bk bm bu u0 u1 u2 kp kq ksu c0 c1 c2 c3 c4 c5 c6 s0 t00 t01 t02 s1 t10 t11 t12 s2 t20 t21 t22 s3 t30 t31 t32 b0 b01 b02 b1 b11 b12 am (by decide) sq md lk q1 q2 q3 q4 rc1 cp1 cq2 cp3 (by show fl ≤ 1000; omega) (fun k => lkB lk (k : Int)) (fun kr k => lock_ kr sq md lk q1 q2 q3 q4 (k : Int) (by omega))
  have sn := sn.more (E 0, .mark (B 0))
  have sn := sn.more (E 1, .mark (B 1))
  have sn := sn.more (E 3, .mark (B 3))
  have rn := fun (rk rbu rkp rnv rsu d0 d1 d2 d3 d4 d5 d6 w0 v00 v01 v02 w1 v10 v11 v12 w2 v20 v21 v22 w3 v30 v31 v32 rb0 rb1 : Nat) => ref_New_rec (cfgOf n m k (some ⟨ko, 0, none⟩) fa fl fc) (.cells ocv 55) fd nvo _ ko kf kv fv cap 0 rk rbu rkp rnv rsu d0 d1 d2 d3 d4 d5 d6 w0 v00 v01 v02 w1 v10 v11 v12 w2 v20 v21 v22 w3 v30 v31 v32 rb0 rb1 (by decide) cc sq md lk q1 q2 q3 q4 rc2 (rby rnv)
  have hI : (cfgOf n m k (some ⟨ko, 0, none⟩) fa fl fc).Imax = 500 := rfl
  have hC : (cfgOf n m k (some ⟨ko, 0, none⟩) fa fl fc).Cap = 100000 := rfl
  have hL : 0 ≤ (IntKind.i64.wrap (IntKind.i64.wrap ((cfgOf n m k (some ⟨ko, 0, none⟩) fa fl fc).P + (cfgOf n m k (some ⟨ko, 0, none⟩) fa fl fc).B) * (cfgOf n m k (some ⟨ko, 0, none⟩) fa fl fc).Imax)) ∧ (IntKind.i64.wrap (IntKind.i64.wrap ((cfgOf n m k (some ⟨ko, 0, none⟩) fa fl fc).P + (cfgOf n m k (some ⟨ko, 0, none⟩) fa fl fc).B) * (cfgOf n m k (some ⟨ko, 0, none⟩) fa fl fc).Imax)) ≤ 1000000000 := by
    rw [hI, wrap_in (x := (cfgOf n m k (some ⟨ko, 0, none⟩) fa fl fc).P + (cfgOf n m k (some ⟨ko, 0, none⟩) fa fl fc).B) (by omega) (by omega), wrap_in (by omega) (by omega)]; omega
  refine ⟨_, _, _, _, _, _, _, _, _, _, _, _, _, _, _, _, _, _, _, _, _, _, _, _, _, _, _, _, _, _, _, _, _, _, _, _, _, _, _, _, _, _, _, _, ?_, sn, ⟨@sup_Maybe _ _ _ _ _ _ 0 0 0 _ _ _ _ _ _ _ _ 0 0 0 _ 0 0 0 _ 0 0 0 _ 0 0 0 _ 0 0 _ 0 0 _ _ 0 0 _ _ 0 0 0 0 _ false (fun k => lkB lk (k : Int)) (cut_pos _), @sup_Told _ _ _ _ _ _ 0 0 0 _ _ _ _ _ _ _ _ 0 0 0 _ 0 0 0 _ 0 0 0 _ 0 0 0 _ 0 0 _ 0 0 0 0 0 0 _ _ 0 0 0 0 _ false (fun k => lkB lk (k : Int)) ⟩, fun rk rbu rkp rnv rsu d0 d1 d2 d3 d4 d5 d6 w0 v00 v01 v02 w1 v10 v11 v12 w2 v20 v21 v22 w3 v30 v31 v32 rb0 rb1 => ?_⟩
  · exact ⟨(fun h => by cases h), (fun h => by cases h), (fun h => by cases h), (fun h => by cases h), (fun h => by cases h), (fun h => by cases h), (fun h => by cases h), (fun h => by cases h), (fun h => by cases h), (fun h => by cases h), (fun h => by cases h), (fun h => by cases h), (fun h => by cases h), (fun h => by cases h), (fun h => by cases h), (fun h => by cases h), (fun h => by cases h), (fun h => by cases h)⟩
  have rn := rn rk rbu rkp rnv rsu d0 d1 d2 d3 d4 d5 d6 w0 v00 v01 v02 w1 v10 v11 v12 w2 v20 v21 v22 w3 v30 v31 v32 rb0 rb1
  rw [lo_same (q := q1) a1 (by omega) hL.1 hL.2 (by rw [hC]; decide) (by rw [hC]; decide), hi_same (q := q2) (by omega) a3 hL.1 hL.2 (by rw [hC]; decide) (by rw [hC]; decide), lo_same (q := q3) a4 (by omega) hL.1 hL.2 (by rw [hC]; decide) (by rw [hC]; decide), hi_same (q := q4) (by omega) a6 hL.1 hL.2 (by rw [hC]; decide) (by rw [hC]; decide)] at rn
  exact ⟨_, _, _, _, _, _, _, _, _, _, _, _, _, _, _, _, _, _, _, _, _, _, _, _, _, _, _, _, _, _, ⟨(fun h => by cases h), (fun h => by cases h), (fun h => by cases h), (fun h => by cases h), (fun h => by cases h), (fun h => by cases h), (fun h => by cases h), (fun h => by cases h), (fun h => by cases h), (fun h => by cases h), (fun h => by cases h), (fun h => by cases h), (fun h => by cases h), (fun h => by cases h), (fun h => by cases h)⟩, rn, alike_ (xb := fun k => lkB lk (k : Int)) (cut_pos _)⟩

set_option maxHeartbeats 8000000 in
theorem pair_blank (E O B : Nat → Nat) (hne : ∀ g h : Nat, isE g = true → isE h = true → g ≠ h → (B g, O g) ≠ (B h, O h)) (n m k : Int) {fd nvo : AObj} {U W V Bv : Nat → Int} {ko kf kv fv cap fl fc : Nat} {fa : Option Addr} (h7 : fl ≤ 7) (br : Br fd 0 fl U W V) (hf : 0 < fl → fa = some ⟨kf, 0, none⟩) (hfd : ∀ i, fdOK U W V i) (bt : Bt nvo fv 88 Bv) (h88 : 88 ≤ cap) (hr : ¬ isRec Bv) (hr2 : ¬ isRec (fun i => Bv (44 + i))) : ∀ (kb ke kn kc1 kc2 kc3 bk bm bu u0 u1 u2 kp kq ksu c0 c1 c2 c3 c4 c5 c6 s0 t00 t01 t02 s1 t10 t11 t12 s2 t20 t21 t22 s3 t30 t31 t32 b0 b01 b02 b1 b11 b12 : Nat), (∃ (fa2 : Option Addr) (fc2 : Nat) (oo2 : AObj), Ctr Tryz.prog 7 20 [.slice fa fl fc] [(kf, fd), (kc2, .gone)] (.slice fa2 fl fc2) [fd, oo2]) → ∃ (x_kb x_ke x_kn x_kc1 x_kc2 x_kc3 x_bk x_bm x_bu x_u0 x_u1 x_u2 x_kp x_kq x_ksu x_c0 x_c1 x_c2 x_c3 x_c4 x_c5 x_c6 x_s0 x_t00 x_t01 x_t02 x_s1 x_t10 x_t11 x_t12 x_s2 x_t20 x_t21 x_t22 x_s3 x_t30 x_t31 x_t32 x_b0 x_b01 x_b02 x_b1 x_b11 x_b12 : AObj), (x_bu ≠ .gone ∧ x_u0 ≠ .gone ∧ x_u1 ≠ .gone ∧ x_u2 ≠ .gone ∧ x_ksu ≠ .gone ∧ x_c0 ≠ .gone ∧ x_c1 ≠ .gone ∧ x_c2 ≠ .gone ∧ x_c3 ≠ .gone ∧ x_c4 ≠ .gone ∧ x_c5 ≠ .gone ∧ x_c6 ≠ .gone ∧ x_s0 ≠ .gone ∧ x_s1 ≠ .gone ∧ x_s2 ≠ .gone ∧ x_s3 ≠ .gone ∧ x_b0 ≠ .gone ∧ x_b1 ≠ .gone) ∧ Ctr Tryz.prog 7 6 [.agg ⟨(cfgOf n m k (some ⟨ko, 0, none⟩) fa fl fc).cells⟩, .slice (some ⟨kv, fv, none⟩) 88 cap] [(ko, .cells ocv 55), (kf, fd), (kv, nvo), (0, .ro 0 [(errG E O 0)]), (1, .ro 0 [(errG E O 1)]), (2, .ro 0 [(errG E O 2)]), (3, .ro 0 [(errG E O 3)]), (4, .ro 0 [(errG E O 4)]), (5, .ro 0 [(errG E O 5)]), (6, .ro 0 [(errG E O 6)]), (kb, .gone), (ke, .gone), (kn, .gone), (kc1, .gone), (kc2, .gone), (kc3, .gone), (bk, .gone), (bm, .gone), (bu, .gone), (u0, .gone), (u1, .gone), (u2, .gone), (kp, .gone), (kq, .gone), (ksu, .gone), (c0, .gone), (c1, .gone), (c2, .gone), (c3, .gone), (c4, .gone), (c5, .gone), (c6, .gone), (s0, .gone), (t00, .gone), (t01, .gone), (t02, .gone), (s1, .gone), (t10, .gone), (t11, .gone), (t12, .gone), (s2, .gone), (t20, .gone), (t21, .gone), (t22, .gone), (s3, .gone), (t30, .gone), (t31, .gone), (t32, .gone), (b0, .gone), (b01, .gone), (b02, .gone), (b1, .gone), (b11, .gone), (b12, .gone), (E 0, .mark (B 0)), (E 1, .mark (B 1)), (E 3, .mark (B 3))] (.tuple #[pP ksu, .nilIface]) [.cells ocv 55, fd, nvo, .ro 0 [(errG E O 0)], .ro 0 [(errG E O 1)], .ro 0 [(errG E O 2)], .ro 0 [(errG E O 3)], .ro 0 [(errG E O 4)], .ro 0 [(errG E O 5)], .ro 0 [(errG E O 6)], x_kb, x_ke, x_kn, x_kc1, x_kc2, x_kc3, x_bk, x_bm, x_bu, x_u0, x_u1, x_u2, x_kp, x_kq, x_ksu, x_c0, x_c1, x_c2, x_c3, x_c4, x_c5, x_c6, x_s0, x_t00, x_t01, x_t02, x_s1, x_t10, x_t11, x_t12, x_s2, x_t20, x_t21, x_t22, x_s3, x_t30, x_t31, x_t32, x_b0, x_b01, x_b02, x_b1, x_b11, x_b12, .mark (B 0), .mark (B 1), .mark (B 3)] ∧ (Ctr Tryz.prog 7 13 [pP ksu] [(ksu, x_ksu), (c0, x_c0), (c1, x_c1), (c2, x_c2), (c3, x_c3), (c4, x_c4), (c5, x_c5), (c6, x_c6)] (I64 127) [x_ksu, x_c0, x_c1, x_c2, x_c3, x_c4, x_c5, x_c6] ∧ Ctr Tryz.prog 7 14 [pP ksu] [(ksu, x_ksu)] (I64 0) [x_ksu]) ∧ ∀ (rk rbu rkp rnv rsu d0 d1 d2 d3 d4 d5 d6 w0 v00 v01 v02 w1 v10 v11 v12 w2 v20 v21 v22 w3 v30 v31 v32 rb0 rb1 : Nat), ∃ (y_rk y_rbu y_rkp y_rnv y_rsu y_d0 y_d1 y_d2 y_d3 y_d4 y_d5 y_d6 y_w0 y_v00 y_v01 y_v02 y_w1 y_v10 y_v11 y_v12 y_w2 y_v20 y_v21 y_v22 y_w3 y_v30 y_v31 y_v32 y_rb0 y_rb1 : AObj), (y_rbu ≠ .gone ∧ y_rsu ≠ .gone ∧ y_d0 ≠ .gone ∧ y_d1 ≠ .gone ∧ y_d2 ≠ .gone ∧ y_d3 ≠ .gone ∧ y_d4 ≠ .gone ∧ y_d5 ≠ .gone ∧ y_d6 ≠ .gone ∧ y_w0 ≠ .gone ∧ y_w1 ≠ .gone ∧ y_w2 ≠ .gone ∧ y_w3 ≠ .gone ∧ y_rb0 ≠ .gone ∧ y_rb1 ≠ .gone) ∧ Ctr Tryz.prog 7 7 [.agg ⟨(cfgOf n m k (some ⟨ko, 0, none⟩) fa fl fc).cells⟩, .slice (some ⟨kv, fv, none⟩) 88 cap] [(ko, .cells ocv 55), (kf, fd), (kv, nvo), (rk, .gone), (rbu, .gone), (rkp, .gone), (rnv, .gone), (rsu, .gone), (d0, .gone), (d1, .gone), (d2, .gone), (d3, .gone), (d4, .gone), (d5, .gone), (d6, .gone), (w0, .gone), (v00, .gone), (v01, .gone), (v02, .gone), (w1, .gone), (v10, .gone), (v11, .gone), (v12, .gone), (w2, .gone), (v20, .gone), (v21, .gone), (v22, .gone), (w3, .gone), (v30, .gone), (v31, .gone), (v32, .gone), (rb0, .gone), (rb1, .gone)] (.tuple #[pP rsu, .agg #[I64 0, .bool false, I64 0]]) [.cells ocv 55, fd, nvo, y_rk, y_rbu, y_rkp, y_rnv, y_rsu, y_d0, y_d1, y_d2, y_d3, y_d4, y_d5, y_d6, y_w0, y_v00, y_v01, y_v02, y_w1, y_v10, y_v11, y_v12, y_w2, y_v20, y_v21, y_v22, y_w3, y_v30, y_v31, y_v32, y_rb0, y_rb1] ∧ Ctr Tryz.prog 7 9 [pP ksu, pP rsu] [(ksu, x_ksu), (c0, x_c0), (c1, x_c1), (c2, x_c2), (c3, x_c3), (c4, x_c4), (c5, x_c5), (c6, x_c6), (bu, x_bu), (u0, x_u0), (u1, x_u1), (u2, x_u2), (s0, x_s0), (s1, x_s1), (s2, x_s2), (s3, x_s3), (b0, x_b0), (b1, x_b1), (rsu, y_rsu), (d0, y_d0), (d1, y_d1), (d2, y_d2), (d3, y_d3), (d4, y_d4), (d5, y_d5), (d6, y_d6), (rbu, y_rbu), (w0, y_w0), (w1, y_w1), (w2, y_w2), (w3, y_w3), (rb0, y_rb0), (rb1, y_rb1)] (.bool true) [x_ksu, x_c0, x_c1, x_c2, x_c3, x_c4, x_c5, x_c6, x_bu, x_u0, x_u1, x_u2, x_s0, x_s1, x_s2, x_s3, x_b0, x_b1, y_rsu, y_d0, y_d1, y_d2, y_d3, y_d4, y_d5, y_d6, y_rbu, y_w0, y_w1, y_w2, y_w3, y_rb0, y_rb1] := by
  have rc := mem_blank E O bt h88 hr hr2 (kv := kv)
  intro kb ke kn kc1 kc2 kc3 bk bm bu u0 u1 u2 kp kq ksu c0 c1 c2 c3 c4 c5 c6 s0 t00 t01 t02 s1 t10 t11 t12 s2 t20 t21 t22 s3 t30 t31 t32 b0 b01 b02 b1 b11 b12 cp2
  obtain ⟨fa2, fc2, oo2, cq2⟩ := cp2
  obtain ⟨⟨o1, o2, o3, am⟩, cc⟩ := made_ok E O B n m k ko kf h7 br hf hfd kb ke kn
  have cp1 := clone_pts (ob := .cells ocv 55) (vs := ocv) (k := ko) (f := 0) (n := 4) (cap := 4) kc1 (by decide) (by decide) rfl
  have cp3 := clone_bts (ob := nvo) (k := kv) (f := fv) (n := 88) (cap := cap) kc3 (by decide) (by decide) bt.seg88
  have rby := fun rnv => ref_Bytes bt (cap := cap) (k := kv) (a := some ⟨kv, fv, none⟩) (fun _ => rfl) (by decide) rnv
  obtain ⟨i1, i2, i3, i4, i5, i6, i7, i8⟩ := made_in n m k (some ⟨ko, 0, none⟩) fa fl fc
  have sn := super_New_blank E O B hne (cfgOf n m k (some ⟨ko, 0, none⟩) fa fl fc) (.cells ocv 55) fd nvo o1 o2 o3 _ oo2 _ ko kf kv fv cap 0 fa2 fc2 kb ke kn kc1 kc2 kc3 bk bm bu u0 u1 u2 kp kq ksu c0 c1 c2 c3 c4 c5 c6 s0 t00 t01 t02 s1 t10 t11 t12 s2 t20 t21 t22 s3 t30 t31 t32 b0 b01 b02 b1 b11 b12 am (by decide) rc.1 cp1 cq2 cp3 (by show fl ≤ 1000; omega) (fun _ => false) (fun kr k => by have h := lock_ kr 0 0 0 0 0 0 0 (k : Int) (by omega); rw [lock0] at h; exact h)
  have rn := fun (rk rbu rkp rnv rsu d0 d1 d2 d3 d4 d5 d6 w0 v00 v01 v02 w1 v10 v11 v12 w2 v20 v21 v22 w3 v30 v31 v32 rb0 rb1 : Nat) => ref_New_blank (cfgOf n m k (some ⟨ko, 0, none⟩) fa fl fc) (.cells ocv 55) fd nvo _ ko kf kv fv cap 0 rk rbu rkp rnv rsu d0 d1 d2 d3 d4 d5 d6 w0 v00 v01 v02 w1 v10 v11 v12 w2 v20 v21 v22 w3 v30 v31 v32 rb0 rb1 (by decide) cc rc.2 (rby rnv)
  refine ⟨_, _, _, _, _, _, _, _, _, _, _, _, _, _, _, _, _, _, _, _, _, _, _, _, _, _, _, _, _, _, _, _, _, _, _, _, _, _, _, _, _, _, _, _, ?_, sn, ⟨@sup_Maybe _ _ _ _ _ _ 0 0 0 _ _ _ _ _ _ _ _ 0 0 0 _ 0 0 0 _ 0 0 0 _ 0 0 0 _ 0 0 _ 0 0 _ _ 0 0 _ _ 0 0 0 0 _ false (fun _ => false) (cut_pos _), @sup_Told _ _ _ _ _ _ 0 0 0 _ _ _ _ _ _ _ _ 0 0 0 _ 0 0 0 _ 0 0 0 _ 0 0 0 _ 0 0 _ 0 0 0 0 0 0 _ _ 0 0 0 0 _ false (fun _ => false) ⟩, fun rk rbu rkp rnv rsu d0 d1 d2 d3 d4 d5 d6 w0 v00 v01 v02 w1 v10 v11 v12 w2 v20 v21 v22 w3 v30 v31 v32 rb0 rb1 => ?_⟩
  · exact ⟨(fun h => by cases h), (fun h => by cases h), (fun h => by cases h), (fun h => by cases h), (fun h => by cases h), (fun h => by cases h), (fun h => by cases h), (fun h => by cases h), (fun h => by cases h), (fun h => by cases h), (fun h => by cases h), (fun h => by cases h), (fun h => by cases h), (fun h => by cases h), (fun h => by cases h), (fun h => by cases h), (fun h => by cases h), (fun h => by cases h)⟩
  have rn := rn rk rbu rkp rnv rsu d0 d1 d2 d3 d4 d5 d6 w0 v00 v01 v02 w1 v10 v11 v12 w2 v20 v21 v22 w3 v30 v31 v32 rb0 rb1
  rw [(blank_same (C := (cfgOf n m k (some ⟨ko, 0, none⟩) fa fl fc).Cap) (show (0 : Int) ≤ 100000 from by decide)).1, (blank_same (C := (cfgOf n m k (some ⟨ko, 0, none⟩) fa fl fc).Cap) (show (0 : Int) ≤ 100000 from by decide)).2] at rn
  exact ⟨_, _, _, _, _, _, _, _, _, _, _, _, _, _, _, _, _, _, _, _, _, _, _, _, _, _, _, _, _, _, ⟨(fun h => by cases h), (fun h => by cases h), (fun h => by cases h), (fun h => by cases h), (fun h => by cases h), (fun h => by cases h), (fun h => by cases h), (fun h => by cases h), (fun h => by cases h), (fun h => by cases h), (fun h => by cases h), (fun h => by cases h), (fun h => by cases h), (fun h => by cases h), (fun h => by cases h)⟩, rn, alike_ (xb := fun _ => false) (cut_pos _)⟩
end Go.Proofs.YtekcchmnncefhaaGreatDoor
namespace Go.Proofs.YtekcchmnncefhaaGreatDoor
open Go Go.Proofs.YtekcchmnncefhaaGreatDoorAB
set_option linter.unusedSimpArgs false
set_option linter.unusedVariables false
set_option maxRecDepth 40000
theorem wk_P28_0 {p : Prop} (h : p := by
  repeat' (first
    | ((first | (with_reducible apply gQ0) | ((with_reducible apply gQ1); exact wt_)); (first | (apply q_box (k := ks _); apply Eq.refl; exact lk_; apply Eq.refl) | (apply q_alloc (k := ks _) layOk; apply Eq.refl; exact lk_; apply Eq.refl) | (apply q_move; apply Eq.refl) | (apply q_assign; apply Eq.refl) | (apply q_int; (iterate 3 apply Eq.refl)) | (apply q_load layOk; (iterate 3 apply Eq.refl); exact lk_; apply Eq.refl) | (apply q_loadr layOk; (iterate 3 apply Eq.refl); exact lk_; apply Eq.refl) | (apply q_build layOk; (iterate 4 apply Eq.refl)) | (apply q_pick_t; apply Eq.refl; apply Eq.refl) | (apply q_pick_f; apply Eq.refl; apply Eq.refl) | (apply q_ifne; (focus (kernel_rfl)); apply Eq.refl) | (apply q_nilne; (focus (kernel_rfl)); apply Eq.refl) | (apply q_extract; apply Eq.refl; apply Eq.refl) | (apply isF (f := 16); (refine q_callW rfl (check_bad E O B c oc fd o1 o2 o3 ko kf kb ke kn ka v am hv) fd_ (by decide) rfl rfl ?_)) | (apply isF (f := 16); (refine q_callW rfl (check_ok E O B c oc fd o1 o2 o3 ko kf kb ke kn 0 v am hv) fd_ (by decide) rfl rfl ?_)) | (apply isF (f := 17); (refine q_callW rfl (recover_short E O hn) fd_ (by decide) rfl rfl ?_)) | (apply isF (f := 18); (refine q_call0 rfl (errIs_same E O 0) ?_)) | (apply isF (f := 17); (refine q_callW rfl (recover_long E O hn) fd_ (by decide) rfl rfl ?_)) | (apply isF (f := 18); (refine q_call0 rfl (errIs_same E O 1) ?_)) | (apply isF (f := 18); (refine q_callR rfl (errIs_ne E O B 1 0 hne) rfl fd_ (by decide) ?_)) | (apply isF (f := 54); (refine q_call0 rfl (ref_len_short hn) ?_)) | (apply isF (f := 54); (refine q_call0 rfl (ref_len_long hn) ?_)) | (refine q_callW rfl (cc) fd_ (by decide) rfl rfl ?_) | (apply isF (f := 12); (refine q_call0 rfl (ref_Placed _ _ (by decide)) ?_)) | (apply isF (f := 34); (refine q_callW rfl (ref_recover_short hn) fd_ (by decide) rfl rfl ?_)) | (apply isF (f := 35); (refine q_call0 rfl (ref_Bare _) ?_)) | (apply isF (f := 34); (refine q_callW rfl (ref_recover_long hn) fd_ (by decide) rfl rfl ?_)) | (apply e_store layOk; (iterate 3 apply Eq.refl); exact lk_; (iterate 5 apply Eq.refl))))
    | ((with_reducible apply gR); (first | refine RK.peelN rfl ?_ | refine RK.donef rfl ⟨_, rfl, ?_⟩))
    | ((with_reducible apply gQv); focus exact wf_)
    | ((with_reducible apply gK); (fail_if_success ((apply gM); (iterate 3 apply Eq.refl))); ((first | (apply gsD; (iterate 4 apply Eq.refl)) | (apply RKo.gsplit; (iterate 4 apply Eq.refl))) <;> (intro hc; (first | with_reducible exact ff hc | with_reducible exact ff' hc | exact absurd hc (by decide) | with_reducible exact absurd hv hc | with_reducible exact absurd hc hv | skip))))
    | ((with_reducible apply gW); (first | with_reducible apply WP.seq | refine WP.reg mixed (fun ks => _) (fun ks => rfl) (fun ks => ?_) | ((first | (apply cdD; apply Eq.refl) | (apply WP.condN; apply Eq.refl) | (apply WP.condA; apply Eq.refl)) <;> (intro hc; (first | with_reducible exact ff hc | with_reducible exact ff' hc | exact absurd hc (by decide) | with_reducible exact absurd hv hc | with_reducible exact absurd hc hv | skip))) | apply WP.ret | apply WP.skip))
    | (first | with_reducible apply thn_n | with_reducible apply thn_r)
    | (refine Endz.mk' en_ rv_ (by rfl) sb_))) : p := h

set_option maxHeartbeats 4000000 in
theorem super_New_bad (E O B : Nat → Nat) (c : Cfg) (oc fd o1 o2 o3 : AObj) (ko kf kb ke kn : Nat) (v : Int) (am : Ctr Tryz.prog 7 59 [.agg ⟨c.cells⟩] [(ko, oc), (kf, fd), (0, .ro 0 [(errG E O 0)]), (1, .ro 0 [(errG E O 1)]), (4, .ro 0 [(errG E O 4)]), (5, .ro 0 [(errG E O 5)]), (kb, .gone), (ke, .gone), (kn, .gone)] (I64 v) [oc, fd, .ro 0 [(errG E O 0)], .ro 0 [(errG E O 1)], .ro 0 [(errG E O 4)], .ro 0 [(errG E O 5)], o1, o2, o3]) (ka : Nat) (nv : Value) (hv : v > 0) : Ctr Tryz.prog 7 6 [.agg ⟨c.cells⟩, nv] [(ko, oc), (kf, fd), (0, .ro 0 [(errG E O 0)]), (1, .ro 0 [(errG E O 1)]), (2, .ro 0 [(errG E O 2)]), (3, .ro 0 [(errG E O 3)]), (4, .ro 0 [(errG E O 4)]), (5, .ro 0 [(errG E O 5)]), (6, .ro 0 [(errG E O 6)]), (kb, .gone), (ke, .gone), (kn, .gone), (ka, .gone)] (.tuple #[.pointer none, .iface 138 (pP ka)]) [oc, fd, .ro 0 [(errG E O 0)], .ro 0 [(errG E O 1)], .ro 0 [(errG E O 2)], .ro 0 [(errG E O 3)], .ro 0 [(errG E O 4)], .ro 0 [(errG E O 5)], .ro 0 [(errG E O 6)], o1, o2, o3, .cells [I64 v, (errG E O 2)] 140] := by
  refine Ctr.by layOk Tryz.func6 Tryz.ntmps6 rfl rfl rfl rfl rfl ?_
  exact wk_P28_0

set_option maxHeartbeats 4000000 in
theorem super_New_short (E O B : Nat → Nat) (c : Cfg) (oc fd o1 o2 o3 : AObj) (ko kf kb ke kn : Nat) (v : Int) (am : Ctr Tryz.prog 7 59 [.agg ⟨c.cells⟩] [(ko, oc), (kf, fd), (0, .ro 0 [(errG E O 0)]), (1, .ro 0 [(errG E O 1)]), (4, .ro 0 [(errG E O 4)]), (5, .ro 0 [(errG E O 5)]), (kb, .gone), (ke, .gone), (kn, .gone)] (I64 v) [oc, fd, .ro 0 [(errG E O 0)], .ro 0 [(errG E O 1)], .ro 0 [(errG E O 4)], .ro 0 [(errG E O 5)], o1, o2, o3]) (hne : (B 1, O 1) ≠ (B 0, O 0)) (n cap : Nat) (a : Option Addr) (hv : ¬ v > 0) (hn : n < 88) : Ctr Tryz.prog 7 6 [.agg ⟨c.cells⟩, .slice a n cap] [(ko, oc), (kf, fd), (0, .ro 0 [(errG E O 0)]), (1, .ro 0 [(errG E O 1)]), (2, .ro 0 [(errG E O 2)]), (3, .ro 0 [(errG E O 3)]), (4, .ro 0 [(errG E O 4)]), (5, .ro 0 [(errG E O 5)]), (6, .ro 0 [(errG E O 6)]), (E 0, .mark (B 0)), (E 1, .mark (B 1)), (kb, .gone), (ke, .gone), (kn, .gone)] (.tuple #[.pointer none, (errG E O 0)]) [oc, fd, .ro 0 [(errG E O 0)], .ro 0 [(errG E O 1)], .ro 0 [(errG E O 2)], .ro 0 [(errG E O 3)], .ro 0 [(errG E O 4)], .ro 0 [(errG E O 5)], .ro 0 [(errG E O 6)], .mark (B 0), .mark (B 1), o1, o2, o3] := by
  refine Ctr.by layOk Tryz.func6 Tryz.ntmps6 rfl rfl rfl rfl rfl ?_
  exact wk_P28_0

set_option maxHeartbeats 4000000 in
theorem super_New_long (E O B : Nat → Nat) (c : Cfg) (oc fd o1 o2 o3 : AObj) (ko kf kb ke kn : Nat) (v : Int) (am : Ctr Tryz.prog 7 59 [.agg ⟨c.cells⟩] [(ko, oc), (kf, fd), (0, .ro 0 [(errG E O 0)]), (1, .ro 0 [(errG E O 1)]), (4, .ro 0 [(errG E O 4)]), (5, .ro 0 [(errG E O 5)]), (kb, .gone), (ke, .gone), (kn, .gone)] (I64 v) [oc, fd, .ro 0 [(errG E O 0)], .ro 0 [(errG E O 1)], .ro 0 [(errG E O 4)], .ro 0 [(errG E O 5)], o1, o2, o3]) (hne : (B 1, O 1) ≠ (B 0, O 0)) (n cap : Nat) (a : Option Addr) (hv : ¬ v > 0) (hn : 88 < n) : Ctr Tryz.prog 7 6 [.agg ⟨c.cells⟩, .slice a n cap] [(ko, oc), (kf, fd), (0, .ro 0 [(errG E O 0)]), (1, .ro 0 [(errG E O 1)]), (2, .ro 0 [(errG E O 2)]), (3, .ro 0 [(errG E O 3)]), (4, .ro 0 [(errG E O 4)]), (5, .ro 0 [(errG E O 5)]), (6, .ro 0 [(errG E O 6)]), (E 0, .mark (B 0)), (E 1, .mark (B 1)), (kb, .gone), (ke, .gone), (kn, .gone)] (.tuple #[.pointer none, (errG E O 1)]) [oc, fd, .ro 0 [(errG E O 0)], .ro 0 [(errG E O 1)], .ro 0 [(errG E O 2)], .ro 0 [(errG E O 3)], .ro 0 [(errG E O 4)], .ro 0 [(errG E O 5)], .ro 0 [(errG E O 6)], .mark (B 0), .mark (B 1), o1, o2, o3] := by
  refine Ctr.by layOk Tryz.func6 Tryz.ntmps6 rfl rfl rfl rfl rfl ?_
  exact wk_P28_0

set_option maxHeartbeats 4000000 in
theorem ref_recover_short {n cap : Nat} {a : Option Addr} (hn : n < 88) : Ctr Tryz.prog 7 34 [.slice a n cap] [] (.tuple #[.agg #[.int .u32 0, I64 0, .int .u32 0, I64 0, I64 0, I64 0, I64 0], I64 103]) [] := by
  refine Ctr.by layOk Tryz.func34 Tryz.ntmps34 rfl rfl rfl rfl rfl ?_
  exact wk_P28_0

set_option maxHeartbeats 4000000 in
theorem ref_recover_long {n cap : Nat} {a : Option Addr} (hn : 88 < n) : Ctr Tryz.prog 7 34 [.slice a n cap] [] (.tuple #[.agg #[.int .u32 0, I64 0, .int .u32 0, I64 0, I64 0, I64 0, I64 0], I64 102]) [] := by
  refine Ctr.by layOk Tryz.func34 Tryz.ntmps34 rfl rfl rfl rfl rfl ?_
  exact wk_P28_0

set_option maxHeartbeats 4000000 in
theorem ref_New_bad (c : Cfg) (oc fd : AObj) (ko kf : Nat) (v : Int) (cc : Ctr Tryz.prog 7 33 [.agg ⟨c.cells⟩] [(ko, oc), (kf, fd)] (I64 v) [oc, fd]) (nv : Value) (hv : v > 0) : Ctr Tryz.prog 7 7 [.agg ⟨c.cells⟩, nv] [(ko, oc), (kf, fd)] (.tuple #[.pointer none, .agg #[I64 106, .bool true, I64 v]]) [oc, fd] := by
  refine Ctr.by layOk Tryz.func7 Tryz.ntmps7 rfl rfl rfl rfl rfl ?_
  exact wk_P28_0

set_option maxHeartbeats 4000000 in
theorem ref_New_short (c : Cfg) (oc fd : AObj) (ko kf : Nat) (v : Int) (cc : Ctr Tryz.prog 7 33 [.agg ⟨c.cells⟩] [(ko, oc), (kf, fd)] (I64 v) [oc, fd]) (n cap : Nat) (a : Option Addr) (hv : ¬ v > 0) (hn : n < 88) : Ctr Tryz.prog 7 7 [.agg ⟨c.cells⟩, .slice a n cap] [(ko, oc), (kf, fd)] (.tuple #[.pointer none, .agg #[I64 103, .bool false, I64 0]]) [oc, fd] := by
  refine Ctr.by layOk Tryz.func7 Tryz.ntmps7 rfl rfl rfl rfl rfl ?_
  exact wk_P28_0

set_option maxHeartbeats 4000000 in
theorem ref_New_long (c : Cfg) (oc fd : AObj) (ko kf : Nat) (v : Int) (cc : Ctr Tryz.prog 7 33 [.agg ⟨c.cells⟩] [(ko, oc), (kf, fd)] (I64 v) [oc, fd]) (n cap : Nat) (a : Option Addr) (hv : ¬ v > 0) (hn : 88 < n) : Ctr Tryz.prog 7 7 [.agg ⟨c.cells⟩, .slice a n cap] [(ko, oc), (kf, fd)] (.tuple #[.pointer none, .agg #[I64 102, .bool false, I64 0]]) [oc, fd] := by
  refine Ctr.by layOk Tryz.func7 Tryz.ntmps7 rfl rfl rfl rfl rfl ?_
  exact wk_P28_0
end Go.Proofs.YtekcchmnncefhaaGreatDoor
namespace Go.Proofs.YtekcchmnncefhaaGreatDoor
open Go Go.Proofs.YtekcchmnncefhaaGreatDoorAB
set_option linter.unusedSimpArgs false
set_option linter.unusedVariables false
set_option maxRecDepth 40000
/-- No configuration. -/
def zc : Cfg := (⟨0,0,0,0,0,0,0,0,0,0,0,0,0,0,0,0,0,0,0,0,none,0,0,0,0,0,0,0,none,0,0⟩ : Cfg)
theorem zc_bad (E O B : Nat → Nat) (e1 e2 kb ke kn : Nat) : Ctr Tryz.prog 7 59 [.agg ⟨zc.cells⟩] [(e1, .gone), (e2, .gone), (0, .ro 0 [(errG E O 0)]), (1, .ro 0 [(errG E O 1)]), (4, .ro 0 [(errG E O 4)]), (5, .ro 0 [(errG E O 5)]), (kb, .gone), (ke, .gone), (kn, .gone)] (I64 1) [.gone, .gone, .ro 0 [(errG E O 0)], .ro 0 [(errG E O 1)], .ro 0 [(errG E O 4)], .ro 0 [(errG E O 5)], cbO zc, .gone, .gone] :=
  amiss_b (c := zc) (fo := 0) (ff := 0) (X := fun _ => 0) (Y := fun _ => 0) (U := fun _ => 0) (W := fun _ => 0) (V := fun _ => 0) E O B ⟨fun i h => absurd h (Nat.not_lt_zero i), fun i h => absurd h (Nat.not_lt_zero i), fun i h => absurd h (Nat.not_lt_zero i)⟩ (fun h => absurd h (Nat.lt_irrefl 0)) ⟨fun i h => absurd h (Nat.not_lt_zero i)⟩ (fun h => absurd h (Nat.lt_irrefl 0)) (Nat.zero_le _) kb ke kn 0 (by decide) (fun i h => absurd h (Nat.not_lt_zero i)) (by decide)

set_option maxHeartbeats 8000000 in
theorem first_walk (E O B : Nat → Nat) (hne : ∀ g h : Nat, isE g = true → isE h = true → g ≠ h → (B g, O g) ≠ (B h, O h)) (e1 e2 z1 kb_ ke_ kn_ ka k1 k2 z2 kb ke kn kc1 kc2 kc3 bk bm bu u0 u1 u2 kp kq ksu c0 c1 c2 c3 c4 c5 c6 s0 t00 t01 t02 s1 t10 t11 t12 s2 t20 t21 t22 s3 t30 t31 t32 b0 b01 b02 b1 b11 b12 : Nat) (x_kb x_ke x_kn x_kc1 x_kc2 x_kc3 x_bk x_bm x_bu x_u0 x_u1 x_u2 x_kp x_kq x_ksu x_c0 x_c1 x_c2 x_c3 x_c4 x_c5 x_c6 x_s0 x_t00 x_t01 x_t02 x_s1 x_t10 x_t11 x_t12 x_s2 x_t20 x_t21 x_t22 x_s3 x_t30 x_t31 x_t32 x_b0 x_b01 x_b02 x_b1 x_b11 x_b12 : AObj) (sn : Ctr Tryz.prog 7 6 [.agg ⟨(cfgOf 0 0 0 (some ⟨k1, 0, none⟩) none 0 0).cells⟩, .slice (some ⟨z2, 0, none⟩) 88 88] [(k1, .cells ocv 55), (k2, .gone), (z2, .cells (rowZ [.int .u8 0] 88) 5), (0, .ro 0 [(errG E O 0)]), (1, .ro 0 [(errG E O 1)]), (2, .ro 0 [(errG E O 2)]), (3, .ro 0 [(errG E O 3)]), (4, .ro 0 [(errG E O 4)]), (5, .ro 0 [(errG E O 5)]), (6, .ro 0 [(errG E O 6)]), (kb, .gone), (ke, .gone), (kn, .gone), (kc1, .gone), (kc2, .gone), (kc3, .gone), (bk, .gone), (bm, .gone), (bu, .gone), (u0, .gone), (u1, .gone), (u2, .gone), (kp, .gone), (kq, .gone), (ksu, .gone), (c0, .gone), (c1, .gone), (c2, .gone), (c3, .gone), (c4, .gone), (c5, .gone), (c6, .gone), (s0, .gone), (t00, .gone), (t01, .gone), (t02, .gone), (s1, .gone), (t10, .gone), (t11, .gone), (t12, .gone), (s2, .gone), (t20, .gone), (t21, .gone), (t22, .gone), (s3, .gone), (t30, .gone), (t31, .gone), (t32, .gone), (b0, .gone), (b01, .gone), (b02, .gone), (b1, .gone), (b11, .gone), (b12, .gone), (E 0, .mark (B 0)), (E 1, .mark (B 1)), (E 3, .mark (B 3))] (.tuple #[pP ksu, .nilIface]) [.cells ocv 55, .gone, .cells (rowZ [.int .u8 0] 88) 5, .ro 0 [(errG E O 0)], .ro 0 [(errG E O 1)], .ro 0 [(errG E O 2)], .ro 0 [(errG E O 3)], .ro 0 [(errG E O 4)], .ro 0 [(errG E O 5)], .ro 0 [(errG E O 6)], x_kb, x_ke, x_kn, x_kc1, x_kc2, x_kc3, x_bk, x_bm, x_bu, x_u0, x_u1, x_u2, x_kp, x_kq, x_ksu, x_c0, x_c1, x_c2, x_c3, x_c4, x_c5, x_c6, x_s0, x_t00, x_t01, x_t02, x_s1, x_t10, x_t11, x_t12, x_s2, x_t20, x_t21, x_t22, x_s3, x_t30, x_t31, x_t32, x_b0, x_b01, x_b02, x_b1, x_b11, x_b12, .mark (B 0), .mark (B 1), .mark (B 3)]) (mb : Ctr Tryz.prog 7 13 [pP ksu] [(ksu, x_ksu), (c0, x_c0), (c1, x_c1), (c2, x_c2), (c3, x_c3), (c4, x_c4), (c5, x_c5), (c6, x_c6)] (I64 127) [x_ksu, x_c0, x_c1, x_c2, x_c3, x_c4, x_c5, x_c6]) (td : Ctr Tryz.prog 7 14 [pP ksu] [(ksu, x_ksu)] (I64 0) [x_ksu]) : Ctr Tryz.prog 7 4 [] [(0, .ro 0 [(errG E O 0)]), (1, .ro 0 [(errG E O 1)]), (2, .ro 0 [(errG E O 2)]), (3, .ro 0 [(errG E O 3)]), (4, .ro 0 [(errG E O 4)]), (5, .ro 0 [(errG E O 5)]), (6, .ro 0 [(errG E O 6)]), (E 0, .mark (B 0)), (E 1, .mark (B 1)), (E 2, .mark (B 2)), (E 3, .mark (B 3)), (E 4, .mark (B 4)), (E 5, .mark (B 5)), (E 6, .mark (B 6)), (e1, .gone), (e2, .gone), (z1, .gone), (kb_, .gone), (ke_, .gone), (kn_, .gone), (ka, .gone), (k1, .gone), (k2, .gone), (z2, .gone), (kb, .gone), (ke, .gone), (kn, .gone), (kc1, .gone), (kc2, .gone), (kc3, .gone), (bk, .gone), (bm, .gone), (bu, .gone), (u0, .gone), (u1, .gone), (u2, .gone), (kp, .gone), (kq, .gone), (ksu, .gone), (c0, .gone), (c1, .gone), (c2, .gone), (c3, .gone), (c4, .gone), (c5, .gone), (c6, .gone), (s0, .gone), (t00, .gone), (t01, .gone), (t02, .gone), (s1, .gone), (t10, .gone), (t11, .gone), (t12, .gone), (s2, .gone), (t20, .gone), (t21, .gone), (t22, .gone), (s3, .gone), (t30, .gone), (t31, .gone), (t32, .gone), (b0, .gone), (b01, .gone), (b02, .gone), (b1, .gone), (b11, .gone), (b12, .gone)] (.bool true) [.ro 0 [(errG E O 0)], .ro 0 [(errG E O 1)], .ro 0 [(errG E O 2)], .ro 0 [(errG E O 3)], .ro 0 [(errG E O 4)], .ro 0 [(errG E O 5)], .ro 0 [(errG E O 6)], .mark (B 0), .mark (B 1), .mark (B 2), .mark (B 3), .mark (B 4), .mark (B 5), .mark (B 6), .gone, .gone, .cells (rowZ [.int .u8 0] 88) 5, cbO zc, .gone, .gone, .cells [I64 1, (errG E O 2)] 140, .cells ocv 55, .gone, .cells (rowZ [.int .u8 0] 88) 5, x_kb, x_ke, x_kn, x_kc1, x_kc2, x_kc3, x_bk, x_bm, x_bu, x_u0, x_u1, x_u2, x_kp, x_kq, x_ksu, x_c0, x_c1, x_c2, x_c3, x_c4, x_c5, x_c6, x_s0, x_t00, x_t01, x_t02, x_s1, x_t10, x_t11, x_t12, x_s2, x_t20, x_t21, x_t22, x_s3, x_t30, x_t31, x_t32, x_b0, x_b01, x_b02, x_b1, x_b11, x_b12] := by
  have cz : ¬ (0 : Int) < cnt 0 := by decide
  refine Ctr.by layOk Tryz.func4 Tryz.ntmps4 rfl rfl rfl rfl rfl ?_
  repeat' (first
    | ((first | (with_reducible apply gQ0) | ((with_reducible apply gQ1); exact wt_)); (first | (apply q_move; apply Eq.refl) | (apply q_assign; apply Eq.refl) | (apply q_int; (iterate 3 apply Eq.refl)) | (apply q_build layOk; (iterate 4 apply Eq.refl)) | (apply q_pick_t; apply Eq.refl; apply Eq.refl) | (apply q_nileq; (focus (kernel_rfl)); apply Eq.refl) | (apply q_extract; apply Eq.refl; apply Eq.refl) | (apply q_nenil; (focus (kernel_rfl)); apply Eq.refl; apply Eq.refl) | (apply q_makeS (m := 88) (k := z1) layOk; (iterate 8 apply Eq.refl); (focus (decide)); (focus (decide)); apply Eq.refl; exact lk_; apply Eq.refl) | (apply q_makeS (m := 88) (k := z2) layOk; (iterate 8 apply Eq.refl); (focus (decide)); (focus (decide)); apply Eq.refl; exact lk_; apply Eq.refl) | (apply isF (f := 6); (refine q_callW rfl (super_New_bad E O B zc .gone .gone (cbO zc) .gone .gone e1 e2 kb_ ke_ kn_ 1 (zc_bad E O B e1 e2 kb_ ke_ kn_) ka _ (by decide)) fd_ (by decide) rfl rfl ?_)) | (apply isF (f := 5); (refine q_callW rfl (make_Config0 0 0 0 k1 cz) fd_ (by decide) rfl rfl ?_)) | (refine q_callW rfl (sn) fd_ (by decide) rfl rfl ?_) | (apply isF (f := 12); (refine q_call0 rfl (ref_Placed 106 1 (by decide)) ?_)) | (apply isF (f := 8); (refine q_callR rfl (see_at2 E O B hne ka 1) rfl fd_ (by decide) ?_)) | (refine q_callR rfl (mb) rfl fd_ (by decide) ?_) | (refine q_callR rfl (td) rfl fd_ (by decide) ?_)))
    | ((with_reducible apply gR); (first | refine RK.peelN rfl ?_ | refine RK.donef rfl ⟨_, rfl, ?_⟩ | refine RK.donet rfl (by kernel_rfl) ⟨_, rfl, ?_⟩))
    | ((with_reducible apply gQv); focus exact wf_)
    | ((with_reducible apply gK); (fail_if_success ((apply gM); (iterate 3 apply Eq.refl))); ((first | (apply gsD; (iterate 4 apply Eq.refl)) | (apply RKo.gsplit; (iterate 4 apply Eq.refl))) <;> (intro hc; (first | with_reducible exact ff hc | exact absurd hc (by decide) | skip))))
    | ((with_reducible apply gW); (first | with_reducible apply WP.seq | refine WP.reg mixed (fun ks => _) (fun ks => rfl) (fun ks => ?_) | apply WP.ret))
    | (with_reducible apply thn_n)
    | (refine Endz.mk' en_ rv_ (by rfl) sb_))
end Go.Proofs.YtekcchmnncefhaaGreatDoor
namespace Go.Proofs.YtekcchmnncefhaaGreatDoor
open Go Go.Proofs.YtekcchmnncefhaaGreatDoorAB
set_option linter.unusedSimpArgs false
set_option linter.unusedVariables false
set_option maxRecDepth 40000

set_option maxHeartbeats 4000000 in
theorem first_ok (E O B : Nat → Nat) (hne : ∀ g h : Nat, isE g = true → isE h = true → g ≠ h → (B g, O g) ≠ (B h, O h)) : Ctr Tryz.prog 7 4 [] [(0, .ro 0 [(errG E O 0)]), (1, .ro 0 [(errG E O 1)]), (2, .ro 0 [(errG E O 2)]), (3, .ro 0 [(errG E O 3)]), (4, .ro 0 [(errG E O 4)]), (5, .ro 0 [(errG E O 5)]), (6, .ro 0 [(errG E O 6)]), (E 0, .mark (B 0)), (E 1, .mark (B 1)), (E 2, .mark (B 2)), (E 3, .mark (B 3)), (E 4, .mark (B 4)), (E 5, .mark (B 5)), (E 6, .mark (B 6))] (.bool true) [.ro 0 [(errG E O 0)], .ro 0 [(errG E O 1)], .ro 0 [(errG E O 2)], .ro 0 [(errG E O 3)], .ro 0 [(errG E O 4)], .ro 0 [(errG E O 5)], .ro 0 [(errG E O 6)], .mark (B 0), .mark (B 1), .mark (B 2), .mark (B 3), .mark (B 4), .mark (B 5), .mark (B 6)] := by
  have H : ∀ ks : Nat → Nat, ∃ obs : List AObj, Ctr Tryz.prog 7 4 [] ([(0, .ro 0 [(errG E O 0)]), (1, .ro 0 [(errG E O 1)]), (2, .ro 0 [(errG E O 2)]), (3, .ro 0 [(errG E O 3)]), (4, .ro 0 [(errG E O 4)]), (5, .ro 0 [(errG E O 5)]), (6, .ro 0 [(errG E O 6)]), (E 0, .mark (B 0)), (E 1, .mark (B 1)), (E 2, .mark (B 2)), (E 3, .mark (B 3)), (E 4, .mark (B 4)), (E 5, .mark (B 5)), (E 6, .mark (B 6))] ++ gonesK ks 54) (.bool true) ([.ro 0 [(errG E O 0)], .ro 0 [(errG E O 1)], .ro 0 [(errG E O 2)], .ro 0 [(errG E O 3)], .ro 0 [(errG E O 4)], .ro 0 [(errG E O 5)], .ro 0 [(errG E O 6)], .mark (B 0), .mark (B 1), .mark (B 2), .mark (B 3), .mark (B 4), .mark (B 5), .mark (B 6)] ++ obs) := fun ks => by
    have hp := pair_blank E O B hne 0 0 0 (fd := .gone) (nvo := .cells (rowZ [.int .u8 0] 88) 5) (U := fun _ => 4) (W := fun _ => 0) (V := fun _ => 0) (Bv := fun _ => 0) (ko := ks 7) (kf := ks 8) (kv := ks 9) (fv := 0) (cap := 88) (fl := 0) (fc := 0) (fa := none) (by decide) ⟨fun i h => absurd h (Nat.not_lt_zero i)⟩ (fun h => absurd h (Nat.lt_irrefl 0)) (fun i => ⟨show ¬ (4 : Int) < 4 from by decide, show ¬ (4 : Int) > 6 from by decide, ⟨show (0 : Int) ≤ 0 from by decide, show (0 : Int) ≤ 1073741824 from by decide⟩, show ¬ (0 : Int) < 0 from by decide, show ¬ (0 : Int) > 100 from by decide⟩) zero_bt (by decide) not_zero not_zero2
    obtain ⟨x_kb, x_ke, x_kn, x_kc1, x_kc2, x_kc3, x_bk, x_bm, x_bu, x_u0, x_u1, x_u2, x_kp, x_kq, x_ksu, x_c0, x_c1, x_c2, x_c3, x_c4, x_c5, x_c6, x_s0, x_t00, x_t01, x_t02, x_s1, x_t10, x_t11, x_t12, x_s2, x_t20, x_t21, x_t22, x_s3, x_t30, x_t31, x_t32, x_b0, x_b01, x_b02, x_b1, x_b11, x_b12, _, sn, ⟨mb, td⟩, _⟩ := hp (ks 10) (ks 11) (ks 12) (ks 13) (ks 14) (ks 15) (ks 16) (ks 17) (ks 18) (ks 19) (ks 20) (ks 21) (ks 22) (ks 23) (ks 24) (ks 25) (ks 26) (ks 27) (ks 28) (ks 29) (ks 30) (ks 31) (ks 32) (ks 33) (ks 34) (ks 35) (ks 36) (ks 37) (ks 38) (ks 39) (ks 40) (ks 41) (ks 42) (ks 43) (ks 44) (ks 45) (ks 46) (ks 47) (ks 48) (ks 49) (ks 50) (ks 51) (ks 52) (ks 53) ⟨_, _, _, ((clone_fds_nil ()).more (ks 8, .gone)).more (ks 14, .gone)⟩
    have e : gonesK ks 54 = [(ks 0, .gone), (ks 1, .gone), (ks 2, .gone), (ks 3, .gone), (ks 4, .gone), (ks 5, .gone), (ks 6, .gone), (ks 7, .gone), (ks 8, .gone), (ks 9, .gone), (ks 10, .gone), (ks 11, .gone), (ks 12, .gone), (ks 13, .gone), (ks 14, .gone), (ks 15, .gone), (ks 16, .gone), (ks 17, .gone), (ks 18, .gone), (ks 19, .gone), (ks 20, .gone), (ks 21, .gone), (ks 22, .gone), (ks 23, .gone), (ks 24, .gone), (ks 25, .gone), (ks 26, .gone), (ks 27, .gone), (ks 28, .gone), (ks 29, .gone), (ks 30, .gone), (ks 31, .gone), (ks 32, .gone), (ks 33, .gone), (ks 34, .gone), (ks 35, .gone), (ks 36, .gone), (ks 37, .gone), (ks 38, .gone), (ks 39, .gone), (ks 40, .gone), (ks 41, .gone), (ks 42, .gone), (ks 43, .gone), (ks 44, .gone), (ks 45, .gone), (ks 46, .gone), (ks 47, .gone), (ks 48, .gone), (ks 49, .gone), (ks 50, .gone), (ks 51, .gone), (ks 52, .gone), (ks 53, .gone)] := rfl
    rw [e]
    refine ⟨[.gone, .gone, .cells (rowZ [.int .u8 0] 88) 5, cbO zc, .gone, .gone, .cells [I64 1, (errG E O 2)] 140, .cells ocv 55, .gone, .cells (rowZ [.int .u8 0] 88) 5, x_kb, x_ke, x_kn, x_kc1, x_kc2, x_kc3, x_bk, x_bm, x_bu, x_u0, x_u1, x_u2, x_kp, x_kq, x_ksu, x_c0, x_c1, x_c2, x_c3, x_c4, x_c5, x_c6, x_s0, x_t00, x_t01, x_t02, x_s1, x_t10, x_t11, x_t12, x_s2, x_t20, x_t21, x_t22, x_s3, x_t30, x_t31, x_t32, x_b0, x_b01, x_b02, x_b1, x_b11, x_b12], ?_⟩
    exact (first_walk E O B hne (ks 0) (ks 1) (ks 2) (ks 3) (ks 4) (ks 5) (ks 6) (ks 7) (ks 8) (ks 9) (ks 10) (ks 11) (ks 12) (ks 13) (ks 14) (ks 15) (ks 16) (ks 17) (ks 18) (ks 19) (ks 20) (ks 21) (ks 22) (ks 23) (ks 24) (ks 25) (ks 26) (ks 27) (ks 28) (ks 29) (ks 30) (ks 31) (ks 32) (ks 33) (ks 34) (ks 35) (ks 36) (ks 37) (ks 38) (ks 39) (ks 40) (ks 41) (ks 42) (ks 43) (ks 44) (ks 45) (ks 46) (ks 47) (ks 48) (ks 49) (ks 50) (ks 51) (ks 52) (ks 53) x_kb x_ke x_kn x_kc1 x_kc2 x_kc3 x_bk x_bm x_bu x_u0 x_u1 x_u2 x_kp x_kq x_ksu x_c0 x_c1 x_c2 x_c3 x_c4 x_c5 x_c6 x_s0 x_t00 x_t01 x_t02 x_s1 x_t10 x_t11 x_t12 x_s2 x_t20 x_t21 x_t22 x_s3 x_t30 x_t31 x_t32 x_b0 x_b01 x_b02 x_b1 x_b11 x_b12 sn mb td)
  exact Ctr.hide 54 rfl (fun ks => Classical.choose (H ks)) (fun ks => Classical.choose_spec (H ks))
end Go.Proofs.YtekcchmnncefhaaGreatDoor
namespace Go.Proofs.YtekcchmnncefhaaGreatDoor
open Go Go.Proofs.YtekcchmnncefhaaGreatDoorAB
set_option linter.unusedSimpArgs false
set_option linter.unusedVariables false
set_option maxRecDepth 40000

theorem raw_bad (E O B : Nat → Nat) (c : Cfg) (oc fd nvo o1 o2 o3 : AObj) (ko kf kv : Nat) (v : Int) (am : ∀ kb ke kn : Nat, Ctr Tryz.prog 7 59 [.agg ⟨c.cells⟩] [(ko, oc), (kf, fd), (0, .ro 0 [(errG E O 0)]), (1, .ro 0 [(errG E O 1)]), (4, .ro 0 [(errG E O 4)]), (5, .ro 0 [(errG E O 5)]), (kb, .gone), (ke, .gone), (kn, .gone)] (I64 v) [oc, fd, .ro 0 [(errG E O 0)], .ro 0 [(errG E O 1)], .ro 0 [(errG E O 4)], .ro 0 [(errG E O 5)], o1, o2, o3]) (hv : v > 0) (nv : Value) (r1 r2 : Nat) : Ctr Tryz.prog 7 6 [.agg ⟨c.cells⟩, nv] [(ko, oc), (kf, fd), (kv, nvo), (0, .ro 0 [(errG E O 0)]), (1, .ro 0 [(errG E O 1)]), (2, .ro 0 [(errG E O 2)]), (3, .ro 0 [(errG E O 3)]), (4, .ro 0 [(errG E O 4)]), (5, .ro 0 [(errG E O 5)]), (6, .ro 0 [(errG E O 6)]), (E 0, .mark (B 0)), (E 1, .mark (B 1)), (E 2, .mark (B 2)), (E 3, .mark (B 3)), (E 4, .mark (B 4)), (E 5, .mark (B 5)), (E 6, .mark (B 6)), (r1, .gone), (r2, .gone)] (.tuple #[.pointer none, .iface 138 (pP r2)]) [oc, fd, nvo, .ro 0 [(errG E O 0)], .ro 0 [(errG E O 1)], .ro 0 [(errG E O 2)], .ro 0 [(errG E O 3)], .ro 0 [(errG E O 4)], .ro 0 [(errG E O 5)], .ro 0 [(errG E O 6)], .mark (B 0), .mark (B 1), .mark (B 2), .mark (B 3), .mark (B 4), .mark (B 5), .mark (B 6), .lost, .cells [I64 v, (errG E O 2)] 140] := by
  refine Ctr.lose (post := [oc, fd, nvo, .ro 0 [(errG E O 0)], .ro 0 [(errG E O 1)], .ro 0 [(errG E O 2)], .ro 0 [(errG E O 3)], .ro 0 [(errG E O 4)], .ro 0 [(errG E O 5)], .ro 0 [(errG E O 6)], .mark (B 0), .mark (B 1), .mark (B 2), .mark (B 3), .mark (B 4), .mark (B 5), .mark (B 6), .gone, .cells [I64 v, (errG E O 2)] 140]) (Ctr.hide 3 rfl (fun ks => [o1, o2, o3]) (fun ks => ?_)) rfl ?_
  · show Ctr Tryz.prog 7 6 _ [(ko, oc), (kf, fd), (kv, nvo), (0, .ro 0 [(errG E O 0)]), (1, .ro 0 [(errG E O 1)]), (2, .ro 0 [(errG E O 2)]), (3, .ro 0 [(errG E O 3)]), (4, .ro 0 [(errG E O 4)]), (5, .ro 0 [(errG E O 5)]), (6, .ro 0 [(errG E O 6)]), (E 0, .mark (B 0)), (E 1, .mark (B 1)), (E 2, .mark (B 2)), (E 3, .mark (B 3)), (E 4, .mark (B 4)), (E 5, .mark (B 5)), (E 6, .mark (B 6)), (r1, .gone), (r2, .gone), (ks 0, .gone), (ks 1, .gone), (ks 2, .gone)] _ [oc, fd, nvo, .ro 0 [(errG E O 0)], .ro 0 [(errG E O 1)], .ro 0 [(errG E O 2)], .ro 0 [(errG E O 3)], .ro 0 [(errG E O 4)], .ro 0 [(errG E O 5)], .ro 0 [(errG E O 6)], .mark (B 0), .mark (B 1), .mark (B 2), .mark (B 3), .mark (B 4), .mark (B 5), .mark (B 6), .gone, .cells [I64 v, (errG E O 2)] 140, o1, o2, o3]
    exact Ctr.frame (super_New_bad E O B c oc fd o1 o2 o3 ko kf (ks 0) (ks 1) (ks 2) v (am _ _ _) r2 nv hv) (by repeat (first | exact Fd.nil | apply Fd.cons | exact look_here | apply look_there)) (by decide) rfl
  · intro i o h
    have hi := (List.getElem?_eq_some_iff.1 h).1
    simp only [List.length_cons, List.length_nil] at hi
    match i, hi with
    | 0, _ => exact .inr h
    | 1, _ => exact .inr h
    | 2, _ => exact .inr h
    | 3, _ => exact .inr h
    | 4, _ => exact .inr h
    | 5, _ => exact .inr h
    | 6, _ => exact .inr h
    | 7, _ => exact .inr h
    | 8, _ => exact .inr h
    | 9, _ => exact .inr h
    | 10, _ => exact .inr h
    | 11, _ => exact .inr h
    | 12, _ => exact .inr h
    | 13, _ => exact .inr h
    | 14, _ => exact .inr h
    | 15, _ => exact .inr h
    | 16, _ => exact .inr h
    | 17, _ => (cases h; exact .inl rfl)
    | 18, _ => exact .inr h
    | i + 19, h => exact absurd h (by omega)
end Go.Proofs.YtekcchmnncefhaaGreatDoor
