/- What functions of this program do, each as a contract that its callers use, and what follows of it in plain numbers.
   By an AI agent. -/
import Derived.Test.YtekcchmnncefhaaGreatDoorAB
import Derived.Test.YtekcchmnncefhaaGreatDoorG2
import Derived.Test.YtekcchmnncefhaaGreatDoorG3
import Derived.Test.YtekcchmnncefhaaGreatDoorG5
import Derived.Test.YtekcchmnncefhaaGreatDoorG1
namespace Go.Proofs.YtekcchmnncefhaaGreatDoor
open Go Go.Proofs.YtekcchmnncefhaaGreatDoorAB
set_option linter.unusedSimpArgs false
set_option linter.unusedVariables false
set_option maxRecDepth 20000
theorem wk_ET3_0 {p : Prop} (h : p := by
  repeat' (first
    | ((first | (with_reducible apply gQ0) | ((with_reducible apply gQ1); exact wt_)); (first | (apply q_load layOk; (iterate 3 apply Eq.refl); exact lk_; exact (tb.ax _ hlt)) | (apply q_load layOk; (iterate 3 apply Eq.refl); exact lk_; exact (tb.ay _ hlt)) | (apply q_idxN layOk; (iterate 4 apply Eq.refl); exact ha; apply Eq.refl; exact hlt) | (apply q_load layOk; (iterate 3 apply Eq.refl); exact lk_; exact (tb.ax _ (by omega))) | (apply q_idxN layOk; (iterate 4 apply Eq.refl); exact ha; exact (km1 (by omega) (by omega)); (focus (omega))) | (apply q_load layOk; (iterate 3 apply Eq.refl); exact lk_; exact (tb.ay _ (by omega))) | (apply q_move; apply Eq.refl) | (apply q_int; (iterate 3 apply Eq.refl)) | (apply q_fa layOk; (iterate 5 apply Eq.refl)) | (apply q_alloc (k := ks _) layOk; apply Eq.refl; exact lk_; apply Eq.refl) | (apply q_pick_t; apply Eq.refl; apply Eq.refl) | (apply q_pick_f; apply Eq.refl; apply Eq.refl) | (apply q_len layOk; (iterate 4 apply Eq.refl)) | (apply isF (f := 35); (refine q_call0 rfl (ref_Bare _) ?_)) | (apply isF (f := 12); (refine q_call0 rfl (ref_Placed _ _ (by decide)) ?_)) | (apply e_store layOk; (iterate 3 apply Eq.refl); exact lk_; (iterate 5 apply Eq.refl))))
    | ((with_reducible apply gR); (first | refine RK.peelN rfl ?_ | refine RK.donef rfl ⟨_, rfl, ?_⟩ | refine RK.donet rfl (by kernel_rfl) ⟨_, rfl, ?_⟩))
    | ((with_reducible apply gQv); focus exact wf_)
    | ((with_reducible apply gK); (fail_if_success ((apply gM); (iterate 3 apply Eq.refl))); ((first | (apply gsD; (iterate 4 apply Eq.refl)) | (apply RKo.gsplit; (iterate 4 apply Eq.refl))) <;> (intro hc; (first | with_reducible exact absurd hn1 hc | with_reducible exact absurd hc hn1 | with_reducible exact absurd hn2 hc | with_reducible exact ff hc | with_reducible exact absurd hc x1 | with_reducible exact absurd hc x2 | with_reducible exact absurd hlt' hc | with_reducible exact absurd q hc | with_reducible exact absurd hc q1 | with_reducible exact absurd hc b1 | with_reducible exact absurd hc b2 | with_reducible exact absurd hc b3 | with_reducible exact absurd hc b4 | with_reducible exact absurd hm0 hc | with_reducible exact absurd q1 hc | with_reducible exact absurd q2 hc | skip))))
    | ((with_reducible apply gW); (first | with_reducible apply WP.seq | refine WP.reg mixed (fun ks => _) (fun ks => rfl) (fun ks => ?_) | ((first | (apply cdD; apply Eq.refl) | (apply WP.condA; apply Eq.refl)) <;> (intro hc; (first | with_reducible exact absurd hn1 hc | with_reducible exact absurd hc hn1 | with_reducible exact absurd hn2 hc | with_reducible exact ff hc | with_reducible exact absurd hc x1 | with_reducible exact absurd hc x2 | with_reducible exact absurd hlt' hc | with_reducible exact absurd q hc | with_reducible exact absurd hc q1 | with_reducible exact absurd hc b1 | with_reducible exact absurd hc b2 | with_reducible exact absurd hc b3 | with_reducible exact absurd hc b4 | with_reducible exact absurd hm0 hc | with_reducible exact absurd q1 hc | with_reducible exact absurd q2 hc | skip))) | apply WP.ret | apply WP.skip | apply WP.block))
    | (first | with_reducible apply thn_n | with_reducible apply thn_r | with_reducible apply blk_r)
    | (refine Endz.mk' en_ rv_ (by rfl) sb_))) : p := h

set_option maxHeartbeats 8000000 in
theorem ref_CheckS {ob : AObj} {k f n cap : Nat} {X Y : Nat → Int} {a : Option Addr} (tb : Tb ob f n X Y) (ha : 0 < n → a = some ⟨k, f, none⟩) (hn : n < 2) : Ctr Tryz.prog 7 74 [.slice a n cap] [(k, ob)] (.agg #[I64 103, .bool false, I64 0]) [ob] := by
  have hn1 : (n : Int) < 2 := by omega
  refine Ctr.by layOk Tryz.func74 Tryz.ntmps74 rfl rfl rfl rfl rfl ?_
  exact wk_ET3_0

set_option maxHeartbeats 8000000 in
theorem ref_CheckL {ob : AObj} {k f n cap : Nat} {X Y : Nat → Int} {a : Option Addr} (tb : Tb ob f n X Y) (ha : 0 < n → a = some ⟨k, f, none⟩) (hn : 64 < n) : Ctr Tryz.prog 7 74 [.slice a n cap] [(k, ob)] (.agg #[I64 102, .bool false, I64 0]) [ob] := by
  have hn1 : ¬ (n : Int) < 2 := by omega
  have hn2 : (n : Int) > 64 := by omega
  refine Ctr.by layOk Tryz.func74 Tryz.ntmps74 rfl rfl rfl rfl rfl ?_
  exact wk_ET3_0

set_option maxHeartbeats 8000000 in
theorem ref_CheckA4 {ob : AObj} {k f n cap : Nat} {X Y : Nat → Int} {a : Option Addr} (tb : Tb ob f n X Y) (ha : 0 < n → a = some ⟨k, f, none⟩) (m : Nat) (h : IsA n X Y 4 m) : Ctr Tryz.prog 7 74 [.slice a n cap] [(k, ob)] (.agg #[I64 101, .bool true, I64 (m : Int)]) [ob] := by
  obtain ⟨⟨hn1', hn2'⟩, hm, hgood, ⟨_, hbad⟩ | ⟨q, _⟩⟩ := h
  rotate_left
  · exact absurd q (by decide)
  refine Ctr.by layOk Tryz.func74 Tryz.ntmps74 rfl rfl rfl rfl rfl ?_
  have hn1 : ¬ (n : Int) < 2 := by omega
  have hn2 : ¬ (n : Int) > 64 := by omega
  repeat' (first
    | ((with_reducible apply gQ0); (first | (apply q_move; apply Eq.refl) | (apply q_assign; apply Eq.refl) | (apply q_int; (iterate 3 apply Eq.refl)) | (apply q_alloc (k := ks _) layOk; apply Eq.refl; exact lk_; apply Eq.refl) | (apply q_len layOk; (iterate 4 apply Eq.refl))))
    | ((with_reducible apply gR); (first | refine RK.peelN rfl ?_ | refine RK.donef rfl ⟨_, rfl, ?_⟩))
    | ((with_reducible apply gW); (first | with_reducible apply WP.seq | refine WP.reg mixed (fun ks => _) (fun ks => rfl) (fun ks => ?_) | ((apply cdD; apply Eq.refl) <;> (intro hc; (first | with_reducible exact absurd hc hn1 | with_reducible exact absurd hc hn2 | skip))) | apply WP.skip | apply WP.block))
    | (with_reducible apply thn_n))
  rename_i r0 r1 c1 r3
  refine WP.loopI (n := 83) (α := Nat) (fun x => [(0, some (.slice a n cap)), (2, some (pP (r0 0))), (3, some (I64 (x : Int)))])
    (fun x => [(k, ob), (r0 0, .cells [I64 0, .bool false, I64 0] 41)]) (fun x => x ≤ m) (fun x => m - x) 0 (Wk.of ⟨rfl, rfl, rfl, trivial⟩ (by repeat (first | exact List.nil_sublist _ | exact List.Sublist.refl _ | apply List.Sublist.cons_cons | apply List.Sublist.cons))) (Nat.zero_le _) (fun x ix => ?_)
  have ix : x ≤ m := ix
  have hlt : x < n := by omega
  have hlt' : (x : Int) < (n : Int) := by omega
  by_cases hxm : x < m
  · obtain ⟨⟨⟨b1, b2⟩, b3, b4⟩, gu⟩ := hgood x hxm
    repeat' (first
      | ((first | (with_reducible apply gQ0) | ((with_reducible apply gQ1); exact wt_)); (first | (apply q_load layOk; (iterate 3 apply Eq.refl); exact lk_; exact (tb.ax _ hlt)) | (apply q_load layOk; (iterate 3 apply Eq.refl); exact lk_; exact (tb.ay _ hlt)) | (apply q_load layOk; (iterate 3 apply Eq.refl); exact lk_; exact (tb.ax _ (by omega))) | (apply q_load layOk; (iterate 3 apply Eq.refl); exact lk_; exact (tb.ay _ (by omega))) | (apply q_idxN layOk; (iterate 4 apply Eq.refl); exact ha; apply Eq.refl; exact hlt) | (apply q_idxN layOk; (iterate 4 apply Eq.refl); exact ha; exact (km1 (by have h0 : (x : Int) > 0 := (by assumption); omega) (by omega)); (focus (omega))) | (apply q_move; apply Eq.refl) | (apply q_assign; apply Eq.refl) | (apply q_int; (iterate 3 apply Eq.refl)) | (apply q_fa layOk; (iterate 5 apply Eq.refl)) | (apply q_pick_t; apply Eq.refl; apply Eq.refl) | (apply q_pick_f; apply Eq.refl; apply Eq.refl) | (apply q_len layOk; (iterate 4 apply Eq.refl))))
      | ((with_reducible apply gR); (first | refine RK.peelN rfl ?_ | refine RK.donef rfl ⟨_, rfl, ?_⟩ | refine RK.donet rfl (by kernel_rfl) ⟨_, rfl, ?_⟩))
      | ((with_reducible apply gQv); focus exact wf_)
      | ((with_reducible apply gK); (fail_if_success ((apply gM); (iterate 3 apply Eq.refl))); ((apply gsD; (iterate 4 apply Eq.refl)) <;> (intro hc; (first | with_reducible exact ff' hc | with_reducible exact absurd hc b1 | with_reducible exact absurd hc b2 | with_reducible exact absurd hc b3 | with_reducible exact absurd hc b4 | with_reducible exact absurd hlt' hc | with_reducible exact absurd hc (gu (by assumption)).1 | with_reducible exact absurd hc (gu (by assumption)).2 | skip))))
      | ((with_reducible apply gW); (first | with_reducible apply WP.seq | refine WP.reg mixed (fun ks => _) (fun ks => rfl) (fun ks => ?_) | ((first | (apply cdD; apply Eq.refl) | (apply WP.condA; apply Eq.refl)) <;> (intro hc; (first | with_reducible exact ff' hc | with_reducible exact absurd hc b1 | with_reducible exact absurd hc b2 | with_reducible exact absurd hc b3 | with_reducible exact absurd hc b4 | with_reducible exact absurd hlt' hc | with_reducible exact absurd hc (gu (by assumption)).1 | with_reducible exact absurd hc (gu (by assumption)).2 | skip))) | apply WP.skip | apply WP.block))
      | (first | with_reducible apply thn_n | with_reducible apply blk_n))
    all_goals
      refine ⟨x + 1, hxm, by show m - (x + 1) < m - x; omega, Wk.of ⟨rfl, rfl, ?_, trivial⟩ (by repeat (first | exact List.nil_sublist _ | exact List.Sublist.refl _ | apply List.Sublist.cons_cons | apply List.Sublist.cons))⟩
      exact congrArg (fun x => some (I64 x)) (kp1 (by omega))
  · obtain rfl : x = m := by omega
    by_cases hX : inB (X x)
    · by_cases hY : inB (Y x)
      · exact absurd ⟨hX, hY⟩ hbad
      · obtain ⟨x1, x2⟩ := hX
        rcases out_or hY with q | ⟨q1, q⟩
        · skip
          exact wk_ET3_0
        · skip
          exact wk_ET3_0
    · rcases out_or hX with q | ⟨q1, q⟩
      · skip
        exact wk_ET3_0
      · skip
        exact wk_ET3_0



set_option maxHeartbeats 8000000 in
theorem ref_CheckA5 {ob : AObj} {k f n cap : Nat} {X Y : Nat → Int} {a : Option Addr} (tb : Tb ob f n X Y) (ha : 0 < n → a = some ⟨k, f, none⟩) (m : Nat) (h : IsA n X Y 5 m) : Ctr Tryz.prog 7 74 [.slice a n cap] [(k, ob)] (.agg #[I64 105, .bool true, I64 (m : Int)]) [ob] := by
  obtain ⟨⟨hn1', hn2'⟩, hm, hgood, ⟨q, _⟩ | ⟨_, hb, hm0, hup⟩⟩ := h
  · exact absurd q (by decide)
  refine Ctr.by layOk Tryz.func74 Tryz.ntmps74 rfl rfl rfl rfl rfl ?_
  have hn1 : ¬ (n : Int) < 2 := by omega
  have hn2 : ¬ (n : Int) > 64 := by omega
  repeat' (first
    | ((with_reducible apply gQ0); (first | (apply q_move; apply Eq.refl) | (apply q_assign; apply Eq.refl) | (apply q_int; (iterate 3 apply Eq.refl)) | (apply q_alloc (k := ks _) layOk; apply Eq.refl; exact lk_; apply Eq.refl) | (apply q_len layOk; (iterate 4 apply Eq.refl))))
    | ((with_reducible apply gR); (first | refine RK.peelN rfl ?_ | refine RK.donef rfl ⟨_, rfl, ?_⟩))
    | ((with_reducible apply gW); (first | with_reducible apply WP.seq | refine WP.reg mixed (fun ks => _) (fun ks => rfl) (fun ks => ?_) | ((apply cdD; apply Eq.refl) <;> (intro hc; (first | with_reducible exact absurd hc hn1 | with_reducible exact absurd hc hn2 | skip))) | apply WP.skip | apply WP.block))
    | (with_reducible apply thn_n))
  rename_i r0 r1 c1 r3
  refine WP.loopI (n := 83) (α := Nat) (fun x => [(0, some (.slice a n cap)), (2, some (pP (r0 0))), (3, some (I64 (x : Int)))])
    (fun x => [(k, ob), (r0 0, .cells [I64 0, .bool false, I64 0] 41)]) (fun x => x ≤ m) (fun x => m - x) 0 (Wk.of ⟨rfl, rfl, rfl, trivial⟩ (by repeat (first | exact List.nil_sublist _ | exact List.Sublist.refl _ | apply List.Sublist.cons_cons | apply List.Sublist.cons))) (Nat.zero_le _) (fun x ix => ?_)
  have ix : x ≤ m := ix
  have hlt : x < n := by omega
  have hlt' : (x : Int) < (n : Int) := by omega
  by_cases hxm : x < m
  · obtain ⟨⟨⟨b1, b2⟩, b3, b4⟩, gu⟩ := hgood x hxm
    repeat' (first
      | ((first | (with_reducible apply gQ0) | ((with_reducible apply gQ1); exact wt_)); (first | (apply q_load layOk; (iterate 3 apply Eq.refl); exact lk_; exact (tb.ax _ hlt)) | (apply q_load layOk; (iterate 3 apply Eq.refl); exact lk_; exact (tb.ay _ hlt)) | (apply q_load layOk; (iterate 3 apply Eq.refl); exact lk_; exact (tb.ax _ (by omega))) | (apply q_load layOk; (iterate 3 apply Eq.refl); exact lk_; exact (tb.ay _ (by omega))) | (apply q_idxN layOk; (iterate 4 apply Eq.refl); exact ha; apply Eq.refl; exact hlt) | (apply q_idxN layOk; (iterate 4 apply Eq.refl); exact ha; exact (km1 (by have h0 : (x : Int) > 0 := (by assumption); omega) (by omega)); (focus (omega))) | (apply q_move; apply Eq.refl) | (apply q_assign; apply Eq.refl) | (apply q_int; (iterate 3 apply Eq.refl)) | (apply q_fa layOk; (iterate 5 apply Eq.refl)) | (apply q_pick_t; apply Eq.refl; apply Eq.refl) | (apply q_pick_f; apply Eq.refl; apply Eq.refl) | (apply q_len layOk; (iterate 4 apply Eq.refl))))
      | ((with_reducible apply gR); (first | refine RK.peelN rfl ?_ | refine RK.donef rfl ⟨_, rfl, ?_⟩ | refine RK.donet rfl (by kernel_rfl) ⟨_, rfl, ?_⟩))
      | ((with_reducible apply gQv); focus exact wf_)
      | ((with_reducible apply gK); (fail_if_success ((apply gM); (iterate 3 apply Eq.refl))); ((apply gsD; (iterate 4 apply Eq.refl)) <;> (intro hc; (first | with_reducible exact ff' hc | with_reducible exact absurd hc b1 | with_reducible exact absurd hc b2 | with_reducible exact absurd hc b3 | with_reducible exact absurd hc b4 | with_reducible exact absurd hlt' hc | with_reducible exact absurd hc (gu (by assumption)).1 | with_reducible exact absurd hc (gu (by assumption)).2 | skip))))
      | ((with_reducible apply gW); (first | with_reducible apply WP.seq | refine WP.reg mixed (fun ks => _) (fun ks => rfl) (fun ks => ?_) | ((first | (apply cdD; apply Eq.refl) | (apply WP.condA; apply Eq.refl)) <;> (intro hc; (first | with_reducible exact ff' hc | with_reducible exact absurd hc b1 | with_reducible exact absurd hc b2 | with_reducible exact absurd hc b3 | with_reducible exact absurd hc b4 | with_reducible exact absurd hlt' hc | with_reducible exact absurd hc (gu (by assumption)).1 | with_reducible exact absurd hc (gu (by assumption)).2 | skip))) | apply WP.skip | apply WP.block))
      | (first | with_reducible apply thn_n | with_reducible apply blk_n))
    all_goals
      refine ⟨x + 1, hxm, by show m - (x + 1) < m - x; omega, Wk.of ⟨rfl, rfl, ?_, trivial⟩ (by repeat (first | exact List.nil_sublist _ | exact List.Sublist.refl _ | apply List.Sublist.cons_cons | apply List.Sublist.cons))⟩
      exact congrArg (fun x => some (I64 x)) (kp1 (by omega))
  · obtain rfl : x = m := by omega
    obtain ⟨⟨b1, b2⟩, b3, b4⟩ := hb
    by_cases q1 : X x ≤ X (x - 1)
    · skip
      exact wk_ET3_0
    · have q2 : Y x < Y (x - 1) := by rcases hup with q | q; exact absurd q q1; exact q
      exact wk_ET3_0



theorem ref_CheckN {ob : AObj} {k f n cap : Nat} {X Y : Nat → Int} {a : Option Addr} (tb : Tb ob f n X Y) (ha : 0 < n → a = some ⟨k, f, none⟩) (c : Chk) (h : IsN n X Y c) : Ctr Tryz.prog 7 74 [.slice a n cap] [(k, ob)] (fN c) [ob] := by
  cases c with
  | fine => exact ref_CheckTable tb h ha
  | short => exact ref_CheckS tb ha h
  | long => exact ref_CheckL tb ha h
theorem ref_CheckA {ob : AObj} {k f n cap : Nat} {X Y : Nat → Int} {a : Option Addr} (tb : Tb ob f n X Y) (ha : 0 < n → a = some ⟨k, f, none⟩) (g m : Nat) (h : IsA n X Y g m) : Ctr Tryz.prog 7 74 [.slice a n cap] [(k, ob)] (.agg #[I64 (cdG g), .bool true, I64 (m : Int)]) [ob] := by
  rcases isA_g h with rfl | rfl
  · exact ref_CheckA4 tb ha m h
  · exact ref_CheckA5 tb ha m h
end Go.Proofs.YtekcchmnncefhaaGreatDoor
namespace Go.Proofs.YtekcchmnncefhaaGreatDoor
open Go Go.Proofs.YtekcchmnncefhaaGreatDoorAB
set_option linter.unusedSimpArgs false
set_option linter.unusedVariables false
set_option maxRecDepth 20000
theorem wk_P17_0 {p : Prop} (h : p := by
  repeat' (first
    | ((first | (with_reducible apply gQ0) | ((with_reducible apply gQ1); exact wt_)); (first | (apply q_idxN (m := 0) layOk; (iterate 4 apply Eq.refl); exact ha; apply Eq.refl; exact h0) | (apply q_load layOk; (iterate 3 apply Eq.refl); exact lk_; exact (tb.ax 0 h0)) | (apply q_idxN (m := c.ocL - 1) layOk; (iterate 4 apply Eq.refl); exact ha; exact hw1; exact h1) | (apply q_load layOk; (iterate 3 apply Eq.refl); exact lk_; exact (tb.ax _ h1)) | (apply q_box (ty := 140) (k := ka); apply Eq.refl; exact lk_; apply Eq.refl) | (apply q_mkIface; (focus (kernel_rfl)); apply Eq.refl) | (apply q_box (k := ks _); apply Eq.refl; exact lk_; apply Eq.refl) | (apply q_move; apply Eq.refl) | (apply q_assign; apply Eq.refl) | (apply q_int; (iterate 3 apply Eq.refl)) | (apply q_fa layOk; (iterate 5 apply Eq.refl)) | (apply q_load layOk; (iterate 3 apply Eq.refl); exact lk_; apply Eq.refl) | (apply q_loadr layOk; (iterate 3 apply Eq.refl); exact lk_; apply Eq.refl) | (apply q_build layOk; (iterate 4 apply Eq.refl)) | (apply q_not; apply Eq.refl) | (apply q_pick_t; apply Eq.refl; apply Eq.refl) | (apply q_pick_f; apply Eq.refl; apply Eq.refl) | (apply q_extract; apply Eq.refl; apply Eq.refl) | (apply q_ifne; (focus (kernel_rfl)); apply Eq.refl) | (apply q_nilne; (focus (kernel_rfl)); apply Eq.refl) | (apply q_len layOk; (iterate 4 apply Eq.refl)) | (apply isF (f := 96); (refine q_call1 rfl (cb_new kb c) lc_ rfl ?_)) | (apply isF (f := 95); (refine q_call1 rfl (all_bad (k := kb) (f := 0) (cbO_br c) (fun _ => rfl) (by decide) m hm hg hb) lc_ rfl ?_)) | (apply isF (f := 95); (refine q_call1 rfl (all_ok (k := kb) (f := 0) (cbO_br c) (fun _ => rfl) (by decide) hcb) lc_ rfl ?_)) | (apply isF (f := 97); (refine q_callR rfl (table_CheckS E O B tb ha hn) rfl fd_ (by decide) ?_)) | (apply isF (f := 97); (refine q_callR rfl (table_CheckL E O B tb ha hn) rfl fd_ (by decide) ?_)) | (apply isF (f := 97); (refine q_callW rfl (table_CheckA E O B tb ha kn g m h) fd_ (by decide) rfl rfl ?_)) | (apply isF (f := 97); (refine q_callR rfl (table_CheckN E O B tb ha Chk.fine tok) rfl fd_ (by decide) ?_)) | (apply isF (f := 98); (refine q_call1 rfl (ce_new ke c) lc_ rfl ?_)) | (apply isF (f := 95); (refine q_call1 rfl (all_bad (k := ke) (f := 0) (ceO_br c) (fun _ => rfl) (by decide) m hm hg hb) lc_ rfl ?_)) | (apply isF (f := 95); (refine q_call1 rfl (all_ok (k := ke) (f := 0) (ceO_br c) (fun _ => rfl) (by decide) hce) lc_ rfl ?_)) | (apply isF (f := 99); (refine q_callR rfl (feeders_long br hf hfn hfd h16) rfl fd_ (by decide) ?_)) | (apply isF (f := 99); (refine q_callR rfl (feeders_bad br hf hfn m hmn hfd hfb) rfl fd_ (by decide) ?_)) | (apply isF (f := 99); (refine q_callR rfl (feeders_ok br hf hfn hfd h16) rfl fd_ (by decide) ?_)) | (refine q_callW rfl am fd_ (by decide) rfl rfl ?_)))
    | ((with_reducible apply gR); (first | refine RK.peelN rfl ?_ | refine RK.donef rfl ⟨_, rfl, ?_⟩ | refine RK.donet rfl (by kernel_rfl) ⟨_, rfl, ?_⟩))
    | ((with_reducible apply gQv); focus exact wf_)
    | ((with_reducible apply gK); (fail_if_success ((apply gM); (iterate 3 apply Eq.refl))); ((first | (apply RKo.gsplitN; (iterate 4 apply Eq.refl)) | (apply RKo.gsplit; (iterate 4 apply Eq.refl))) <;> (intro hc; (first | with_reducible exact absurd hc nt2 | with_reducible exact absurd hc nt1 | exact absurd hc (by decide) | with_reducible exact ff' hc | with_reducible exact absurd hc hx | with_reducible exact absurd hc hl | with_reducible exact absurd hx hc | with_reducible exact absurd hl hc | with_reducible exact absurd hc hv | with_reducible exact absurd hv hc | skip))))
    | ((with_reducible apply gW); (first | with_reducible apply WP.seq | refine WP.reg mixed (fun ks => _) (fun ks => rfl) (fun ks => ?_) | ((first | (apply cdD; apply Eq.refl) | (apply WP.condN; apply Eq.refl) | (apply WP.condA; apply Eq.refl)) <;> (intro hc; (first | with_reducible exact absurd hc nt2 | with_reducible exact absurd hc nt1 | exact absurd hc (by decide) | with_reducible exact ff' hc | with_reducible exact absurd hc hx | with_reducible exact absurd hc hl | with_reducible exact absurd hx hc | with_reducible exact absurd hl hc | with_reducible exact absurd hc hv | with_reducible exact absurd hv hc | skip))) | apply WP.ret | apply WP.skip))
    | (first | with_reducible apply thn_n | with_reducible apply thn_r)
    | (refine Endz.mk' en_ rv_ (by rfl) sb_))) : p := h
/-- The bounds' blocks. -/
def cbO (c : Cfg) : AObj := .cells (I64 (c.D) :: I64 (1) :: I64 (100) :: I64 (c.B) :: I64 (1) :: I64 (100) :: I64 (c.S) :: I64 (1) :: I64 (100) :: I64 (c.P) :: I64 (1) :: I64 (100) :: I64 (c.H) :: I64 (1) :: I64 (100) :: I64 (c.Cap) :: I64 (1) :: I64 (1073741824) :: I64 (c.Qmin) :: I64 (0) :: I64 (c.Cap) :: I64 (c.Imax) :: I64 (1) :: I64 (500000) :: I64 (c.Trip) :: I64 (1) :: I64 (500000) :: I64 (c.Vmin) :: I64 (1) :: I64 (60000) :: I64 (c.Vdark) :: I64 (1) :: I64 (60000) :: I64 (c.CellMin) :: I64 (0) :: I64 (6000) :: I64 (c.CellMax) :: I64 (c.CellMin) :: I64 (6000) :: I64 (c.CellGap) :: I64 (0) :: I64 (6000) :: I64 (c.TempMax) :: I64 (-500) :: I64 (1500) :: I64 (c.Coil) :: I64 (1) :: I64 (30000) :: I64 (c.Ohm) :: I64 (0) :: I64 (100000) :: I64 (c.SagErr) :: I64 (0) :: I64 (60000) :: I64 (c.AmpErr) :: I64 (0) :: I64 (500000) :: I64 (c.Drift) :: I64 (0) :: I64 (1073741824) :: []) 237
def ceO (c : Cfg) : AObj := .cells (I64 (c.GenMax) :: I64 (0) :: I64 (1073741824) :: I64 (c.BatMax) :: I64 (0) :: I64 (1073741824) :: I64 (c.ExtMax) :: I64 (0) :: I64 (1073741824) :: I64 (c.Eland) :: I64 (0) :: I64 (1073741824) :: I64 (c.Margin) :: I64 (c.Imax) :: I64 (1073741824) :: []) 237
theorem cb_new (k : Nat) (c : Cfg) : Ctr Tryz.prog 7 96 [.agg ⟨c.cells⟩] [(k, .gone)] (.slice (some ⟨k, 0, none⟩) 20 20) [cbO c] := config_bounds k c
theorem ce_new (k : Nat) (c : Cfg) : Ctr Tryz.prog 7 98 [.agg ⟨c.cells⟩] [(k, .gone)] (.slice (some ⟨k, 0, none⟩) 5 5) [ceO c] := config_ends k c
theorem cbO_br (c : Cfg) : Br (cbO c) 0 20 (cbN c) (cbA c) (cbB c) := cb_br c
theorem ceO_br (c : Cfg) : Br (ceO c) 0 5 (ceN c) (ceA c) (ceB c) := ce_br c

set_option maxHeartbeats 4000000 in
theorem amiss_b (E O B : Nat → Nat) {oc fd : AObj} {ko fo kf ff : Nat} {X Y U W V : Nat → Int} {c : Cfg} (tb : Tb oc fo c.ocL X Y) (ha : 0 < c.ocL → c.ocA = some ⟨ko, fo, none⟩) (br : Br fd ff c.fdL U W V) (hf : 0 < c.fdL → c.fdA = some ⟨kf, ff, none⟩) (hfn : c.fdL ≤ 1000000) (kb ke kn : Nat) (m : Nat) (hm : m < 20) (hg : ∀ i, i < m → cbA c i ≤ cbN c i ∧ cbN c i ≤ cbB c i) (hb : ¬ (cbA c m ≤ cbN c m ∧ cbN c m ≤ cbB c m)) : Ctr Tryz.prog 7 59 [.agg ⟨c.cells⟩] [(ko, oc), (kf, fd), (0, .ro 0 [(errG E O 0)]), (1, .ro 0 [(errG E O 1)]), (4, .ro 0 [(errG E O 4)]), (5, .ro 0 [(errG E O 5)]), (kb, .gone), (ke, .gone), (kn, .gone)] (I64 (IntKind.i64.wrap (1 + (m : Int)))) [oc, fd, .ro 0 [(errG E O 0)], .ro 0 [(errG E O 1)], .ro 0 [(errG E O 4)], .ro 0 [(errG E O 5)], cbO c, .gone, .gone] := by
  have nt1 : ¬ (!true) = true := by decide
  have nt2 : ¬ (!false) = false := by decide
  refine Ctr.by layOk Tryz.func59 Tryz.ntmps59 rfl rfl rfl rfl rfl ?_
  exact wk_P17_0

set_option maxHeartbeats 4000000 in
theorem amiss_ts (E O B : Nat → Nat) {oc fd : AObj} {ko fo kf ff : Nat} {X Y U W V : Nat → Int} {c : Cfg} (tb : Tb oc fo c.ocL X Y) (ha : 0 < c.ocL → c.ocA = some ⟨ko, fo, none⟩) (br : Br fd ff c.fdL U W V) (hf : 0 < c.fdL → c.fdA = some ⟨kf, ff, none⟩) (hfn : c.fdL ≤ 1000000) (kb ke kn : Nat) (hcb : ∀ i, i < 20 → cbA c i ≤ cbN c i ∧ cbN c i ≤ cbB c i) (hn : c.ocL < 2) : Ctr Tryz.prog 7 59 [.agg ⟨c.cells⟩] [(ko, oc), (kf, fd), (0, .ro 0 [(errG E O 0)]), (1, .ro 0 [(errG E O 1)]), (4, .ro 0 [(errG E O 4)]), (5, .ro 0 [(errG E O 5)]), (kb, .gone), (ke, .gone), (kn, .gone)] (I64 21) [oc, fd, .ro 0 [(errG E O 0)], .ro 0 [(errG E O 1)], .ro 0 [(errG E O 4)], .ro 0 [(errG E O 5)], cbO c, .gone, .gone] := by
  have nt1 : ¬ (!true) = true := by decide
  have nt2 : ¬ (!false) = false := by decide
  refine Ctr.by layOk Tryz.func59 Tryz.ntmps59 rfl rfl rfl rfl rfl ?_
  exact wk_P17_0

set_option maxHeartbeats 4000000 in
theorem amiss_tl (E O B : Nat → Nat) {oc fd : AObj} {ko fo kf ff : Nat} {X Y U W V : Nat → Int} {c : Cfg} (tb : Tb oc fo c.ocL X Y) (ha : 0 < c.ocL → c.ocA = some ⟨ko, fo, none⟩) (br : Br fd ff c.fdL U W V) (hf : 0 < c.fdL → c.fdA = some ⟨kf, ff, none⟩) (hfn : c.fdL ≤ 1000000) (kb ke kn : Nat) (hcb : ∀ i, i < 20 → cbA c i ≤ cbN c i ∧ cbN c i ≤ cbB c i) (hn : 64 < c.ocL) : Ctr Tryz.prog 7 59 [.agg ⟨c.cells⟩] [(ko, oc), (kf, fd), (0, .ro 0 [(errG E O 0)]), (1, .ro 0 [(errG E O 1)]), (4, .ro 0 [(errG E O 4)]), (5, .ro 0 [(errG E O 5)]), (kb, .gone), (ke, .gone), (kn, .gone)] (I64 21) [oc, fd, .ro 0 [(errG E O 0)], .ro 0 [(errG E O 1)], .ro 0 [(errG E O 4)], .ro 0 [(errG E O 5)], cbO c, .gone, .gone] := by
  have nt1 : ¬ (!true) = true := by decide
  have nt2 : ¬ (!false) = false := by decide
  refine Ctr.by layOk Tryz.func59 Tryz.ntmps59 rfl rfl rfl rfl rfl ?_
  exact wk_P17_0

set_option maxHeartbeats 4000000 in
theorem amiss_ta (E O B : Nat → Nat) {oc fd : AObj} {ko fo kf ff : Nat} {X Y U W V : Nat → Int} {c : Cfg} (tb : Tb oc fo c.ocL X Y) (ha : 0 < c.ocL → c.ocA = some ⟨ko, fo, none⟩) (br : Br fd ff c.fdL U W V) (hf : 0 < c.fdL → c.fdA = some ⟨kf, ff, none⟩) (hfn : c.fdL ≤ 1000000) (kb ke kn : Nat) (hcb : ∀ i, i < 20 → cbA c i ≤ cbN c i ∧ cbN c i ≤ cbB c i) (g m : Nat) (h : IsA c.ocL X Y g m) : Ctr Tryz.prog 7 59 [.agg ⟨c.cells⟩] [(ko, oc), (kf, fd), (0, .ro 0 [(errG E O 0)]), (1, .ro 0 [(errG E O 1)]), (4, .ro 0 [(errG E O 4)]), (5, .ro 0 [(errG E O 5)]), (kb, .gone), (ke, .gone), (kn, .gone)] (I64 21) [oc, fd, .ro 0 [(errG E O 0)], .ro 0 [(errG E O 1)], .ro 0 [(errG E O 4)], .ro 0 [(errG E O 5)], cbO c, .gone, .cells [I64 (m : Int), errG E O g] 140] := by
  have nt1 : ¬ (!true) = true := by decide
  have nt2 : ¬ (!false) = false := by decide
  refine Ctr.by layOk Tryz.func59 Tryz.ntmps59 rfl rfl rfl rfl rfl ?_
  exact wk_P17_0

set_option maxHeartbeats 4000000 in
theorem amiss_x0 (E O B : Nat → Nat) {oc fd : AObj} {ko fo kf ff : Nat} {X Y U W V : Nat → Int} {c : Cfg} (tb : Tb oc fo c.ocL X Y) (ha : 0 < c.ocL → c.ocA = some ⟨ko, fo, none⟩) (br : Br fd ff c.fdL U W V) (hf : 0 < c.fdL → c.fdA = some ⟨kf, ff, none⟩) (hfn : c.fdL ≤ 1000000) (kb ke kn : Nat) (hcb : ∀ i, i < 20 → cbA c i ≤ cbN c i ∧ cbN c i ≤ cbB c i) (tok : TOk c.ocL X Y) (hx : ¬ X 0 = 0) : Ctr Tryz.prog 7 59 [.agg ⟨c.cells⟩] [(ko, oc), (kf, fd), (0, .ro 0 [(errG E O 0)]), (1, .ro 0 [(errG E O 1)]), (4, .ro 0 [(errG E O 4)]), (5, .ro 0 [(errG E O 5)]), (kb, .gone), (ke, .gone), (kn, .gone)] (I64 21) [oc, fd, .ro 0 [(errG E O 0)], .ro 0 [(errG E O 1)], .ro 0 [(errG E O 4)], .ro 0 [(errG E O 5)], cbO c, .gone, .gone] := by
  have nt1 : ¬ (!true) = true := by decide
  have nt2 : ¬ (!false) = false := by decide
  have hn2 := tok.n2
  have hn64 := tok.n64
  have h0 : 0 < c.ocL := by omega
  have h1 : c.ocL - 1 < c.ocL := by omega
  have hw1 := km1 h0 hn64
  refine Ctr.by layOk Tryz.func59 Tryz.ntmps59 rfl rfl rfl rfl rfl ?_
  exact wk_P17_0

set_option maxHeartbeats 4000000 in
theorem amiss_xl (E O B : Nat → Nat) {oc fd : AObj} {ko fo kf ff : Nat} {X Y U W V : Nat → Int} {c : Cfg} (tb : Tb oc fo c.ocL X Y) (ha : 0 < c.ocL → c.ocA = some ⟨ko, fo, none⟩) (br : Br fd ff c.fdL U W V) (hf : 0 < c.fdL → c.fdA = some ⟨kf, ff, none⟩) (hfn : c.fdL ≤ 1000000) (kb ke kn : Nat) (hcb : ∀ i, i < 20 → cbA c i ≤ cbN c i ∧ cbN c i ≤ cbB c i) (tok : TOk c.ocL X Y) (hx : X 0 = 0) (hl : ¬ X (c.ocL - 1) = c.Cap) : Ctr Tryz.prog 7 59 [.agg ⟨c.cells⟩] [(ko, oc), (kf, fd), (0, .ro 0 [(errG E O 0)]), (1, .ro 0 [(errG E O 1)]), (4, .ro 0 [(errG E O 4)]), (5, .ro 0 [(errG E O 5)]), (kb, .gone), (ke, .gone), (kn, .gone)] (I64 21) [oc, fd, .ro 0 [(errG E O 0)], .ro 0 [(errG E O 1)], .ro 0 [(errG E O 4)], .ro 0 [(errG E O 5)], cbO c, .gone, .gone] := by
  have nt1 : ¬ (!true) = true := by decide
  have nt2 : ¬ (!false) = false := by decide
  have hn2 := tok.n2
  have hn64 := tok.n64
  have h0 : 0 < c.ocL := by omega
  have h1 : c.ocL - 1 < c.ocL := by omega
  have hw1 := km1 h0 hn64
  refine Ctr.by layOk Tryz.func59 Tryz.ntmps59 rfl rfl rfl rfl rfl ?_
  exact wk_P17_0

set_option maxHeartbeats 4000000 in
theorem amiss_e (E O B : Nat → Nat) {oc fd : AObj} {ko fo kf ff : Nat} {X Y U W V : Nat → Int} {c : Cfg} (tb : Tb oc fo c.ocL X Y) (ha : 0 < c.ocL → c.ocA = some ⟨ko, fo, none⟩) (br : Br fd ff c.fdL U W V) (hf : 0 < c.fdL → c.fdA = some ⟨kf, ff, none⟩) (hfn : c.fdL ≤ 1000000) (kb ke kn : Nat) (hcb : ∀ i, i < 20 → cbA c i ≤ cbN c i ∧ cbN c i ≤ cbB c i) (tok : TOk c.ocL X Y) (hx : X 0 = 0) (hl : X (c.ocL - 1) = c.Cap) (m : Nat) (hm : m < 5) (hg : ∀ i, i < m → ceA c i ≤ ceN c i ∧ ceN c i ≤ ceB c i) (hb : ¬ (ceA c m ≤ ceN c m ∧ ceN c m ≤ ceB c m)) : Ctr Tryz.prog 7 59 [.agg ⟨c.cells⟩] [(ko, oc), (kf, fd), (0, .ro 0 [(errG E O 0)]), (1, .ro 0 [(errG E O 1)]), (4, .ro 0 [(errG E O 4)]), (5, .ro 0 [(errG E O 5)]), (kb, .gone), (ke, .gone), (kn, .gone)] (I64 (IntKind.i64.wrap (22 + (m : Int)))) [oc, fd, .ro 0 [(errG E O 0)], .ro 0 [(errG E O 1)], .ro 0 [(errG E O 4)], .ro 0 [(errG E O 5)], cbO c, ceO c, .gone] := by
  have nt1 : ¬ (!true) = true := by decide
  have nt2 : ¬ (!false) = false := by decide
  have hn2 := tok.n2
  have hn64 := tok.n64
  have h0 : 0 < c.ocL := by omega
  have h1 : c.ocL - 1 < c.ocL := by omega
  have hw1 := km1 h0 hn64
  refine Ctr.by layOk Tryz.func59 Tryz.ntmps59 rfl rfl rfl rfl rfl ?_
  exact wk_P17_0

set_option maxHeartbeats 4000000 in
theorem amiss_fl (E O B : Nat → Nat) {oc fd : AObj} {ko fo kf ff : Nat} {X Y U W V : Nat → Int} {c : Cfg} (tb : Tb oc fo c.ocL X Y) (ha : 0 < c.ocL → c.ocA = some ⟨ko, fo, none⟩) (br : Br fd ff c.fdL U W V) (hf : 0 < c.fdL → c.fdA = some ⟨kf, ff, none⟩) (hfn : c.fdL ≤ 1000000) (kb ke kn : Nat) (hcb : ∀ i, i < 20 → cbA c i ≤ cbN c i ∧ cbN c i ≤ cbB c i) (tok : TOk c.ocL X Y) (hx : X 0 = 0) (hl : X (c.ocL - 1) = c.Cap) (hce : ∀ i, i < 5 → ceA c i ≤ ceN c i ∧ ceN c i ≤ ceB c i) (hfd : ∀ i, i < c.fdL → fdOK U W V i) (h16 : 16 < c.fdL) : Ctr Tryz.prog 7 59 [.agg ⟨c.cells⟩] [(ko, oc), (kf, fd), (0, .ro 0 [(errG E O 0)]), (1, .ro 0 [(errG E O 1)]), (4, .ro 0 [(errG E O 4)]), (5, .ro 0 [(errG E O 5)]), (kb, .gone), (ke, .gone), (kn, .gone)] (I64 27) [oc, fd, .ro 0 [(errG E O 0)], .ro 0 [(errG E O 1)], .ro 0 [(errG E O 4)], .ro 0 [(errG E O 5)], cbO c, ceO c, .gone] := by
  have nt1 : ¬ (!true) = true := by decide
  have nt2 : ¬ (!false) = false := by decide
  have hn2 := tok.n2
  have hn64 := tok.n64
  have h0 : 0 < c.ocL := by omega
  have h1 : c.ocL - 1 < c.ocL := by omega
  have hw1 := km1 h0 hn64
  refine Ctr.by layOk Tryz.func59 Tryz.ntmps59 rfl rfl rfl rfl rfl ?_
  exact wk_P17_0

set_option maxHeartbeats 4000000 in
theorem amiss_fb (E O B : Nat → Nat) {oc fd : AObj} {ko fo kf ff : Nat} {X Y U W V : Nat → Int} {c : Cfg} (tb : Tb oc fo c.ocL X Y) (ha : 0 < c.ocL → c.ocA = some ⟨ko, fo, none⟩) (br : Br fd ff c.fdL U W V) (hf : 0 < c.fdL → c.fdA = some ⟨kf, ff, none⟩) (hfn : c.fdL ≤ 1000000) (kb ke kn : Nat) (hcb : ∀ i, i < 20 → cbA c i ≤ cbN c i ∧ cbN c i ≤ cbB c i) (tok : TOk c.ocL X Y) (hx : X 0 = 0) (hl : X (c.ocL - 1) = c.Cap) (hce : ∀ i, i < 5 → ceA c i ≤ ceN c i ∧ ceN c i ≤ ceB c i) (m : Nat) (hmn : m < c.fdL) (hfd : ∀ i, i < m → fdOK U W V i) (hfb : ¬ fdOK U W V m) : Ctr Tryz.prog 7 59 [.agg ⟨c.cells⟩] [(ko, oc), (kf, fd), (0, .ro 0 [(errG E O 0)]), (1, .ro 0 [(errG E O 1)]), (4, .ro 0 [(errG E O 4)]), (5, .ro 0 [(errG E O 5)]), (kb, .gone), (ke, .gone), (kn, .gone)] (I64 27) [oc, fd, .ro 0 [(errG E O 0)], .ro 0 [(errG E O 1)], .ro 0 [(errG E O 4)], .ro 0 [(errG E O 5)], cbO c, ceO c, .gone] := by
  have nt1 : ¬ (!true) = true := by decide
  have nt2 : ¬ (!false) = false := by decide
  have hn2 := tok.n2
  have hn64 := tok.n64
  have h0 : 0 < c.ocL := by omega
  have h1 : c.ocL - 1 < c.ocL := by omega
  have hw1 := km1 h0 hn64
  refine Ctr.by layOk Tryz.func59 Tryz.ntmps59 rfl rfl rfl rfl rfl ?_
  exact wk_P17_0

set_option maxHeartbeats 4000000 in
theorem amiss_ok (E O B : Nat → Nat) {oc fd : AObj} {ko fo kf ff : Nat} {X Y U W V : Nat → Int} {c : Cfg} (tb : Tb oc fo c.ocL X Y) (ha : 0 < c.ocL → c.ocA = some ⟨ko, fo, none⟩) (br : Br fd ff c.fdL U W V) (hf : 0 < c.fdL → c.fdA = some ⟨kf, ff, none⟩) (hfn : c.fdL ≤ 1000000) (kb ke kn : Nat) (hcb : ∀ i, i < 20 → cbA c i ≤ cbN c i ∧ cbN c i ≤ cbB c i) (tok : TOk c.ocL X Y) (hx : X 0 = 0) (hl : X (c.ocL - 1) = c.Cap) (hce : ∀ i, i < 5 → ceA c i ≤ ceN c i ∧ ceN c i ≤ ceB c i) (hfd : ∀ i, i < c.fdL → fdOK U W V i) (h16 : c.fdL ≤ 16) : Ctr Tryz.prog 7 59 [.agg ⟨c.cells⟩] [(ko, oc), (kf, fd), (0, .ro 0 [(errG E O 0)]), (1, .ro 0 [(errG E O 1)]), (4, .ro 0 [(errG E O 4)]), (5, .ro 0 [(errG E O 5)]), (kb, .gone), (ke, .gone), (kn, .gone)] (I64 0) [oc, fd, .ro 0 [(errG E O 0)], .ro 0 [(errG E O 1)], .ro 0 [(errG E O 4)], .ro 0 [(errG E O 5)], cbO c, ceO c, .gone] := by
  have nt1 : ¬ (!true) = true := by decide
  have nt2 : ¬ (!false) = false := by decide
  have hn2 := tok.n2
  have hn64 := tok.n64
  have h0 : 0 < c.ocL := by omega
  have h1 : c.ocL - 1 < c.ocL := by omega
  have hw1 := km1 h0 hn64
  refine Ctr.by layOk Tryz.func59 Tryz.ntmps59 rfl rfl rfl rfl rfl ?_
  exact wk_P17_0

set_option maxHeartbeats 4000000 in
theorem check_ok (E O B : Nat → Nat) (c : Cfg) (oc fd o1 o2 o3 : AObj) (ko kf kb ke kn ka : Nat) (v : Int) (am : Ctr Tryz.prog 7 59 [.agg ⟨c.cells⟩] [(ko, oc), (kf, fd), (0, .ro 0 [(errG E O 0)]), (1, .ro 0 [(errG E O 1)]), (4, .ro 0 [(errG E O 4)]), (5, .ro 0 [(errG E O 5)]), (kb, .gone), (ke, .gone), (kn, .gone)] (I64 v) [oc, fd, .ro 0 [(errG E O 0)], .ro 0 [(errG E O 1)], .ro 0 [(errG E O 4)], .ro 0 [(errG E O 5)], o1, o2, o3]) (hv : ¬ v > 0) : Ctr Tryz.prog 7 16 [.agg ⟨c.cells⟩] [(ko, oc), (kf, fd), (0, .ro 0 [(errG E O 0)]), (1, .ro 0 [(errG E O 1)]), (4, .ro 0 [(errG E O 4)]), (5, .ro 0 [(errG E O 5)]), (2, .ro 0 [(errG E O 2)]), (kb, .gone), (ke, .gone), (kn, .gone)] (.nilIface) [oc, fd, .ro 0 [(errG E O 0)], .ro 0 [(errG E O 1)], .ro 0 [(errG E O 4)], .ro 0 [(errG E O 5)], .ro 0 [(errG E O 2)], o1, o2, o3] := by
  refine Ctr.by layOk Tryz.func16 Tryz.ntmps16 rfl rfl rfl rfl rfl ?_
  exact wk_P17_0

set_option maxHeartbeats 4000000 in
theorem check_bad (E O B : Nat → Nat) (c : Cfg) (oc fd o1 o2 o3 : AObj) (ko kf kb ke kn ka : Nat) (v : Int) (am : Ctr Tryz.prog 7 59 [.agg ⟨c.cells⟩] [(ko, oc), (kf, fd), (0, .ro 0 [(errG E O 0)]), (1, .ro 0 [(errG E O 1)]), (4, .ro 0 [(errG E O 4)]), (5, .ro 0 [(errG E O 5)]), (kb, .gone), (ke, .gone), (kn, .gone)] (I64 v) [oc, fd, .ro 0 [(errG E O 0)], .ro 0 [(errG E O 1)], .ro 0 [(errG E O 4)], .ro 0 [(errG E O 5)], o1, o2, o3]) (hv : v > 0) : Ctr Tryz.prog 7 16 [.agg ⟨c.cells⟩] [(ko, oc), (kf, fd), (0, .ro 0 [(errG E O 0)]), (1, .ro 0 [(errG E O 1)]), (4, .ro 0 [(errG E O 4)]), (5, .ro 0 [(errG E O 5)]), (2, .ro 0 [(errG E O 2)]), (kb, .gone), (ke, .gone), (kn, .gone), (ka, .gone)] (.iface 138 (pP ka)) [oc, fd, .ro 0 [(errG E O 0)], .ro 0 [(errG E O 1)], .ro 0 [(errG E O 4)], .ro 0 [(errG E O 5)], .ro 0 [(errG E O 2)], o1, o2, o3, .cells [I64 v, (errG E O 2)] 140] := by
  refine Ctr.by layOk Tryz.func16 Tryz.ntmps16 rfl rfl rfl rfl rfl ?_
  exact wk_P17_0
end Go.Proofs.YtekcchmnncefhaaGreatDoor
