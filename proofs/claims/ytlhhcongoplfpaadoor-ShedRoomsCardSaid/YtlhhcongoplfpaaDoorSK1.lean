/- What functions of this program do, each as a contract that its callers use, and what follows of it in plain numbers.
   By an AI agent. -/
import Derived.Test.YtlhhcongoplfpaaDoorDLO
import Derived.Test.YtlhhcongoplfpaaDoorSW2
import Derived.Test.YtlhhcongoplfpaaDoorABK
namespace Go.Proofs.YtlhhcongoplfpaaDoor
open Go Go.Proofs.YtlhhcongoplfpaaDoorAB
set_option linter.unusedSimpArgs false
set_option linter.unusedVariables false

/-- Numbers as cells. -/
def lm (N : Nat → Int) (n : Nat) : List Value := (List.range n).map fun i => I64 (N i)
def upd1 (N : Nat → Int) (i : Nat) (v : Int) : Nat → Int := fun j => if j = i then v else N j
theorem lm_len (N : Nat → Int) (n : Nat) : (lm N n).length = n := by unfold lm; rw [List.length_map, List.length_range]
theorem lm_at (N : Nat → Int) {n i : Nat} (h : i < n) (ty : TypeId) : AObj.at (.cells (lm N n) ty) (0 + i * 1) = some (I64 (N i)) := by
  show (lm N n)[0 + i * 1]? = _
  unfold lm
  rw [Nat.zero_add, Nat.mul_one, List.getElem?_map, List.getElem?_range h]; rfl
theorem setO_eq : ∀ (L : List Value) (j : Nat) (v : Value), j < L.length → setO L j v = some (L.set j v)
  | [], j, v, h => absurd h (Nat.not_lt_zero j)
  | x :: L, 0, v, h => rfl
  | x :: L, j + 1, v, h => by
    have ih := setO_eq L j v (by simpa using h)
    simp only [setO, ih, List.set_cons_succ]
theorem lm_set (N : Nat → Int) {n i : Nat} (v : Int) (h : i < n) : (lm N n).set i (I64 v) = lm (upd1 N i v) n := by
  refine List.ext_getElem? fun j => ?_
  unfold lm upd1
  rw [List.getElem?_set, List.getElem?_map, List.getElem?_map, List.length_map, List.length_range]
  by_cases e : i = j
  · subst e
    rw [if_pos rfl, if_pos h, List.getElem?_range h]
    simp
  · rw [if_neg e]
    by_cases hj : j < n
    · rw [List.getElem?_range hj]
      simp [show ¬ j = i from fun x => e x.symm]
    · rw [List.getElem?_eq_none (by simpa using hj)]; rfl
theorem lm_put (N : Nat → Int) {n i : Nat} (v : Int) (h : i < n) (ty : TypeId) : AObj.put (.cells (lm N n) ty) (0 + i * 1) [I64 v] = some (.cells (lm (upd1 N i v) n) ty) := by
  show (match putO (lm N n) (0 + i * 1) [I64 v] with | some r => some (AObj.cells r ty) | none => none) = _
  rw [Nat.zero_add, Nat.mul_one]
  simp only [putO, setO_eq _ _ _ (show i < (lm N n).length by rw [lm_len]; exact h), lm_set N v h]
theorem rowZ_lm : ∀ n : Nat, rowZ [I64 0] n = lm (fun _ => 0) n := by
  intro n
  refine List.ext_getElem? fun j => ?_
  have hl : ∀ n : Nat, (rowZ [I64 0] n).length = n := fun n => by
    induction n with
    | zero => rfl
    | succ n ih => simp [rowZ, ih]
  have ha : ∀ n j : Nat, j < n → (rowZ [I64 0] n)[j]? = some (I64 0) := fun n => by
    induction n with
    | zero => exact fun j h => absurd h (Nat.not_lt_zero j)
    | succ n ih =>
      intro j h
      cases j with
      | zero => rfl
      | succ j => show (rowZ [I64 0] n)[j]? = _; exact ih j (by omega)
  by_cases hj : j < n
  · rw [ha n j hj]; unfold lm; rw [List.getElem?_map, List.getElem?_range hj]; rfl
  · rw [List.getElem?_eq_none (by rw [hl]; omega), List.getElem?_eq_none (by rw [lm_len]; omega)]
/-- A keeper's turn: who is wanted, who is on. -/
def kMin (x : Int) : Int := mn (IntKind.i64.wrap (x + 1)) 1000
def kTurn (h : Int) (b : Nat → Bool) (st : (Nat → Int) × Nat) (i : Nat) : (Nat → Int) × Nat :=
  if b i = true then (upd1 st.1 i (kMin (st.1 i)), if kMin (st.1 i) ≥ h then st.2 ||| 2 ^ i else st.2) else (upd1 st.1 i 0, nAn st.2 (2 ^ i))
def kTurns (h : Int) (b : Nat → Bool) (st : (Nat → Int) × Nat) : Nat → (Nat → Int) × Nat
  | 0 => st
  | i + 1 => kTurn h b (kTurns h b st i) i
theorem kTurn_lt {h : Int} {b : Nat → Bool} {st : (Nat → Int) × Nat} {i : Nat} (hi : i < 7) (hs : st.2 < 128) : (kTurn h b st i).2 < 128 := by
  unfold kTurn
  split
  · show (if _ then _ else _) < 128
    split
    · exact Nat.or_lt_two_pow (n := 7) hs (pow7 hi)
    · exact hs
  · exact Nat.lt_of_le_of_lt Nat.and_le_left hs
theorem kTurns_lt {h : Int} {b : Nat → Bool} {st : (Nat → Int) × Nat} (hs : st.2 < 128) : ∀ i : Nat, i ≤ 7 → (kTurns h b st i).2 < 128
  | 0, _ => hs
  | i + 1, hi => kTurn_lt (by omega) (kTurns_lt hs i (by omega))
theorem kT_no {h : Int} {b : Nat → Bool} {st : (Nat → Int) × Nat} {i : Nat} {N : Nat → Int} {o : Nat} (e : kTurns h b st i = (N, o)) (hb : b i = false) : kTurns h b st (i + 1) = (upd1 N i 0, nAn o (2 ^ i)) := by
  show kTurn h b (kTurns h b st i) i = _
  rw [e]; unfold kTurn; rw [if_neg (by rw [hb]; decide)]
theorem kT_ge {h : Int} {b : Nat → Bool} {st : (Nat → Int) × Nat} {i : Nat} {N : Nat → Int} {o : Nat} (e : kTurns h b st i = (N, o)) (hb : b i = true) (hg : kMin (N i) ≥ h) : kTurns h b st (i + 1) = (upd1 N i (kMin (N i)), o ||| 2 ^ i) := by
  show kTurn h b (kTurns h b st i) i = _
  rw [e]; unfold kTurn; rw [if_pos hb]; show (_, if kMin (N i) ≥ h then _ else _) = _; rw [if_pos hg]
theorem kT_lt {h : Int} {b : Nat → Bool} {st : (Nat → Int) × Nat} {i : Nat} {N : Nat → Int} {o : Nat} (e : kTurns h b st i = (N, o)) (hb : b i = true) (hg : ¬ kMin (N i) ≥ h) : kTurns h b st (i + 1) = (upd1 N i (kMin (N i)), o) := by
  show kTurn h b (kTurns h b st i) i = _
  rw [e]; unfold kTurn; rw [if_pos hb]; show (_, if kMin (N i) ≥ h then _ else _) = _; rw [if_neg hg]
theorem upd1_at (N : Nat → Int) (i : Nat) (v : Int) : upd1 N i v i = v := if_pos rfl
/-- The document's keeper as cells. -/
def rkc (c : Cfg) (N : Nat → Int) (on : Nat) : List Value := c.cells ++ [I64 (N 0), I64 (N 1), I64 (N 2), I64 (N 3), I64 (N 4), I64 (N 5), I64 (N 6), I64 (N 7), I64 (N 8), I64 (N 9), I64 (N 10), I64 (N 11), I64 (N 12), I64 (N 13), I64 (N 14), I64 (N 15), I64 ((on : Nat) : Int)]
set_option maxHeartbeats 4000000 in
theorem keeper_New0 (c : Cfg) (h7 : c.fdL ≤ 7) (p q : Nat) : Ctr Tryd.prog 6 67 [.agg ⟨c.cells⟩] [(p, .gone), (q, .gone)] (.pointer (some ⟨p, 0, none⟩)) [.cells [I64 (c.H), .slice (some ⟨q, 0, none⟩) c.fdL c.fdL, I64 ((0 : Nat) : Int)] 150, .cells (rowZ [I64 0] c.fdL) 3] := by
  refine Ctr.by layOk Tryd.func67 Tryd.ntmps67 rfl rfl rfl rfl rfl ?_
  repeat' (first
    | (((with_reducible refine gQ0 ?_); (first | ((with_reducible apply q_box (ty := 150) (k := p)); apply Eq.refl; (focus (repeat (with_reducible (first | apply lh | apply lt)))); apply Eq.refl) | ((with_reducible apply q_assign); apply Eq.refl) | ((with_reducible apply q_fa layOk); (iterate 5 apply Eq.refl)) | ((with_reducible apply q_load layOk); (iterate 3 apply Eq.refl); (focus (repeat (with_reducible (first | apply lh | apply lt)))); apply Eq.refl) | ((with_reducible apply q_loadr layOk); (iterate 3 apply Eq.refl); (focus (repeat (with_reducible (first | apply lh | apply lt)))); apply Eq.refl) | ((with_reducible apply q_build layOk); (iterate 4 apply Eq.refl)) | ((with_reducible apply q_box (k := ks _)); apply Eq.refl; (focus (repeat (with_reducible (first | apply lh | apply lt)))); apply Eq.refl) | ((with_reducible apply q_len layOk); (iterate 4 apply Eq.refl)) | ((with_reducible apply q_makeS (m := c.fdL) (k := q) layOk); (iterate 8 apply Eq.refl); (focus (decide)); (focus (omega)); apply Eq.refl; (focus (repeat (with_reducible (first | apply lh | apply lt)))); apply Eq.refl))))
    | (((with_reducible refine gR ?_); (first | refine RK.peelN rfl ?_ | refine RK.donef rfl ⟨_, rfl, ?_⟩ | refine RK.donet rfl (by kernel_rfl) ⟨_, rfl, ?_⟩)))
    | (((with_reducible refine gW ?_); (first | with_reducible refine WP.seq ?_ | refine WP.reg mixed (fun ks => _) (fun ks => rfl) (fun ks => ?_) | ((first | (apply cdD; apply Eq.refl) | (apply WP.condE; apply Eq.refl) | (apply WP.condN; apply Eq.refl) | (apply WP.condA; apply Eq.refl)) <;> (intro hc; first | with_reducible exact ff hc | with_reducible exact ff' hc | skip)) | refine WP.ret ?_ | refine WP.skip ?_ | refine WP.exit ?_ | refine WP.goto ?_ | refine WP.label ?_ | refine WP.block ?_)))
    | (with_reducible refine thn_n ?_)
    | (with_reducible refine thn_r ?_)
    | (with_reducible refine thn_e ?_)
    | (with_reducible refine thn_g ?_)
    | (with_reducible refine blk_n ?_)
    | (with_reducible refine blk_r ?_)
    | (with_reducible refine blk_e ?_)
    | (with_reducible refine blk_g ?_)
    | (((with_reducible refine blk_o ?_ ?_); first | exact rfl | skip))
    | (refine Endz.mk' (by first | exact Or.inl rfl | exact Or.inr rfl) (by repeat (first | exact RVs.nil | apply RVs.cons | exact RV1.tmp rfl | exact RV1.row rfl rfl rfl (by repeat (first | exact look_here | apply look_there)) (by exact rfl) | exact RV1.cell rfl rfl rfl (by repeat (first | exact look_here | apply look_there)) (by exact rfl))) (by rfl) (by repeat (first | exact List.nil_sublist _ | exact List.Sublist.refl _ | apply List.Sublist.cons_cons | apply List.Sublist.cons))))
theorem keeper_New (c : Cfg) (h7 : c.fdL ≤ 7) (p q : Nat) : Ctr Tryd.prog 6 67 [.agg ⟨c.cells⟩] [(p, .gone), (q, .gone)] (.pointer (some ⟨p, 0, none⟩)) [.cells [I64 (c.H), .slice (some ⟨q, 0, none⟩) c.fdL c.fdL, I64 ((0 : Nat) : Int)] 150, .cells (lm (fun _ => 0) c.fdL) 3] := by
  rw [← rowZ_lm]; exact keeper_New0 c h7 p q
set_option maxHeartbeats 4000000 in
theorem keeper_On (p : Nat) (x y : Value) (on : Int) : Ctr Tryd.prog 6 70 [.pointer (some ⟨p, 0, none⟩)] [(p, .cells [x, y, I64 on] 150)] (I64 on) [.cells [x, y, I64 on] 150] := by
  refine Ctr.by layOk Tryd.func70 Tryd.ntmps70 rfl rfl rfl rfl rfl ?_
  repeat' (first
    | (((with_reducible refine gQ0 ?_); (first | ((with_reducible apply q_move); apply Eq.refl) | ((with_reducible apply q_assign); apply Eq.refl) | ((with_reducible apply q_nilCheck); apply Eq.refl) | ((with_reducible apply q_fa layOk); (iterate 5 apply Eq.refl)) | ((with_reducible apply q_load layOk); (iterate 3 apply Eq.refl); (focus (repeat (with_reducible (first | apply lh | apply lt)))); apply Eq.refl) | ((with_reducible apply q_loadr layOk); (iterate 3 apply Eq.refl); (focus (repeat (with_reducible (first | apply lh | apply lt)))); apply Eq.refl))))
    | (((with_reducible refine gR ?_); (first | refine RK.peelN rfl ?_ | refine RK.donef rfl ⟨_, rfl, ?_⟩ | refine RK.donet rfl (by kernel_rfl) ⟨_, rfl, ?_⟩)))
    | (((with_reducible refine gW ?_); (first | with_reducible refine WP.seq ?_ | refine WP.reg mixed (fun ks => _) (fun ks => rfl) (fun ks => ?_) | ((first | (apply cdD; apply Eq.refl) | (apply WP.condE; apply Eq.refl) | (apply WP.condN; apply Eq.refl) | (apply WP.condA; apply Eq.refl)) <;> (intro hc; first | with_reducible exact ff hc | with_reducible exact ff' hc | skip)) | refine WP.ret ?_ | refine WP.skip ?_ | refine WP.exit ?_ | refine WP.goto ?_ | refine WP.label ?_ | refine WP.block ?_)))
    | (with_reducible refine thn_n ?_)
    | (with_reducible refine thn_r ?_)
    | (with_reducible refine thn_e ?_)
    | (with_reducible refine thn_g ?_)
    | (with_reducible refine blk_n ?_)
    | (with_reducible refine blk_r ?_)
    | (with_reducible refine blk_e ?_)
    | (with_reducible refine blk_g ?_)
    | (((with_reducible refine blk_o ?_ ?_); first | exact rfl | skip))
    | (refine Endz.mk' (by first | exact Or.inl rfl | exact Or.inr rfl) (by repeat (first | exact RVs.nil | apply RVs.cons | exact RV1.tmp rfl | exact RV1.row rfl rfl rfl (by repeat (first | exact look_here | apply look_there)) (by exact rfl) | exact RV1.cell rfl rfl rfl (by repeat (first | exact look_here | apply look_there)) (by exact rfl))) (by rfl) (by repeat (first | exact List.nil_sublist _ | exact List.Sublist.refl _ | apply List.Sublist.cons_cons | apply List.Sublist.cons))))

theorem keeper_on {o i : Nat} (ho : o < 128) (hi : i < 7) : orX ((o : Nat) : Int) (shX ((i : Nat) : Int)) = ((o ||| 2 ^ i : Nat) : Int) := by rw [sh_eq i hi]; exact or_eq ho (pow7 hi)
theorem keeper_off {o i : Nat} (ho : o < 128) (hi : i < 7) : anX ((o : Nat) : Int) (shX ((i : Nat) : Int)) = ((nAn o (2 ^ i) : Nat) : Int) := by rw [sh_eq i hi]; exact anX_eq ho (pow7 hi)
set_option maxHeartbeats 8000000 in
theorem keeper_Step (p q : Nat) (h : Int) (n : Nat) (hn : n ≤ 7) (N0 : Nat → Int) (on0 : Nat) (ho0 : on0 < 128) (want : Int) : Ctr Tryd.prog 6 68 [.pointer (some ⟨p, 0, none⟩), I64 want] [(p, .cells [I64 (h), .slice (some ⟨q, 0, none⟩) n n, I64 ((on0 : Nat) : Int)] 150), (q, .cells (lm N0 n) 3)] (I64 (((kTurns h (tB want) (N0, on0) n).2 : Nat) : Int)) [.cells [I64 (h), .slice (some ⟨q, 0, none⟩) n n, I64 (((kTurns h (tB want) (N0, on0) n).2 : Nat) : Int)] 150, .cells (lm (kTurns h (tB want) (N0, on0) n).1 n) 3] := by
  refine Ctr.by layOk Tryd.func68 Tryd.ntmps68 rfl rfl rfl rfl rfl ?_
  repeat' (first
    | (((first | (with_reducible refine gQ0 ?_) | ((with_reducible refine gQ1 ?_ ?_); (focus (apply wg (r := true); (iterate 6 apply Eq.refl))))); (first | ((with_reducible apply q_move); apply Eq.refl) | ((with_reducible apply q_assign); apply Eq.refl) | ((with_reducible apply q_int); (iterate 3 apply Eq.refl)) | ((with_reducible apply q_nilCheck); apply Eq.refl) | ((with_reducible apply q_fa layOk); (iterate 5 apply Eq.refl)) | ((with_reducible apply q_load layOk); (iterate 3 apply Eq.refl); (focus (repeat (with_reducible (first | apply lh | apply lt)))); apply Eq.refl) | ((with_reducible apply q_loadr layOk); (iterate 3 apply Eq.refl); (focus (repeat (with_reducible (first | apply lh | apply lt)))); apply Eq.refl) | ((with_reducible apply q_min); apply Eq.refl) | ((with_reducible apply q_len layOk); (iterate 4 apply Eq.refl)) | ((with_reducible apply q_shr); (iterate 2 apply Eq.refl); (focus (omega))) | ((with_reducible apply q_shl); (iterate 2 apply Eq.refl); (focus (omega))) | ((with_reducible apply e_store layOk); (iterate 3 apply Eq.refl); (focus (repeat (with_reducible (first | apply lh | apply lt)))); (iterate 3 apply Eq.refl); exact (lm_put N _ hi _); apply Eq.refl) | ((with_reducible apply e_store layOk); (iterate 3 apply Eq.refl); (focus (repeat (with_reducible (first | apply lh | apply lt)))); (iterate 5 apply Eq.refl)))))
    | (((with_reducible refine gR ?_); (first | refine RK.peelN rfl ?_ | refine RK.donef rfl ⟨_, rfl, ?_⟩ | refine RK.donet rfl (by kernel_rfl) ⟨_, rfl, ?_⟩)))
    | ((first | (with_reducible refine gQv ?_ ?_) | (with_reducible refine gQe ?_ ?_)); (focus (first | (apply wg (r := false); (iterate 6 apply Eq.refl)) | (apply wz; (iterate 4 apply Eq.refl)))))
    | ((with_reducible refine gK ?_); ((first | (apply gsD; (iterate 4 apply Eq.refl)) | (apply RKo.gsplitE; (iterate 4 apply Eq.refl)) | (apply RKo.gsplitN; (iterate 4 apply Eq.refl)) | (apply RKo.gsplit; (iterate 4 apply Eq.refl))) <;> (intro hc; first | with_reducible exact ff hc | with_reducible exact ff' hc | skip)))
    | (((with_reducible refine gW ?_); (first | with_reducible refine WP.seq ?_ | refine WP.reg mixed (fun ks => _) (fun ks => rfl) (fun ks => ?_) | ((first | (apply cdD; apply Eq.refl) | (apply WP.condE; apply Eq.refl) | (apply WP.condN; apply Eq.refl) | (apply WP.condA; apply Eq.refl)) <;> (intro hc; first | with_reducible exact ff hc | with_reducible exact ff' hc | skip)) | refine WP.ret ?_ | refine WP.skip ?_ | refine WP.exit ?_ | refine WP.goto ?_ | refine WP.label ?_ | refine WP.block ?_)))
    | (with_reducible refine thn_n ?_)
    | (with_reducible refine thn_r ?_)
    | (with_reducible refine thn_e ?_)
    | (with_reducible refine thn_g ?_)
    | (with_reducible refine blk_n ?_)
    | (with_reducible refine blk_r ?_)
    | (with_reducible refine blk_e ?_)
    | (with_reducible refine blk_g ?_)
    | (((with_reducible refine blk_o ?_ ?_); first | exact rfl | skip))
    | (refine Endz.mk' (by first | exact Or.inl rfl | exact Or.inr rfl) (by repeat (first | exact RVs.nil | apply RVs.cons | exact RV1.tmp rfl | exact RV1.row rfl rfl rfl (by repeat (first | exact look_here | apply look_there)) (by exact rfl) | exact RV1.cell rfl rfl rfl (by repeat (first | exact look_here | apply look_there)) (by exact rfl))) (by rfl) (by repeat (first | exact List.nil_sublist _ | exact List.Sublist.refl _ | apply List.Sublist.cons_cons | apply List.Sublist.cons))))
  refine WP.loopI (n := 75) (α := Nat) (fun i => [(0, some (.pointer (some ⟨p, 0, none⟩))), (1, some (I64 want)), (10, some (I64 (n : Int))), (11, some (I64 (i : Int)))]) (fun i => [(p, .cells [I64 (h), .slice (some ⟨q, 0, none⟩) n n, I64 (((kTurns h (tB want) (N0, on0) i).2 : Nat) : Int)] 150), (q, .cells (lm (kTurns h (tB want) (N0, on0) i).1 n) 3)]) (fun i => i ≤ n) (fun i => n - i) 0 (Wk.of ⟨rfl, rfl, rfl, rfl, trivial⟩ (by repeat (first | exact List.nil_sublist _ | exact List.Sublist.refl _ | apply List.Sublist.cons_cons | apply List.Sublist.cons))) (Nat.zero_le _) (fun i iy => ?_)
  have iy : i ≤ n := iy
  by_cases hi : i < n
  rotate_left
  · have hge : ¬ (i : Int) < (n : Int) := by omega
    obtain rfl : i = n := by omega
    repeat' (first
      | (((first | (with_reducible refine gQ0 ?_) | ((with_reducible refine gQ1 ?_ ?_); (focus (apply wg (r := true); (iterate 6 apply Eq.refl))))); (first | ((with_reducible apply q_move); apply Eq.refl) | ((with_reducible apply q_assign); apply Eq.refl) | ((with_reducible apply q_int); (iterate 3 apply Eq.refl)) | ((with_reducible apply q_nilCheck); apply Eq.refl) | ((with_reducible apply q_fa layOk); (iterate 5 apply Eq.refl)) | ((with_reducible apply q_load layOk); (iterate 3 apply Eq.refl); (focus (repeat (with_reducible (first | apply lh | apply lt)))); apply Eq.refl) | ((with_reducible apply q_loadr layOk); (iterate 3 apply Eq.refl); (focus (repeat (with_reducible (first | apply lh | apply lt)))); apply Eq.refl) | ((with_reducible apply q_min); apply Eq.refl) | ((with_reducible apply q_len layOk); (iterate 4 apply Eq.refl)) | ((with_reducible apply q_shr); (iterate 2 apply Eq.refl); (focus (omega))) | ((with_reducible apply q_shl); (iterate 2 apply Eq.refl); (focus (omega))) | ((with_reducible apply e_store layOk); (iterate 3 apply Eq.refl); (focus (repeat (with_reducible (first | apply lh | apply lt)))); (iterate 3 apply Eq.refl); exact (lm_put N _ hi _); apply Eq.refl) | ((with_reducible apply e_store layOk); (iterate 3 apply Eq.refl); (focus (repeat (with_reducible (first | apply lh | apply lt)))); (iterate 5 apply Eq.refl)))))
      | (((with_reducible refine gR ?_); (first | refine RK.peelN rfl ?_ | refine RK.donef rfl ⟨_, rfl, ?_⟩ | refine RK.donet rfl (by kernel_rfl) ⟨_, rfl, ?_⟩)))
      | ((first | (with_reducible refine gQv ?_ ?_) | (with_reducible refine gQe ?_ ?_)); (focus (first | (apply wg (r := false); (iterate 6 apply Eq.refl)) | (apply wz; (iterate 4 apply Eq.refl)))))
      | ((with_reducible refine gK ?_); ((first | (apply gsD; (iterate 4 apply Eq.refl)) | (apply RKo.gsplitE; (iterate 4 apply Eq.refl)) | (apply RKo.gsplitN; (iterate 4 apply Eq.refl)) | (apply RKo.gsplit; (iterate 4 apply Eq.refl))) <;> (intro hc; first | with_reducible exact ff hc | with_reducible exact ff' hc | with_reducible exact absurd hge hc | with_reducible exact absurd hc hge | skip)))
      | (((with_reducible refine gW ?_); (first | with_reducible refine WP.seq ?_ | refine WP.reg mixed (fun ks => _) (fun ks => rfl) (fun ks => ?_) | ((first | (apply cdD; apply Eq.refl) | (apply WP.condE; apply Eq.refl) | (apply WP.condN; apply Eq.refl) | (apply WP.condA; apply Eq.refl)) <;> (intro hc; first | with_reducible exact ff hc | with_reducible exact ff' hc | with_reducible exact absurd hge hc | with_reducible exact absurd hc hge | skip)) | refine WP.ret ?_ | refine WP.skip ?_ | refine WP.exit ?_ | refine WP.goto ?_ | refine WP.label ?_ | refine WP.block ?_)))
      | (with_reducible refine thn_n ?_)
      | (with_reducible refine thn_r ?_)
      | (with_reducible refine thn_e ?_)
      | (with_reducible refine thn_g ?_)
      | (with_reducible refine blk_n ?_)
      | (with_reducible refine blk_r ?_)
      | (with_reducible refine blk_e ?_)
      | (with_reducible refine blk_g ?_)
      | (((with_reducible refine blk_o ?_ ?_); first | exact rfl | skip))
      | (refine Endz.mk' (by first | exact Or.inl rfl | exact Or.inr rfl) (by repeat (first | exact RVs.nil | apply RVs.cons | exact RV1.tmp rfl | exact RV1.row rfl rfl rfl (by repeat (first | exact look_here | apply look_there)) (by exact rfl) | exact RV1.cell rfl rfl rfl (by repeat (first | exact look_here | apply look_there)) (by exact rfl))) (by rfl) (by repeat (first | exact List.nil_sublist _ | exact List.Sublist.refl _ | apply List.Sublist.cons_cons | apply List.Sublist.cons))))
  have hlt : (i : Int) < (n : Int) := by omega
  have hw : IntKind.i64.wrap ((i : Int) + 1) = ((i + 1 : Nat) : Int) := kp1 (by omega)
  have ho := kTurns_lt (h := h) (b := tB want) (st := (N0, on0)) ho0 i (by omega)
  have hbx := bitX_eq want (c := i) (by omega)
  obtain ⟨st, hst⟩ : ∃ st, kTurns h (tB want) (N0, on0) i = st := ⟨_, rfl⟩
  rw [hst] at ho ⊢
  obtain ⟨N, o⟩ := st
  dsimp only at ho ⊢
  have hor := keeper_on ho (i := i) (by omega)
  have hof := keeper_off ho (i := i) (by omega)
  cases hb : tB want i with
  | false =>
    have e := kT_no hst hb
    have hx : bitX want i = 0 := by rw [hbx, hb]; rfl
    repeat' (first
      | (((first | (with_reducible refine gQ0 ?_) | ((with_reducible refine gQ1 ?_ ?_); (focus (apply wg (r := true); (iterate 6 apply Eq.refl))))); (first | ((with_reducible apply q_load layOk); (iterate 3 apply Eq.refl); (focus (repeat (with_reducible (first | apply lh | apply lt)))); exact (lm_at N hi _)) | ((with_reducible apply q_load layOk); (iterate 3 apply Eq.refl); (focus (repeat (with_reducible (first | apply lh | apply lt)))); exact hget) | ((with_reducible apply q_idxN (m := i) layOk); (iterate 4 apply Eq.refl); exact (fun _ => rfl); apply Eq.refl; exact hi) | ((with_reducible apply q_move); apply Eq.refl) | ((with_reducible apply q_assign); apply Eq.refl) | ((with_reducible apply q_int); (iterate 3 apply Eq.refl)) | ((with_reducible apply q_nilCheck); apply Eq.refl) | ((with_reducible apply q_fa layOk); (iterate 5 apply Eq.refl)) | ((with_reducible apply q_load layOk); (iterate 3 apply Eq.refl); (focus (repeat (with_reducible (first | apply lh | apply lt)))); apply Eq.refl) | ((with_reducible apply q_loadr layOk); (iterate 3 apply Eq.refl); (focus (repeat (with_reducible (first | apply lh | apply lt)))); apply Eq.refl) | ((with_reducible apply q_min); apply Eq.refl) | ((with_reducible apply q_len layOk); (iterate 4 apply Eq.refl)) | ((with_reducible apply q_shr); (iterate 2 apply Eq.refl); (focus (omega))) | ((with_reducible apply q_shl); (iterate 2 apply Eq.refl); (focus (omega))) | ((with_reducible apply e_store layOk); (iterate 3 apply Eq.refl); (focus (repeat (with_reducible (first | apply lh | apply lt)))); (iterate 3 apply Eq.refl); exact (lm_put N _ hi _); apply Eq.refl) | ((with_reducible apply e_store layOk); (iterate 3 apply Eq.refl); (focus (repeat (with_reducible (first | apply lh | apply lt)))); (iterate 5 apply Eq.refl)))))
      | (((with_reducible refine gR ?_); (first | refine RK.peelN rfl ?_ | refine RK.donef rfl ⟨_, rfl, ?_⟩ | refine RK.donet rfl (by kernel_rfl) ⟨_, rfl, ?_⟩)))
      | ((first | (with_reducible refine gQv ?_ ?_) | (with_reducible refine gQe ?_ ?_)); (focus (first | (apply wg (r := false); (iterate 6 apply Eq.refl)) | (apply wz; (iterate 4 apply Eq.refl)))))
      | ((with_reducible refine gK ?_); ((first | (apply gsD; (iterate 4 apply Eq.refl)) | (apply RKo.gsplitE; (iterate 4 apply Eq.refl)) | (apply RKo.gsplitN; (iterate 4 apply Eq.refl)) | (apply RKo.gsplit; (iterate 4 apply Eq.refl))) <;> (intro hc; first | with_reducible exact ff hc | with_reducible exact ff' hc | exact absurd hc (by decide) | with_reducible exact absurd hlt hc | with_reducible exact absurd hx hc | with_reducible exact absurd hc hlt | with_reducible exact absurd hc hx | skip)))
      | (((with_reducible refine gW ?_); (first | with_reducible refine WP.seq ?_ | refine WP.reg mixed (fun ks => _) (fun ks => rfl) (fun ks => ?_) | ((first | (apply cdD; apply Eq.refl) | (apply WP.condE; apply Eq.refl) | (apply WP.condN; apply Eq.refl) | (apply WP.condA; apply Eq.refl)) <;> (intro hc; first | with_reducible exact ff hc | with_reducible exact ff' hc | exact absurd hc (by decide) | with_reducible exact absurd hlt hc | with_reducible exact absurd hx hc | with_reducible exact absurd hc hlt | with_reducible exact absurd hc hx | skip)) | refine WP.ret ?_ | refine WP.skip ?_ | refine WP.exit ?_ | refine WP.goto ?_ | refine WP.label ?_ | refine WP.block ?_)))
      | (with_reducible refine thn_n ?_)
      | (with_reducible refine thn_r ?_)
      | (with_reducible refine thn_e ?_)
      | (with_reducible refine thn_g ?_)
      | (with_reducible refine blk_n ?_)
      | (with_reducible refine blk_r ?_)
      | (with_reducible refine blk_e ?_)
      | (with_reducible refine blk_g ?_)
      | (((with_reducible refine blk_o ?_ ?_); first | exact rfl | skip))
      | (refine Endz.mk' (by first | exact Or.inl rfl | exact Or.inr rfl) (by repeat (first | exact RVs.nil | apply RVs.cons | exact RV1.tmp rfl | exact RV1.row rfl rfl rfl (by repeat (first | exact look_here | apply look_there)) (by exact rfl) | exact RV1.cell rfl rfl rfl (by repeat (first | exact look_here | apply look_there)) (by exact rfl))) (by rfl) (by repeat (first | exact List.nil_sublist _ | exact List.Sublist.refl _ | apply List.Sublist.cons_cons | apply List.Sublist.cons))))
    refine ⟨i + 1, hi, by show n - (i + 1) < n - i; omega, ?_⟩
    rw [e]
    rw [← hof]
    exact Wk.of ⟨rfl, rfl, rfl, congrArg (fun x => some (I64 x)) hw, trivial⟩ (by repeat (first | exact List.nil_sublist _ | exact List.Sublist.refl _ | apply List.Sublist.cons_cons | apply List.Sublist.cons))
  | true =>
    have hx : ¬ bitX want i = 0 := by rw [hbx, hb]; decide
    have hget : AObj.at (.cells (lm (upd1 N i (kMin (N i))) n) 3) (0 + i * 1) = some (I64 (kMin (N i))) := by rw [lm_at _ hi, upd1_at]
    by_cases hg : kMin (N i) ≥ h
    · have e := kT_ge hst hb hg
      repeat' (first
        | (((first | (with_reducible refine gQ0 ?_) | ((with_reducible refine gQ1 ?_ ?_); (focus (apply wg (r := true); (iterate 6 apply Eq.refl))))); (first | ((with_reducible apply q_load layOk); (iterate 3 apply Eq.refl); (focus (repeat (with_reducible (first | apply lh | apply lt)))); exact (lm_at N hi _)) | ((with_reducible apply q_load layOk); (iterate 3 apply Eq.refl); (focus (repeat (with_reducible (first | apply lh | apply lt)))); exact hget) | ((with_reducible apply q_idxN (m := i) layOk); (iterate 4 apply Eq.refl); exact (fun _ => rfl); apply Eq.refl; exact hi) | ((with_reducible apply q_move); apply Eq.refl) | ((with_reducible apply q_assign); apply Eq.refl) | ((with_reducible apply q_int); (iterate 3 apply Eq.refl)) | ((with_reducible apply q_nilCheck); apply Eq.refl) | ((with_reducible apply q_fa layOk); (iterate 5 apply Eq.refl)) | ((with_reducible apply q_load layOk); (iterate 3 apply Eq.refl); (focus (repeat (with_reducible (first | apply lh | apply lt)))); apply Eq.refl) | ((with_reducible apply q_loadr layOk); (iterate 3 apply Eq.refl); (focus (repeat (with_reducible (first | apply lh | apply lt)))); apply Eq.refl) | ((with_reducible apply q_min); apply Eq.refl) | ((with_reducible apply q_len layOk); (iterate 4 apply Eq.refl)) | ((with_reducible apply q_shr); (iterate 2 apply Eq.refl); (focus (omega))) | ((with_reducible apply q_shl); (iterate 2 apply Eq.refl); (focus (omega))) | ((with_reducible apply e_store layOk); (iterate 3 apply Eq.refl); (focus (repeat (with_reducible (first | apply lh | apply lt)))); (iterate 3 apply Eq.refl); exact (lm_put N _ hi _); apply Eq.refl) | ((with_reducible apply e_store layOk); (iterate 3 apply Eq.refl); (focus (repeat (with_reducible (first | apply lh | apply lt)))); (iterate 5 apply Eq.refl)))))
        | (((with_reducible refine gR ?_); (first | refine RK.peelN rfl ?_ | refine RK.donef rfl ⟨_, rfl, ?_⟩ | refine RK.donet rfl (by kernel_rfl) ⟨_, rfl, ?_⟩)))
        | ((first | (with_reducible refine gQv ?_ ?_) | (with_reducible refine gQe ?_ ?_)); (focus (first | (apply wg (r := false); (iterate 6 apply Eq.refl)) | (apply wz; (iterate 4 apply Eq.refl)))))
        | ((with_reducible refine gK ?_); ((first | (apply gsD; (iterate 4 apply Eq.refl)) | (apply RKo.gsplitE; (iterate 4 apply Eq.refl)) | (apply RKo.gsplitN; (iterate 4 apply Eq.refl)) | (apply RKo.gsplit; (iterate 4 apply Eq.refl))) <;> (intro hc; first | with_reducible exact ff hc | with_reducible exact ff' hc | exact absurd hc (by decide) | with_reducible exact absurd hlt hc | with_reducible exact absurd hx hc | with_reducible exact absurd hg hc | with_reducible exact absurd hc hlt | with_reducible exact absurd hc hx | with_reducible exact absurd hc hg | skip)))
        | (((with_reducible refine gW ?_); (first | with_reducible refine WP.seq ?_ | refine WP.reg mixed (fun ks => _) (fun ks => rfl) (fun ks => ?_) | ((first | (apply cdD; apply Eq.refl) | (apply WP.condE; apply Eq.refl) | (apply WP.condN; apply Eq.refl) | (apply WP.condA; apply Eq.refl)) <;> (intro hc; first | with_reducible exact ff hc | with_reducible exact ff' hc | exact absurd hc (by decide) | with_reducible exact absurd hlt hc | with_reducible exact absurd hx hc | with_reducible exact absurd hg hc | with_reducible exact absurd hc hlt | with_reducible exact absurd hc hx | with_reducible exact absurd hc hg | skip)) | refine WP.ret ?_ | refine WP.skip ?_ | refine WP.exit ?_ | refine WP.goto ?_ | refine WP.label ?_ | refine WP.block ?_)))
        | (with_reducible refine thn_n ?_)
        | (with_reducible refine thn_r ?_)
        | (with_reducible refine thn_e ?_)
        | (with_reducible refine thn_g ?_)
        | (with_reducible refine blk_n ?_)
        | (with_reducible refine blk_r ?_)
        | (with_reducible refine blk_e ?_)
        | (with_reducible refine blk_g ?_)
        | (((with_reducible refine blk_o ?_ ?_); first | exact rfl | skip))
        | (refine Endz.mk' (by first | exact Or.inl rfl | exact Or.inr rfl) (by repeat (first | exact RVs.nil | apply RVs.cons | exact RV1.tmp rfl | exact RV1.row rfl rfl rfl (by repeat (first | exact look_here | apply look_there)) (by exact rfl) | exact RV1.cell rfl rfl rfl (by repeat (first | exact look_here | apply look_there)) (by exact rfl))) (by rfl) (by repeat (first | exact List.nil_sublist _ | exact List.Sublist.refl _ | apply List.Sublist.cons_cons | apply List.Sublist.cons))))
      refine ⟨i + 1, hi, by show n - (i + 1) < n - i; omega, ?_⟩
      rw [e]
      rw [← hor]
      exact Wk.of ⟨rfl, rfl, rfl, congrArg (fun x => some (I64 x)) hw, trivial⟩ (by repeat (first | exact List.nil_sublist _ | exact List.Sublist.refl _ | apply List.Sublist.cons_cons | apply List.Sublist.cons))
    · have e := kT_lt hst hb hg
      repeat' (first
        | (((first | (with_reducible refine gQ0 ?_) | ((with_reducible refine gQ1 ?_ ?_); (focus (apply wg (r := true); (iterate 6 apply Eq.refl))))); (first | ((with_reducible apply q_load layOk); (iterate 3 apply Eq.refl); (focus (repeat (with_reducible (first | apply lh | apply lt)))); exact (lm_at N hi _)) | ((with_reducible apply q_load layOk); (iterate 3 apply Eq.refl); (focus (repeat (with_reducible (first | apply lh | apply lt)))); exact hget) | ((with_reducible apply q_idxN (m := i) layOk); (iterate 4 apply Eq.refl); exact (fun _ => rfl); apply Eq.refl; exact hi) | ((with_reducible apply q_move); apply Eq.refl) | ((with_reducible apply q_assign); apply Eq.refl) | ((with_reducible apply q_int); (iterate 3 apply Eq.refl)) | ((with_reducible apply q_nilCheck); apply Eq.refl) | ((with_reducible apply q_fa layOk); (iterate 5 apply Eq.refl)) | ((with_reducible apply q_load layOk); (iterate 3 apply Eq.refl); (focus (repeat (with_reducible (first | apply lh | apply lt)))); apply Eq.refl) | ((with_reducible apply q_loadr layOk); (iterate 3 apply Eq.refl); (focus (repeat (with_reducible (first | apply lh | apply lt)))); apply Eq.refl) | ((with_reducible apply q_min); apply Eq.refl) | ((with_reducible apply q_len layOk); (iterate 4 apply Eq.refl)) | ((with_reducible apply q_shr); (iterate 2 apply Eq.refl); (focus (omega))) | ((with_reducible apply q_shl); (iterate 2 apply Eq.refl); (focus (omega))) | ((with_reducible apply e_store layOk); (iterate 3 apply Eq.refl); (focus (repeat (with_reducible (first | apply lh | apply lt)))); (iterate 3 apply Eq.refl); exact (lm_put N _ hi _); apply Eq.refl) | ((with_reducible apply e_store layOk); (iterate 3 apply Eq.refl); (focus (repeat (with_reducible (first | apply lh | apply lt)))); (iterate 5 apply Eq.refl)))))
        | (((with_reducible refine gR ?_); (first | refine RK.peelN rfl ?_ | refine RK.donef rfl ⟨_, rfl, ?_⟩ | refine RK.donet rfl (by kernel_rfl) ⟨_, rfl, ?_⟩)))
        | ((first | (with_reducible refine gQv ?_ ?_) | (with_reducible refine gQe ?_ ?_)); (focus (first | (apply wg (r := false); (iterate 6 apply Eq.refl)) | (apply wz; (iterate 4 apply Eq.refl)))))
        | ((with_reducible refine gK ?_); ((first | (apply gsD; (iterate 4 apply Eq.refl)) | (apply RKo.gsplitE; (iterate 4 apply Eq.refl)) | (apply RKo.gsplitN; (iterate 4 apply Eq.refl)) | (apply RKo.gsplit; (iterate 4 apply Eq.refl))) <;> (intro hc; first | with_reducible exact ff hc | with_reducible exact ff' hc | exact absurd hc (by decide) | with_reducible exact absurd hlt hc | with_reducible exact absurd hx hc | with_reducible exact absurd hg hc | with_reducible exact absurd hc hlt | with_reducible exact absurd hc hx | with_reducible exact absurd hc hg | skip)))
        | (((with_reducible refine gW ?_); (first | with_reducible refine WP.seq ?_ | refine WP.reg mixed (fun ks => _) (fun ks => rfl) (fun ks => ?_) | ((first | (apply cdD; apply Eq.refl) | (apply WP.condE; apply Eq.refl) | (apply WP.condN; apply Eq.refl) | (apply WP.condA; apply Eq.refl)) <;> (intro hc; first | with_reducible exact ff hc | with_reducible exact ff' hc | exact absurd hc (by decide) | with_reducible exact absurd hlt hc | with_reducible exact absurd hx hc | with_reducible exact absurd hg hc | with_reducible exact absurd hc hlt | with_reducible exact absurd hc hx | with_reducible exact absurd hc hg | skip)) | refine WP.ret ?_ | refine WP.skip ?_ | refine WP.exit ?_ | refine WP.goto ?_ | refine WP.label ?_ | refine WP.block ?_)))
        | (with_reducible refine thn_n ?_)
        | (with_reducible refine thn_r ?_)
        | (with_reducible refine thn_e ?_)
        | (with_reducible refine thn_g ?_)
        | (with_reducible refine blk_n ?_)
        | (with_reducible refine blk_r ?_)
        | (with_reducible refine blk_e ?_)
        | (with_reducible refine blk_g ?_)
        | (((with_reducible refine blk_o ?_ ?_); first | exact rfl | skip))
        | (refine Endz.mk' (by first | exact Or.inl rfl | exact Or.inr rfl) (by repeat (first | exact RVs.nil | apply RVs.cons | exact RV1.tmp rfl | exact RV1.row rfl rfl rfl (by repeat (first | exact look_here | apply look_there)) (by exact rfl) | exact RV1.cell rfl rfl rfl (by repeat (first | exact look_here | apply look_there)) (by exact rfl))) (by rfl) (by repeat (first | exact List.nil_sublist _ | exact List.Sublist.refl _ | apply List.Sublist.cons_cons | apply List.Sublist.cons))))
      refine ⟨i + 1, hi, by show n - (i + 1) < n - i; omega, ?_⟩
      rw [e]
      exact Wk.of ⟨rfl, rfl, rfl, congrArg (fun x => some (I64 x)) hw, trivial⟩ (by repeat (first | exact List.nil_sublist _ | exact List.Sublist.refl _ | apply List.Sublist.cons_cons | apply List.Sublist.cons))
end Go.Proofs.YtlhhcongoplfpaaDoor
