/- What functions of this program do, each as a contract that its callers use.
   By an AI agent. -/
import Derived.Test.YtlhhcongoplfpaaAB
import Derived.Test.YtlhhcongoplfpaaLay1
import Derived.Test.YtlhhcongoplfpaaT11
namespace Go.Proofs.Ytlhhcongoplfpaa
open Go Go.Proofs.YtlhhcongoplfpaaAB
set_option linter.unusedSimpArgs false
set_option linter.unusedVariables false

theorem fSub_in {a b : Int} (h1 : -1000000000000 ≤ a) (h2 : a ≤ 1000000000000) (h3 : -1000000000000 ≤ b) (h4 : b ≤ 1000000000000) : fSub a b = a - b := by
  unfold fSub
  rw [wrap_in (x := a - b) (by omega) (by omega)]
  rw [IntKind.wrap_i64, IntKind.wrap_i64]
  rw [if_neg (by omega), if_neg (by omega)]
theorem fAdd_in {a b : Int} (h1 : -1000000000000 ≤ a) (h2 : a ≤ 1000000000000) (h3 : -1000000000000 ≤ b) (h4 : b ≤ 1000000000000) : fAdd a b = a + b := by
  unfold fAdd
  rw [wrap_in (x := a + b) (by omega) (by omega)]
  rw [IntKind.wrap_i64, IntKind.wrap_i64]
  rw [if_neg (by omega), if_neg (by omega)]
theorem clamp_in {x hi lo : Int} (h1 : x ≤ hi) (h2 : lo ≤ x) : mx (mn x hi) lo = x := by
  unfold mx mn
  rw [if_neg (by omega), if_neg (by omega)]
theorem num_nonneg (n b : Int) (hb : 0 < b) (hb2 : b < 1000000000) : 0 ≤ num n b ∧ num n b < b := by
  unfold num
  have h1 : n.tmod b < b := Int.tmod_lt_of_pos n hb
  have h2 : -b < n.tmod b := Int.lt_tmod_of_pos n hb
  split
  · rw [wrap_in (by omega) (by omega)]; omega
  · omega
theorem tmod_in (a : Int) : -100 < a.tmod 100 ∧ a.tmod 100 < 100 := ⟨Int.lt_tmod_of_pos a (by decide), Int.tmod_lt_of_pos a (by decide)⟩
theorem mul_in {A : Int} {x m : Nat} (h1 : -100 < A) (h2 : A < 100) (hx : x ≤ m) : -(100 * (m : Int)) ≤ A * (x : Int) ∧ A * (x : Int) ≤ 100 * (m : Int) := by
  have h3 : A * (x : Int) ≤ 100 * (x : Int) := Int.mul_le_mul_of_nonneg_right (by omega) (by omega)
  have h4 : (-100) * (x : Int) ≤ A * (x : Int) := Int.mul_le_mul_of_nonneg_right (by omega) (by omega)
  omega
theorem q_row {c : Cfg} (hc : c.Cap = 100000) (he : c.AmpErr = 0) {lo A : Int} (h1 : -100 < A) (h2 : A < 100) (h3 : 0 ≤ lo - A) (h4 : lo - A ≤ 100000) :
    qLo c lo A true = lo - A ∧ qHi c lo A true = lo - A := by
  have e1 : outHi c A true = A := by
    show wHi (mx A A) c.AmpErr = A; unfold wHi; rw [he, if_neg (by decide)]
    have : mx A A = A := by unfold mx; simp
    rw [this, fAdd_in (by omega) (by omega) (by omega) (by omega)]; omega
  have e2 : outLo c A true = A := by
    show wLo (mn A A) c.AmpErr = A; unfold wLo; rw [he, if_neg (by decide)]
    have : mn A A = A := by unfold mn; simp
    rw [this, fSub_in (by omega) (by omega) (by omega) (by omega)]; omega
  unfold qLo qHi
  rw [e1, e2, hc, fSub_in (by omega) (by omega) (by omega) (by omega), clamp_in (by omega) (by omega)]
  exact ⟨rfl, rfl⟩
theorem q_blind {c : Cfg} (hc : c.Cap = 100000) (he : c.Imax = 500) {lo hi A : Int} (h3 : 500 ≤ lo) (h4 : lo ≤ 99000) (h5 : 0 ≤ hi) (h6 : hi ≤ 99000) :
    qLo c lo A false = lo - 500 ∧ qHi c hi A false = hi + 500 := by
  have e1 : outHi c A false = 500 := by show mx (IntKind.i64.wrap (0 - c.Imax)) c.Imax = 500; rw [he]; decide
  have e2 : outLo c A false = -500 := by show mn (IntKind.i64.wrap (0 - c.Imax)) c.Imax = -500; rw [he]; decide
  unfold qLo qHi
  rw [e1, e2, hc, fSub_in (by omega) (by omega) (by omega) (by omega), fSub_in (by omega) (by omega) (by omega) (by omega), clamp_in (by omega) (by omega), clamp_in (by omega) (by omega)]
  exact ⟨rfl, by omega⟩

theorem new_rows (n A : Int) (k p1 : Nat) : Ctr Try.prog 0 9 [.agg ⟨(cfgOf n 0 0 (some ⟨p1, 0, none⟩) none 0 0).cells⟩, .agg #[I64 (50000), I64 (50010)]] [(k, .gone)] (.pointer (some ⟨k, 0, none⟩)) [.cells ((cfgOf n 0 0 (some ⟨p1, 0, none⟩) none 0 0).cells ++ [I64 (50000 - A * ((0 : Nat) : Int)), I64 (50010 - A * ((0 : Nat) : Int))]) 56] := by
  have h := Counter_New k (cfgOf n 0 0 (some ⟨p1, 0, none⟩) none 0 0) 50000 50010
  have e1 : mx (mn 50000 (cfgOf n 0 0 (some ⟨p1, 0, none⟩) none 0 0).Cap) 0 = 50000 - A * ((0 : Nat) : Int) := by
    rw [show (cfgOf n 0 0 (some ⟨p1, 0, none⟩) none 0 0).Cap = 100000 from rfl, clamp_in (by omega) (by omega)]; simp
  have e2 : mx (mn 50010 (cfgOf n 0 0 (some ⟨p1, 0, none⟩) none 0 0).Cap) 0 = 50010 - A * ((0 : Nat) : Int) := by
    rw [show (cfgOf n 0 0 (some ⟨p1, 0, none⟩) none 0 0).Cap = 100000 from rfl, clamp_in (by omega) (by omega)]; simp
  rw [e1, e2] at h
  exact h
theorem step_rows (n A : Int) (p p1 x : Nat) (h1 : -100 < A) (h2 : A < 100) (hx : x < 100) : Ctr Try.prog 0 16 [.pointer (some ⟨p, 0, none⟩), .agg #[I64 A, .bool true]] [(p, .cells ((cfgOf n 0 0 (some ⟨p1, 0, none⟩) none 0 0).cells ++ [I64 (50000 - A * (x : Int)), I64 (50010 - A * (x : Int))]) 56)] (.agg #[I64 (50000 - A * ((x + 1 : Nat) : Int)), I64 (50010 - A * ((x + 1 : Nat) : Int))])
    [.cells ((cfgOf n 0 0 (some ⟨p1, 0, none⟩) none 0 0).cells ++ [I64 (50000 - A * ((x + 1 : Nat) : Int)), I64 (50010 - A * ((x + 1 : Nat) : Int))]) 56] := by
  have h := Counter_Step p (cfgOf n 0 0 (some ⟨p1, 0, none⟩) none 0 0) (50000 - A * (x : Int)) (50010 - A * (x : Int)) A true
  have hm := mul_in h1 h2 (Nat.le_refl (x + 1))
  have ex : A * ((x + 1 : Nat) : Int) = A * (x : Int) + A := by rw [Int.natCast_add, Int.mul_add]; simp
  rw [ex] at hm ⊢
  have q1 := q_row (c := cfgOf n 0 0 (some ⟨p1, 0, none⟩) none 0 0) rfl (by show (n20 0).tmod 5 = 0; decide) (lo := 50000 - A * (x : Int)) h1 h2 (by omega) (by omega)
  have q2 := q_row (c := cfgOf n 0 0 (some ⟨p1, 0, none⟩) none 0 0) rfl (by show (n20 0).tmod 5 = 0; decide) (lo := 50010 - A * (x : Int)) h1 h2 (by omega) (by omega)
  rw [q1.1, q2.2, show 50000 - A * (x : Int) - A = 50000 - (A * (x : Int) + A) by omega, show 50010 - A * (x : Int) - A = 50010 - (A * (x : Int) + A) by omega] at h
  exact h
theorem step_blind (n l h v : Int) (p p1 x : Nat) (h1 : 40000 ≤ l) (h2 : l ≤ 60000) (h3 : 40000 ≤ h) (h4 : h ≤ 60010) (hx : x < 20) : Ctr Try.prog 0 16 [.pointer (some ⟨p, 0, none⟩), .agg #[I64 v, .bool false]] [(p, .cells ((cfgOf n 0 0 (some ⟨p1, 0, none⟩) none 0 0).cells ++ [I64 (l - 500 * (x : Int)), I64 (h + 500 * (x : Int))]) 56)] (.agg #[I64 (l - 500 * ((x + 1 : Nat) : Int)), I64 (h + 500 * ((x + 1 : Nat) : Int))])
    [.cells ((cfgOf n 0 0 (some ⟨p1, 0, none⟩) none 0 0).cells ++ [I64 (l - 500 * ((x + 1 : Nat) : Int)), I64 (h + 500 * ((x + 1 : Nat) : Int))]) 56] := by
  have g := Counter_Step p (cfgOf n 0 0 (some ⟨p1, 0, none⟩) none 0 0) (l - 500 * (x : Int)) (h + 500 * (x : Int)) v false
  have q1 := q_blind (c := cfgOf n 0 0 (some ⟨p1, 0, none⟩) none 0 0) rfl rfl (lo := l - 500 * (x : Int)) (hi := h + 500 * (x : Int)) (A := v) (by omega) (by omega) (by omega) (by omega)
  rw [q1.1, q1.2, show l - 500 * (x : Int) - 500 = l - 500 * ((x + 1 : Nat) : Int) by omega, show h + 500 * (x : Int) + 500 = h + 500 * ((x + 1 : Nat) : Int) by omega] at g
  exact g

set_option maxHeartbeats 4000000 in
theorem coulombRows (n a m b : Int) : Ctr Try.prog 0 5 [I64 n, I64 a, I64 m, I64 b] [] (.bool true) [] := by
  refine Ctr.by layOk Try.func5 Try.ntmps5 rfl rfl rfl rfl rfl ?_
  repeat' (first
    | exact absurd hc (by decide)
    | with_reducible exact ff hc
    | with_reducible exact ff' hc
    | ((with_reducible refine gK ?_); (first | refine RKo.val (o_call0 rfl (wn rfl) rfl (first18 ())) rfl (by exact rfl) ?_ | refine RKo.val (o_call0 rfl (wn rfl) rfl (world_Number _ _ (by decide))) rfl (by exact rfl) ?_ | refine RKo.val (o_call1 rfl (wn rfl) rfl (make_Config0 _ _ _ (ks _) cnt0) (by repeat (first | exact look_here | apply look_there))) rfl (by exact rfl) ?_ | refine RKo.val (o_call1 rfl (wn rfl) rfl (new_rows n (a.tmod 100) (ks _) _) (by repeat (first | exact look_here | apply look_there))) rfl (by exact rfl) ?_ | refine RKo.val (o_move rfl (wn rfl) rfl) rfl (by exact rfl) ?_ | refine RKo.val (o_assign rfl (wn rfl) rfl) rfl (by exact rfl) ?_ | refine RKo.val (o_int rfl (wn rfl) rfl rfl rfl) rfl (by exact rfl) ?_ | refine RKo.val (o_nilCheck rfl (wn rfl) rfl) rfl (by exact rfl) ?_ | refine RKo.val (fa_val layOk rfl (wn rfl) rfl rfl rfl rfl rfl) rfl (by exact rfl) ?_ | refine RKo.val (o_load layOk rfl (wn rfl) rfl rfl rfl (by repeat (first | exact look_here | apply look_there)) (by exact rfl)) rfl (by exact rfl) ?_ | refine RKo.val (o_loadr layOk rfl (wn rfl) rfl rfl rfl (by repeat (first | exact look_here | apply look_there)) (by exact rfl)) rfl (by exact rfl) ?_ | refine RKo.val (o_build layOk rfl (wn rfl) rfl rfl rfl rfl) rfl (by exact rfl) ?_ | refine RKo.val (o_min rfl (wn rfl) rfl) rfl (by exact rfl) ?_ | refine RKo.val (o_max rfl (wn rfl) rfl) rfl (by exact rfl) ?_ | refine RKo.val (o_neg rfl (wn rfl) rfl) rfl (by exact rfl) ?_ | refine RKo.val (o_not rfl (wn rfl) rfl) rfl (by exact rfl) ?_ | refine RKo.val (o_box (k := ks _) rfl (wn rfl) rfl (by repeat (first | exact look_here | apply look_there))) rfl (by exact rfl) ?_ | refine RKo.val (o_alloc (k := ks _) layOk rfl (wn rfl) rfl (by repeat (first | exact look_here | apply look_there))) rfl (by exact rfl) ?_ | refine RKo.val (o_pick_t rfl (wn rfl) rfl rfl) rfl (by exact rfl) ?_ | refine RKo.val (o_pick_f rfl (wn rfl) rfl rfl) rfl (by exact rfl) ?_ | refine RKo.val (o_rem rfl (wn rfl) rfl rfl (by decide)) rfl (by exact rfl) ?_ | refine RKo.val (o_quo rfl (wn rfl) rfl rfl (by decide)) rfl (by exact rfl) ?_ | refine RKo.val (o_eqnil rfl (wn rfl) (by kernel_rfl) rfl rfl) rfl (by exact rfl) ?_ | refine RKo.eff (o_store layOk rfl (wn rfl) rfl rfl rfl (by repeat (first | exact look_here | apply look_there)) rfl rfl rfl (by exact rfl)) rfl (by exact rfl) ?_ | refine RKo.eff (o_call0 rfl (wn rfl) rfl (first18 ())) rfl (by exact rfl) ?_ | refine RKo.eff (o_call0 rfl (wn rfl) rfl (world_Number _ _ (by decide))) rfl (by exact rfl) ?_ | refine RKo.eff (o_call1 rfl (wn rfl) rfl (make_Config0 _ _ _ (ks _) cnt0) (by repeat (first | exact look_here | apply look_there))) rfl (by exact rfl) ?_ | refine RKo.eff (o_call1 rfl (wn rfl) rfl (new_rows n (a.tmod 100) (ks _) _) (by repeat (first | exact look_here | apply look_there))) rfl (by exact rfl) ?_ | refine RKo.eff (o_rem rfl (wn rfl) rfl rfl (by decide)) rfl (by exact rfl) ?_ | refine RKo.eff (o_quo rfl (wn rfl) rfl rfl (by decide)) rfl (by exact rfl) ?_ | refine RKo.eff (o_eqnil rfl (wn rfl) (by kernel_rfl) rfl rfl) rfl (by exact rfl) ?_))
    | ((with_reducible refine gR ?_); (first | refine RK.peel rfl ?_ | refine RK.donef rfl ⟨_, rfl, ?_⟩ | refine RK.donet rfl (by kernel_rfl) ⟨_, rfl, ?_⟩))
    | ((with_reducible refine gW ?_); (first | refine WP.seq ?_ | refine WP.reg mixed (fun ks => _) (fun ks => rfl) (fun ks => ?_) | refine WP.condD rfl (fun hc => ?_) (fun hc => ?_) | refine WP.condE rfl (fun hc => ?_) (fun hc => ?_) | refine WP.condN rfl (fun hc => ?_) (fun hc => ?_) | refine WP.condA rfl (fun hc => ?_) (fun hc => ?_) | refine WP.ret ?_ | refine WP.skip ?_ | refine WP.exit ?_ | refine WP.goto ?_ | refine WP.label ?_ | refine WP.block ?_))
    | with_reducible refine thn_n ?_
    | with_reducible refine thn_r ?_
    | with_reducible refine thn_e ?_
    | with_reducible refine thn_g ?_
    | with_reducible refine blk_n ?_
    | with_reducible refine blk_r ?_
    | with_reducible refine blk_e ?_
    | with_reducible refine blk_g ?_
    | ((with_reducible refine blk_o ?_ ?_); first | exact rfl | skip)
    | refine Endz.mk' (by first | exact Or.inl rfl | exact Or.inr rfl) (by repeat (first | exact RVs.nil | apply RVs.cons | exact RV1.tmp rfl | exact RV1.row rfl rfl rfl (by repeat (first | exact look_here | apply look_there)) (by exact rfl) | exact RV1.cell rfl rfl rfl (by repeat (first | exact look_here | apply look_there)) (by exact rfl))) (by rfl) (by repeat (first | exact List.nil_sublist _ | exact List.Sublist.refl _ | apply List.Sublist.cons_cons | apply List.Sublist.cons)))
  rename_i a0 a1 a2 hc1 a3 a4 a5 a6 a7 a8
  have hm0 := num_nonneg m 100 (by decide) (by decide)
  have hb0 := num_nonneg b 20 (by decide) (by decide)
  refine WP.loopI (α := Nat) (fun x => [(1, some (I64 (a.tmod 100))), (2, some (I64 (num m 100))), (3, some (I64 (num b 20))), (9, some (.bool true)), (10, some (.pointer (some ⟨a3 1, 0, none⟩))), (11, some (.pointer (some ⟨a7 0, 0, none⟩))), (12, some (I64 (x : Int)))])
    (fun x => [(a3 1, .cells (cfgOf n 0 0 (some ⟨a3 0, 0, none⟩) none 0 0).cells 30), (a7 0, .cells ((cfgOf n 0 0 (some ⟨a3 0, 0, none⟩) none 0 0).cells ++ [I64 (50000 - a.tmod 100 * (x : Int)), I64 (50010 - a.tmod 100 * (x : Int))]) 56)]) (fun x => (x : Int) ≤ num m 100) (fun x => 100 - x) 0 (Wk.of ⟨rfl, rfl, rfl, rfl, rfl, rfl, rfl, trivial⟩ (by repeat (first | exact List.nil_sublist _ | exact List.Sublist.refl _ | apply List.Sublist.cons_cons | apply List.Sublist.cons))) (by show ((0 : Nat) : Int) ≤ num m 100; omega) (fun x ix => ?_)
  repeat' (first
    | exact absurd hc (by decide)
    | with_reducible exact ff hc
    | with_reducible exact ff' hc
    | ((with_reducible refine gK ?_); (first | refine RKo.val (o_call1 rfl (wn rfl) rfl (step_rows n (a.tmod 100) _ _ x (tmod_in a).1 (tmod_in a).2 (by have hm := (num_nonneg m 100 (by decide) (by decide)).2; have hc : (x : Int) < num m 100 := hc; omega)) (by repeat (first | exact look_here | apply look_there))) rfl (by exact rfl) ?_ | refine RKo.val (o_call1r rfl (wn rfl) rfl (Counter_Q _ _ _ _) (by repeat (first | exact look_here | apply look_there))) rfl (by exact rfl) ?_ | refine RKo.val (o_move rfl (wn rfl) rfl) rfl (by exact rfl) ?_ | refine RKo.val (o_assign rfl (wn rfl) rfl) rfl (by exact rfl) ?_ | refine RKo.val (o_int rfl (wn rfl) rfl rfl rfl) rfl (by exact rfl) ?_ | refine RKo.val (o_nilCheck rfl (wn rfl) rfl) rfl (by exact rfl) ?_ | refine RKo.val (fa_val layOk rfl (wn rfl) rfl rfl rfl rfl rfl) rfl (by exact rfl) ?_ | refine RKo.val (o_load layOk rfl (wn rfl) rfl rfl rfl (by repeat (first | exact look_here | apply look_there)) (by exact rfl)) rfl (by exact rfl) ?_ | refine RKo.val (o_loadr layOk rfl (wn rfl) rfl rfl rfl (by repeat (first | exact look_here | apply look_there)) (by exact rfl)) rfl (by exact rfl) ?_ | refine RKo.val (o_build layOk rfl (wn rfl) rfl rfl rfl rfl) rfl (by exact rfl) ?_ | refine RKo.val (o_min rfl (wn rfl) rfl) rfl (by exact rfl) ?_ | refine RKo.val (o_max rfl (wn rfl) rfl) rfl (by exact rfl) ?_ | refine RKo.val (o_neg rfl (wn rfl) rfl) rfl (by exact rfl) ?_ | refine RKo.val (o_not rfl (wn rfl) rfl) rfl (by exact rfl) ?_ | refine RKo.val (o_box (k := ks _) rfl (wn rfl) rfl (by repeat (first | exact look_here | apply look_there))) rfl (by exact rfl) ?_ | refine RKo.val (o_alloc (k := ks _) layOk rfl (wn rfl) rfl (by repeat (first | exact look_here | apply look_there))) rfl (by exact rfl) ?_ | refine RKo.val (o_pick_t rfl (wn rfl) rfl rfl) rfl (by exact rfl) ?_ | refine RKo.val (o_pick_f rfl (wn rfl) rfl rfl) rfl (by exact rfl) ?_ | refine RKo.val (o_rem rfl (wn rfl) rfl rfl (by decide)) rfl (by exact rfl) ?_ | refine RKo.val (o_quo rfl (wn rfl) rfl rfl (by decide)) rfl (by exact rfl) ?_ | refine RKo.val (o_eqnil rfl (wn rfl) (by kernel_rfl) rfl rfl) rfl (by exact rfl) ?_ | refine RKo.eff (o_store layOk rfl (wn rfl) rfl rfl rfl (by repeat (first | exact look_here | apply look_there)) rfl rfl rfl (by exact rfl)) rfl (by exact rfl) ?_ | refine RKo.eff (o_call1 rfl (wn rfl) rfl (step_rows n (a.tmod 100) _ _ x (tmod_in a).1 (tmod_in a).2 (by have hm := (num_nonneg m 100 (by decide) (by decide)).2; have hc : (x : Int) < num m 100 := hc; omega)) (by repeat (first | exact look_here | apply look_there))) rfl (by exact rfl) ?_ | refine RKo.eff (o_call1r rfl (wn rfl) rfl (Counter_Q _ _ _ _) (by repeat (first | exact look_here | apply look_there))) rfl (by exact rfl) ?_ | refine RKo.eff (o_rem rfl (wn rfl) rfl rfl (by decide)) rfl (by exact rfl) ?_ | refine RKo.eff (o_quo rfl (wn rfl) rfl rfl (by decide)) rfl (by exact rfl) ?_ | refine RKo.eff (o_eqnil rfl (wn rfl) (by kernel_rfl) rfl rfl) rfl (by exact rfl) ?_))
    | ((with_reducible refine gR ?_); (first | refine RK.peel rfl ?_ | refine RK.donef rfl ⟨_, rfl, ?_⟩ | refine RK.donet rfl (by kernel_rfl) ⟨_, rfl, ?_⟩))
    | ((with_reducible refine gW ?_); (first | refine WP.seq ?_ | refine WP.reg mixed (fun ks => _) (fun ks => rfl) (fun ks => ?_) | refine WP.condD rfl (fun hc => ?_) (fun hc => ?_) | refine WP.condE rfl (fun hc => ?_) (fun hc => ?_) | refine WP.condN rfl (fun hc => ?_) (fun hc => ?_) | refine WP.condA rfl (fun hc => ?_) (fun hc => ?_) | refine WP.ret ?_ | refine WP.skip ?_ | refine WP.exit ?_ | refine WP.goto ?_ | refine WP.label ?_ | refine WP.block ?_))
    | with_reducible refine thn_n ?_
    | with_reducible refine thn_r ?_
    | with_reducible refine thn_e ?_
    | with_reducible refine thn_g ?_
    | with_reducible refine blk_n ?_
    | with_reducible refine blk_r ?_
    | with_reducible refine blk_e ?_
    | with_reducible refine blk_g ?_
    | ((with_reducible refine blk_o ?_ ?_); first | exact rfl | skip)
    | refine Endz.mk' (by first | exact Or.inl rfl | exact Or.inr rfl) (by repeat (first | exact RVs.nil | apply RVs.cons | exact RV1.tmp rfl | exact RV1.row rfl rfl rfl (by repeat (first | exact look_here | apply look_there)) (by exact rfl) | exact RV1.cell rfl rfl rfl (by repeat (first | exact look_here | apply look_there)) (by exact rfl))) (by rfl) (by repeat (first | exact List.nil_sublist _ | exact List.Sublist.refl _ | apply List.Sublist.cons_cons | apply List.Sublist.cons)))
  · have hlt : (x : Int) < num m 100 := hc
    refine ⟨x + 1, by show ((x + 1 : Nat) : Int) ≤ num m 100; omega, by omega, Wk.of ⟨rfl, rfl, rfl, rfl, rfl, rfl, ?_, trivial⟩ (by repeat (first | exact List.nil_sublist _ | exact List.Sublist.refl _ | apply List.Sublist.cons_cons | apply List.Sublist.cons))⟩
    exact congrArg (fun x => some (I64 x)) ((wrap_in (by omega) (by omega)).trans (by omega))
  rename_i b4
  have hx : (x : Int) = num m 100 := by have hc : ¬ (x : Int) < num m 100 := by assumption
                                        omega
  have hA := tmod_in a
  have hmul := mul_in hA.1 hA.2 (show x ≤ 99 by omega)
  rw [← hx]
  generalize a.tmod 100 = A at hA hmul ⊢
  obtain ⟨l, hl⟩ : ∃ l, 50000 - A * (x : Int) = l := ⟨_, rfl⟩
  obtain ⟨h, hh⟩ : ∃ h, 50010 - A * (x : Int) = h := ⟨_, rfl⟩
  have e1 : IntKind.i64.wrap (50000 - IntKind.i64.wrap (A * (x : Int))) = l := by rw [wrap_in (x := A * (x : Int)) (by omega) (by omega), wrap_in (by omega) (by omega)]; exact hl
  have e2 : IntKind.i64.wrap (50010 - IntKind.i64.wrap (A * (x : Int))) = h := by rw [wrap_in (x := A * (x : Int)) (by omega) (by omega), wrap_in (by omega) (by omega)]; exact hh
  rw [hl, hh]
  refine WP.loopI (n := 95) (α := Nat) (fun y => [(1, some (I64 A)), (2, some (I64 (x : Int))), (3, some (I64 (num b 20))), (9, some (.bool true)), (10, some (.pointer (some ⟨a3 1, 0, none⟩))), (11, some (.pointer (some ⟨a7 0, 0, none⟩))), (13, some (.pointer (some ⟨b4 0, 0, none⟩))), (14, some (I64 (y : Int)))])
    (fun y => [(a3 1, .cells (cfgOf n 0 0 (some ⟨a3 0, 0, none⟩) none 0 0).cells 30), (a7 0, .cells ((cfgOf n 0 0 (some ⟨a3 0, 0, none⟩) none 0 0).cells ++ [I64 (l - 500 * (y : Int)), I64 (h + 500 * (y : Int))]) 56), (b4 0, .cells [I64 l, I64 h] 23)]) (fun y => (y : Int) ≤ num b 20) (fun y => 20 - y) 0 ?_ (by show ((0 : Nat) : Int) ≤ num b 20; omega) (fun y iy => ?_)
  · refine Wk.of ⟨rfl, rfl, rfl, rfl, rfl, rfl, rfl, rfl, trivial⟩ ?_
    have z1 : l - 500 * ((0 : Nat) : Int) = l := by omega
    have z2 : h + 500 * ((0 : Nat) : Int) = h := by omega
    rw [z1, z2]
    exact (by repeat (first | exact List.nil_sublist _ | exact List.Sublist.refl _ | apply List.Sublist.cons_cons | apply List.Sublist.cons))
  have hI : (cfgOf n 0 0 (some ⟨a3 0, 0, none⟩) none 0 0).Imax = 500 := rfl
  have e3 : ¬ (y : Int) < num b 20 → l - 500 * (y : Int) = IntKind.i64.wrap (l - IntKind.i64.wrap (num b 20 * (cfgOf n 0 0 (some ⟨a3 0, 0, none⟩) none 0 0).Imax)) := by
    intro hn
    rw [hI, wrap_in (x := num b 20 * 500) (by omega) (by omega), wrap_in (by omega) (by omega)]; omega
  have e4 : ¬ (y : Int) < num b 20 → h + 500 * (y : Int) = IntKind.i64.wrap (h + IntKind.i64.wrap (num b 20 * (cfgOf n 0 0 (some ⟨a3 0, 0, none⟩) none 0 0).Imax)) := by
    intro hn
    rw [hI, wrap_in (x := num b 20 * 500) (by omega) (by omega), wrap_in (by omega) (by omega)]; omega
  repeat' (first
    | exact absurd hc (by decide)
    | with_reducible exact absurd e1.symm hc
    | with_reducible exact absurd e2.symm hc
    | with_reducible exact absurd (e3 (by assumption)) hc
    | with_reducible exact ff hc
    | with_reducible exact ff' hc
    | ((with_reducible refine gK ?_); (first | refine RKo.val (o_call1 rfl (wn rfl) rfl (step_blind n l h 77 _ _ y (by omega) (by omega) (by omega) (by omega) (by have hc : (y : Int) < num b 20 := hc; omega)) (by repeat (first | exact look_here | apply look_there))) rfl (by exact rfl) ?_ | refine RKo.val (o_call1r rfl (wn rfl) rfl (Counter_Q _ _ _ _) (by repeat (first | exact look_here | apply look_there))) rfl (by exact rfl) ?_ | refine RKo.val (o_move rfl (wn rfl) rfl) rfl (by exact rfl) ?_ | refine RKo.val (o_assign rfl (wn rfl) rfl) rfl (by exact rfl) ?_ | refine RKo.val (o_int rfl (wn rfl) rfl rfl rfl) rfl (by exact rfl) ?_ | refine RKo.val (o_nilCheck rfl (wn rfl) rfl) rfl (by exact rfl) ?_ | refine RKo.val (fa_val layOk rfl (wn rfl) rfl rfl rfl rfl rfl) rfl (by exact rfl) ?_ | refine RKo.val (o_load layOk rfl (wn rfl) rfl rfl rfl (by repeat (first | exact look_here | apply look_there)) (by exact rfl)) rfl (by exact rfl) ?_ | refine RKo.val (o_loadr layOk rfl (wn rfl) rfl rfl rfl (by repeat (first | exact look_here | apply look_there)) (by exact rfl)) rfl (by exact rfl) ?_ | refine RKo.val (o_build layOk rfl (wn rfl) rfl rfl rfl rfl) rfl (by exact rfl) ?_ | refine RKo.val (o_min rfl (wn rfl) rfl) rfl (by exact rfl) ?_ | refine RKo.val (o_max rfl (wn rfl) rfl) rfl (by exact rfl) ?_ | refine RKo.val (o_neg rfl (wn rfl) rfl) rfl (by exact rfl) ?_ | refine RKo.val (o_not rfl (wn rfl) rfl) rfl (by exact rfl) ?_ | refine RKo.val (o_box (k := ks _) rfl (wn rfl) rfl (by repeat (first | exact look_here | apply look_there))) rfl (by exact rfl) ?_ | refine RKo.val (o_alloc (k := ks _) layOk rfl (wn rfl) rfl (by repeat (first | exact look_here | apply look_there))) rfl (by exact rfl) ?_ | refine RKo.val (o_pick_t rfl (wn rfl) rfl rfl) rfl (by exact rfl) ?_ | refine RKo.val (o_pick_f rfl (wn rfl) rfl rfl) rfl (by exact rfl) ?_ | refine RKo.val (o_rem rfl (wn rfl) rfl rfl (by decide)) rfl (by exact rfl) ?_ | refine RKo.val (o_quo rfl (wn rfl) rfl rfl (by decide)) rfl (by exact rfl) ?_ | refine RKo.val (o_eqnil rfl (wn rfl) (by kernel_rfl) rfl rfl) rfl (by exact rfl) ?_ | refine RKo.val (OPJ.off (wg (r := false) rfl rfl rfl rfl rfl rfl)) rfl (by exact rfl) ?_ | refine RKo.val (o_call1 rfl (wg (r := true) rfl rfl rfl rfl rfl rfl) rfl (step_blind n l h 77 _ _ y (by omega) (by omega) (by omega) (by omega) (by have hc : (y : Int) < num b 20 := hc; omega)) (by repeat (first | exact look_here | apply look_there))) rfl (by exact rfl) ?_ | refine RKo.val (o_call1r rfl (wg (r := true) rfl rfl rfl rfl rfl rfl) rfl (Counter_Q _ _ _ _) (by repeat (first | exact look_here | apply look_there))) rfl (by exact rfl) ?_ | refine RKo.val (o_move rfl (wg (r := true) rfl rfl rfl rfl rfl rfl) rfl) rfl (by exact rfl) ?_ | refine RKo.val (o_assign rfl (wg (r := true) rfl rfl rfl rfl rfl rfl) rfl) rfl (by exact rfl) ?_ | refine RKo.val (o_int rfl (wg (r := true) rfl rfl rfl rfl rfl rfl) rfl rfl rfl) rfl (by exact rfl) ?_ | refine RKo.val (o_nilCheck rfl (wg (r := true) rfl rfl rfl rfl rfl rfl) rfl) rfl (by exact rfl) ?_ | refine RKo.val (fa_val layOk rfl (wg (r := true) rfl rfl rfl rfl rfl rfl) rfl rfl rfl rfl rfl) rfl (by exact rfl) ?_ | refine RKo.val (o_load layOk rfl (wg (r := true) rfl rfl rfl rfl rfl rfl) rfl rfl rfl (by repeat (first | exact look_here | apply look_there)) (by exact rfl)) rfl (by exact rfl) ?_ | refine RKo.val (o_loadr layOk rfl (wg (r := true) rfl rfl rfl rfl rfl rfl) rfl rfl rfl (by repeat (first | exact look_here | apply look_there)) (by exact rfl)) rfl (by exact rfl) ?_ | refine RKo.val (o_build layOk rfl (wg (r := true) rfl rfl rfl rfl rfl rfl) rfl rfl rfl rfl) rfl (by exact rfl) ?_ | refine RKo.val (o_min rfl (wg (r := true) rfl rfl rfl rfl rfl rfl) rfl) rfl (by exact rfl) ?_ | refine RKo.val (o_max rfl (wg (r := true) rfl rfl rfl rfl rfl rfl) rfl) rfl (by exact rfl) ?_ | refine RKo.val (o_neg rfl (wg (r := true) rfl rfl rfl rfl rfl rfl) rfl) rfl (by exact rfl) ?_ | refine RKo.val (o_not rfl (wg (r := true) rfl rfl rfl rfl rfl rfl) rfl) rfl (by exact rfl) ?_ | refine RKo.val (o_box (k := ks _) rfl (wg (r := true) rfl rfl rfl rfl rfl rfl) rfl (by repeat (first | exact look_here | apply look_there))) rfl (by exact rfl) ?_ | refine RKo.val (o_alloc (k := ks _) layOk rfl (wg (r := true) rfl rfl rfl rfl rfl rfl) rfl (by repeat (first | exact look_here | apply look_there))) rfl (by exact rfl) ?_ | refine RKo.val (o_pick_t rfl (wg (r := true) rfl rfl rfl rfl rfl rfl) rfl rfl) rfl (by exact rfl) ?_ | refine RKo.val (o_pick_f rfl (wg (r := true) rfl rfl rfl rfl rfl rfl) rfl rfl) rfl (by exact rfl) ?_ | refine RKo.val (o_rem rfl (wg (r := true) rfl rfl rfl rfl rfl rfl) rfl rfl (by decide)) rfl (by exact rfl) ?_ | refine RKo.val (o_quo rfl (wg (r := true) rfl rfl rfl rfl rfl rfl) rfl rfl (by decide)) rfl (by exact rfl) ?_ | refine RKo.val (o_eqnil rfl (wg (r := true) rfl rfl rfl rfl rfl rfl) (by kernel_rfl) rfl rfl) rfl (by exact rfl) ?_ | refine RKo.eff (o_store layOk rfl (wn rfl) rfl rfl rfl (by repeat (first | exact look_here | apply look_there)) rfl rfl rfl (by exact rfl)) rfl (by exact rfl) ?_ | refine RKo.eff (o_call1 rfl (wn rfl) rfl (step_blind n l h 77 _ _ y (by omega) (by omega) (by omega) (by omega) (by have hc : (y : Int) < num b 20 := hc; omega)) (by repeat (first | exact look_here | apply look_there))) rfl (by exact rfl) ?_ | refine RKo.eff (o_call1r rfl (wn rfl) rfl (Counter_Q _ _ _ _) (by repeat (first | exact look_here | apply look_there))) rfl (by exact rfl) ?_ | refine RKo.eff (o_rem rfl (wn rfl) rfl rfl (by decide)) rfl (by exact rfl) ?_ | refine RKo.eff (o_quo rfl (wn rfl) rfl rfl (by decide)) rfl (by exact rfl) ?_ | refine RKo.eff (o_eqnil rfl (wn rfl) (by kernel_rfl) rfl rfl) rfl (by exact rfl) ?_ | refine RKo.eff (OPJ.off (wg (r := false) rfl rfl rfl rfl rfl rfl)) rfl (by exact rfl) ?_ | refine RKo.eff (o_store layOk rfl (wg (r := true) rfl rfl rfl rfl rfl rfl) rfl rfl rfl (by repeat (first | exact look_here | apply look_there)) rfl rfl rfl (by exact rfl)) rfl (by exact rfl) ?_ | refine RKo.eff (o_call1 rfl (wg (r := true) rfl rfl rfl rfl rfl rfl) rfl (step_blind n l h 77 _ _ y (by omega) (by omega) (by omega) (by omega) (by have hc : (y : Int) < num b 20 := hc; omega)) (by repeat (first | exact look_here | apply look_there))) rfl (by exact rfl) ?_ | refine RKo.eff (o_call1r rfl (wg (r := true) rfl rfl rfl rfl rfl rfl) rfl (Counter_Q _ _ _ _) (by repeat (first | exact look_here | apply look_there))) rfl (by exact rfl) ?_ | refine RKo.gsplitD rfl rfl rfl rfl (fun hc => ?_) (fun hc => ?_) | refine RKo.gsplitE rfl rfl rfl rfl (fun hc => ?_) (fun hc => ?_) | refine RKo.gsplitN rfl rfl rfl rfl (fun hc => ?_) (fun hc => ?_) | refine RKo.gsplit rfl rfl rfl rfl (fun hc => ?_) (fun hc => ?_)))
    | ((with_reducible refine gR ?_); (first | refine RK.peel rfl ?_ | refine RK.donef rfl ⟨_, rfl, ?_⟩ | refine RK.donet rfl (by kernel_rfl) ⟨_, rfl, ?_⟩))
    | ((with_reducible refine gW ?_); (first | refine WP.seq ?_ | refine WP.reg mixed (fun ks => _) (fun ks => rfl) (fun ks => ?_) | refine WP.condD rfl (fun hc => ?_) (fun hc => ?_) | refine WP.condE rfl (fun hc => ?_) (fun hc => ?_) | refine WP.condN rfl (fun hc => ?_) (fun hc => ?_) | refine WP.condA rfl (fun hc => ?_) (fun hc => ?_) | refine WP.ret ?_ | refine WP.skip ?_ | refine WP.exit ?_ | refine WP.goto ?_ | refine WP.label ?_ | refine WP.block ?_))
    | with_reducible refine thn_n ?_
    | with_reducible refine thn_r ?_
    | with_reducible refine thn_e ?_
    | with_reducible refine thn_g ?_
    | with_reducible refine blk_n ?_
    | with_reducible refine blk_r ?_
    | with_reducible refine blk_e ?_
    | with_reducible refine blk_g ?_
    | ((with_reducible refine blk_o ?_ ?_); first | exact rfl | skip)
    | refine Endz.mk' (by first | exact Or.inl rfl | exact Or.inr rfl) (by repeat (first | exact RVs.nil | apply RVs.cons | exact RV1.tmp rfl | exact RV1.row rfl rfl rfl (by repeat (first | exact look_here | apply look_there)) (by exact rfl) | exact RV1.cell rfl rfl rfl (by repeat (first | exact look_here | apply look_there)) (by exact rfl))) (by first | with_reducible rfl | exact congrArg Value.bool (beq_iff_eq.2 (e4 (by assumption)))) (by repeat (first | exact List.nil_sublist _ | exact List.Sublist.refl _ | apply List.Sublist.cons_cons | apply List.Sublist.cons)))
  · have hlt : (y : Int) < num b 20 := hc
    refine ⟨y + 1, by show ((y + 1 : Nat) : Int) ≤ num b 20; omega, by omega, Wk.of ⟨rfl, rfl, rfl, rfl, rfl, rfl, rfl, ?_, trivial⟩ (by repeat (first | exact List.nil_sublist _ | exact List.Sublist.refl _ | apply List.Sublist.cons_cons | apply List.Sublist.cons))⟩
    exact congrArg (fun x => some (I64 x)) ((wrap_in (by omega) (by omega)).trans (by omega))
end Go.Proofs.Ytlhhcongoplfpaa
