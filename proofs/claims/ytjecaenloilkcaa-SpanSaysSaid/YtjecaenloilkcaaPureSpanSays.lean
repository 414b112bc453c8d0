/- Proved: the span functions answer what the document's functions answer, for every input. Conditions: none. -/
import Derived.Test.YtjecaenloilkcaaPSpanSaysx6
namespace Go.Proofs.Ytjecaenloilkcaa.Pure
open Go.RowKit Go.Proofs.Ytjecaenloilkcaa.PSpanSays Go.Proofs.YtjecaenloilkcaaW.PrintWords Go.Proofs.YtjecaenloilkcaaW.PrintLast Go.Proofs.YtjecaenloilkcaaW.PrintMore
set_option linter.unusedSimpArgs false
set_option linter.unusedVariables false
theorem i64_wf {a : Int} (h : (Lit.int .i64 a).wf = true) : -9223372036854775808 ≤ a ∧ a ≤ 9223372036854775807 := by
  simp [Lit.wf] at h
  simp [IntKind.min, IntKind.signed, IntKind.bits] at h
  omega
theorem downArith (a b : Int) (hb : 1 ≤ b) : (if Int.tmod a b < 0 then Int.tdiv a b - 1 else Int.tdiv a b) = a / b := by
  rw [Int.tmod_eq_emod, Int.tdiv_eq_ediv]
  have h1 := Int.emod_nonneg a (show b ≠ 0 by omega)
  have h2 := Int.emod_lt_of_pos a (show 0 < b by omega)
  have hs : b.sign = 1 := Int.sign_eq_one_of_pos (by omega)
  by_cases h : 0 ≤ a ∨ b ∣ a
  · simp only [h, if_true]; rw [if_neg (by omega)]; omega
  · simp only [h, if_false, hs]; rw [if_pos (by omega)]; omega
theorem upArith (a b : Int) (hb : 1 ≤ b) : (if Int.tmod a b > 0 then Int.tdiv a b + 1 else Int.tdiv a b) = -((-a) / b) := by
  rw [Int.tmod_eq_emod, Int.tdiv_eq_ediv]
  have h1 := Int.emod_nonneg a (show b ≠ 0 by omega)
  have h2 := Int.emod_lt_of_pos a (show 0 < b by omega)
  have hs : b.sign = 1 := Int.sign_eq_one_of_pos (by omega)
  have hd : b ∣ a ↔ a % b = 0 := Int.dvd_iff_emod_eq_zero
  have he := Int.mul_ediv_add_emod a b
  by_cases h0 : a % b = 0
  · have : (-a) / b = -(a / b) := by
      have := (Int.ediv_emod_unique (a := -a) (b := b) (r := 0) (q := -(a/b)) (by omega)).2 ⟨by rw [Int.mul_neg]; omega, by omega, by omega⟩
      exact this.1
    simp only [hd, h0]; simp; omega
  · have : (-a) / b = -(a / b) - 1 := by
      have := (Int.ediv_emod_unique (a := -a) (b := b) (r := b - a % b) (q := -(a/b) - 1) (by omega)).2 ⟨by rw [Int.mul_sub, Int.mul_neg]; omega, by omega, by omega⟩
      exact this.1
    rw [this]
    by_cases ha : 0 ≤ a
    · simp [ha]; rw [if_pos (by omega)]; omega
    · have hno : ¬ (0 ≤ a ∨ b ∣ a) := by rw [hd]; omega
      simp only [hno, if_false, hs]; rw [if_neg (by omega)]; omega
theorem ediv_range (a b : Int) (hb : 1 ≤ b) (h1 : -9223372036854775808 ≤ a) (h2 : a ≤ 9223372036854775807) : -9223372036854775808 ≤ a / b ∧ a / b ≤ 9223372036854775807 := by
  constructor
  · rw [Int.le_ediv_iff_mul_le (by omega)]
    have := Int.mul_le_mul_of_nonneg_left hb (show (0:Int) ≤ 9223372036854775808 by omega); omega
  · have : a / b < 9223372036854775808 := by
      rw [Int.ediv_lt_iff_lt_mul (by omega)]
      have := Int.mul_le_mul_of_nonneg_left hb (show (0:Int) ≤ 9223372036854775808 by omega); omega
    omega

def sat (x : Int) : Int := if 9223372036854775807 < x then 9223372036854775807 else if x < -9223372036854775808 then -9223372036854775808 else x
abbrev R64 (x : Int) : Prop := -9223372036854775808 ≤ x ∧ x ≤ 9223372036854775807
theorem sat_R (x : Int) : R64 (sat x) := by unfold sat; split; omega; split <;> omega
theorem sat_of {x : Int} (h : R64 x) : sat x = x := by unfold sat; split; omega; split <;> omega

theorem add_eq (k : Nat) (a b : Int) (ha : R64 a) (hb : R64 b) : fixed_Add.f (k + 1) a b = some (sat (a + b)) := by
  unfold fixed_Add.f sat wrap64
  simp only [fixed_Add.j0, decide_eq_true_eq]; unfold wrap64
  repeat' split
  all_goals first | rfl | (exfalso; omega) | (exfalso; simp_all; done) | (congr 1; omega)

theorem sub_eq (k : Nat) (a b : Int) (ha : R64 a) (hb : R64 b) : fixed_Sub.f (k + 1) a b = some (sat (a - b)) := by
  unfold fixed_Sub.f sat wrap64
  simp only [fixed_Sub.j0, decide_eq_true_eq]; unfold wrap64
  repeat' split
  all_goals first | rfl | (exfalso; omega) | (exfalso; simp_all; done) | (congr 1; omega)

theorem mul_wrap_ne (a b : Int) (hb : R64 b) (ha : R64 a) (hb0 : b ≠ 0) (hne : ¬ (a = -1 ∧ b = -9223372036854775808)) (hne' : ¬ (b = -1 ∧ a = -9223372036854775808)) :
    (wrap64 (Int.tdiv (wrap64 (a * b)) b) == a) = decide (R64 (a * b)) := by
  by_cases h : R64 (a * b)
  · have hw : wrap64 (a * b) = a * b := by unfold wrap64; omega
    rw [hw, Int.mul_tdiv_cancel _ hb0]
    have hw : wrap64 a = a := by unfold wrap64; omega
    rw [hw]; simp [h]
  · simp only [h, decide_false]
    rw [beq_eq_false_iff_ne]
    intro he
    -- the quotient times b is within |b| of the wrapped product, which differs from a * b by a multiple of 2^64
    generalize hn : wrap64 (a * b) = n at he
    have hnR : R64 n := by rw [← hn]; unfold wrap64; omega
    have hcong : ∃ t : Int, n = a * b + 18446744073709551616 * t := by
      refine ⟨-((a * b + 9223372036854775808) / 18446744073709551616), ?_⟩
      rw [← hn]; unfold wrap64; omega
    obtain ⟨t, ht⟩ := hcong
    have ht0 : t ≠ 0 := by rintro rfl; apply h; rw [show a * b = n by omega]; exact hnR
    -- |tdiv n b| ≤ |n| ≤ 2^63
    have hq := Int.mul_tdiv_add_tmod n b
    have hr := Int.tmod_lt_of_pos
    have habs : (Int.tmod n b).natAbs < b.natAbs := by
      rw [Int.natAbs_tmod]; exact Nat.mod_lt _ (by omega)
    generalize Int.tmod n b = r at hq habs
    generalize hqq : Int.tdiv n b = q at hq he
    have hqR : q.natAbs ≤ n.natAbs := by rw [← hqq, Int.natAbs_tdiv]; exact Nat.div_le_self _ _
    -- wrap64 q = a with q within ±2^63: q = a, or q = 2^63 and a = -2^63
    have hqa : q = a ∨ (q = 9223372036854775808 ∧ a = -9223372036854775808) := by unfold wrap64 at he; omega
    rcases hqa with rfl | ⟨h1, h2⟩
    · rw [Int.mul_comm] at hq; omega
    · -- then |n| = 2^63, so n = -2^63, and b = -1
      have hn' : n = -9223372036854775808 := by omega
      subst h1 h2
      have : b = -1 := by omega
      exact hne' ⟨this, rfl⟩
theorem mul_eq (k : Nat) (a b : Int) (ha : R64 a) (hb : R64 b) : fixed_Mul.f (k + 2) a b = some (sat (a * b)) := by
  unfold fixed_Mul.f
  by_cases ha0 : a = 0
  · subst ha0; simp [fixed_Mul.j0, sat]
  · rw [if_neg ha0]
    by_cases hb0 : b = 0
    · subst hb0; simp [fixed_Mul.j0, sat]
    · have hbb : (b == 0) = false := by simp [hb0]
      rw [hbb]
      have hsg : ∀ v : Bool, fixed_Mul.j1 (k + 1) a b (wrap64 (a * b)) v = if v then some (wrap64 (a * b)) else if decide (a < 0) = decide (b < 0) then some 9223372036854775807 else some (-9223372036854775808) := by
        intro v; simp [fixed_Mul.j1]
      have key : fixed_Mul.j1 (k + 1) a b (wrap64 (a * b)) (decide (R64 (a * b))) = some (sat (a * b)) := by
        rw [hsg]
        by_cases hR : R64 (a * b)
        · rw [sat_of hR]; simp [hR]; unfold wrap64; omega
        · have hs : decide (a < 0) = decide (b < 0) ↔ 0 < a * b := by
            by_cases h1 : a < 0 <;> by_cases h2 : b < 0
            · simp [h1, h2]; exact Int.mul_pos_of_neg_of_neg h1 h2
            · have := Int.mul_neg_of_neg_of_pos h1 (show 0 < b by omega); simp [h1, h2]; omega
            · have := Int.mul_neg_of_pos_of_neg (show 0 < a by omega) h2; simp [h1, h2]; omega
            · have := Int.mul_pos (show 0 < a by omega) (show 0 < b by omega); simp [h1, h2]; omega
          simp only [hR, decide_false, Bool.false_eq_true, if_false, hs]
          unfold sat
          by_cases hp : 0 < a * b
          · rw [if_pos hp, if_pos (by omega)]
          · rw [if_neg hp, if_neg (by omega), if_pos (by omega)]
      have special : (a = -1 ∧ b = -9223372036854775808) ∨ (b = -1 ∧ a = -9223372036854775808) → fixed_Mul.j1 (k + 1) a b (wrap64 (a * b)) false = some (sat (a * b)) := by
        rintro (⟨rfl, rfl⟩ | ⟨rfl, rfl⟩) <;> simp [fixed_Mul.j1, sat]
      simp only [fixed_Mul.j0, Bool.false_eq_true, if_false, hb0]
      by_cases hA : a = -1 ∧ b = -9223372036854775808
      · rw [if_pos hA.1, if_pos hA.2]; exact special (Or.inl hA)
      · by_cases hB : b = -1 ∧ a = -9223372036854775808
        · rw [if_neg (by omega), if_pos hB.1, if_pos hB.2]; exact special (Or.inr hB)
        · rw [mul_wrap_ne a b hb ha hb0 hA hB]
          repeat' split
          all_goals first | exact key | (exfalso; omega)

theorem tdiv_range (a b : Int) (ha : R64 a) (hb : 1 ≤ b) : R64 (Int.tdiv a b) := by
  have hdm := Int.tdiv_eq_ediv (a := a) (b := b)
  have hs : b.sign = 1 := Int.sign_eq_one_of_pos (by omega)
  have hr := ediv_range a b (by omega) ha.1 ha.2
  rw [hs] at hdm
  by_cases ha0 : 0 ≤ a
  · simp only [ha0, true_or, if_true] at hdm; omega
  · have hneg : a / b < 0 := by rw [Int.ediv_lt_iff_lt_mul (by omega)]; omega
    split at hdm <;> omega
theorem down_eq (a b : Int) (ha : R64 a) (hb : R64 b) : fixed_Down.f a b = some (if b < 1 then 0 else a / b) := by
  unfold fixed_Down.f
  by_cases h : b < 1
  · simp [h]
  · have hd := downArith a b (by omega)
    have hr := ediv_range a b (by omega) ha.1 ha.2
    have hw : wrap64 (Int.tdiv a b) = Int.tdiv a b := by have := tdiv_range a b ha (by omega); unfold wrap64; omega
    rw [if_neg h, if_neg h, if_neg (by omega), hw, ← hd]
    split
    · congr 1; unfold wrap64; rename_i hlt; rw [if_pos hlt] at hd; omega
    · rfl
theorem up_eq (a b : Int) (ha : R64 a) (hb : R64 b) : fixed_Up.f a b = some (if b < 1 then 0 else -((-a) / b)) := by
  unfold fixed_Up.f
  by_cases h : b < 1
  · simp [h]
  · have hd := upArith a b (by omega)
    have hr : R64 (-((-a) / b)) := by
      have hlo : -9223372036854775807 ≤ (-a) / b := by
        rw [Int.le_ediv_iff_mul_le (by omega)]
        have := Int.mul_le_mul_of_nonneg_left (show (1:Int) ≤ b by omega) (show (0:Int) ≤ 9223372036854775807 by omega); omega
      have hhi : (-a) / b ≤ 9223372036854775808 := by
        have : (-a) / b < 9223372036854775809 := by
          rw [Int.ediv_lt_iff_lt_mul (by omega)]
          have := Int.mul_le_mul_of_nonneg_left (show (1:Int) ≤ b by omega) (show (0:Int) ≤ 9223372036854775808 by omega); omega
        omega
      omega
    have hw : wrap64 (Int.tdiv a b) = Int.tdiv a b := by have := tdiv_range a b ha (by omega); unfold wrap64; omega
    rw [if_neg h, if_neg h, if_neg (by omega), hw, ← hd]
    split
    · congr 1; unfold wrap64; rename_i hlt; rw [if_pos hlt] at hd; omega
    · rfl

theorem radd_eq (k : Nat) (a b : Int) (ha : R64 a) (hb : R64 b) : dynamoref1_Add.f (k + 1) a b = some (sat (a + b)) := by
  unfold dynamoref1_Add.f sat wrap64
  simp only [dynamoref1_Add.j0, decide_eq_true_eq]; unfold wrap64
  repeat' split
  all_goals first | rfl | (exfalso; omega) | (exfalso; simp_all; done) | (congr 1; omega)
theorem rsub_eq (k : Nat) (a b : Int) (ha : R64 a) (hb : R64 b) : dynamoref1_Sub.f (k + 1) a b = some (sat (a - b)) := by
  unfold dynamoref1_Sub.f
  by_cases h : b = -9223372036854775808
  · subst h; rw [if_pos rfl]; unfold sat wrap64; repeat' split
    all_goals first | rfl | (exfalso; omega) | (congr 1; omega)
  · rw [if_neg h]
    have hw : wrap64 (-b) = -b := by unfold wrap64; omega
    rw [hw, radd_eq _ _ _ ha (by omega)]; simp [Int.sub_eq_add_neg]
theorem rdown_eq (a b : Int) (ha : R64 a) (hb : R64 b) : dynamoref1_Down.f a b = some (if b < 1 then 0 else a / b) := down_eq a b ha hb
theorem rup_eq (a b : Int) (ha : R64 a) (hb : R64 b) : dynamoref1_Up.f a b = some (if b < 1 then 0 else -((-a) / b)) := up_eq a b ha hb
theorem rclamp_eq (a lo hi : Int) : dynamoref1_Clamp.f a lo hi = fixed_Clamp.f a lo hi := by
  unfold dynamoref1_Clamp.f fixed_Clamp.f mx mn
  repeat' split
  all_goals first | rfl | (exfalso; omega) | (congr 1; omega)
theorem u64_wrap (x : Int) : IntKind.u64.wrap x = x % 18446744073709551616 := by
  rw [IntKind.wrap_u64]
theorem mag_eq (a : Int) (ha : R64 a) : dynamoref1_mag.f a = some (if a < 0 then -a else a) := by
  unfold dynamoref1_mag.f
  simp only [u64_wrap]; unfold wrap64
  split <;> (congr 1; omega)
theorem mag_bound (x y G : Int) (hx : 0 ≤ x) (hy : 0 < y) (hG : 0 ≤ G) : (x > G / y) ↔ G < x * y := by
  constructor
  · intro h; have := (Int.ediv_lt_iff_lt_mul hy).1 h; exact this
  · intro h; exact (Int.ediv_lt_iff_lt_mul hy).2 h
theorem rmul_j1 (k : Nat) (a b : Int) (ha : R64 a) (hb : R64 b) (hb0 : b ≠ 0) (s : Bool) :
    dynamoref1_Mul.j1 (k + 1) a b s = some (let p := (if a < 0 then -a else a) * (if b < 0 then -b else b); if s = true then (if 9223372036854775807 < p then 9223372036854775807 else p) else (if 9223372036854775808 < p then -9223372036854775808 else -p)) := by
  simp only [dynamoref1_Mul.j1, mag_eq _ ha, mag_eq _ hb, Option.bind_some]
  have hy : 0 < (if b < 0 then -b else b) := by split <;> omega
  have hx : 0 ≤ (if a < 0 then -a else a) := by split <;> omega
  have hyb : (if b < 0 then -b else b) ≤ 9223372036854775808 := by split <;> omega
  generalize (if b < 0 then -b else b) = y at *
  generalize (if a < 0 then -a else a) = x at *
  simp only [show ¬ y = 0 by omega, if_false]
  have hq : ∀ G : Int, 0 ≤ G → G ≤ 9223372036854775808 → IntKind.u64.wrap (G / y) = G / y := by
    intro G h0 h1
    have h2 : 0 ≤ G / y := Int.ediv_nonneg h0 (by omega)
    have h3 : G / y ≤ G := Int.ediv_le_self _ h0
    rw [u64_wrap]; omega
  rw [hq _ (by omega) (by omega), hq _ (by omega) (by omega)]
  simp only [mag_bound x y _ hx hy (show (0:Int) ≤ 9223372036854775807 by omega), mag_bound x y _ hx hy (show (0:Int) ≤ 9223372036854775808 by omega), u64_wrap]
  have hp : 0 ≤ x * y := Int.mul_nonneg hx (by omega)
  generalize x * y = p at *
  unfold wrap64
  repeat' split
  all_goals first | rfl | (exfalso; omega) | (congr 1; omega)
theorem rmul_eq (k : Nat) (a b : Int) (ha : R64 a) (hb : R64 b) : dynamoref1_Mul.f (k + 2) a b = some (sat (a * b)) := by
  unfold dynamoref1_Mul.f
  by_cases ha0 : a = 0
  · subst ha0; simp [dynamoref1_Mul.j0, sat]
  · rw [if_neg ha0]
    by_cases hb0 : b = 0
    · subst hb0; simp [dynamoref1_Mul.j0, sat]
    · have hbb : (b == 0) = false := by simp [hb0]
      rw [hbb]
      simp only [dynamoref1_Mul.j0, Bool.false_eq_true, if_false, rmul_j1 k a b ha hb hb0]
      by_cases h1 : a < 0 <;> by_cases h2 : b < 0
      · have hm := Int.mul_pos_of_neg_of_neg h1 h2
        rw [if_neg (by omega), if_pos h1]
        simp only [h1, h2, decide_true, if_true, Int.neg_mul_neg]
        unfold sat; congr 1; repeat' split
        all_goals omega
      · have hm := Int.mul_neg_of_neg_of_pos h1 (show 0 < b by omega)
        rw [if_neg (by omega), if_pos h1]
        simp only [h1, h2, if_true, if_false, Int.neg_mul]
        simp only [decide_false, Bool.false_eq_true, if_false]
        unfold sat; congr 1; repeat' split
        all_goals omega
      · have hm := Int.mul_neg_of_pos_of_neg (show 0 < a by omega) h2
        rw [if_pos (by omega), if_neg (by omega), if_neg h1]
        simp only [h1, h2, if_true, if_false, Int.mul_neg, Bool.false_eq_true]
        unfold sat; congr 1; repeat' split
        all_goals omega
      · have hm := Int.mul_pos (show 0 < a by omega) (show 0 < b by omega)
        rw [if_pos (by omega), if_pos (by omega)]
        simp only [h1, h2, if_true, if_false]
        unfold sat; congr 1; repeat' split
        all_goals omega

theorem widen_eq (k : Nat) (l h b : Int) (hl : R64 l) (hh : R64 h) (hb : R64 b) : span_Widen.f (k + 1) l h b = some (if b < 0 then (l, h) else (sat (l - b), sat (h + b))) := by
  unfold span_Widen.f
  rw [sub_eq _ _ _ hl hb, add_eq _ _ _ hh hb]
  split <;> simp

theorem sadd_eq (k : Nat) (a b c d : Int) (ha : R64 a) (hb : R64 b) (hc : R64 c) (hd : R64 d) : span_Add.f (k + 1) a b c d = some (sat (a + c), sat (b + d)) := by
  unfold span_Add.f; rw [add_eq _ _ _ ha hc, add_eq _ _ _ hb hd]; rfl
theorem ssub_eq (k : Nat) (a b c d : Int) (ha : R64 a) (hb : R64 b) (hc : R64 c) (hd : R64 d) : span_Sub.f (k + 1) a b c d = some (sat (a - d), sat (b - c)) := by
  unfold span_Sub.f; rw [sub_eq _ _ _ ha hd, sub_eq _ _ _ hb hc]; rfl
theorem sscale_eq (k : Nat) (a b c : Int) (ha : R64 a) (hb : R64 b) (hc : R64 c) : span_Scale.f (k + 2) a b c = some (mn (sat (a * c)) (sat (b * c)), mx (sat (a * c)) (sat (b * c))) := by
  unfold span_Scale.f span_Of.f; rw [mul_eq _ _ _ ha hc, mul_eq _ _ _ hb hc]; rfl
theorem sshrink_eq (a b c : Int) (ha : R64 a) (hb : R64 b) (hc : R64 c) : span_Shrink.f a b c = some (if c < 1 then 0 else a / c, if c < 1 then 0 else -((-b) / c)) := by
  unfold span_Shrink.f; rw [down_eq _ _ ha hc, up_eq _ _ hb hc]; rfl
theorem same_refl (a b : Int) : dynamoref_SameSpan.f a b a b = some true := by
  unfold dynamoref_SameSpan.f; simp
theorem mnmx (a b : Int) (ha : R64 a) (hb : R64 b) : R64 (mn a b) ∧ R64 (mx a b) ∧ mn a b ≤ mx a b := by
  unfold mn mx; repeat' split
  all_goals omega

theorem rsadd_eq (k : Nat) (a b c d : Int) (ha : R64 a) (hb : R64 b) (hc : R64 c) (hd : R64 d) : dynamoref1_AddSpan.f (k + 1) a b c d = some (sat (a + c), sat (b + d)) := by
  unfold dynamoref1_AddSpan.f; rw [radd_eq _ _ _ ha hc, radd_eq _ _ _ hb hd]; rfl
theorem rssub_eq (k : Nat) (a b c d : Int) (ha : R64 a) (hb : R64 b) (hc : R64 c) (hd : R64 d) : dynamoref1_SubSpan.f (k + 1) a b c d = some (sat (a - d), sat (b - c)) := by
  unfold dynamoref1_SubSpan.f; rw [rsub_eq _ _ _ ha hd, rsub_eq _ _ _ hb hc]; rfl
theorem rsscale_eq (k : Nat) (a b c : Int) (ha : R64 a) (hb : R64 b) (hc : R64 c) : dynamoref1_Scale.f (k + 2) a b c = some (mn (sat (a * c)) (sat (b * c)), mx (sat (a * c)) (sat (b * c))) := by
  unfold dynamoref1_Scale.f dynamoref1_Of.f; rw [rmul_eq _ _ _ ha hc, rmul_eq _ _ _ hb hc]; rfl
theorem rsshrink_eq (a b c : Int) (ha : R64 a) (hb : R64 b) (hc : R64 c) : dynamoref1_Shrink.f a b c = some (if c < 1 then 0 else a / c, if c < 1 then 0 else -((-b) / c)) := by
  unfold dynamoref1_Shrink.f; rw [rdown_eq _ _ ha hc, rup_eq _ _ hb hc]; split <;> rfl
theorem rwiden_eq (k : Nat) (l h b : Int) (hl : R64 l) (hh : R64 h) (hb : R64 b) : dynamoref1_Widen.f (k + 1) l h b = some (if b < 0 then (l, h) else (sat (l - b), sat (h + b))) := by
  unfold dynamoref1_Widen.f
  rw [rsub_eq _ _ _ hl hb, radd_eq _ _ _ hh hb]
  split <;> simp
theorem rmeet_eq (a b c d : Int) : dynamoref1_Meet.f a b c d = span_Meet.f a b c d := rfl
theorem rhull_eq (a b c d : Int) : dynamoref1_Hull.f a b c d = span_Hull.f a b c d := rfl
theorem rhas_eq (a b c : Int) : dynamoref1_Has.f a b c = span_Has.f a b c := rfl
theorem rin_eq (a b c d : Int) : dynamoref1_In.f a b c d = span_In.f a b c d := rfl
theorem rclampspan_eq (a b c d : Int) : dynamoref1_ClampSpan.f a b c d = span_Clamp.f a b c d := by
  unfold dynamoref1_ClampSpan.f span_Clamp.f; simp only [rclamp_eq]
theorem some_of (o : Option Bool) (h : o ≠ none) : ∃ r, o = some r := by
  cases o with
  | none => exact absurd rfl h
  | some r => exact ⟨r, rfl⟩
theorem has_some (a b c : Int) : ∃ r, span_Has.f a b c = some r := by unfold span_Has.f; split <;> exact ⟨_, rfl⟩
theorem in_some (a b c d : Int) : ∃ r, span_In.f a b c d = some r := by unfold span_In.f; split <;> exact ⟨_, rfl⟩
theorem meet_some (a b c d : Int) : ∃ r, span_Meet.f a b c d = some r := by unfold span_Meet.f; split <;> exact ⟨_, rfl⟩
theorem SpanSays : dynamolaw2_SpanSays.Pure := by
  intro a b c d k x h0 h1 h2 h3 h4 h5
  have h0 := i64_wf h0
  have h1 := i64_wf h1
  have h2 := i64_wf h2
  have h3 := i64_wf h3
  have h4 := i64_wf h4
  refine ⟨3, ?_⟩
  unfold dynamolaw2_SpanSays.f
  have hf : dynamolaw2_first.f = some true := by unfold dynamolaw2_first.f span_Of.f mn mx; simp
  obtain ⟨p1, p2, _⟩ := mnmx a b h0 h1
  obtain ⟨q1, q2, _⟩ := mnmx c d h2 h3
  rw [hf]
  unfold dynamoref1_Of.f span_Of.f
  simp only [Option.bind_some, if_true]
  generalize mn a b = pl at *
  generalize mx a b = ph at *
  generalize mn c d = ql at *
  generalize mx c d = qh at *
  obtain ⟨m, hm⟩ := meet_some pl ph ql qh
  obtain ⟨s, hs⟩ := has_some pl ph x
  obtain ⟨t, ht⟩ := in_some pl ph ql qh
  rw [rmeet_eq, rhull_eq, rhas_eq, rin_eq, rclampspan_eq, hm, hs, ht, sadd_eq _ _ _ _ _ p1 p2 q1 q2, rsadd_eq _ _ _ _ _ p1 p2 q1 q2, ssub_eq _ _ _ _ _ p1 p2 q1 q2, rssub_eq _ _ _ _ _ p1 p2 q1 q2, sscale_eq _ _ _ _ p1 p2 h4, rsscale_eq _ _ _ _ p1 p2 h4, sshrink_eq _ _ _ p1 p2 h4, rsshrink_eq _ _ _ p1 p2 h4, widen_eq _ _ _ _ p1 p2 h4, rwiden_eq _ _ _ _ p1 p2 h4]
  unfold span_Hull.f span_Clamp.f fixed_Clamp.f
  simp only [Option.bind_some, same_refl, if_true, beq_self_eq_true]

end Go.Proofs.Ytjecaenloilkcaa.Pure
