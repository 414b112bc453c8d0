/- Proved: at their bounds sums, differences, products and sizes stop; order does not matter, for every input. Conditions: none. -/
import Derived.Test.YtjecaenloilkcaaPFixedBoundsx2
namespace Go.Proofs.Ytjecaenloilkcaa.Pure
open Go.RowKit Go.Proofs.Ytjecaenloilkcaa.PFixedBounds Go.Proofs.YtjecaenloilkcaaW.PrintWords Go.Proofs.YtjecaenloilkcaaW.PrintLast Go.Proofs.YtjecaenloilkcaaW.PrintMore
set_option linter.unusedSimpArgs false
set_option linter.unusedVariables false
theorem i64_wf {a : Int} (h : (Lit.int .i64 a).wf = true) : -9223372036854775808 ≤ a ∧ a ≤ 9223372036854775807 := by
  simp [Lit.wf] at h
  simp [IntKind.min, IntKind.signed, IntKind.bits] at h
  omega
theorem downArith (a b : Int) (hb : 1 ≤ b) : (if Int.tmod a b < 0 then Int.tdiv a b - 1 else Int.tdiv a b) = a / b := by
  rw [Int.tmod_eq_emod, Int.tdiv_eq_ediv]
  have h1 := Int.emod_nonneg a (show b ≠ 0 by omega)
  have h2 := Int.emod_lt_of_pos a (show 0 < b by omega)
  have hs : b.sign = 1 := Int.sign_eq_one_of_pos (by omega)
  by_cases h : 0 ≤ a ∨ b ∣ a
  · simp only [h, if_true]; rw [if_neg (by omega)]; omega
  · simp only [h, if_false, hs]; rw [if_pos (by omega)]; omega
theorem upArith (a b : Int) (hb : 1 ≤ b) : (if Int.tmod a b > 0 then Int.tdiv a b + 1 else Int.tdiv a b) = -((-a) / b) := by
  rw [Int.tmod_eq_emod, Int.tdiv_eq_ediv]
  have h1 := Int.emod_nonneg a (show b ≠ 0 by omega)
  have h2 := Int.emod_lt_of_pos a (show 0 < b by omega)
  have hs : b.sign = 1 := Int.sign_eq_one_of_pos (by omega)
  have hd : b ∣ a ↔ a % b = 0 := Int.dvd_iff_emod_eq_zero
  have he := Int.mul_ediv_add_emod a b
  by_cases h0 : a % b = 0
  · have : (-a) / b = -(a / b) := by
      have := (Int.ediv_emod_unique (a := -a) (b := b) (r := 0) (q := -(a/b)) (by omega)).2 ⟨by rw [Int.mul_neg]; omega, by omega, by omega⟩
      exact this.1
    simp only [hd, h0]; simp; omega
  · have : (-a) / b = -(a / b) - 1 := by
      have := (Int.ediv_emod_unique (a := -a) (b := b) (r := b - a % b) (q := -(a/b) - 1) (by omega)).2 ⟨by rw [Int.mul_sub, Int.mul_neg]; omega, by omega, by omega⟩
      exact this.1
    rw [this]
    by_cases ha : 0 ≤ a
    · simp [ha]; rw [if_pos (by omega)]; omega
    · have hno : ¬ (0 ≤ a ∨ b ∣ a) := by rw [hd]; omega
      simp only [hno, if_false, hs]; rw [if_neg (by omega)]; omega
theorem ediv_range (a b : Int) (hb : 1 ≤ b) (h1 : -9223372036854775808 ≤ a) (h2 : a ≤ 9223372036854775807) : -9223372036854775808 ≤ a / b ∧ a / b ≤ 9223372036854775807 := by
  constructor
  · rw [Int.le_ediv_iff_mul_le (by omega)]
    have := Int.mul_le_mul_of_nonneg_left hb (show (0:Int) ≤ 9223372036854775808 by omega); omega
  · have : a / b < 9223372036854775808 := by
      rw [Int.ediv_lt_iff_lt_mul (by omega)]
      have := Int.mul_le_mul_of_nonneg_left hb (show (0:Int) ≤ 9223372036854775808 by omega); omega
    omega

def sat (x : Int) : Int := if 9223372036854775807 < x then 9223372036854775807 else if x < -9223372036854775808 then -9223372036854775808 else x
abbrev R64 (x : Int) : Prop := -9223372036854775808 ≤ x ∧ x ≤ 9223372036854775807
theorem sat_R (x : Int) : R64 (sat x) := by unfold sat; split; omega; split <;> omega
theorem sat_of {x : Int} (h : R64 x) : sat x = x := by unfold sat; split; omega; split <;> omega

theorem add_eq (k : Nat) (a b : Int) (ha : R64 a) (hb : R64 b) : fixed_Add.f (k + 1) a b = some (sat (a + b)) := by
  unfold fixed_Add.f sat wrap64
  simp only [fixed_Add.j0, decide_eq_true_eq]; unfold wrap64
  repeat' split
  all_goals first | rfl | (exfalso; omega) | (exfalso; simp_all; done) | (congr 1; omega)

theorem sub_eq (k : Nat) (a b : Int) (ha : R64 a) (hb : R64 b) : fixed_Sub.f (k + 1) a b = some (sat (a - b)) := by
  unfold fixed_Sub.f sat wrap64
  simp only [fixed_Sub.j0, decide_eq_true_eq]; unfold wrap64
  repeat' split
  all_goals first | rfl | (exfalso; omega) | (exfalso; simp_all; done) | (congr 1; omega)

theorem mul_wrap_ne (a b : Int) (hb : R64 b) (ha : R64 a) (hb0 : b ≠ 0) (hne : ¬ (a = -1 ∧ b = -9223372036854775808)) (hne' : ¬ (b = -1 ∧ a = -9223372036854775808)) :
    (wrap64 (Int.tdiv (wrap64 (a * b)) b) == a) = decide (R64 (a * b)) := by
  by_cases h : R64 (a * b)
  · have hw : wrap64 (a * b) = a * b := by unfold wrap64; omega
    rw [hw, Int.mul_tdiv_cancel _ hb0]
    have hw : wrap64 a = a := by unfold wrap64; omega
    rw [hw]; simp [h]
  · simp only [h, decide_false]
    rw [beq_eq_false_iff_ne]
    intro he
    -- the quotient times b is within |b| of the wrapped product, which differs from a * b by a multiple of 2^64
    generalize hn : wrap64 (a * b) = n at he
    have hnR : R64 n := by rw [← hn]; unfold wrap64; omega
    have hcong : ∃ t : Int, n = a * b + 18446744073709551616 * t := by
      refine ⟨-((a * b + 9223372036854775808) / 18446744073709551616), ?_⟩
      rw [← hn]; unfold wrap64; omega
    obtain ⟨t, ht⟩ := hcong
    have ht0 : t ≠ 0 := by rintro rfl; apply h; rw [show a * b = n by omega]; exact hnR
    -- |tdiv n b| ≤ |n| ≤ 2^63
    have hq := Int.mul_tdiv_add_tmod n b
    have hr := Int.tmod_lt_of_pos
    have habs : (Int.tmod n b).natAbs < b.natAbs := by
      rw [Int.natAbs_tmod]; exact Nat.mod_lt _ (by omega)
    generalize Int.tmod n b = r at hq habs
    generalize hqq : Int.tdiv n b = q at hq he
    have hqR : q.natAbs ≤ n.natAbs := by rw [← hqq, Int.natAbs_tdiv]; exact Nat.div_le_self _ _
    -- wrap64 q = a with q within ±2^63: q = a, or q = 2^63 and a = -2^63
    have hqa : q = a ∨ (q = 9223372036854775808 ∧ a = -9223372036854775808) := by unfold wrap64 at he; omega
    rcases hqa with rfl | ⟨h1, h2⟩
    · rw [Int.mul_comm] at hq; omega
    · -- then |n| = 2^63, so n = -2^63, and b = -1
      have hn' : n = -9223372036854775808 := by omega
      subst h1 h2
      have : b = -1 := by omega
      exact hne' ⟨this, rfl⟩
theorem mul_eq (k : Nat) (a b : Int) (ha : R64 a) (hb : R64 b) : fixed_Mul.f (k + 2) a b = some (sat (a * b)) := by
  unfold fixed_Mul.f
  by_cases ha0 : a = 0
  · subst ha0; simp [fixed_Mul.j0, sat]
  · rw [if_neg ha0]
    by_cases hb0 : b = 0
    · subst hb0; simp [fixed_Mul.j0, sat]
    · have hbb : (b == 0) = false := by simp [hb0]
      rw [hbb]
      have hsg : ∀ v : Bool, fixed_Mul.j1 (k + 1) a b (wrap64 (a * b)) v = if v then some (wrap64 (a * b)) else if decide (a < 0) = decide (b < 0) then some 9223372036854775807 else some (-9223372036854775808) := by
        intro v; simp [fixed_Mul.j1]
      have key : fixed_Mul.j1 (k + 1) a b (wrap64 (a * b)) (decide (R64 (a * b))) = some (sat (a * b)) := by
        rw [hsg]
        by_cases hR : R64 (a * b)
        · rw [sat_of hR]; simp [hR]; unfold wrap64; omega
        · have hs : decide (a < 0) = decide (b < 0) ↔ 0 < a * b := by
            by_cases h1 : a < 0 <;> by_cases h2 : b < 0
            · simp [h1, h2]; exact Int.mul_pos_of_neg_of_neg h1 h2
            · have := Int.mul_neg_of_neg_of_pos h1 (show 0 < b by omega); simp [h1, h2]; omega
            · have := Int.mul_neg_of_pos_of_neg (show 0 < a by omega) h2; simp [h1, h2]; omega
            · have := Int.mul_pos (show 0 < a by omega) (show 0 < b by omega); simp [h1, h2]; omega
          simp only [hR, decide_false, Bool.false_eq_true, if_false, hs]
          unfold sat
          by_cases hp : 0 < a * b
          · rw [if_pos hp, if_pos (by omega)]
          · rw [if_neg hp, if_neg (by omega), if_pos (by omega)]
      have special : (a = -1 ∧ b = -9223372036854775808) ∨ (b = -1 ∧ a = -9223372036854775808) → fixed_Mul.j1 (k + 1) a b (wrap64 (a * b)) false = some (sat (a * b)) := by
        rintro (⟨rfl, rfl⟩ | ⟨rfl, rfl⟩) <;> simp [fixed_Mul.j1, sat]
      simp only [fixed_Mul.j0, Bool.false_eq_true, if_false, hb0]
      by_cases hA : a = -1 ∧ b = -9223372036854775808
      · rw [if_pos hA.1, if_pos hA.2]; exact special (Or.inl hA)
      · by_cases hB : b = -1 ∧ a = -9223372036854775808
        · rw [if_neg (by omega), if_pos hB.1, if_pos hB.2]; exact special (Or.inr hB)
        · rw [mul_wrap_ne a b hb ha hb0 hA hB]
          repeat' split
          all_goals first | exact key | (exfalso; omega)

theorem tdiv_range (a b : Int) (ha : R64 a) (hb : 1 ≤ b) : R64 (Int.tdiv a b) := by
  have hdm := Int.tdiv_eq_ediv (a := a) (b := b)
  have hs : b.sign = 1 := Int.sign_eq_one_of_pos (by omega)
  have hr := ediv_range a b (by omega) ha.1 ha.2
  rw [hs] at hdm
  by_cases ha0 : 0 ≤ a
  · simp only [ha0, true_or, if_true] at hdm; omega
  · have hneg : a / b < 0 := by rw [Int.ediv_lt_iff_lt_mul (by omega)]; omega
    split at hdm <;> omega
theorem down_eq (a b : Int) (ha : R64 a) (hb : R64 b) : fixed_Down.f a b = some (if b < 1 then 0 else a / b) := by
  unfold fixed_Down.f
  by_cases h : b < 1
  · simp [h]
  · have hd := downArith a b (by omega)
    have hr := ediv_range a b (by omega) ha.1 ha.2
    have hw : wrap64 (Int.tdiv a b) = Int.tdiv a b := by have := tdiv_range a b ha (by omega); unfold wrap64; omega
    rw [if_neg h, if_neg h, if_neg (by omega), hw, ← hd]
    split
    · congr 1; unfold wrap64; rename_i hlt; rw [if_pos hlt] at hd; omega
    · rfl
theorem up_eq (a b : Int) (ha : R64 a) (hb : R64 b) : fixed_Up.f a b = some (if b < 1 then 0 else -((-a) / b)) := by
  unfold fixed_Up.f
  by_cases h : b < 1
  · simp [h]
  · have hd := upArith a b (by omega)
    have hr : R64 (-((-a) / b)) := by
      have hlo : -9223372036854775807 ≤ (-a) / b := by
        rw [Int.le_ediv_iff_mul_le (by omega)]
        have := Int.mul_le_mul_of_nonneg_left (show (1:Int) ≤ b by omega) (show (0:Int) ≤ 9223372036854775807 by omega); omega
      have hhi : (-a) / b ≤ 9223372036854775808 := by
        have : (-a) / b < 9223372036854775809 := by
          rw [Int.ediv_lt_iff_lt_mul (by omega)]
          have := Int.mul_le_mul_of_nonneg_left (show (1:Int) ≤ b by omega) (show (0:Int) ≤ 9223372036854775808 by omega); omega
        omega
      omega
    have hw : wrap64 (Int.tdiv a b) = Int.tdiv a b := by have := tdiv_range a b ha (by omega); unfold wrap64; omega
    rw [if_neg h, if_neg h, if_neg (by omega), hw, ← hd]
    split
    · congr 1; unfold wrap64; rename_i hlt; rw [if_pos hlt] at hd; omega
    · rfl

theorem abs_eq (k : Nat) (a : Int) (ha : R64 a) : fixed_Abs.f (k + 1) a = some (sat (if a < 0 then -a else a)) := by
  unfold fixed_Abs.f
  split
  · rw [sub_eq _ _ _ (by omega) ha]; simp
  · rw [sat_of ha]

theorem first_eq (k : Nat) : dynamolaw1_first.f (k + 1) = some true := by
  unfold dynamolaw1_first.f
  rw [down_eq _ _ (by omega) (by omega), up_eq _ _ (by omega) (by omega), add_eq _ _ _ (by omega) (by omega)]
  simp [sat]

theorem bounds_j1 (k : Nat) (a : Int) (ha : R64 a) : dynamolaw1_FixedBounds.j1 (k + 3) a true false = some true := by
  simp only [dynamolaw1_FixedBounds.j1, if_true]
  rw [abs_eq _ _ ha, abs_eq _ _ (by omega), mul_eq _ _ _ (by omega) (by omega), mul_eq _ _ _ (by omega) (by omega), mul_eq _ _ _ (by omega) (by omega)]
  simp only [Option.bind_some]
  have hs := sat_R (if a < 0 then -a else a)
  have h0 : 0 ≤ sat (if a < 0 then -a else a) := by unfold sat; repeat' split
                                                    all_goals omega
  rw [add_eq _ _ _ (by omega) hs]
  simp only [Option.bind_some]
  rw [sub_eq _ _ _ (by omega) hs]
  generalize sat (if a < 0 then -a else a) = s at *
  have h1 : sat (9223372036854775807 + s) = 9223372036854775807 := by unfold sat; repeat' split
                                                                      all_goals omega
  have h2 : sat (-9223372036854775808 - s) = -9223372036854775808 := by unfold sat; repeat' split
                                                                        all_goals omega
  rw [h1, h2]
  simp [sat, h0]
theorem bounds_j0 (k : Nat) (a b s : Int) (ha : R64 a) (hb : R64 b) (hs : s = sat (a + b)) : dynamolaw1_FixedBounds.j0 (k + 4) a b true s false = some true := by
  have hj := bounds_j1 k a ha
  have hs2 : (0 ≤ a → 0 ≤ b → a ≤ s ∧ b ≤ s) ∧ (a ≤ 0 → b ≤ 0 → s ≤ a ∧ s ≤ b) := by
    subst hs; unfold sat; constructor <;> intro _ _ <;> repeat' split
    all_goals omega
  simp only [dynamolaw1_FixedBounds.j0]
  repeat' split
  all_goals first | exact hj | (exfalso; simp_all; done) | (exfalso; omega) | skip
  all_goals (have hd : decide (s > b) = false := by simp; omega
             rw [hd]; exact hj)
theorem FixedBounds : dynamolaw1_FixedBounds.Pure := by
  intro a b h0 h1
  have h0 := i64_wf h0
  have h1 := i64_wf h1
  refine ⟨4, ?_⟩
  unfold dynamolaw1_FixedBounds.f
  rw [first_eq]
  simp only [Option.bind_some, if_true]
  rw [add_eq _ _ _ h0 h1, add_eq _ _ _ h1 h0, mul_eq _ _ _ h0 h1, mul_eq _ _ _ h1 h0, sub_eq _ _ _ h0 h0, mul_eq _ _ _ h0 (by omega), add_eq _ _ _ h0 (by omega)]
  simp only [Option.bind_some]
  rw [if_pos (by rw [Int.add_comm]), if_pos (by rw [Int.mul_comm]), if_pos (by rw [Int.sub_self]; rfl), if_pos (by rw [Int.mul_one]; exact sat_of h0)]
  have : (sat (a + 0) != a) = false := by rw [Int.add_zero, sat_of h0]; simp
  rw [this]
  exact bounds_j0 0 a b _ h0 h1 rfl

end Go.Proofs.Ytjecaenloilkcaa.Pure
