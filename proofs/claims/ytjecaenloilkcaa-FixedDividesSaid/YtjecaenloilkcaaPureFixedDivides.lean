/- Proved: Down times b is not above a and one more would be, Up the other way, apart by one just where b does not divide a, for every input. Conditions: none. -/
import Derived.Test.YtjecaenloilkcaaPFixedDividesx1
namespace Go.Proofs.Ytjecaenloilkcaa.Pure
open Go.RowKit Go.Proofs.Ytjecaenloilkcaa.PFixedDivides Go.Proofs.YtjecaenloilkcaaW.PrintWords Go.Proofs.YtjecaenloilkcaaW.PrintLast Go.Proofs.YtjecaenloilkcaaW.PrintMore
set_option linter.unusedSimpArgs false
set_option linter.unusedVariables false
theorem i64_wf {a : Int} (h : (Lit.int .i64 a).wf = true) : -9223372036854775808 ≤ a ∧ a ≤ 9223372036854775807 := by
  simp [Lit.wf] at h
  simp [IntKind.min, IntKind.signed, IntKind.bits] at h
  omega
theorem downArith (a b : Int) (hb : 1 ≤ b) : (if Int.tmod a b < 0 then Int.tdiv a b - 1 else Int.tdiv a b) = a / b := by
  rw [Int.tmod_eq_emod, Int.tdiv_eq_ediv]
  have h1 := Int.emod_nonneg a (show b ≠ 0 by omega)
  have h2 := Int.emod_lt_of_pos a (show 0 < b by omega)
  have hs : b.sign = 1 := Int.sign_eq_one_of_pos (by omega)
  by_cases h : 0 ≤ a ∨ b ∣ a
  · simp only [h, if_true]; rw [if_neg (by omega)]; omega
  · simp only [h, if_false, hs]; rw [if_pos (by omega)]; omega
theorem upArith (a b : Int) (hb : 1 ≤ b) : (if Int.tmod a b > 0 then Int.tdiv a b + 1 else Int.tdiv a b) = -((-a) / b) := by
  rw [Int.tmod_eq_emod, Int.tdiv_eq_ediv]
  have h1 := Int.emod_nonneg a (show b ≠ 0 by omega)
  have h2 := Int.emod_lt_of_pos a (show 0 < b by omega)
  have hs : b.sign = 1 := Int.sign_eq_one_of_pos (by omega)
  have hd : b ∣ a ↔ a % b = 0 := Int.dvd_iff_emod_eq_zero
  have he := Int.mul_ediv_add_emod a b
  by_cases h0 : a % b = 0
  · have : (-a) / b = -(a / b) := by
      have := (Int.ediv_emod_unique (a := -a) (b := b) (r := 0) (q := -(a/b)) (by omega)).2 ⟨by rw [Int.mul_neg]; omega, by omega, by omega⟩
      exact this.1
    simp only [hd, h0]; simp; omega
  · have : (-a) / b = -(a / b) - 1 := by
      have := (Int.ediv_emod_unique (a := -a) (b := b) (r := b - a % b) (q := -(a/b) - 1) (by omega)).2 ⟨by rw [Int.mul_sub, Int.mul_neg]; omega, by omega, by omega⟩
      exact this.1
    rw [this]
    by_cases ha : 0 ≤ a
    · simp [ha]; rw [if_pos (by omega)]; omega
    · have hno : ¬ (0 ≤ a ∨ b ∣ a) := by rw [hd]; omega
      simp only [hno, if_false, hs]; rw [if_neg (by omega)]; omega
theorem ediv_range (a b : Int) (hb : 1 ≤ b) (h1 : -9223372036854775808 ≤ a) (h2 : a ≤ 9223372036854775807) : -9223372036854775808 ≤ a / b ∧ a / b ≤ 9223372036854775807 := by
  constructor
  · rw [Int.le_ediv_iff_mul_le (by omega)]
    have := Int.mul_le_mul_of_nonneg_left hb (show (0:Int) ≤ 9223372036854775808 by omega); omega
  · have : a / b < 9223372036854775808 := by
      rw [Int.ediv_lt_iff_lt_mul (by omega)]
      have := Int.mul_le_mul_of_nonneg_left hb (show (0:Int) ≤ 9223372036854775808 by omega); omega
    omega

def sat (x : Int) : Int := if 9223372036854775807 < x then 9223372036854775807 else if x < -9223372036854775808 then -9223372036854775808 else x
abbrev R64 (x : Int) : Prop := -9223372036854775808 ≤ x ∧ x ≤ 9223372036854775807
theorem sat_R (x : Int) : R64 (sat x) := by unfold sat; split; omega; split <;> omega
theorem sat_of {x : Int} (h : R64 x) : sat x = x := by unfold sat; split; omega; split <;> omega

theorem add_eq (k : Nat) (a b : Int) (ha : R64 a) (hb : R64 b) : fixed_Add.f (k + 1) a b = some (sat (a + b)) := by
  unfold fixed_Add.f sat wrap64
  simp only [fixed_Add.j0, decide_eq_true_eq]; unfold wrap64
  repeat' split
  all_goals first | rfl | (exfalso; omega) | (exfalso; simp_all; done) | (congr 1; omega)

theorem tdiv_range (a b : Int) (ha : R64 a) (hb : 1 ≤ b) : R64 (Int.tdiv a b) := by
  have hdm := Int.tdiv_eq_ediv (a := a) (b := b)
  have hs : b.sign = 1 := Int.sign_eq_one_of_pos (by omega)
  have hr := ediv_range a b (by omega) ha.1 ha.2
  rw [hs] at hdm
  by_cases ha0 : 0 ≤ a
  · simp only [ha0, true_or, if_true] at hdm; omega
  · have hneg : a / b < 0 := by rw [Int.ediv_lt_iff_lt_mul (by omega)]; omega
    split at hdm <;> omega
theorem down_eq (a b : Int) (ha : R64 a) (hb : R64 b) : fixed_Down.f a b = some (if b < 1 then 0 else a / b) := by
  unfold fixed_Down.f
  by_cases h : b < 1
  · simp [h]
  · have hd := downArith a b (by omega)
    have hr := ediv_range a b (by omega) ha.1 ha.2
    have hw : wrap64 (Int.tdiv a b) = Int.tdiv a b := by have := tdiv_range a b ha (by omega); unfold wrap64; omega
    rw [if_neg h, if_neg h, if_neg (by omega), hw, ← hd]
    split
    · congr 1; unfold wrap64; rename_i hlt; rw [if_pos hlt] at hd; omega
    · rfl
theorem up_eq (a b : Int) (ha : R64 a) (hb : R64 b) : fixed_Up.f a b = some (if b < 1 then 0 else -((-a) / b)) := by
  unfold fixed_Up.f
  by_cases h : b < 1
  · simp [h]
  · have hd := upArith a b (by omega)
    have hr : R64 (-((-a) / b)) := by
      have hlo : -9223372036854775807 ≤ (-a) / b := by
        rw [Int.le_ediv_iff_mul_le (by omega)]
        have := Int.mul_le_mul_of_nonneg_left (show (1:Int) ≤ b by omega) (show (0:Int) ≤ 9223372036854775807 by omega); omega
      have hhi : (-a) / b ≤ 9223372036854775808 := by
        have : (-a) / b < 9223372036854775809 := by
          rw [Int.ediv_lt_iff_lt_mul (by omega)]
          have := Int.mul_le_mul_of_nonneg_left (show (1:Int) ≤ b by omega) (show (0:Int) ≤ 9223372036854775808 by omega); omega
        omega
      omega
    have hw : wrap64 (Int.tdiv a b) = Int.tdiv a b := by have := tdiv_range a b ha (by omega); unfold wrap64; omega
    rw [if_neg h, if_neg h, if_neg (by omega), hw, ← hd]
    split
    · congr 1; unfold wrap64; rename_i hlt; rw [if_pos hlt] at hd; omega
    · rfl

theorem first_eq (k : Nat) : dynamolaw1_first.f (k + 1) = some true := by
  unfold dynamolaw1_first.f
  rw [down_eq _ _ (by omega) (by omega), up_eq _ _ (by omega) (by omega), add_eq _ _ _ (by omega) (by omega)]
  simp [sat]

theorem FixedDivides : dynamolaw1_FixedDivides.Pure := by
  intro a0 a1 h0 h1
  have h0 := i64_wf h0
  have h1 := i64_wf h1
  refine ⟨2, ?_⟩
  unfold dynamolaw1_FixedDivides.f
  rw [first_eq]
  simp only [Option.bind_some, if_true]
  have hA : R64 (a0 / 4) := by omega
  by_cases hb : a1 < 1
  · rw [if_pos hb]
    simp only [dynamolaw1_FixedDivides.j0, if_true]
    rw [if_neg (by omega), down_eq _ _ hA h1, up_eq _ _ hA h1]
    simp [hb]
  · rw [if_neg hb]
    simp only [dynamolaw1_FixedDivides.j0, if_true, decide_eq_true_eq]
    by_cases hc : a1 > 2305843009213693952
    · rw [if_pos hc, if_pos (by omega)]
    · rw [if_neg hc, down_eq _ _ hA h1, up_eq _ _ hA h1]
      simp only [Option.bind_some]
      rw [if_neg (by omega), if_neg hb, if_neg hb]
      have hA' : -2305843009213693952 ≤ a0 / 4 ∧ a0 / 4 ≤ 2305843009213693951 := by omega
      generalize a0 / 4 = a at hA hA'
      have e1 := Int.mul_ediv_add_emod a a1
      have e2 := Int.emod_nonneg a (show a1 ≠ 0 by omega)
      have e3 := Int.emod_lt_of_pos a (show 0 < a1 by omega)
      have f1 := Int.mul_ediv_add_emod (-a) a1
      have f2 := Int.emod_nonneg (-a) (show a1 ≠ 0 by omega)
      have f3 := Int.emod_lt_of_pos (-a) (show 0 < a1 by omega)
      have hdvd : a1 ∣ a ↔ a % a1 = 0 := Int.dvd_iff_emod_eq_zero
      have hdvd' : Int.tmod a a1 = 0 ↔ a % a1 = 0 := by
        rw [← hdvd]; exact Int.dvd_iff_tmod_eq_zero.symm
      have hq : (-a) % a1 = 0 ↔ a % a1 = 0 := by
        rw [← Int.dvd_iff_emod_eq_zero, ← Int.dvd_iff_emod_eq_zero]; exact Int.dvd_neg
      have hud : -((-a) / a1) = if a % a1 = 0 then a / a1 else a / a1 + 1 := by
        by_cases hz : a % a1 = 0
        · rw [if_pos hz]
          have hz' := hq.2 hz
          have : a1 * (a / a1) = a1 * (-((-a)/a1)) := by rw [Int.mul_neg]; omega
          exact (Int.eq_of_mul_eq_mul_left (by omega) this).symm
        · rw [if_neg hz]
          have hz' : ¬ (-a) % a1 = 0 := fun h => hz (hq.1 h)
          have hs : a1 * (a / a1) < a1 * (-((-a)/a1)) := by rw [Int.mul_neg]; omega
          have hl := Int.lt_of_mul_lt_mul_left hs (by omega)
          have hs2 : a1 * (-((-a)/a1)) < a1 * (a / a1 + 2) := by rw [Int.mul_neg, Int.mul_add]; omega
          have hl2 := Int.lt_of_mul_lt_mul_left hs2 (by omega)
          omega
      rw [hud]
      have c1 : a1 * (a / a1) = (a / a1) * a1 := Int.mul_comm _ _
      have c2 : (if a % a1 = 0 then a / a1 else a / a1 + 1) * a1 = if a % a1 = 0 then a1 * (a / a1) else a1 * (a / a1) + a1 := by
        split
        · rw [Int.mul_comm]
        · rw [Int.add_mul, Int.mul_comm]; omega
      rw [c2, ← c1]
      have hr := ediv_range a a1 (by omega) (by omega) (by omega)
      have hqr : -2305843009213693952 ≤ a / a1 ∧ a / a1 ≤ 2305843009213693951 := by
        constructor
        · rw [Int.le_ediv_iff_mul_le (by omega)]
          have := Int.mul_le_mul_of_nonneg_left (show (1:Int) ≤ a1 by omega) (show (0:Int) ≤ 2305843009213693952 by omega); omega
        · have : a / a1 < 2305843009213693952 := by
            rw [Int.ediv_lt_iff_lt_mul (by omega)]
            have := Int.mul_le_mul_of_nonneg_left (show (1:Int) ≤ a1 by omega) (show (0:Int) ≤ 2305843009213693952 by omega); omega
          omega
      generalize a1 * (a / a1) = p at *
      have w1 : wrap64 p = p := by unfold wrap64; omega
      have w2 : wrap64 (a - p) = a - p := by unfold wrap64; omega
      by_cases hz : a % a1 = 0
      · have ht : Int.tmod a a1 = 0 := hdvd'.2 hz
        simp only [hz, if_true, ht, w1, w2]
        rw [if_pos (by omega), if_pos (by omega), if_pos (by omega)]
        have w3 : wrap64 (p - a) = p - a := by unfold wrap64; omega
        rw [w3, if_pos (by omega)]
        simp
      · have ht : ¬ Int.tmod a a1 = 0 := fun h => hz (hdvd'.1 h)
        simp only [hz, if_false, ht, w1, w2]
        rw [if_pos (by omega), if_pos (by omega)]
        have w3 : wrap64 (p + a1) = p + a1 := by unfold wrap64; omega
        have w4 : wrap64 (p + a1 - a) = p + a1 - a := by unfold wrap64; omega
        rw [w3, w4, if_pos (by omega), if_pos (by omega)]
        have w5 : wrap64 (a / a1 + 1) = a / a1 + 1 := by unfold wrap64; omega
        rw [w5]
        have : (a / a1 + 1 == a / a1) = false := by simp; omega
        rw [this]
        have : (Int.tmod a a1 == 0) = false := by simp [ht]
        rw [this]; simp

end Go.Proofs.Ytjecaenloilkcaa.Pure
